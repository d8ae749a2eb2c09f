/- text.Parse by hand: the plan that a text's words tell, or the error, and where. -/
import Derived.Test.YtajgpilcbaoneaaDoorT3
import Derived.Test.YtajgpilcbaoneaaDoorPg1
import Derived.Test.YtajgpilcbaoneaaDoorPf10
import Derived.BigRegion
import Derived.Laws.CopyOwn
namespace Go.Proofs.YtajgpilcbaoneaaDoor.P
open Go.RowKit Go.Proofs.YtajgpilcbaoneaaDoorW.PrintWords Go.Proofs.YtajgpilcbaoneaaDoorW.PrintLast Go.Proofs.YtajgpilcbaoneaaDoorW.PrintMore
set_option linter.unusedVariables false
set_option linter.unusedSimpArgs false
section
variable {P : Program} {ops : Array Oper} {rest : List Oper} {o : Oper} {a : Act} {Q : Exit → Act → World → Prop}
/-- A whole row stored into a block, the world behind it under a name of its own. -/
theorem row_event {W : World} (hgd : o.guard = none) (ty : TypeId) (x y : Operand) (ho : o.op = .store ty x y)
    (g : Nat) (cells : Array Value) (hx : a.eval x = .pointer (some ⟨g, 0, none⟩)) (hy : a.eval y = .agg cells)
    (t : TypeId) (old : Array Value) (hg : W.heap[g]? = some (.cells old t (0, 0))) (hi : (P.info? ty).map (·.size) = some cells.size)
    (hold : old.size = cells.size) (h1 : cells.all (·.oneCell') = true)
    (h : ∀ w1, w1.heap[g]? = some (.cells cells t (0, 0)) → (∀ k, k ≠ g → w1.heap[k]? = W.heap[k]?) → (∀ B w0, B ≤ g → Below B w0 W → Below B w0 w1) → wpList P ops Q rest (a.put o.dst undef) w1) : wpList P ops Q (o :: rest) a W :=
  wpList_store_row hgd ty x y ho g cells hx hy t old hg hi hold h1 (h _ (setRow_heap W g old cells t (0, 0) hg) (fun k hk => setRow_other W g k cells hk) (fun B w0 hB hb => below_setRow hb hB cells))
end
/-- A word's place among others, from i on; -1: it is not there. -/
def idxFrom : List ByteArray → ByteArray → Int → Int
  | [], _, _ => -1
  | y :: l, x, i => if x.toList = y.toList then i else idxFrom l x (i + 1)
def idx (l : List ByteArray) (x : ByteArray) : Int := idxFrom l x 0
abbrev Res := Int × Int × Int × Int × Int × Bool × Int × Int
def resV (r : Res) : Value := .tuple #[.agg #[.int .i64 r.1, .int .i64 r.2.1, .int .i64 r.2.2.1, .int .i64 r.2.2.2.1, .int .i64 r.2.2.2.2.1, .bool r.2.2.2.2.2.1], .int .i64 r.2.2.2.2.2.2.1, .int .i64 r.2.2.2.2.2.2.2]
def noP (at_ e : Int) : Res := (0, 0, 0, 0, 0, false, at_, e)
/-- What the check of a plan's fields tells. -/
def chk (n : List Int) : Int := (plan_Check.f (n.getD 0 0) (wrap64 (n.getD 1 0 + 2)) (n.getD 2 0) (n.getD 3 0) (n.getD 4 0) (n.getD 5 0 == 1)).getD 0
def fin (n : List Int) : Res := if chk n = 0 then (n.getD 0 0, wrap64 (n.getD 1 0 + 2), n.getD 2 0, n.getD 3 0, n.getD 4 0, n.getD 5 0 == 1, 0, 0) else noP 0 (chk n)
/-- The words gone through from the k-th place on, with the places' numbers so far. -/
def pl (sz : Int) : List ByteArray → List Int → Nat → List Int → Res
  | [], _, k, n => if k < 6 then noP sz 7 else fin n
  | x :: ws, ats, k, n => if k = 6 then noP (ats.headD 0) 7 else if idx (row k) x < 0 then noP (ats.headD 0) 7 else pl sz ws ats.tail (k + 1) (n.set k (idx (row k) x))
def nA (n : List Int) : Array Value := (n.map (Value.int .i64)).toArray
theorem nA_set (n : List Int) (k : Nat) (x : Int) : (nA n).setIfInBounds k (.int .i64 x) = nA (n.set k x) := by simp [nA, List.map_set]
theorem nA_at (n : List Int) (k : Nat) (hk : k < n.length) : (nA n)[k]? = some (.int .i64 (n.getD k 0)) := by simp [nA, hk]
theorem add_blk (a : Addr) (k : Nat) : (a.add k).block = a.block := by unfold Addr.add; split <;> rfl
/-- The zero plan, laid over a block. -/
theorem zero_far {w : World} {g : Nat} {p : Addr} (h : p.block ≠ g) : (((((((w).setCell ⟨g, 0, none⟩ (.int .i64 0)).setCell ⟨g, 1, none⟩ (.int .i64 0)).setCell ⟨g, 2, none⟩ (.int .i64 0)).setCell ⟨g, 3, none⟩ (.int .i64 0)).setCell ⟨g, 4, none⟩ (.int .i64 0)).setCell ⟨g, 5, none⟩ (.bool false)).cell? p = w.cell? p :=
  (cell_far (p := ⟨g, 5, none⟩) h _).trans ((cell_far (p := ⟨g, 4, none⟩) h _).trans ((cell_far (p := ⟨g, 3, none⟩) h _).trans ((cell_far (p := ⟨g, 2, none⟩) h _).trans ((cell_far (p := ⟨g, 1, none⟩) h _).trans (cell_far (p := ⟨g, 0, none⟩) h _)))))
theorem zero_blk {w : World} {g : Nat} (h : w.heap[g]? = some (.cells #[.int .i64 0, .int .i64 0, .int .i64 0, .int .i64 0, .int .i64 0, .bool false] 23 (0, 0))) : (((((((w).setCell ⟨g, 0, none⟩ (.int .i64 0)).setCell ⟨g, 1, none⟩ (.int .i64 0)).setCell ⟨g, 2, none⟩ (.int .i64 0)).setCell ⟨g, 3, none⟩ (.int .i64 0)).setCell ⟨g, 4, none⟩ (.int .i64 0)).setCell ⟨g, 5, none⟩ (.bool false)).heap[g]? = some (.cells #[.int .i64 0, .int .i64 0, .int .i64 0, .int .i64 0, .int .i64 0, .bool false] 23 (0, 0)) :=
  blk_put (blk_put (blk_put (blk_put (blk_put (blk_put h 0 _ rfl) 1 _ rfl) 2 _ rfl) 3 _ rfl) 4 _ rfl) 5 _ rfl
theorem zero_below {w0 w : World} {g B : Nat} (h : Below B w0 w) (hg : B ≤ g) : Below B w0 (((((((w).setCell ⟨g, 0, none⟩ (.int .i64 0)).setCell ⟨g, 1, none⟩ (.int .i64 0)).setCell ⟨g, 2, none⟩ (.int .i64 0)).setCell ⟨g, 3, none⟩ (.int .i64 0)).setCell ⟨g, 4, none⟩ (.int .i64 0)).setCell ⟨g, 5, none⟩ (.bool false)) :=
  (((((h.setCell (p := ⟨g, 0, none⟩) hg _).setCell (p := ⟨g, 1, none⟩) hg _).setCell (p := ⟨g, 2, none⟩) hg _).setCell (p := ⟨g, 3, none⟩) hg _).setCell (p := ⟨g, 4, none⟩) hg _).setCell (p := ⟨g, 5, none⟩) hg _
theorem size47 : (Tryd.prog.info? 47).map (·.size) = some 6 := by kernel_rfl
theorem one23 (a b c d e : Int) (f : Bool) : (#[.int .i64 a, .int .i64 b, .int .i64 c, .int .i64 d, .int .i64 e, .bool f] : Array Value).all (·.oneCell') = true := by simp [Value.oneCell']
set_option maxRecDepth 100000 in
set_option maxHeartbeats 4000000 in
theorem Parse_any (K : Nat) (s : ByteArray) (ws : List ByteArray) (ats : List Int) (A : Nat → Addr) (c : Nat → Nat) (w : World) (hW : text_Words.f K s = some (ws, ats)) (hlen : ats.length = ws.length) (hp : Places A c w)
    (hI : ∀ k x, k < 6 → slices_Index_string_string.f 7 (row k) x = some (idx (row k) x)) (hC : ∀ n, plan_Check.f (n.getD 0 0) (wrap64 (n.getD 1 0 + 2)) (n.getD 2 0) (n.getD 3 0) (n.getD 4 0) (n.getD 5 0 == 1) = some (chk n)) :
    Calls Tryd.prog 6 #[.string s] w fun e w' => e = .returned (resV (pl s.size ws ats 0 [0, 0, 0, 0, 0, 0])) ∧ Below w.heap.size w w' := by
  have HW := Lib.hid hW
  have HT := Lib.hid hp
  have HL := Lib.hid hlen
  have HI := Lib.hid hI
  have HK := Lib.hid hC
  clear hW hp hlen hI hC
  generalize hZ : pl s.size ws ats 0 [0, 0, 0, 0, 0, 0] = Z at *
  have HZ := Lib.hid hZ
  clear hZ
  go_enter Tryd.func6, Tryd.ntmps6
  go_wp2_with (first
    | ((with_reducible refine gate_dst (N := 2) rfl ?_); refine box_event ?hg (N := 2) ?hd (cs := #[.int .i64 0, .int .i64 0, .int .i64 0, .int .i64 0, .int .i64 0, .bool false]) (t := 23) ?hr ?_; (case hd => rfl); (case hg => rfl); (case hr => first | (go_simp; done) | (go_simp; rfl)); intro g2 hg W0 hbox hbl; have B2 := Lib.hid hbox; have HB0 := Lib.hid hbl; have L2 := Lib.hid (show w.heap.size ≤ g2 from by rw [hg]; exact Nat.le_refl _); clear hbox hbl hg)
    | (go_at_call 10; (with_reducible refine (text_Words.calls K s ws ats _ HW.out).mono ?_); rintro e W1 ⟨v0, v1, rfl, h0, h1, hb⟩; obtain ⟨A0, c0, rfl, hc0, hC0⟩ := Kd.R_reads h0; obtain ⟨A1, c1, rfl, hc1, hC1⟩ := Kd.R_reads h1; have C0 := Lib.hid hC0; have C1 := Lib.hid hC1; have B21 := Lib.hid (blk_below B2.out hb); have HNE := Lib.hid (Kd.R_ne h1 B21.out (by decide)); have HB1 := Lib.hid (below_step HB0.out hb); have T1 := Lib.hid (HT.out.below (below_step HB0.out hb)); clear hb h0 h1 hC0 hC1 hc0 hc1)
    | ((with_reducible refine gate_dst (N := 7) rfl ?_); refine box_event ?hg (N := 7) ?hd (cs := nA [0, 0, 0, 0, 0, 0]) (t := 47) ?hr ?_; (case hd => rfl); (case hg => rfl); (case hr => first | (go_simp; done) | (go_simp; rfl)); intro g7 hg W2 hbox hbl; have B7 := Lib.hid hbox; have HB2 := Lib.hid hbl; have L7 := Lib.hid (show W1.heap.size ≤ g7 from by rw [hg]; exact Nat.le_refl _); clear hbox hbl hg))
  go_loopw [19] (fun s19 wr => ∃ (k : Nat) (n : List Int), k ≤ ws.length ∧ k ≤ 6 ∧ s19 = .int .i64 k ∧ n.length = 6 ∧ Z = pl s.size (ws.drop k) (ats.drop k) k n ∧ wr.heap[g7]? = some (.cells (nA n) 47 (0, 0)) ∧ Below W1.heap.size W1 wr) (fun i _ => ws.length - (intOf i).toNat)
  case atStart => exact ⟨0, _, by omega, by omega, rfl, by simp, HZ.out.symm, B7.out, HB2.out⟩
  case round =>
    obtain ⟨k, n, hk, hk6, rfl, hn, hz, hb7, hb⟩ := hrel
    have HN := Lib.hid hn
    have HZ1 := Lib.hid hz
    have HBR := Lib.hid hb
    have B7r := Lib.hid hb7
    have B2r := Lib.hid (blk_below B21.out hb)
    have HW1 := Lib.hid (below_step HB1.out hb)
    have TR := T1.out.below hb
    clear hn hz hb7 hb B2 B7 HB2 HB0
    by_cases hlt : k < ws.length
    · obtain ⟨ad0, rfl, hx⟩ := Kd.at_string (Kd.C_below C0.out HBR.out) (k : Int) (by omega) (by omega)
      obtain ⟨ad1, rfl, hy⟩ := Kd.at_int (Kd.C_below C1.out HBR.out) (k : Int) (by omega) (by have := HL.out; omega)
      have hd0 : ws.drop k = rdOf ByteArray.empty ws k :: ws.drop (k + 1) := by
        rw [List.drop_eq_getElem_cons hlt]
        unfold rdOf
        rw [Int.toNat_natCast, List.getD_eq_getElem?_getD, List.getElem?_eq_getElem hlt]
        rfl
      have hd1 : ats.drop k = rd ats k :: ats.drop (k + 1) := by
        have hlt' : k < ats.length := by have := HL.out; omega
        rw [List.drop_eq_getElem_cons hlt']
        unfold rd
        rw [Int.toNat_natCast, List.getD_eq_getElem?_getD, List.getElem?_eq_getElem hlt']
        rfl
      have HZ2 := Lib.hid (show Z = pl s.size (rdOf ByteArray.empty ws k :: ws.drop (k + 1)) (rd ats k :: ats.drop (k + 1)) k n by rw [← hd0, ← hd1]; exact HZ1.out)
      have i1 : decide ((k : Int) < (ats.length : Int)) = true := decide_eq_true (by have := HL.out; omega)
      have hln : (ats.length : Int) ≤ 9223372036854775807 := by have := C1.out.2.1; unfold maxLen at this; omega
      have hlt' : k < ats.length := by have := HL.out; omega
      have ne1 : ad1.block ≠ g2 := Kd.own_blk HNE.out
      have ne2 : g2 ≠ ad1.block := Ne.symm ne1
      clear hd0 hd1
      rw [Int.toNat_natCast] at hx hy
      generalize rdOf ByteArray.empty ws k = x at *
      generalize rd ats k = y at *
      by_cases h6 : k = 6
      · have HE := Lib.hid (show Z = noP y 7 by rw [HZ2.out, pl, if_pos h6]; rfl)
        have e6 : ((k : Int) == 6) = true := by rw [h6]; rfl
        clear h6
        have hy6 := (zero_far (w := wr) (g := g2) (p := ad1.add k) (by rw [add_blk]; exact ne1)).trans hy
        have q0 : wr.cell? ⟨g2, 0, none⟩ = some (.int .i64 0) := (blk_cell B2r.out 0).trans rfl
        have z0 := blk_frozen B2r.out 0
        have q1 : wr.cell? ⟨g2, 1, none⟩ = some (.int .i64 0) := (blk_cell B2r.out 1).trans rfl
        have z1 := blk_frozen B2r.out 1
        have q2 : wr.cell? ⟨g2, 2, none⟩ = some (.int .i64 0) := (blk_cell B2r.out 2).trans rfl
        have z2 := blk_frozen B2r.out 2
        have q3 : wr.cell? ⟨g2, 3, none⟩ = some (.int .i64 0) := (blk_cell B2r.out 3).trans rfl
        have z3 := blk_frozen B2r.out 3
        have q4 : wr.cell? ⟨g2, 4, none⟩ = some (.int .i64 0) := (blk_cell B2r.out 4).trans rfl
        have z4 := blk_frozen B2r.out 4
        have q5 : wr.cell? ⟨g2, 5, none⟩ = some (.bool false) := (blk_cell B2r.out 5).trans rfl
        have z5 := blk_frozen B2r.out 5
        go_wp2
        go_region
        all_goals
          go_wp2
          refine bodyPost_ret (results_ctt rfl _ _ g2 23 #[.int .i64 0, .int .i64 0, .int .i64 0, .int .i64 0, .int .i64 0, .bool false] (0, 0) _ rfl (blk_drew (zero_blk B2r.out)) Tryd.underlying23 rfl (size23 _ _ _ _ _ _)) rfl ?_
          exact ⟨by rw [HE.out]; rfl, below_drew (zero_below HW1.out L2.out)⟩
      · have hk6' : k < 6 := by omega
        have e6 : ((k : Int) == 6) = false := by simp; omega
        obtain ⟨hz, hcap, hCr⟩ := TR.2 k hk6'
        have HCr := Lib.hid hCr
        have HCap := Lib.hid hcap
        have hq7 : wr.cell? ⟨g7, k, none⟩ = some (.int .i64 (n.getD k 0)) := (blk_cell B7r.out k).trans (nA_at n k (by have := HN.out; omega))
        have hz7 := blk_frozen B7r.out k
        have HX := Lib.hid (HI.out k x hk6')
        have hl1 : decide ((k : Int) < 6) = true := decide_eq_true (by omega)
        have H6 := Lib.hid h6
        clear TR hCr hcap h6
        by_cases hneg : idx (row k) x < 0
        · have HE := Lib.hid (show Z = noP y 7 by rw [HZ2.out, pl, if_neg H6.out, if_pos hneg]; rfl)
          have c1 : decide (idx (row k) x < 0) = true := decide_eq_true hneg
          generalize idx (row k) x = r at *
          clear hneg
          go_wp2_with (go_at_call 17; (with_reducible refine (slices_Index_string_string.calls 7 (some (A k)) (c k) (row k) x r _ HCr.out HCap.out HX.out).mono ?_); rintro e w5 ⟨rfl, hd⟩; obtain ⟨nd, rfl⟩ := hd.out; clear hd)
          have N27 : g2 ≠ g7 := by have := blk_lt B21.out; have := L7.out; omega
          have hb2 : ((wr.drewN nd).setCell ⟨g7, k, none⟩ (.int .i64 r)).heap[g2]? = _ := (Below.heap_setCell (wr.drewN nd) ⟨g7, k, none⟩ (.int .i64 r) g2 N27).trans (blk_drewN B2r.out nd)
          have ne7 : ad1.block ≠ g7 := by
            have h0 := World.block_lt_of_cell? W1 _ (Kd.at_int C1.out (k : Int) (by omega) (by have := HL.out; omega)).choose_spec.2
            have h1 := Option.some.inj (Kd.at_int C1.out (k : Int) (by omega) (by have := HL.out; omega)).choose_spec.1
            rw [← h1, add_blk] at h0
            have := L7.out
            omega
          have hy5 : ((wr.drewN nd).setCell ⟨g7, k, none⟩ (.int .i64 r)).cell? (ad1.add k) = some (.int .i64 y) := (cell_far (p := ⟨g7, k, none⟩) (by rw [add_blk]; exact ne7) _).trans hy
          have hl5 := (pw_below_drewN HW1.out nd).setCell (p := ⟨g7, k, none⟩) (Nat.le_trans HB1.out.size L7.out) (.int .i64 r)
          generalize ((wr.drewN nd).setCell ⟨g7, k, none⟩ (.int .i64 r)) = W5 at hb2 hy5 hl5 ⊢
          have B25 := Lib.hid hb2
          have HB5 := Lib.hid hl5
          have hy6 := (zero_far (w := W5) (g := g2) (p := ad1.add k) (by rw [add_blk]; exact ne1)).trans hy5
          have q0 : W5.cell? ⟨g2, 0, none⟩ = some (.int .i64 0) := (blk_cell B25.out 0).trans rfl
          have z0 := blk_frozen B25.out 0
          have q1 : W5.cell? ⟨g2, 1, none⟩ = some (.int .i64 0) := (blk_cell B25.out 1).trans rfl
          have z1 := blk_frozen B25.out 1
          have q2 : W5.cell? ⟨g2, 2, none⟩ = some (.int .i64 0) := (blk_cell B25.out 2).trans rfl
          have z2 := blk_frozen B25.out 2
          have q3 : W5.cell? ⟨g2, 3, none⟩ = some (.int .i64 0) := (blk_cell B25.out 3).trans rfl
          have z3 := blk_frozen B25.out 3
          have q4 : W5.cell? ⟨g2, 4, none⟩ = some (.int .i64 0) := (blk_cell B25.out 4).trans rfl
          have z4 := blk_frozen B25.out 4
          have q5 : W5.cell? ⟨g2, 5, none⟩ = some (.bool false) := (blk_cell B25.out 5).trans rfl
          have z5 := blk_frozen B25.out 5
          clear hb2 hl5 hq7 hz7 hz hx hy
          go_region
          all_goals
            go_wp2
            refine bodyPost_ret (results_ctt rfl _ _ g2 23 #[.int .i64 0, .int .i64 0, .int .i64 0, .int .i64 0, .int .i64 0, .bool false] (0, 0) _ rfl (blk_drew (zero_blk B25.out)) Tryd.underlying23 rfl (size23 _ _ _ _ _ _)) rfl ?_
            exact ⟨by rw [HE.out]; rfl, below_drew (zero_below HB5.out L2.out)⟩
        · have HE := Lib.hid (show Z = pl s.size (ws.drop (k + 1)) (ats.drop (k + 1)) (k + 1) (n.set k (idx (row k) x)) by rw [HZ2.out, pl, if_neg H6.out, if_neg hneg]; rfl)
          have c1 : decide (idx (row k) x < 0) = false := decide_eq_false hneg
          generalize idx (row k) x = r at *
          clear hneg
          go_wp2_with (go_at_call 17; (with_reducible refine (slices_Index_string_string.calls 7 (some (A k)) (c k) (row k) x r _ HCr.out HCap.out HX.out).mono ?_); rintro e w5 ⟨rfl, hd⟩; obtain ⟨nd, rfl⟩ := hd.out; clear hd)
          go_roundw
          case rel => exact ⟨k + 1, n.set k r, by omega, by omega, by go_num, by rw [List.length_set]; exact HN.out, HE.out, blk_put (blk_drewN B7r.out nd) k _ (nA_set n k r), (pw_below_drewN HBR.out nd).setCell (p := ⟨g7, k, none⟩) L7.out _⟩
          case measure => simp [intOf]; omega
    · obtain rfl : k = ws.length := by omega
      rw [List.drop_length] at HZ1
      by_cases hs : ws.length < 6
      · have HE := Lib.hid (show Z = noP s.size 7 by rw [HZ1.out, pl, if_pos hs])
        have d1 : decide ((ws.length : Int) < 6) = true := decide_eq_true (by omega)
        have HS := Lib.hid hs
        clear hs
        go_wp2_with ((with_reducible refine gate_store (t := 23) (p := 2) rfl ?_); refine row_event rfl 23 _ _ rfl g2 #[.int .i64 0, .int .i64 0, .int .i64 0, .int .i64 0, .int .i64 0, .bool false] rfl rfl 23 #[.int .i64 0, .int .i64 0, .int .i64 0, .int .i64 0, .int .i64 0, .bool false] B2r.out (size23 _ _ _ _ _ _) rfl (one23 _ _ _ _ _ _) ?_; intro W8 hq hoth hbel; have B8 := Lib.hid hq; have HB8 := Lib.hid (hbel _ _ L2.out HW1.out); clear hq hoth hbel)
        refine bodyPost_ret (results_ctt rfl _ _ g2 23 #[.int .i64 0, .int .i64 0, .int .i64 0, .int .i64 0, .int .i64 0, .bool false] (0, 0) _ rfl B8.out Tryd.underlying23 rfl (size23 _ _ _ _ _ _)) rfl ?_
        exact ⟨by rw [HE.out]; rfl, HB8.out⟩
      · have HE := Lib.hid (show Z = fin n by rw [HZ1.out, pl, if_neg hs])
        have d1 : decide ((ws.length : Int) < 6) = false := decide_eq_false (by omega)
        have HS := Lib.hid hs
        have HKn := Lib.hid (HK.out n)
        have hn := HN.out
        obtain ⟨n0, n1, n2, n3, n4, n5, rfl⟩ : ∃ n0 n1 n2 n3 n4 n5, n = [n0, n1, n2, n3, n4, n5] := by
          match n, hn with
          | [n0, n1, n2, n3, n4, n5], _ => exact ⟨n0, n1, n2, n3, n4, n5, rfl⟩
        have HKn := Lib.hid (show plan_Check.f n0 (wrap64 (n1 + 2)) n2 n3 n4 (n5 == 1) = some (chk [n0, n1, n2, n3, n4, n5]) from HK.out [n0, n1, n2, n3, n4, n5])
        have y0 : wr.cell? ⟨g7, 0, none⟩ = some (.int .i64 n0) := (blk_cell B7r.out 0).trans rfl
        have y1 : wr.cell? ⟨g7, 1, none⟩ = some (.int .i64 n1) := (blk_cell B7r.out 1).trans rfl
        have y2 : wr.cell? ⟨g7, 2, none⟩ = some (.int .i64 n2) := (blk_cell B7r.out 2).trans rfl
        have y3 : wr.cell? ⟨g7, 3, none⟩ = some (.int .i64 n3) := (blk_cell B7r.out 3).trans rfl
        have y4 : wr.cell? ⟨g7, 4, none⟩ = some (.int .i64 n4) := (blk_cell B7r.out 4).trans rfl
        have y5 : wr.cell? ⟨g7, 5, none⟩ = some (.int .i64 n5) := (blk_cell B7r.out 5).trans rfl
        clear hs hn HN HZ1
        by_cases hr : chk [n0, n1, n2, n3, n4, n5] = 0
        · have HF := Lib.hid (show fin [n0, n1, n2, n3, n4, n5] = (n0, wrap64 (n1 + 2), n2, n3, n4, n5 == 1, 0, 0) by unfold fin; rw [if_pos hr]; rfl)
          have hr1 : (chk [n0, n1, n2, n3, n4, n5] != 0) = false := by rw [hr]; rfl
          generalize chk [n0, n1, n2, n3, n4, n5] = r at *
          clear hr
          go_wp2_with (first
          | ((with_reducible refine gate_dst (N := 10) rfl ?_); refine box_event ?hg (N := 10) ?hd (cs := #[.int .i64 0, .int .i64 0, .int .i64 0, .int .i64 0, .int .i64 0, .bool false]) (t := 23) ?hr ?_; (case hd => rfl); (case hg => rfl); (case hr => first | (go_simp; done) | (go_simp; rfl)); intro g10 hg W5 hbox hbl; have B10 := Lib.hid hbox; have B25 := Lib.hid (blk_below B2r.out hbl); have HB5 := Lib.hid (below_step HW1.out hbl); have L10 := Lib.hid (show w.heap.size ≤ g10 from by rw [hg]; exact HW1.out.size); have N210 : g2 ≠ g10 := (by rw [hg]; exact Nat.ne_of_lt (blk_lt B2r.out)); clear hbox hbl hg)
          | ((with_reducible refine gate_store (t := 23) (p := 10) rfl ?_); refine row_event rfl 23 _ _ rfl g10 #[.int .i64 n0, .int .i64 (wrap64 (n1 + 2)), .int .i64 n2, .int .i64 n3, .int .i64 n4, .bool (n5 == 1)] rfl rfl 23 #[.int .i64 0, .int .i64 0, .int .i64 0, .int .i64 0, .int .i64 0, .bool false] B10.out (size23 _ _ _ _ _ _) rfl (one23 _ _ _ _ _ _) ?_; intro W6 hq hoth hbel; have B106 := Lib.hid hq; have B26 := Lib.hid ((hoth g2 N210).trans B25.out); have HB6 := Lib.hid (hbel _ _ L10.out HB5.out); clear hq hoth hbel)
          | ((with_reducible refine gate_dst (N := 69) rfl ?_); refine wpList_load_row rfl 23 _ rfl g10 rfl 23 #[.int .i64 n0, .int .i64 (wrap64 (n1 + 2)), .int .i64 n2, .int .i64 n3, .int .i64 n4, .bool (n5 == 1)] (0, 0) _ B106.out Tryd.underlying23 rfl (size23 _ _ _ _ _ _) ?_)
          | (go_at_call 18; (with_reducible refine (plan_Check.calls n0 (wrap64 (n1 + 2)) n2 n3 n4 (n5 == 1) r _ HKn.out).mono ?_); rintro e W7 ⟨rfl, hb⟩; have B107 := Lib.hid (blk_below B106.out hb); have B27 := Lib.hid (blk_below B26.out hb); have HB7 := Lib.hid (below_step HB6.out hb); clear hb)
          | ((with_reducible refine gate_dst (N := 75) rfl ?_); refine wpList_load_row rfl 23 _ rfl g10 rfl 23 #[.int .i64 n0, .int .i64 (wrap64 (n1 + 2)), .int .i64 n2, .int .i64 n3, .int .i64 n4, .bool (n5 == 1)] (0, 0) _ B107.out Tryd.underlying23 rfl (size23 _ _ _ _ _ _) ?_)
          | ((with_reducible refine gate_store (t := 23) (p := 2) rfl ?_); refine row_event rfl 23 _ _ rfl g2 #[.int .i64 n0, .int .i64 (wrap64 (n1 + 2)), .int .i64 n2, .int .i64 n3, .int .i64 n4, .bool (n5 == 1)] rfl rfl 23 #[.int .i64 0, .int .i64 0, .int .i64 0, .int .i64 0, .int .i64 0, .bool false] B27.out (size23 _ _ _ _ _ _) rfl (one23 _ _ _ _ _ _) ?_; intro W8 hq hoth hbel; have B8 := Lib.hid hq; have HB8 := Lib.hid (hbel _ _ L2.out HB7.out); clear hq hoth hbel))
          refine bodyPost_ret (results_ctt rfl _ _ g2 23 #[.int .i64 n0, .int .i64 (wrap64 (n1 + 2)), .int .i64 n2, .int .i64 n3, .int .i64 n4, .bool (n5 == 1)] (0, 0) _ rfl B8.out Tryd.underlying23 rfl (size23 _ _ _ _ _ _)) rfl ?_
          exact ⟨by rw [HE.out, HF.out]; rfl, HB8.out⟩
        · have HF := Lib.hid (show fin [n0, n1, n2, n3, n4, n5] = noP 0 (chk [n0, n1, n2, n3, n4, n5]) by unfold fin; rw [if_neg hr])
          have hr1 : (chk [n0, n1, n2, n3, n4, n5] != 0) = true := bne_iff_ne.mpr hr
          generalize chk [n0, n1, n2, n3, n4, n5] = r at *
          clear hr
          go_wp2_with (first
          | ((with_reducible refine gate_dst (N := 10) rfl ?_); refine box_event ?hg (N := 10) ?hd (cs := #[.int .i64 0, .int .i64 0, .int .i64 0, .int .i64 0, .int .i64 0, .bool false]) (t := 23) ?hr ?_; (case hd => rfl); (case hg => rfl); (case hr => first | (go_simp; done) | (go_simp; rfl)); intro g10 hg W5 hbox hbl; have B10 := Lib.hid hbox; have B25 := Lib.hid (blk_below B2r.out hbl); have HB5 := Lib.hid (below_step HW1.out hbl); have L10 := Lib.hid (show w.heap.size ≤ g10 from by rw [hg]; exact HW1.out.size); have N210 : g2 ≠ g10 := (by rw [hg]; exact Nat.ne_of_lt (blk_lt B2r.out)); clear hbox hbl hg)
          | ((with_reducible refine gate_store (t := 23) (p := 10) rfl ?_); refine row_event rfl 23 _ _ rfl g10 #[.int .i64 n0, .int .i64 (wrap64 (n1 + 2)), .int .i64 n2, .int .i64 n3, .int .i64 n4, .bool (n5 == 1)] rfl rfl 23 #[.int .i64 0, .int .i64 0, .int .i64 0, .int .i64 0, .int .i64 0, .bool false] B10.out (size23 _ _ _ _ _ _) rfl (one23 _ _ _ _ _ _) ?_; intro W6 hq hoth hbel; have B106 := Lib.hid hq; have B26 := Lib.hid ((hoth g2 N210).trans B25.out); have HB6 := Lib.hid (hbel _ _ L10.out HB5.out); clear hq hoth hbel)
          | ((with_reducible refine gate_dst (N := 69) rfl ?_); refine wpList_load_row rfl 23 _ rfl g10 rfl 23 #[.int .i64 n0, .int .i64 (wrap64 (n1 + 2)), .int .i64 n2, .int .i64 n3, .int .i64 n4, .bool (n5 == 1)] (0, 0) _ B106.out Tryd.underlying23 rfl (size23 _ _ _ _ _ _) ?_)
          | (go_at_call 18; (with_reducible refine (plan_Check.calls n0 (wrap64 (n1 + 2)) n2 n3 n4 (n5 == 1) r _ HKn.out).mono ?_); rintro e W7 ⟨rfl, hb⟩; have B107 := Lib.hid (blk_below B106.out hb); have B27 := Lib.hid (blk_below B26.out hb); have HB7 := Lib.hid (below_step HB6.out hb); clear hb)
          | ((with_reducible refine gate_dst (N := 75) rfl ?_); refine wpList_load_row rfl 23 _ rfl g10 rfl 23 #[.int .i64 n0, .int .i64 (wrap64 (n1 + 2)), .int .i64 n2, .int .i64 n3, .int .i64 n4, .bool (n5 == 1)] (0, 0) _ B107.out Tryd.underlying23 rfl (size23 _ _ _ _ _ _) ?_)
          | ((with_reducible refine gate_store (t := 23) (p := 2) rfl ?_); refine row_event rfl 23 _ _ rfl g2 #[.int .i64 0, .int .i64 0, .int .i64 0, .int .i64 0, .int .i64 0, .bool false] rfl rfl 23 #[.int .i64 0, .int .i64 0, .int .i64 0, .int .i64 0, .int .i64 0, .bool false] B27.out (size23 _ _ _ _ _ _) rfl (one23 _ _ _ _ _ _) ?_; intro W8 hq hoth hbel; have B8 := Lib.hid hq; have HB8 := Lib.hid (hbel _ _ L2.out HB7.out); clear hq hoth hbel))
          refine bodyPost_ret (results_ctt rfl _ _ g2 23 #[.int .i64 0, .int .i64 0, .int .i64 0, .int .i64 0, .int .i64 0, .bool false] (0, 0) _ rfl B8.out Tryd.underlying23 rfl (size23 _ _ _ _ _ _)) rfl ?_
          exact ⟨by rw [HE.out, HF.out]; rfl, HB8.out⟩
end Go.Proofs.YtajgpilcbaoneaaDoor.P
