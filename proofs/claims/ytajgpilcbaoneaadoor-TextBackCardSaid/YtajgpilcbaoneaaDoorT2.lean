/- text.Print by hand: the words of a plan that may be, joined. -/
import Derived.Test.YtajgpilcbaoneaaDoorT1
import Derived.Test.YtajgpilcbaoneaaDoorJoin
namespace Go.Proofs.YtajgpilcbaoneaaDoor.P
open Go.RowKit Go.Proofs.YtajgpilcbaoneaaDoorW.PrintWords Go.Proofs.YtajgpilcbaoneaaDoorW.PrintLast Go.Proofs.YtajgpilcbaoneaaDoorW.PrintMore
set_option linter.unusedVariables false
set_option linter.unusedSimpArgs false
/-- The words of each place. -/
def tab : List (List ByteArray) :=
  [[⟨#[113, 49, 53]⟩, ⟨#[113, 51, 49]⟩], [⟨#[52]⟩, ⟨#[56]⟩, ⟨#[49, 54]⟩, ⟨#[51, 50]⟩, ⟨#[54, 52]⟩], [⟨#[116, 119, 111]⟩, ⟨#[102, 111, 117, 114]⟩, ⟨#[115, 112, 108, 105, 116]⟩],
   [⟨#[104, 97, 108, 102]⟩, ⟨#[98, 108, 111, 99, 107]⟩, ⟨#[110, 111, 110, 101]⟩], [⟨#[102, 108, 111, 111, 114]⟩, ⟨#[117, 112]⟩, ⟨#[101, 118, 101, 110]⟩], [⟨#[102, 111, 114, 119, 97, 114, 100]⟩, ⟨#[105, 110, 118, 101, 114, 115, 101]⟩]]
/-- The words of the first places. -/
def wordsTo (D : List Int) (k : Nat) : List ByteArray := (List.range k).map fun i => (tab.getD i []).getD (D.getD i 0).toNat ByteArray.empty
def row (i : Nat) : List ByteArray := tab.getD i []
/-- The table lies in the world: its six rows and their words. -/
def Places (A : Nat → Addr) (c : Nat → Nat) (w : World) : Prop :=
  0 < w.heap.size ∧ ∀ i, i < 6 → w.cell? ⟨0, i, none⟩ = some (.slice (some (A i)) (row i).length (c i)) ∧ (row i).length ≤ c i ∧ Kd.C Kd.string w (some (A i)) (row i).length (row i)
theorem Places.below {A : Nat → Addr} {c : Nat → Nat} {w w' : World} (h : Places A c w) (hb : Below w.heap.size w w') : Places A c w' :=
  ⟨Nat.lt_of_lt_of_le h.1 hb.size, fun i hi => ⟨(hb.cell h.1).trans (h.2 i hi).1, (h.2 i hi).2.1, Kd.C_below (h.2 i hi).2.2 hb⟩⟩
/-- Words read out of a row of strings, cell by cell. -/
theorem cells_words {w : World} {g n : Nat} {Y : List ByteArray} (hC : Kd.C Kd.string w (some ⟨g, 0, none⟩) n Y) (hn : Y.length = n) : ∀ (j : Nat) x, Y[j]? = some x → w.cell? ⟨g, 0 + j, none⟩ = some (.string x) := by
  intro j x hx
  obtain ⟨hj, hx'⟩ := List.getElem?_eq_some_iff.1 hx
  obtain ⟨ad, cs, e, _, hK, hc0⟩ := Kd.C_get hC ByteArray.empty (j : Int) (by omega) (by omega)
  obtain rfl := Option.some.inj e
  obtain rfl : cs = [.string (Y.getD ((j : Int)).toNat ByteArray.empty)] := hK
  have h0 := hc0 0 _ rfl
  rw [Int.toNat_natCast, List.getD_eq_getElem?_getD, hx] at h0
  have e1 : j * Kd.string.sz + 0 = j := by simp [Kd.string, Kd.scalar]
  rw [e1] at h0
  have ea : (⟨g, 0, none⟩ : Addr).add j = ⟨g, 0 + j, none⟩ := Addr.add_lit _ _ _
  rw [ea] at h0
  exact h0
theorem size23 (a b c d e f : Value) : (Tryd.prog.info? 23).map (·.size) = some (#[a, b, c, d, e, f] : Array Value).size := by kernel_rfl
set_option maxRecDepth 100000 in
set_option maxHeartbeats 4000000 in
theorem Print_yes0 (x0 x1 x2 x3 x4 : Int) (A : Nat → Addr) (c : Nat → Nat) (w : World) (h : plan_Check.f x0 x1 x2 x3 x4 false = some 0) (hp : Places A c w) (hD : ∀ k, k < 6 → 0 ≤ [x0, wrap64 (x1 - 2), x2, x3, x4, 0].getD k 0 ∧ [x0, wrap64 (x1 - 2), x2, x3, x4, 0].getD k 0 < ((row k).length : Int)) (hJ : (Lib.join ((wordsTo [x0, wrap64 (x1 - 2), x2, x3, x4, 0] 6).map (·.data.toList)) [32]).length ≤ 140737488355328) :
    Calls Tryd.prog 9 #[.agg #[.int .i64 x0, .int .i64 x1, .int .i64 x2, .int .i64 x3,   .int .i64 x4, .bool false]] w fun e w' => e = .returned (.tuple #[.string ⟨(Lib.join ((wordsTo [x0, wrap64 (x1 - 2), x2, x3, x4, 0] 6).map (·.data.toList)) [32]).toArray⟩, .int .i64 0]) ∧ Below w.heap.size w w' := by
  have HP := Lib.hid h
  have HT := Lib.hid hp
  clear h hp
  have HJ0 := Lib.hid hJ
  clear hJ
  generalize hZ : Lib.join ((wordsTo [x0, wrap64 (x1 - 2), x2, x3, x4, 0] 6).map (·.data.toList)) [32] = Z at *
  have HZ := Lib.hid hZ
  clear hZ
  have HD := Lib.hid (show ∀ k, k < 6 → 0 ≤ [x0, wrap64 (x1 - 2), x2, x3, x4, 0].getD k 0 ∧ [x0, wrap64 (x1 - 2), x2, x3, x4, 0].getD k 0 < ((row k).length : Int) from hD)
  clear hD
  go_enter Tryd.func9, Tryd.ntmps9
  go_wp2_with (first
    | ((with_reducible refine gate_dst (N := 1) rfl ?_); refine box_event ?hg (N := 1) ?hd (cs := #[.int .i64 x0, .int .i64 x1, .int .i64 x2, .int .i64 x3, .int .i64 x4, .bool false]) (t := 23) ?hr ?_; (case hd => rfl); (case hg => rfl); (case hr => first | (go_simp; done) | (go_simp; rfl)); intro g1 hg W1 hbox hbl; have B1 := Lib.hid hbox; have HB0 := Lib.hid hbl; clear hbox hbl hg)
    | ((with_reducible refine gate_dst (N := 9) rfl ?_); refine wpList_load_row rfl 23 _ rfl g1 rfl 23 #[.int .i64 x0, .int .i64 x1, .int .i64 x2, .int .i64 x3, .int .i64 x4, .bool false] (0, 0) _ B1.out Tryd.underlying23 rfl (size23 _ _ _ _ _ _) ?_)
    | (go_at_call 18; refine (plan_Check.calls x0 x1 x2 x3 x4 false 0 _ HP.out).mono ?_; rintro e w1 ⟨rfl, hb⟩; have B2 := Lib.hid (blk_below B1.out hb); have HB1 := Lib.hid (below_step HB0.out hb); have f0 : w1.cell? ⟨g1, 0, none⟩ = some (.int .i64 x0) := (blk_cell B2.out 0).trans rfl; have f1 : w1.cell? ⟨g1, 1, none⟩ = some (.int .i64 x1) := (blk_cell B2.out 1).trans rfl; have f2 : w1.cell? ⟨g1, 2, none⟩ = some (.int .i64 x2) := (blk_cell B2.out 2).trans rfl; have f3 : w1.cell? ⟨g1, 3, none⟩ = some (.int .i64 x3) := (blk_cell B2.out 3).trans rfl; have f4 : w1.cell? ⟨g1, 4, none⟩ = some (.int .i64 x4) := (blk_cell B2.out 4).trans rfl; have f5 : w1.cell? ⟨g1, 5, none⟩ = some (.bool false) := (blk_cell B2.out 5).trans rfl; clear hb)
    | ((with_reducible refine gate_dst (N := 28) rfl ?_); refine Kd.R_lit (Kd.int .i64) _ 3 ?hg (N := 28) ?hd (xs := [x0, wrap64 (x1 - 2), x2, x3, x4, 0]) (inner := []) (ok := fun _ => True) (okp := fun _ => True) ?hr ?hp (fun _ hk => hk) trivial (Below.refl _ _) (Nat.le_refl _) (by simp) ?_; (case hd => rfl); (case hg => rfl); (case hr => first | (go_simp; done) | (go_simp; rfl)); (case hp => exact (Reps.none _ _)); intro v28 w3 ho4 hb hg_ hnew_; have HO := Lib.hid ho4; have HB3 := Lib.hid (below_step HB1.out hb); clear hb ho4 hg_ hnew_))
  have B3 := Lib.hid (blk_new w1 (.cells #[.int .i64 x0, .int .i64 (wrap64 (x1 - 2)), .int .i64 x2, .int .i64 x3, .int .i64 x4, .int .i64 0] 3))
  have HB3 := Lib.hid (below_alloc HB1.out (.cells #[.int .i64 x0, .int .i64 (wrap64 (x1 - 2)), .int .i64 x2, .int .i64 x3, .int .i64 x4, .int .i64 0] 3))
  generalize w1.alloc (.cells #[.int .i64 x0, .int .i64 (wrap64 (x1 - 2)), .int .i64 x2, .int .i64 x3, .int .i64 x4, .int .i64 0] 3) = W3 at *
  generalize w1.heap.size = g3 at *
  go_loopw [6, 30] (fun s6 s30 wr => ∃ k : Nat, k ≤ 6 ∧ s30 = .int .i64 k ∧ Kd.R Kd.string 9 wr w.heap.size (fun k_ => k_ ≠ g3) s6 (wordsTo [x0, wrap64 (x1 - 2), x2, x3, x4, 0] k) ∧ wr.heap[g3]? = some (.cells #[.int .i64 x0, .int .i64 (wrap64 (x1 - 2)), .int .i64 x2, .int .i64 x3, .int .i64 x4, .int .i64 0] 3 (0, 0)) ∧ Below w.heap.size w wr) (fun _ i _ => 6 - (intOf i).toNat)
  case atStart => exact ⟨0, by omega, rfl, Kd.R_nil _ _ _ _ _, B3.out, HB3.out⟩
  case round =>
    obtain ⟨k, hk, rfl, ho, hb3, hb⟩ := hrel
    have HO := Lib.hid ho
    have HB3r := Lib.hid hb3
    have HBR := Lib.hid hb
    have hpl := HT.out.below hb
    clear ho hb3 hb
    by_cases hlt : k < 6
    · obtain ⟨hz, hcap, hC⟩ := hpl.2 k hlt
      have HC := Lib.hid hC
      have d1 : decide ((k : Int) < 6) = true := decide_eq_true (by omega)
      have hcell : wr.cell? ⟨g3, k, none⟩ = some (.int .i64 ([x0, wrap64 (x1 - 2), x2, x3, x4, 0].getD k 0)) := by
        refine (blk_cell HB3r.out k).trans ?_
        match k, hlt with
        | 0, _ => rfl
        | 1, _ => rfl
        | 2, _ => rfl
        | 3, _ => rfl
        | 4, _ => rfl
        | 5, _ => rfl
      clear hC hpl
      obtain ⟨n0, n1⟩ := HD.out k hlt
      have hW : wordsTo [x0, wrap64 (x1 - 2), x2, x3, x4, 0] (k + 1) = wordsTo [x0, wrap64 (x1 - 2), x2, x3, x4, 0] k ++ [(row k).getD ([x0, wrap64 (x1 - 2), x2, x3, x4, 0].getD k 0).toNat ByteArray.empty] := by
        unfold wordsTo row
        rw [List.range_succ, List.map_append]
        rfl
      have HW := Lib.hid hW
      clear hW
      generalize [x0, wrap64 (x1 - 2), x2, x3, x4, 0].getD k 0 = n at *
      obtain ⟨ad, cs, e, _, hK, hc0⟩ := Kd.C_get HC.out ByteArray.empty n (by omega) (by omega)
      obtain rfl : A k = ad := by simpa using e
      obtain rfl : cs = [.string ((row k).getD n.toNat ByteArray.empty)] := hK
      have hs := hc0 0 _ rfl
      have hs : wr.cell? ((A k).add n.toNat) = some (.string ((row k).getD n.toNat ByteArray.empty)) := by simpa [Kd.string, Kd.scalar] using hs
      generalize (row k).getD n.toNat ByteArray.empty = x at *
      have d2 : decide (0 ≤ n) = true := decide_eq_true n0
      have d3 : decide (n < ((row k).length : Int)) = true := decide_eq_true n1
      clear hc0 e
      have hlenW : (wordsTo [x0, wrap64 (x1 - 2), x2, x3, x4, 0] k).length < 8796093022208 := by
        have : (wordsTo [x0, wrap64 (x1 - 2), x2, x3, x4, 0] k).length = k := by simp [wordsTo]
        omega
      generalize hY : wordsTo [x0, wrap64 (x1 - 2), x2, x3, x4, 0] k = Y at *
      have hg3 := blk_lt HB3r.out
      go_wp2_with ((with_reducible refine gate_builtin (b := .append) (xs := #[.tmp 35, .tmp 42]) rfl ?_); at_builtin; refine Kd.R_append Kd.string (w0 := w) w.heap.size rfl (.tmp 35) (.tmp 42) 34 9 (.string ⟨#[]⟩) 16 rfl Tryd.underlying34 info9 rfl (by decide) (by omega) _ Y x [.string x] (fun k_ => k_ ≠ g3) (fun _ => False) rfl rfl ?aP (fun _ hk => hk.elim) ?aF ?aO ?aB ?aS ?aL ?_; (case aP => exact rfl); (case aB => first | exact HBR.out | exact below_alloc HBR.out _); (case aO => first | exact HO.out | exact Kd.R_alloc HO.out _); (case aS => first | exact below_size HBR.out | exact below_size (below_alloc HBR.out _)); (case aL => omega); (case aF => exact fun j hj e => by first | omega | (simp at hj; omega)); intro v w14 ho hb hg hat; have HO2 := Lib.hid ho; have HB2 := Lib.hid hb; have hb3 : w14.heap[g3]? = _ := (hg.block g3 hg3 (fun e' => by obtain ⟨cells, hc⟩ := Kd.R_typed HO.out g3 e'.symm; rw [HB3r.out] at hc; cases hc)).trans HB3r.out; have HB4 := Lib.hid hb3; clear ho hb hg hat hb3)
      go_roundw
      case rel => exact ⟨k + 1, by omega, by go_num, HW.out ▸ HO2.out, HB4.out, HB2.out⟩
      case measure => simp [intOf]; omega
    · obtain rfl : k = 6 := by omega
      have hlenW : (wordsTo [x0, wrap64 (x1 - 2), x2, x3, x4, 0] 6).length = 6 := by simp [wordsTo]
      have HJ := Lib.hid (show (Lib.join ((wordsTo [x0, wrap64 (x1 - 2), x2, x3, x4, 0] 6).map (·.data.toList)) [32]).length ≤ 140737488355328 from HZ.out ▸ HJ0.out)
      generalize wordsTo [x0, wrap64 (x1 - 2), x2, x3, x4, 0] 6 = Y at *
      obtain ⟨g, cap, rfl, hb1, hb2, _⟩ := Kd.R_form HO.out (by omega)
      obtain ⟨_, hcap, hC⟩ := Kd.R_reads' HO.out
      have HC := Lib.hid (cells_words hC rfl)
      have HL := Lib.hid (show Y.length ≤ 140737488355328 by omega)
      have HCap := Lib.hid hcap
      clear hC hlenW hcap
      go_wp2_with (go_at_call 16; (with_reducible refine (Join_any g 0 cap Y ⟨#[32]⟩ _ HC.out hb2 HL.out HCap.out HJ.out).mono ?_); rintro e w9 ⟨rfl, hb⟩; have HB9 := Lib.hid (below_step HBR.out hb); clear hb)
      have hz := HZ.out
      go_ret2
      exact ⟨by rw [← hz]; rfl, HB9.out⟩
end Go.Proofs.YtajgpilcbaoneaaDoor.P
