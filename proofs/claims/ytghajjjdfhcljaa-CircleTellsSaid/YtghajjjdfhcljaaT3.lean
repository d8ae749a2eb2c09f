import Derived.Test.YtghajjjdfhcljaaPg2
import Derived.Great.BuildSlice
import Derived.Laws.CopyOwn
import Derived.Outline
import Derived.Deep.QuietTactic
import Derived.BigQuiet
import Derived.Lib.Hide
namespace Go.Proofs.Ytghajjjdfhcljaa.P
open Go.RowKit Go.Proofs.YtghajjjdfhcljaaW.PrintWords Go.Proofs.YtghajjjdfhcljaaW.PrintLast Go.Proofs.YtghajjjdfhcljaaW.PrintMore
set_option linter.unusedVariables false
set_option linter.unusedSimpArgs false
section
variable {P : Program} {ops : Array Oper} {rest : List Oper} {o : Oper} {a : Act} {Q : Exit → Act → World → Prop}
/-- A whole row stored into a block, the world behind it under a name of its own. -/
theorem row_event {W : World} (hgd : o.guard = none) (ty : TypeId) (x y : Operand) (ho : o.op = .store ty x y)
    (g : Nat) (cells : Array Value) (hx : a.eval x = .pointer (some ⟨g, 0, none⟩)) (hy : a.eval y = .agg cells)
    (t : TypeId) (old : Array Value) (hg : W.heap[g]? = some (.cells old t (0, 0))) (hi : (P.info? ty).map (·.size) = some cells.size)
    (hold : old.size = cells.size) (h1 : cells.all (·.oneCell') = true)
    (h : ∀ w1, w1.heap[g]? = some (.cells cells t (0, 0)) → (∀ k, k ≠ g → w1.heap[k]? = W.heap[k]?) → (∀ B w0, B ≤ g → Below B w0 W → Below B w0 w1) → wpList P ops Q rest (a.put o.dst undef) w1) : wpList P ops Q (o :: rest) a W :=
  wpList_store_row hgd ty x y ho g cells hx hy t old hg hi hold h1 (h _ (setRow_heap W g old cells t (0, 0) hg) (fun k hk => setRow_other W g k cells hk) (fun B w0 hB hb => below_setRow hb hB cells))
end
/-- The steps' angles. -/
def angsL : List Int := [56593902016227522, 33409331186036029, 17652573055549881, 8960721713639278, 4497749271019253, 2251067235130761, 1125808294293075, 562938500594602, 281473545067998, 140737309398767, 70368721808055, 35184369292630, 17592185694891, 8796092978518, 4398046505643, 2199023254870, 1099511627691, 549755813878, 274877906943, 137438953472, 68719476736, 34359738368, 17179869184, 8589934592, 4294967296, 2147483648, 1073741824, 536870912, 268435456, 134217728, 67108864, 33554432, 16777216, 8388608, 4194304, 2097152, 1048576, 524288, 262144, 131072, 65536, 32768, 16384, 8192, 4096]
def allB (p : Nat → Bool) : Nat → Bool
  | 0 => true
  | k + 1 => p k && allB p k
theorem allB_at {p : Nat → Bool} : ∀ {K k : Nat}, allB p K = true → k < K → p k = true
  | 0, _, _, h => by omega
  | K + 1, k, h, hk => by
    simp only [allB, Bool.and_eq_true] at h
    by_cases e : k = K
    · subst e; exact h.1
    · exact allB_at h.2 (by omega)
theorem angsL_arc (k : Nat) (h1 : 1 ≤ k) (h : k < 45) : arc_Arc.f (2 ^ k) = some (angsL.getD k 0, 0) := by
  have := allB_at (p := fun k => k == 0 || decide (arc_Arc.f (2 ^ k) = some (angsL.getD k 0, 0))) (K := 45) (by decide +kernel) h
  simp only [Bool.or_eq_true, beq_iff_eq, decide_eq_true_eq] at this
  rcases this with e | e
  · omega
  · exact e
theorem quarter_val : arc_Quarter.f = some 56593902016227522 := by decide +kernel
/-- The first k of the angles, then zeros. -/
def rowL (k : Nat) : List Int := angsL.take k ++ List.replicate (45 - k) 0
def rowA (k : Nat) : Array Value := ((rowL k).map (Value.int .i64)).toArray
theorem rowA_set (k : Nat) (hk : k < 45) : (rowA k).setIfInBounds k (.int .i64 (angsL.getD k 0)) = rowA (k + 1) := by
  have := allB_at (p := fun k => decide ((rowL k).set k (angsL.getD k 0) = rowL (k + 1))) (K := 45) (by decide +kernel) hk
  have := of_decide_eq_true this
  unfold rowA
  rw [← this]
  simp [List.map_set]
theorem rowA_size (k : Nat) (hk : k ≤ 45) : (rowA k).size = 45 := by
  have h : angsL.length = 45 := by decide
  unfold rowA rowL
  simp [h]
  omega
theorem rowA_at (k : Nat) (hk : k < 45) : (rowA k)[k]? = some (.int .i64 0) := by
  have := allB_at (p := fun k => decide ((rowL k)[k]? = some 0)) (K := 45) (by decide +kernel) hk
  have := of_decide_eq_true this
  unfold rowA
  simp [this]
theorem rowA_one (k : Nat) : (rowA k).all (·.oneCell') = true := by
  unfold rowA
  simp [Value.oneCell']
theorem pow_small (k : Nat) (hk : k < 45) : IntKind.i64.wrap (2 ^ k) = 2 ^ k := by
  have := allB_at (p := fun k => decide (IntKind.i64.wrap (2 ^ k) = 2 ^ k)) (K := 45) (by decide +kernel) hk
  exact of_decide_eq_true this
theorem built62 : Try.prog.built 62 [(0, .int .i64 56593902016227522)] = some (rowA 1) := by kernel_rfl
theorem size37 (a b : Value) : (Try.prog.info? 37).map (·.size) = some (#[a, b] : Array Value).size := by kernel_rfl
theorem one37 (a b : Int) : (#[.int .i64 a, .int .i64 b] : Array Value).all (·.oneCell') = true := by simp [Value.oneCell']
theorem zero62 : (Try.prog.info? 62).map (fun i => (i.zero, i.size)) = some (some (.agg (rowA 0)), 45) := by kernel_rfl

set_option maxRecDepth 100000 in
set_option maxHeartbeats 2000000 in
theorem angles_any (w : World) :
    Calls Try.prog 52 #[] w fun e w' => e = .returned (.agg (rowA 45)) ∧ Below w.heap.size w w' := by
  go_enter Try.func52, Try.ntmps52
  go_wp2_with (first
    | ((with_reducible refine gate_dst (N := 0) rfl ?_); refine box_event ?hg (N := 0) ?hd (cs := rowA 0) (t := 62) ?hr ?_; (case hd => rfl); (case hg => rfl); (case hr => rfl); intro g0 hg W0 hbox hb; have B0 := Lib.hid hbox; have HB0 := Lib.hid hb; have G0 := Lib.hid hg; clear hbox hb hg)
    | (go_at_call 16; refine (arc_Quarter.calls 56593902016227522 _ quarter_val).mono ?_; rintro e W1 ⟨rfl, hb⟩; have B1 := Lib.hid (blk_below B0.out hb); have HB1 := Lib.hid (below_step HB0.out hb); clear hb B0 HB0)
    | ((with_reducible refine gate_dst (N := 4) rfl ?_); refine wpList_buildTo rfl 62 _ rfl (some 4) rfl (rowA 1) built62 ?_)
    | ((with_reducible refine gate_dst (N := 1) rfl ?_); refine box_event ?hg (N := 1) ?hd (cs := rowA 0) (t := 62) ?hr ?_; (case hd => rfl); (case hg => rfl); (case hr => rfl); intro g1 hg W2 hbox hb; have B2 := Lib.hid hbox; have B02 := Lib.hid (blk_below B1.out hb); have HB2 := Lib.hid (below_step HB1.out hb); have N01 : g0 ≠ g1 := (by rw [hg]; exact Nat.ne_of_lt (blk_lt B1.out)); have LG1 : w.heap.size ≤ g1 := (by rw [hg]; exact HB1.out.size); clear hbox hb hg HB1)
    | ((with_reducible refine gate_store (t := 62) (p := 1) rfl ?_); refine row_event rfl 62 _ _ rfl g1 (rowA 1) rfl rfl 62 (rowA 0) B2.out rfl (by rw [rowA_size 0 (by decide), rowA_size 1 (by decide)]) (rowA_one 1) ?_; intro W3 hq hoth hbel; have B3 := Lib.hid hq; have B03 := Lib.hid hoth; have HB3 := Lib.hid hbel; clear hq hoth hbel))
  have B4 := Lib.hid ((B03.out g0 N01).trans B02.out)
  have LG0 : w.heap.size ≤ g0 := by have := G0.out; omega
  have HB4 := Lib.hid (HB3.out w.heap.size w LG1 HB2.out)
  clear B03 B02 HB3 HB2 G0 B1 B2
  go_loopw [2] (fun i wr => ∃ k : Nat, 1 ≤ k ∧ k ≤ 45 ∧ i = .int .i64 k ∧ wr.heap[g1]? = some (.cells (rowA k) 62 (0, 0)) ∧ wr.heap[g0]? = some (.cells (rowA 0) 62 (0, 0)) ∧ Below w.heap.size w wr) (fun i _ => 45 - (intOf i).toNat)
  case atStart => exact ⟨1, by omega, by omega, rfl, B3.out, B4.out, HB4.out⟩
  case round =>
    obtain ⟨k, hk1, hk2, rfl, c1, c0, hbw⟩ := hrel
    have C1 := Lib.hid c1
    have C0 := Lib.hid c0
    have HBW := Lib.hid hbw
    clear c1 c0 hbw B3 B4 HB4
    by_cases hlt : k < 45
    · have HP := Lib.hid (angsL_arc k hk1 hlt)
      have hsm := pow_small k hlt
      go_wp2_with (first
        | (go_at_call 13; refine (arc_Arc.calls (2 ^ k) (angsL.getD k 0) 0 _ HP.out).mono ?_; rintro e W5 ⟨rfl, hb⟩; have hcell : W5.cell? ⟨g1, k, none⟩ = some (.int .i64 0) := (blk_cell (blk_below C1.out hb) k).trans (rowA_at k hlt); have hfr := blk_frozen (blk_below C1.out hb) k; have HB5 := Lib.hid hb; clear hb))
      go_roundw
      case rel => exact ⟨k + 1, by omega, by omega, by go_num, by rw [← rowA_set k hlt]; exact blk_put (blk_below C1.out HB5.out) k _ rfl, (Below.heap_setCell _ _ _ _ N01).trans (blk_below C0.out HB5.out), (below_step HBW.out HB5.out).setCell (p := ⟨g1, k, none⟩) LG1 _⟩
      case measure => simp [intOf]; omega
    · obtain rfl : k = 45 := by omega
      go_wp2_with (first
        | ((with_reducible refine gate_dst (N := 17) rfl ?_); refine wpList_load_row rfl 62 _ rfl g1 rfl 62 (rowA 45) (0, 0) _ C1.out Try.underlying62 rfl (by rw [rowA_size 45 (by decide)]; kernel_rfl) ?_)
        | ((with_reducible refine gate_store (t := 62) (p := 0) rfl ?_); refine row_event rfl 62 _ _ rfl g0 (rowA 45) rfl rfl 62 (rowA 0) C0.out (by rw [rowA_size 45 (by decide)]; kernel_rfl) (by rw [rowA_size 0 (by decide), rowA_size 45 (by decide)]) (rowA_one 45) ?_; intro W7 hq hoth hbel; have B7 := Lib.hid hq; have HB7 := Lib.hid hbel; clear hq hoth hbel))
      refine bodyPost_ret (results_cell_row rfl _ _ g0 62 (rowA 45) (0, 0) _ rfl B7.out Try.underlying62 rfl (by rw [rowA_size 45 (by decide)]; kernel_rfl)) rfl ?_
      exact ⟨rfl, HB7.out _ _ LG0 HBW.out⟩

/-- One step of a turn, and the first k steps. -/
def runStep (i : Nat) (by_ : Int) (s : Int × Int × Int) : Int × Int × Int :=
  if s.2.2 ≥ 0 then (wrap64 (s.1 - s.2.1 / 2 ^ i), wrap64 (s.2.1 + s.1 / 2 ^ i), wrap64 (s.2.2 - by_)) else (wrap64 (s.1 + s.2.1 / 2 ^ i), wrap64 (s.2.1 - s.1 / 2 ^ i), wrap64 (s.2.2 + by_))
def runTo (x z : Int) : Nat → Int × Int × Int
  | 0 => (x, 0, z)
  | k + 1 => runStep k (angsL.getD k 0) (runTo x z k)
theorem rowA_get (k : Nat) (hk : k < 45) : (rowA 45)[k]? = some (.int .i64 (angsL.getD k 0)) := by
  have := allB_at (p := fun k => decide ((rowL 45)[k]? = some (angsL.getD k 0))) (K := 45) (by decide +kernel) hk
  have := of_decide_eq_true this
  unfold rowA
  simp [this]
theorem idx62 (k : Nat) (hk : k < 45) (w : World) : (Instr.index 62 (.agg (rowA 45)) (.int .i64 k)).run Try.prog w = .ok (.int .i64 (angsL.getD k 0)) w := by
  have hsz : (sizeOf 3).run Try.prog w = .ok 1 w := by kernel_rfl
  have hg := rowA_get k hk
  have hs := rowA_size 45 (by decide)
  generalize angsL.getD k 0 = v at *
  generalize rowA 45 = R at *
  simp [Instr.index, asIntOf, Sem.run_bind, run_underlying Try.underlying62, hk, part, hsz, hg, hs]
  exact (Array.getElem?_eq_some_iff.1 hg).2
set_option maxRecDepth 100000 in
set_option maxHeartbeats 4000000 in
theorem run_any (x z : Int) (w : World) :
    Calls Try.prog 51 #[.int .i64 x, .int .i64 z] w fun e w' => e = .returned (.tuple #[.agg #[.int .i64 (runTo x z 45).1, .int .i64 (runTo x z 45).2.1], .int .i64 (runTo x z 45).2.2]) ∧ Below w.heap.size w w' := by
  go_enter Try.func51, Try.ntmps51
  go_wp2_with (first
    | ((with_reducible refine gate_dst (N := 4) rfl ?_); refine box_event ?hg (N := 4) ?hd (cs := #[.int .i64 0, .int .i64 0]) (t := 37) ?hr ?_; (case hd => rfl); (case hg => rfl); (case hr => rfl); intro g4 hg W0 hbox hb; have B4 := Lib.hid hbox; have HB0 := Lib.hid hb; have L4 := Lib.hid hg; clear hbox hb hg)
    | ((with_reducible refine gate_dst (N := 6) rfl ?_); refine box_event ?hg (N := 6) ?hd (cs := #[.int .i64 0, .int .i64 0]) (t := 37) ?hr ?_; (case hd => rfl); (case hg => rfl); (case hr => rfl); intro g6 hg W1 hbox hb; have B6 := Lib.hid hbox; have B41 := Lib.hid (blk_below B4.out hb); have N46 : g4 ≠ g6 := (by rw [hg]; exact Nat.ne_of_lt (blk_lt B4.out)); have L6 : w.heap.size ≤ g6 := (by rw [hg]; exact HB0.out.size); have HB1 := Lib.hid (below_step HB0.out hb); clear hbox hb hg HB0 B4)
    | ((with_reducible refine gate_store (t := 37) (p := 6) rfl ?_); refine row_event rfl 37 _ _ rfl g6 #[.int .i64 x, .int .i64 0] rfl rfl 37 #[.int .i64 0, .int .i64 0] B6.out (size37 _ _) rfl (one37 _ _) ?_; intro W2 hq hoth hbel; have B62 := Lib.hid hq; have B42 := Lib.hid ((hoth g4 N46).trans B41.out); have HB2 := Lib.hid (hbel _ _ L6 HB1.out); clear hq hoth hbel HB1 B6 B41)
    | (go_at_call 52; refine (angles_any _).mono ?_; rintro e W3 ⟨rfl, hb⟩; have B63 := Lib.hid (blk_below B62.out hb); have B43 := Lib.hid (blk_below B42.out hb); have HB3 := Lib.hid (below_step HB2.out hb); clear hb B62 B42 HB2))
  have LG4 : w.heap.size ≤ g4 := by have := L4.out; omega
  clear L4
  go_loopw [1, 14] (fun s1 s14 wr => ∃ (k : Nat) (a b c : Int), k ≤ 45 ∧ s14 = .int .i64 k ∧ s1 = .int .i64 c ∧ wr.heap[g6]? = some (.cells #[.int .i64 a, .int .i64 b] 37 (0, 0)) ∧ wr.heap[g4]? = some (.cells #[.int .i64 0, .int .i64 0] 37 (0, 0)) ∧ runTo x z k = (a, b, c) ∧ Below w.heap.size w wr) (fun _ i _ => 45 - (intOf i).toNat)
  case atStart => exact ⟨0, x, 0, z, by omega, rfl, rfl, B63.out, B43.out, rfl, HB3.out⟩
  case round =>
    obtain ⟨k, a, b, c, hk, rfl, rfl, c6, c4, hrun, hbw⟩ := hrel
    have C6 := Lib.hid c6
    have C4 := Lib.hid c4
    have HR := Lib.hid hrun
    have HBW := Lib.hid hbw
    clear c6 c4 hrun hbw B63 B43 HB3
    by_cases hlt : k < 45
    · have hix := idx62 k hlt
      have ha := (blk_cell C6.out 0).trans rfl
      have hb := (blk_cell C6.out 1).trans rfl
      have hfa := blk_frozen C6.out 0
      have hfb := blk_frozen C6.out 1
      by_cases hc : 0 ≤ c
      · have HN := Lib.hid (show runTo x z (k + 1) = (wrap64 (a - b / 2 ^ k), wrap64 (b + a / 2 ^ k), wrap64 (c - angsL.getD k 0)) from by rw [runTo, HR.out]; exact if_pos hc)
        go_wp2
        go_quiet (fail)
        go_wp2
        go_roundw
        case rel => exact ⟨k + 1, _, _, _, by omega, by go_num, rfl, blk_put (blk_put C6.out 0 _ rfl) 1 _ rfl, (Below.heap_setCell _ _ _ _ N46).trans ((Below.heap_setCell _ _ _ _ N46).trans C4.out), HN.out, ((pw_below_drewN HBW.out nq).setCell (p := ⟨g6, 0, none⟩) L6 _).setCell (p := ⟨g6, 1, none⟩) L6 _⟩
        case measure => simp [intOf]; omega
      · have HN := Lib.hid (show runTo x z (k + 1) = (wrap64 (a + b / 2 ^ k), wrap64 (b - a / 2 ^ k), wrap64 (c + angsL.getD k 0)) from by rw [runTo, HR.out]; exact if_neg hc)
        go_wp2
        go_quiet (fail)
        go_wp2
        go_roundw
        case rel => exact ⟨k + 1, _, _, _, by omega, by go_num, rfl, blk_put (blk_put C6.out 0 _ rfl) 1 _ rfl, (Below.heap_setCell _ _ _ _ N46).trans ((Below.heap_setCell _ _ _ _ N46).trans C4.out), HN.out, ((pw_below_drewN HBW.out nq).setCell (p := ⟨g6, 0, none⟩) L6 _).setCell (p := ⟨g6, 1, none⟩) L6 _⟩
        case measure => simp [intOf]; omega
    · obtain rfl : k = 45 := by omega
      go_wp2_with (first
        | ((with_reducible refine gate_dst (N := 53) rfl ?_); refine wpList_load_row rfl 37 _ rfl g6 rfl 37 #[.int .i64 a, .int .i64 b] (0, 0) _ C6.out Try.underlying37 rfl (size37 _ _) ?_)
        | ((with_reducible refine gate_store (t := 37) (p := 4) rfl ?_); refine row_event rfl 37 _ _ rfl g4 #[.int .i64 a, .int .i64 b] rfl rfl 37 #[.int .i64 0, .int .i64 0] C4.out (size37 _ _) rfl (one37 _ _) ?_; intro W7 hq hoth hbel; have B7 := Lib.hid hq; have HB7 := Lib.hid hbel; clear hq hoth hbel))
      refine bodyPost_ret (results_ct rfl _ _ g4 37 #[.int .i64 a, .int .i64 b] (0, 0) _ rfl B7.out Try.underlying37 rfl (size37 _ _)) rfl ?_
      rw [HR.out]
      exact ⟨rfl, HB7.out _ _ LG4 HBW.out⟩
end Go.Proofs.Ytghajjjdfhcljaa.P
