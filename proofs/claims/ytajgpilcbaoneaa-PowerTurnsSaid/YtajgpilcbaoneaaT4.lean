/- Turned numbers and conjugates, the greatest of a row: the walks. -/
import Derived.Test.YtajgpilcbaoneaaT2
namespace Go.Proofs.Ytajgpilcbaoneaa.P
open Go.RowKit Go.Proofs.YtajgpilcbaoneaaW.PrintWords Go.Proofs.YtajgpilcbaoneaaW.PrintLast Go.Proofs.YtajgpilcbaoneaaW.PrintMore
attribute [local go_sem] max2_int min2_int max_two min_two
set_option linter.unusedVariables false
set_option linter.unusedSimpArgs false
/-- Are a number's parts in the wide range? -/
def wideB (x : S45) : Bool := decide (x.f0 ≤ 2305843009213693952 ∧ x.f1 ≤ 2305843009213693952 ∧ -2305843009213693952 ≤ x.f0 ∧ -2305843009213693952 ≤ x.f1)
theorem within_wide (x : S45) : cx_within.f 3 2305843009213693952 [x] = some (wideB x) := by
  have e : rd_T45 [x] 0 = x := rfl
  have hm : wrap64 (-2305843009213693952) = -2305843009213693952 := by decide +kernel
  have h1 : wrap64 (0 + 1) = 1 := by decide +kernel
  unfold cx_within.f
  simp only [cx_within.l0]
  rw [if_pos (by simp), if_pos (by decide), if_pos (by simp), e, hm, h1]
  unfold mx mn wideB
  by_cases c1 : (if x.f0 < x.f1 then x.f1 else x.f0) > 2305843009213693952
  · rw [if_pos c1]
    refine congrArg some (decide_eq_false ?_).symm
    split at c1 <;> omega
  · rw [if_neg c1]
    by_cases c2 : (if x.f1 < x.f0 then x.f1 else x.f0) < -2305843009213693952
    · rw [if_pos c2]
      refine congrArg some (decide_eq_false ?_).symm
      split at c2 <;> omega
    · rw [if_neg c2, if_neg (by simp)]
      refine congrArg some (decide_eq_true ?_).symm
      split at c1 <;> split at c2 <;> omega
set_option maxRecDepth 100000 in
set_option maxHeartbeats 4000000 in
theorem conj1_any (B : Nat) (x : S45) (w : World) (hb : w.heap[B]? = some (.cells #[.int .i64 x.f0, .int .i64 x.f1] 45 (0, 0))) :
    Calls Try.prog 48 #[.pointer (some ⟨B, 0, none⟩)] w fun e w' => e = .returned (.agg #[.int .i64 x.f0, .int .i64 (wrap64 (-x.f1))]) ∧ Below w.heap.size w w' := by
  have HB := Lib.hid hb
  clear hb
  go_enter Try.func48, Try.ntmps48
  go_wp2_with (first
    | ((with_reducible refine gate_dst (N := 1) rfl ?_); refine box_event ?hg (N := 1) ?hd (cs := #[.int .i64 0, .int .i64 0]) (t := 45) ?hr ?_; (case hd => rfl); (case hg => rfl); (case hr => rfl); intro g1 hg W0 hbox hbl; have B0 := Lib.hid hbox; have HB0 := Lib.hid hbl; have L1 : w.heap.size ≤ g1 := (by rw [hg]; exact Nat.le_refl _); have k0 : W0.cell? ⟨B, 0, none⟩ = some (.int .i64 x.f0) := (blk_cell (blk_below HB.out hbl) 0).trans rfl; have k1 : W0.cell? ⟨B, 1, none⟩ = some (.int .i64 x.f1) := (blk_cell (blk_below HB.out hbl) 1).trans rfl; clear hbox hbl hg)
    | ((with_reducible refine gate_store (t := 45) (p := 1) rfl ?_); refine row_event rfl 45 _ _ rfl g1 #[.int .i64 x.f0, .int .i64 (wrap64 (-x.f1))] rfl rfl 45 #[.int .i64 0, .int .i64 0] B0.out (size45 _ _) rfl (one45 _ _) ?_; intro W7 hq hoth hbel; have B7 := Lib.hid hq; have HB7 := Lib.hid hbel; clear hq hoth hbel))
  refine bodyPost_ret (results_cell_row rfl _ _ g1 45 #[.int .i64 x.f0, .int .i64 (wrap64 (-x.f1))] (0, 0) _ rfl B7.out Try.underlying45 rfl (size45 _ _)) rfl ?_
  exact ⟨rfl, HB7.out _ _ L1 HB0.out⟩
/-- A number turned so many times. -/
def turnTo (a b : Int) : Nat → Int × Int
  | 0 => (a, b)
  | k + 1 => (wrap64 (-(turnTo a b k).2), (turnTo a b k).1)
/-- How many turns are made. -/
def turnsN (n : Int) : Nat := (Go.bits .and .i64 n 3).toNat
theorem and3 (n : Int) : 0 ≤ Go.bits .and .i64 n 3 ∧ Go.bits .and .i64 n 3 ≤ 3 := by
  have e : Go.bits .and .i64 n 3 = IntKind.i64.wrap (((BitVec.ofInt 64 n).toNat &&& 3 : Nat) : Int) := rfl
  have h := Nat.and_le_right (n := (BitVec.ofInt 64 n).toNat) (m := 3)
  rw [e, i64_w]
  generalize (BitVec.ofInt 64 n).toNat &&& 3 = q at *
  unfold wrap64
  omega
set_option maxRecDepth 100000 in
set_option maxHeartbeats 4000000 in
theorem turn1_any (Bn B : Nat) (n : Int) (x : S45) (w w0 : World) (hn : w.heap[Bn]? = some (.cells #[.int .i64 n] 3 (0, 0))) (hb : w.heap[B]? = some (.cells #[.int .i64 x.f0, .int .i64 x.f1] 45 (0, 0))) (hB : w0.heap.size ≤ B) (hw : Below w0.heap.size w0 w) :
    Calls Try.prog 47 #[.pointer (some ⟨Bn, 0, none⟩), .pointer (some ⟨B, 0, none⟩)] w fun e w' => e = .returned (.agg #[.int .i64 (turnTo x.f0 x.f1 (turnsN n)).1, .int .i64 (turnTo x.f0 x.f1 (turnsN n)).2]) ∧ Below w0.heap.size w0 w' ∧ ∀ k, k < w.heap.size → k ≠ B → w'.heap[k]? = w.heap[k]? := by
  have HN := Lib.hid hn
  have HX := Lib.hid hb
  have HW := Lib.hid hw
  clear hn hb hw
  have h3 := and3 n
  have HT := Lib.hid (show (turnsN n : Int) = Go.bits .and .i64 n 3 by unfold turnsN; omega)
  have hT3 : turnsN n ≤ 3 := by unfold turnsN; omega
  go_enter Try.func47, Try.ntmps47
  go_wp2_with (first
    | ((with_reducible refine gate_dst (N := 2) rfl ?_); refine box_event ?hg (N := 2) ?hd (cs := #[.int .i64 0, .int .i64 0]) (t := 45) ?hr ?_; (case hd => rfl); (case hg => rfl); (case hr => rfl); intro g1 hg W0 hbox hbl; have B0 := Lib.hid hbox; have HB0 := Lib.hid hbl; have L1 : w.heap.size ≤ g1 := (by rw [hg]; exact Nat.le_refl _); have k0 : W0.cell? ⟨Bn, 0, none⟩ = some (.int .i64 n) := (blk_cell (blk_below HN.out hbl) 0).trans rfl; have HX1 := Lib.hid (blk_below HX.out hbl); clear hbox hbl hg))
  generalize Go.bits .and .i64 n 3 = q at *
  generalize hK : turnsN n = K at *
  have hK4 : (K : Int) ≤ 3 := by omega
  have LB : w.heap.size ≤ w0.heap.size ∨ w0.heap.size ≤ w.heap.size := Nat.le_total _ _
  have hsz := HW.out.size
  have NB : g1 ≠ B := by have := blk_lt HX.out; omega
  go_loopw [5] (fun s5 wr => ∃ k : Nat, k ≤ K ∧ s5 = .int .i64 k ∧ wr.heap[B]? = some (.cells #[.int .i64 (turnTo x.f0 x.f1 k).1, .int .i64 (turnTo x.f0 x.f1 k).2] 45 (0, 0)) ∧ wr.heap[g1]? = some (.cells #[.int .i64 0, .int .i64 0] 45 (0, 0)) ∧ Below w0.heap.size w0 wr ∧ (∀ j, j < w.heap.size → j ≠ B → wr.heap[j]? = w.heap[j]?)) (fun i _ => K - (intOf i).toNat)
  case atStart => exact ⟨0, by omega, rfl, HX1.out, B0.out, HW.out.trans (HB0.out.mono hsz), fun j hj _ => HB0.out.block j hj⟩
  case round =>
    obtain ⟨k, hk, rfl, hBk, hgk, hbw, hkeep⟩ := hrel
    have c0 : wr.cell? ⟨B, 0, none⟩ = some (.int .i64 (turnTo x.f0 x.f1 k).1) := (blk_cell hBk 0).trans rfl
    have c1 : wr.cell? ⟨B, 1, none⟩ = some (.int .i64 (turnTo x.f0 x.f1 k).2) := (blk_cell hBk 1).trans rfl
    have f0 := blk_frozen hBk 0
    have f1 := blk_frozen hBk 1
    have HBK := Lib.hid hBk
    have HGK := Lib.hid hgk
    have HBW := Lib.hid hbw
    have HKP := Lib.hid hkeep
    clear hBk hgk hbw hkeep
    have HQ := HT.out
    clear HT
    by_cases hlt : k < K
    · have d1 : decide ((k : Int) < q) = true := decide_eq_true (by omega)
      have hTS := Lib.hid (show turnTo x.f0 x.f1 (k + 1) = (wrap64 (-(turnTo x.f0 x.f1 k).2), (turnTo x.f0 x.f1 k).1) from rfl)
      clear HQ
      go_wp2
      go_roundw
      case rel => exact ⟨k + 1, by omega, by go_num, by rw [hTS.out]; exact blk_put (blk_put HBK.out 0 _ rfl) 1 _ rfl, (Below.heap_setCell _ _ _ _ NB).trans ((Below.heap_setCell _ _ _ _ NB).trans HGK.out), (HBW.out.setCell (p := ⟨B, 0, none⟩) hB _).setCell (p := ⟨B, 1, none⟩) hB _, fun j hj hne => (Below.heap_setCell _ _ _ _ hne).trans ((Below.heap_setCell _ _ _ _ hne).trans (HKP.out j hj hne))⟩
      case measure => simp [intOf]; omega
    · obtain rfl : k = K := by omega
      have d1 : decide ((k : Int) < q) = false := decide_eq_false (by omega)
      clear HQ
      go_wp2_with (first
        | ((with_reducible refine gate_dst (N := 14) rfl ?_); refine wpList_load_row rfl 45 _ rfl B rfl 45 #[.int .i64 (turnTo x.f0 x.f1 k).1, .int .i64 (turnTo x.f0 x.f1 k).2] (0, 0) _ HBK.out Try.underlying45 rfl (size45 _ _) ?_)
        | ((with_reducible refine gate_store (t := 45) (p := 2) rfl ?_); refine row_event rfl 45 _ _ rfl g1 #[.int .i64 (turnTo x.f0 x.f1 k).1, .int .i64 (turnTo x.f0 x.f1 k).2] rfl rfl 45 #[.int .i64 0, .int .i64 0] HGK.out (size45 _ _) rfl (one45 _ _) ?_; intro W7 hq hoth hbel; have B7 := Lib.hid hq; have HO7 := Lib.hid hoth; have HB7 := Lib.hid hbel; clear hq hoth hbel))
      refine bodyPost_ret (results_cell_row rfl _ _ g1 45 #[.int .i64 (turnTo x.f0 x.f1 k).1, .int .i64 (turnTo x.f0 x.f1 k).2] (0, 0) _ rfl B7.out Try.underlying45 rfl (size45 _ _)) rfl ?_
      have HKK := hK
      exact ⟨by rw [HKK], HB7.out _ _ (by omega) HBW.out, fun j hj hne => (HO7.out j (by omega)).trans (HKP.out j hj hne)⟩
set_option maxRecDepth 100000 in
set_option maxHeartbeats 4000000 in
theorem madeC_no (F : Value) (w : World) :
    Calls Try.prog 45 #[.bool false, F] w fun e w' => e = .returned (.tuple #[.agg #[.int .i64 0, .int .i64 0], .int .i64 2]) ∧ Below w.heap.size w w' := by
  go_enter Try.func45, Try.ntmps45
  go_wp2_with (first
    | ((with_reducible refine gate_dst (N := 4) rfl ?_); refine box_event ?hg (N := 4) ?hd (cs := #[.int .i64 0, .int .i64 0]) (t := 45) ?hr ?_; (case hd => rfl); (case hg => rfl); (case hr => first | (go_simp; done) | (go_simp; rfl)); intro g4 hg W4 hbox hbl; have B4 := Lib.hid hbox; have HB4 := Lib.hid hbl; have L4 : w.heap.size ≤ g4 := (by rw [hg]; exact Nat.le_refl _); clear hbox hbl hg)
    | ((with_reducible refine gate_dst (N := 6) rfl ?_); refine box_event ?hg (N := 6) ?hd (cs := #[.int .i64 0, .int .i64 0]) (t := 45) ?hr ?_; (case hd => rfl); (case hg => rfl); (case hr => first | (go_simp; done) | (go_simp; rfl)); intro g6 hg W6 hbox hbl; have B6 := Lib.hid hbox; have B46 := Lib.hid (blk_below B4.out hbl); have HB6 := Lib.hid (below_step HB4.out hbl); clear hbox hbl hg)
    | ((with_reducible refine gate_dst (N := 9) rfl ?_); refine wpList_load_row rfl 45 _ rfl g6 rfl 45 #[.int .i64 0, .int .i64 0] (0, 0) _ B6.out Try.underlying45 rfl (size45 _ _) ?_)
    | ((with_reducible refine gate_store (t := 45) (p := 4) rfl ?_); refine row_event rfl 45 _ _ rfl g4 #[.int .i64 0, .int .i64 0] rfl rfl 45 #[.int .i64 0, .int .i64 0] B46.out (size45 _ _) rfl (one45 _ _) ?_; intro W7 hq hoth hbel; have B7 := Lib.hid hq; have HB7 := Lib.hid hbel; clear hq hoth hbel))
  refine bodyPost_ret (results_ct rfl _ _ g4 45 #[.int .i64 0, .int .i64 0] (0, 0) _ rfl B7.out Try.underlying45 rfl (size45 _ _)) rfl ?_
  exact ⟨rfl, HB7.out _ _ L4 HB6.out⟩
set_option maxRecDepth 100000 in
set_option maxHeartbeats 4000000 in
theorem madeC_conj (B : Nat) (x : S45) (w : World) (hb : w.heap[B]? = some (.cells #[.int .i64 x.f0, .int .i64 x.f1] 45 (0, 0))) :
    Calls Try.prog 45 #[.bool true, .func (.func 48) #[] #[.pointer (some ⟨B, 0, none⟩)]] w fun e w' => e = .returned (.tuple #[.agg #[.int .i64 x.f0, .int .i64 (wrap64 (-x.f1))], .int .i64 0]) ∧ Below w.heap.size w w' := by
  have HX := Lib.hid hb
  clear hb
  go_enter Try.func45, Try.ntmps45
  go_wp2_with (first
    | ((with_reducible refine gate_dst (N := 4) rfl ?_); refine box_event ?hg (N := 4) ?hd (cs := #[.int .i64 0, .int .i64 0]) (t := 45) ?hr ?_; (case hd => rfl); (case hg => rfl); (case hr => first | (go_simp; done) | (go_simp; rfl)); intro g4 hg W4 hbox hbl; have B4 := Lib.hid hbox; have HB4 := Lib.hid hbl; have L4 : w.heap.size ≤ g4 := (by rw [hg]; exact Nat.le_refl _); clear hbox hbl hg)
    | (go_at_call 48; refine (conj1_any B x _ (blk_below HX.out HB4.out)).mono ?_; rintro e W5 ⟨rfl, hb⟩; have B5 := Lib.hid (blk_below B4.out hb); have HB5 := Lib.hid (below_step HB4.out hb); clear hb)
    | ((with_reducible refine gate_store (t := 45) (p := 4) rfl ?_); refine row_event rfl 45 _ _ rfl g4 #[.int .i64 x.f0, .int .i64 (wrap64 (-x.f1))] rfl rfl 45 #[.int .i64 0, .int .i64 0] B5.out (size45 _ _) rfl (one45 _ _) ?_; intro W7 hq hoth hbel; have B7 := Lib.hid hq; have HB7 := Lib.hid hbel; clear hq hoth hbel))
  refine bodyPost_ret (results_ct rfl _ _ g4 45 #[.int .i64 x.f0, .int .i64 (wrap64 (-x.f1))] (0, 0) _ rfl B7.out Try.underlying45 rfl (size45 _ _)) rfl ?_
  exact ⟨rfl, HB7.out _ _ L4 HB5.out⟩
set_option maxRecDepth 100000 in
set_option maxHeartbeats 4000000 in
theorem madeC_turn (Bn B : Nat) (n : Int) (x : S45) (w w0 : World) (hn : w.heap[Bn]? = some (.cells #[.int .i64 n] 3 (0, 0))) (hb : w.heap[B]? = some (.cells #[.int .i64 x.f0, .int .i64 x.f1] 45 (0, 0))) (hB : w0.heap.size ≤ B) (hw : Below w0.heap.size w0 w) :
    Calls Try.prog 45 #[.bool true, .func (.func 47) #[] #[.pointer (some ⟨Bn, 0, none⟩), .pointer (some ⟨B, 0, none⟩)]] w fun e w' => e = .returned (.tuple #[.agg #[.int .i64 (turnTo x.f0 x.f1 (turnsN n)).1, .int .i64 (turnTo x.f0 x.f1 (turnsN n)).2], .int .i64 0]) ∧ Below w0.heap.size w0 w' ∧ ∀ k, k < w.heap.size → k ≠ B → w'.heap[k]? = w.heap[k]? := by
  have HX := Lib.hid hb
  have HN := Lib.hid hn
  have HW := Lib.hid hw
  have hsz := hw.size
  have hBl := blk_lt hb
  clear hb hn hw
  generalize hT : turnTo x.f0 x.f1 (turnsN n) = T at *
  have HTT := Lib.hid hT
  clear hT
  go_enter Try.func45, Try.ntmps45
  go_wp2_with (first
    | ((with_reducible refine gate_dst (N := 4) rfl ?_); refine box_event ?hg (N := 4) ?hd (cs := #[.int .i64 0, .int .i64 0]) (t := 45) ?hr ?_; (case hd => rfl); (case hg => rfl); (case hr => first | (go_simp; done) | (go_simp; rfl)); intro g4 hg W4 hbox hbl; have B4 := Lib.hid hbox; have HB4 := Lib.hid hbl; have L4 : w.heap.size ≤ g4 := (by rw [hg]; exact Nat.le_refl _); clear hbox hbl hg)
    | (go_at_call 47; refine (turn1_any Bn B n x _ w0 (blk_below HN.out HB4.out) (blk_below HX.out HB4.out) hB (HW.out.trans (HB4.out.mono hsz))).mono ?_; rw [HTT.out]; rintro e W5 ⟨rfl, hb, hk⟩; have B5 := Lib.hid ((hk g4 (blk_lt B4.out) (by omega)).trans B4.out); have HB5 := Lib.hid hb; have HK5 := Lib.hid (fun k hk1 hk2 => (hk k (Nat.lt_of_lt_of_le hk1 HB4.out.size) hk2).trans (HB4.out.block k hk1)); clear hb hk)
    | ((with_reducible refine gate_store (t := 45) (p := 4) rfl ?_); refine row_event rfl 45 _ _ rfl g4 #[.int .i64 T.1, .int .i64 T.2] rfl rfl 45 #[.int .i64 0, .int .i64 0] B5.out (size45 _ _) rfl (one45 _ _) ?_; intro W7 hq hoth hbel; have B7 := Lib.hid hq; have HO7 := Lib.hid hoth; have HB7 := Lib.hid hbel; clear hq hoth hbel))
  refine bodyPost_ret (results_ct rfl _ _ g4 45 #[.int .i64 T.1, .int .i64 T.2] (0, 0) _ rfl B7.out Try.underlying45 rfl (size45 _ _)) rfl ?_
  exact ⟨rfl, HB7.out _ _ (by omega) HB5.out, fun k hk1 hk2 => (HO7.out k (by omega)).trans (HK5.out k hk1 hk2)⟩
set_option maxRecDepth 100000 in
set_option maxHeartbeats 4000000 in
theorem Conj_yes (x : S45) (hn : wideB x = true) (w : World) :
    Calls Try.prog 33 #[.agg #[.int .i64 x.f0, .int .i64 x.f1]] w fun e w' => e = .returned (.tuple #[.agg #[.int .i64 x.f0, .int .i64 (wrap64 (-x.f1))], .int .i64 0]) ∧ Below w.heap.size w w' := by
  have HW := Lib.hid (hn ▸ within_wide x)
  clear hn
  go_enter Try.func33, Try.ntmps33
  go_wp2_with (first
    | ((with_reducible refine gate_dst (N := 1) rfl ?_); refine box_event ?hg (N := 1) ?hd (cs := #[.int .i64 x.f0, .int .i64 x.f1]) (t := 45) ?hr ?_; (case hd => rfl); (case hg => rfl); (case hr => first | (go_simp; done) | (go_simp; rfl)); intro g1 hg W1 hbox hbl; have B1 := Lib.hid hbox; have HB1 := Lib.hid hbl; clear hbox hbl hg)
    | ((with_reducible refine gate_dst (N := 2) rfl ?_); refine box_event ?hg (N := 2) ?hd (cs := #[.int .i64 0, .int .i64 0]) (t := 45) ?hr ?_; (case hd => rfl); (case hg => rfl); (case hr => first | (go_simp; done) | (go_simp; rfl)); intro g2 hg W2 hbox hbl; have B2 := Lib.hid hbox; have B21 := Lib.hid (blk_below B1.out hbl); have L2 : w.heap.size ≤ g2 := (by rw [hg]; exact HB1.out.size); have HB2 := Lib.hid (below_step HB1.out hbl); clear hbox hbl hg)
    | ((with_reducible refine gate_dst (N := 4) rfl ?_); refine wpList_load_row rfl 45 _ rfl g1 rfl 45 #[.int .i64 x.f0, .int .i64 x.f1] (0, 0) _ B21.out Try.underlying45 rfl (size45 _ _) ?_)
    | (go_at_call 46; refine (cx_within.calls 3 2305843009213693952 (some ⟨W2.heap.size, 0, none⟩) 1 [x] true _ (C_one (blk_new W2 _)) (Nat.le_refl 1) HW.out).mono ?_; rintro e W3 ⟨rfl, hb⟩; have B31 := Lib.hid (blk_below (blk_alloc B21.out _) hb); have B32 := Lib.hid (blk_below (blk_alloc B2.out _) hb); have HB3 := Lib.hid (below_step (below_alloc HB2.out _) hb); clear hb)
    | (go_at_call 45; refine (madeC_conj g1 x _ B31.out).mono ?_; rintro e W4 ⟨rfl, hb⟩; have B42 := Lib.hid (blk_below B32.out hb); have HB4 := Lib.hid (below_step HB3.out hb); clear hb)
    | ((with_reducible refine gate_store (t := 45) (p := 2) rfl ?_); refine row_event rfl 45 _ _ rfl g2 #[.int .i64 x.f0, .int .i64 (wrap64 (-x.f1))] rfl rfl 45 #[.int .i64 0, .int .i64 0] B42.out (size45 _ _) rfl (one45 _ _) ?_; intro W7 hq hoth hbel; have B7 := Lib.hid hq; have HB7 := Lib.hid hbel; clear hq hoth hbel))
  refine bodyPost_ret (results_ct rfl _ _ g2 45 #[.int .i64 x.f0, .int .i64 (wrap64 (-x.f1))] (0, 0) _ rfl B7.out Try.underlying45 rfl (size45 _ _)) rfl ?_
  exact ⟨rfl, HB7.out _ _ L2 HB4.out⟩
set_option maxRecDepth 100000 in
set_option maxHeartbeats 4000000 in
theorem Conj_no (x : S45) (hn : wideB x = false) (w : World) :
    Calls Try.prog 33 #[.agg #[.int .i64 x.f0, .int .i64 x.f1]] w fun e w' => e = .returned (.tuple #[.agg #[.int .i64 0, .int .i64 0], .int .i64 2]) ∧ Below w.heap.size w w' := by
  have HW := Lib.hid (hn ▸ within_wide x)
  clear hn
  go_enter Try.func33, Try.ntmps33
  go_wp2_with (first
    | ((with_reducible refine gate_dst (N := 1) rfl ?_); refine box_event ?hg (N := 1) ?hd (cs := #[.int .i64 x.f0, .int .i64 x.f1]) (t := 45) ?hr ?_; (case hd => rfl); (case hg => rfl); (case hr => first | (go_simp; done) | (go_simp; rfl)); intro g1 hg W1 hbox hbl; have B1 := Lib.hid hbox; have HB1 := Lib.hid hbl; clear hbox hbl hg)
    | ((with_reducible refine gate_dst (N := 2) rfl ?_); refine box_event ?hg (N := 2) ?hd (cs := #[.int .i64 0, .int .i64 0]) (t := 45) ?hr ?_; (case hd => rfl); (case hg => rfl); (case hr => first | (go_simp; done) | (go_simp; rfl)); intro g2 hg W2 hbox hbl; have B2 := Lib.hid hbox; have B21 := Lib.hid (blk_below B1.out hbl); have L2 : w.heap.size ≤ g2 := (by rw [hg]; exact HB1.out.size); have HB2 := Lib.hid (below_step HB1.out hbl); clear hbox hbl hg)
    | ((with_reducible refine gate_dst (N := 4) rfl ?_); refine wpList_load_row rfl 45 _ rfl g1 rfl 45 #[.int .i64 x.f0, .int .i64 x.f1] (0, 0) _ B21.out Try.underlying45 rfl (size45 _ _) ?_)
    | (go_at_call 46; refine (cx_within.calls 3 2305843009213693952 (some ⟨W2.heap.size, 0, none⟩) 1 [x] false _ (C_one (blk_new W2 _)) (Nat.le_refl 1) HW.out).mono ?_; rintro e W3 ⟨rfl, hb⟩; have B31 := Lib.hid (blk_below (blk_alloc B21.out _) hb); have B32 := Lib.hid (blk_below (blk_alloc B2.out _) hb); have HB3 := Lib.hid (below_step (below_alloc HB2.out _) hb); clear hb)
    | (go_at_call 45; refine (madeC_no _ _).mono ?_; rintro e W4 ⟨rfl, hb⟩; have B42 := Lib.hid (blk_below B32.out hb); have HB4 := Lib.hid (below_step HB3.out hb); clear hb)
    | ((with_reducible refine gate_store (t := 45) (p := 2) rfl ?_); refine row_event rfl 45 _ _ rfl g2 #[.int .i64 0, .int .i64 0] rfl rfl 45 #[.int .i64 0, .int .i64 0] B42.out (size45 _ _) rfl (one45 _ _) ?_; intro W7 hq hoth hbel; have B7 := Lib.hid hq; have HB7 := Lib.hid hbel; clear hq hoth hbel))
  refine bodyPost_ret (results_ct rfl _ _ g2 45 #[.int .i64 0, .int .i64 0] (0, 0) _ rfl B7.out Try.underlying45 rfl (size45 _ _)) rfl ?_
  exact ⟨rfl, HB7.out _ _ L2 HB4.out⟩
set_option maxRecDepth 100000 in
set_option maxHeartbeats 4000000 in
theorem Turn_yes (x : S45) (n : Int) (hn : wideB x = true) (w : World) :
    Calls Try.prog 32 #[.agg #[.int .i64 x.f0, .int .i64 x.f1], .int .i64 n] w fun e w' => e = .returned (.tuple #[.agg #[.int .i64 (turnTo x.f0 x.f1 (turnsN n)).1, .int .i64 (turnTo x.f0 x.f1 (turnsN n)).2], .int .i64 0]) ∧ Below w.heap.size w w' := by
  have HW := Lib.hid (hn ▸ within_wide x)
  clear hn
  generalize hT : turnTo x.f0 x.f1 (turnsN n) = T at *
  have HTT := Lib.hid hT
  clear hT
  go_enter Try.func32, Try.ntmps32
  go_wp2_with (first
    | ((with_reducible refine gate_dst (N := 2) rfl ?_); refine box_event ?hg (N := 2) ?hd (cs := #[.int .i64 x.f0, .int .i64 x.f1]) (t := 45) ?hr ?_; (case hd => rfl); (case hg => rfl); (case hr => first | (go_simp; done) | (go_simp; rfl)); intro g2 hg W1 hbox hbl; have B2 := Lib.hid hbox; have HB1 := Lib.hid hbl; have L2 : w.heap.size ≤ g2 := (by rw [hg]; exact Nat.le_refl _); clear hbox hbl hg)
    | ((with_reducible refine gate_dst (N := 3) rfl ?_); refine box_event ?hg (N := 3) ?hd (cs := #[.int .i64 n]) (t := 3) ?hr ?_; (case hd => rfl); (case hg => rfl); (case hr => first | (go_simp; done) | (go_simp; rfl)); intro g3 hg W2 hbox hbl; have B3 := Lib.hid hbox; have B21 := Lib.hid (blk_below B2.out hbl); have HB2 := Lib.hid (below_step HB1.out hbl); clear hbox hbl hg)
    | ((with_reducible refine gate_dst (N := 4) rfl ?_); refine box_event ?hg (N := 4) ?hd (cs := #[.int .i64 0, .int .i64 0]) (t := 45) ?hr ?_; (case hd => rfl); (case hg => rfl); (case hr => first | (go_simp; done) | (go_simp; rfl)); intro g4 hg W3 hbox hbl; have B4 := Lib.hid hbox; have B22 := Lib.hid (blk_below B21.out hbl); have B33 := Lib.hid (blk_below B3.out hbl); have N24 : g4 ≠ g2 := (by rw [hg]; exact Nat.ne_of_gt (blk_lt B21.out)); have L4 : w.heap.size ≤ g4 := (by rw [hg]; exact HB2.out.size); have HB3 := Lib.hid (below_step HB2.out hbl); clear hbox hbl hg)
    | ((with_reducible refine gate_dst (N := 6) rfl ?_); refine wpList_load_row rfl 45 _ rfl g2 rfl 45 #[.int .i64 x.f0, .int .i64 x.f1] (0, 0) _ B22.out Try.underlying45 rfl (size45 _ _) ?_)
    | (go_at_call 46; refine (cx_within.calls 3 2305843009213693952 (some ⟨W3.heap.size, 0, none⟩) 1 [x] true _ (C_one (blk_new W3 _)) (Nat.le_refl 1) HW.out).mono ?_; rintro e W5 ⟨rfl, hb⟩; have C2 := Lib.hid (blk_below (blk_alloc B22.out _) hb); have C3 := Lib.hid (blk_below (blk_alloc B33.out _) hb); have C4 := Lib.hid (blk_below (blk_alloc B4.out _) hb); have HB5 := Lib.hid (below_step (below_alloc HB3.out _) hb); clear hb)
    | (go_at_call 45; refine (madeC_turn g3 g2 n x _ w C3.out C2.out L2 HB5.out).mono ?_; rw [HTT.out]; rintro e W6 ⟨rfl, hb, hk⟩; have D4 := Lib.hid ((hk g4 (blk_lt C4.out) N24).trans C4.out); have HB6 := Lib.hid hb; clear hb hk)
    | ((with_reducible refine gate_store (t := 45) (p := 4) rfl ?_); refine row_event rfl 45 _ _ rfl g4 #[.int .i64 T.1, .int .i64 T.2] rfl rfl 45 #[.int .i64 0, .int .i64 0] D4.out (size45 _ _) rfl (one45 _ _) ?_; intro W7 hq hoth hbel; have B7 := Lib.hid hq; have HB7 := Lib.hid hbel; clear hq hoth hbel))
  refine bodyPost_ret (results_ct rfl _ _ g4 45 #[.int .i64 T.1, .int .i64 T.2] (0, 0) _ rfl B7.out Try.underlying45 rfl (size45 _ _)) rfl ?_
  exact ⟨rfl, HB7.out _ _ L4 HB6.out⟩
set_option maxRecDepth 100000 in
set_option maxHeartbeats 4000000 in
theorem Turn_no (x : S45) (n : Int) (hn : wideB x = false) (w : World) :
    Calls Try.prog 32 #[.agg #[.int .i64 x.f0, .int .i64 x.f1], .int .i64 n] w fun e w' => e = .returned (.tuple #[.agg #[.int .i64 0, .int .i64 0], .int .i64 2]) ∧ Below w.heap.size w w' := by
  have HW := Lib.hid (hn ▸ within_wide x)
  clear hn
  go_enter Try.func32, Try.ntmps32
  go_wp2_with (first
    | ((with_reducible refine gate_dst (N := 2) rfl ?_); refine box_event ?hg (N := 2) ?hd (cs := #[.int .i64 x.f0, .int .i64 x.f1]) (t := 45) ?hr ?_; (case hd => rfl); (case hg => rfl); (case hr => first | (go_simp; done) | (go_simp; rfl)); intro g2 hg W1 hbox hbl; have B2 := Lib.hid hbox; have HB1 := Lib.hid hbl; have L2 : w.heap.size ≤ g2 := (by rw [hg]; exact Nat.le_refl _); clear hbox hbl hg)
    | ((with_reducible refine gate_dst (N := 3) rfl ?_); refine box_event ?hg (N := 3) ?hd (cs := #[.int .i64 n]) (t := 3) ?hr ?_; (case hd => rfl); (case hg => rfl); (case hr => first | (go_simp; done) | (go_simp; rfl)); intro g3 hg W2 hbox hbl; have B3 := Lib.hid hbox; have B21 := Lib.hid (blk_below B2.out hbl); have HB2 := Lib.hid (below_step HB1.out hbl); clear hbox hbl hg)
    | ((with_reducible refine gate_dst (N := 4) rfl ?_); refine box_event ?hg (N := 4) ?hd (cs := #[.int .i64 0, .int .i64 0]) (t := 45) ?hr ?_; (case hd => rfl); (case hg => rfl); (case hr => first | (go_simp; done) | (go_simp; rfl)); intro g4 hg W3 hbox hbl; have B4 := Lib.hid hbox; have B22 := Lib.hid (blk_below B21.out hbl); have B33 := Lib.hid (blk_below B3.out hbl); have N24 : g4 ≠ g2 := (by rw [hg]; exact Nat.ne_of_gt (blk_lt B21.out)); have L4 : w.heap.size ≤ g4 := (by rw [hg]; exact HB2.out.size); have HB3 := Lib.hid (below_step HB2.out hbl); clear hbox hbl hg)
    | ((with_reducible refine gate_dst (N := 6) rfl ?_); refine wpList_load_row rfl 45 _ rfl g2 rfl 45 #[.int .i64 x.f0, .int .i64 x.f1] (0, 0) _ B22.out Try.underlying45 rfl (size45 _ _) ?_)
    | (go_at_call 46; refine (cx_within.calls 3 2305843009213693952 (some ⟨W3.heap.size, 0, none⟩) 1 [x] false _ (C_one (blk_new W3 _)) (Nat.le_refl 1) HW.out).mono ?_; rintro e W5 ⟨rfl, hb⟩; have C2 := Lib.hid (blk_below (blk_alloc B22.out _) hb); have C3 := Lib.hid (blk_below (blk_alloc B33.out _) hb); have C4 := Lib.hid (blk_below (blk_alloc B4.out _) hb); have HB5 := Lib.hid (below_step (below_alloc HB3.out _) hb); clear hb)
    | (go_at_call 45; refine (madeC_no _ _).mono ?_; rintro e W6 ⟨rfl, hb⟩; have D4 := Lib.hid (blk_below C4.out hb); have HB6 := Lib.hid (below_step HB5.out hb); clear hb)
    | ((with_reducible refine gate_store (t := 45) (p := 4) rfl ?_); refine row_event rfl 45 _ _ rfl g4 #[.int .i64 0, .int .i64 0] rfl rfl 45 #[.int .i64 0, .int .i64 0] D4.out (size45 _ _) rfl (one45 _ _) ?_; intro W7 hq hoth hbel; have B7 := Lib.hid hq; have HB7 := Lib.hid hbel; clear hq hoth hbel))
  refine bodyPost_ret (results_ct rfl _ _ g4 45 #[.int .i64 0, .int .i64 0] (0, 0) _ rfl B7.out Try.underlying45 rfl (size45 _ _)) rfl ?_
  exact ⟨rfl, HB7.out _ _ L4 HB6.out⟩

/-- The greatest of a row. -/
def maxTo (l : List Int) (k : Nat) : Int := (l.take k).foldl mx (l.getD 0 0)
theorem maxTo_succ (l : List Int) (k : Nat) (hk : k < l.length) : maxTo l (k + 1) = mx (maxTo l k) (l.getD k 0) := by
  unfold maxTo
  rw [List.take_succ_eq_append_getElem hk, List.foldl_append, show l.getD k 0 = l[k] from by rw [List.getD_eq_getElem?_getD, List.getElem?_eq_getElem hk]; rfl]
  rfl
set_option maxRecDepth 100000 in
set_option maxHeartbeats 4000000 in
theorem Max_any (A : Option Addr) (c : Nat) (l : List Int) (w : World) (hr : Kd.C (Kd.int .u64) w A l.length l) (hc : l.length ≤ c) (hl : 0 < l.length) :
    Calls Try.prog 42 #[.slice A l.length c] w fun e w' => e = .returned (.int .u64 (maxTo l l.length)) ∧ w = w' := by
  have hmax := hr.2.1
  unfold maxLen at hmax
  have cell : ∀ k, k < l.length → ∃ ad, A = some ad ∧ w.cell? (ad.add k) = some (.int .u64 (l.getD k 0)) := by
    intro k hk
    obtain ⟨ad, cs, e, _, hK, hc0⟩ := Kd.C_get hr (0 : Int) (k : Int) (by omega) (by omega)
    obtain rfl : cs = [.int .u64 (l.getD ((k : Int)).toNat 0)] := hK
    have := hc0 0 _ rfl
    refine ⟨ad, e, ?_⟩
    rw [Int.toNat_natCast] at this
    simpa [Kd.int, Kd.scalar] using this
  obtain ⟨ad, rfl, hz⟩ := cell 0 hl
  have HC := Lib.hid (fun k hk => (cell k hk : ∃ ad', some ad = some ad' ∧ w.cell? (ad'.add k) = some (.int .u64 (l.getD k 0))))
  clear cell hr
  have h1 : (1 : Int) ≤ l.length := by omega
  have HM1 := Lib.hid (show maxTo l 1 = l.getD 0 0 by rw [maxTo_succ l 0 hl]; show mx (maxTo l 0) _ = _; unfold maxTo mx; simp)
  have hz : w.cell? ad = some (.int .u64 (l.getD 0 0)) := hz
  go_enter Try.func42, Try.ntmps42
  go_wp2
  go_loopw [3, 4] (fun s3 s4 wr => ∃ k : Nat, 1 ≤ k ∧ k ≤ l.length ∧ s3 = .int .u64 (maxTo l k) ∧ s4 = .int .i64 k ∧ wr = w) (fun _ i _ => l.length - (intOf i).toNat)
  case atStart =>
    refine ⟨1, Nat.le_refl 1, hl, ?_, rfl, rfl⟩
    rw [HM1.out, List.getD_eq_getElem?_getD, List.getElem?_eq_getElem hl]
    rfl
  case round =>
    obtain ⟨k, hk1, hk, rfl, rfl, rfl⟩ := hrel
    by_cases hlt : k < l.length
    · obtain ⟨ad', e, hck⟩ := HC.out k hlt
      obtain rfl : ad = ad' := by simpa using e
      have HS := Lib.hid (maxTo_succ l k hlt)
      clear e
      generalize l.getD k 0 = y at *
      have d1 : decide ((k : Int) < (l.length : Int)) = true := decide_eq_true (by omega)
      by_cases hy : maxTo l k < y
      · have hyd : decide (maxTo l k < y) = true := decide_eq_true hy
        go_wp2
        go_roundw
        case rel => exact ⟨k + 1, by omega, by omega, by rw [HS.out]; simp [mx, hy], by go_num, trivial⟩
        case measure => simp [intOf]; omega
      · have hyd : decide (maxTo l k < y) = false := decide_eq_false hy
        go_wp2
        go_roundw
        case rel => exact ⟨k + 1, by omega, by omega, by rw [HS.out]; simp [mx, hy], by go_num, trivial⟩
        case measure => simp [intOf]; omega
    · obtain rfl : k = l.length := by omega
      go_wp2
      go_ret
      exact ⟨rfl, rfl⟩
end Go.Proofs.Ytajgpilcbaoneaa.P
