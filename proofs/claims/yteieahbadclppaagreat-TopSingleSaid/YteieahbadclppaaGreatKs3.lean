/- Part 3 of 10 of the proof: the texts that it reaches, one behind the other. No condition. -/
import Derived.Test.YteieahbadclppaaGreatKs2
import Derived.Great.BuildSlice
import Derived.Laws.CopyOwn
import Derived.Deep.QuietTactic
import Derived.BigQuiet
import Derived.Outline
import Derived.Lib.Hide
import Derived.Deep.RegionHeld3
namespace Go.Proofs.YteieahbadclppaaGreat.P
open Go.RowKit Go.Proofs.YteieahbadclppaaGreatW.PrintWords Go.Proofs.YteieahbadclppaaGreatW.PrintLast Go.Proofs.YteieahbadclppaaGreatW.PrintMore
attribute [local go_sem] max2_int min2_int max_two min_two
set_option linter.unusedVariables false
set_option linter.unusedSimpArgs false
section
variable {P : Program} {ops : Array Oper} {rest : List Oper} {o : Oper} {a : Act} {Q : Exit → Act → World → Prop}
theorem row_event {W : World} (hgd : o.guard = none) (ty : TypeId) (x y : Operand) (ho : o.op = .store ty x y)
  (g : Nat) (cells : Array Value) (hx : a.eval x = .pointer (some ⟨g, 0, none⟩)) (hy : a.eval y = .agg cells)
  (t : TypeId) (old : Array Value) (hg : W.heap[g]? = some (.cells old t (0, 0))) (hi : (P.info? ty).map (·.size) = some cells.size)
  (hold : old.size = cells.size) (h1 : cells.all (·.oneCell') = true)
  (h : ∀ w1, w1.heap[g]? = some (.cells cells t (0, 0)) → (∀ k, k ≠ g → w1.heap[k]? = W.heap[k]?) → (∀ B w0, B ≤ g → Below B w0 W → Below B w0 w1) → wpList P ops Q rest (a.put o.dst undef) w1) : wpList P ops Q (o :: rest) a W :=
 wpList_store_row hgd ty x y ho g cells hx hy t old hg hi hold h1 (h _ (setRow_heap W g old cells t (0, 0) hg) (fun k hk => setRow_other W g k cells hk) (fun B w0 hB hb => below_setRow hb hB cells))
end
theorem size38 (a b : Value) : (Tryz.prog.info? 38).map (·.size) = some (#[a, b] : Array Value).size := by kernel_rfl
theorem one38 (a b : Int) : (#[.int .i64 a, .int .i64 b] : Array Value).all (·.oneCell') = true := by simp [Value.oneCell']
theorem C_one {W : World} {B : Nat} {x : S38} (h : W.heap[B]? = some (.cells #[.int .i64 x.f0, .int .i64 x.f1] 38 (0, 0))) : Kd.C k38 W (some ⟨B, 0, none⟩) [x].length [x] := by
 refine ⟨rfl, (show 1 ≤ 9223372036854775807 by decide), fun _ => ?_⟩
 refine ⟨⟨B, 0, none⟩, rfl, fun j p hp => ?_⟩
 cases j with
 | zero =>
  obtain rfl := Option.some.inj hp
  refine ⟨_, rfl, k38_mk W _, fun i u hu => ?_⟩
  have hc := blk_cell h i
  have e : (Addr.mk B 0 none).add (0 * k38.sz + i) = ⟨B, i, none⟩ := by rw [Nat.zero_mul, Nat.zero_add]; unfold Addr.add; split <;> simp_all
  rw [e, hc, List.getElem?_toArray]
  exact hu
 | succ j => simp at hp
def wideB (x : S38) : Bool := decide (x.f0 ≤ 2305843009213693952 ∧ x.f1 ≤ 2305843009213693952 ∧ -2305843009213693952 ≤ x.f0 ∧ -2305843009213693952 ≤ x.f1)
theorem within_wide (x : S38) : cx_within.f 3 2305843009213693952 [x] = some (wideB x) := by
 have e : rd_T38 [x] 0 = x := rfl
 have hm : wrap64 (-2305843009213693952) = -2305843009213693952 := by decide +kernel
 have h1 : wrap64 (0 + 1) = 1 := by decide +kernel
 unfold cx_within.f
 simp only [cx_within.l0]
 rw [if_pos (by simp), if_pos (by decide), if_pos (by simp), e, hm, h1]
 unfold mx mn wideB
 by_cases c1 : (if x.f0 < x.f1 then x.f1 else x.f0) > 2305843009213693952
 ·rw [if_pos c1]
  refine congrArg some (decide_eq_false ?_).symm
  split at c1 <;> omega
 ·rw [if_neg c1]
  by_cases c2 : (if x.f1 < x.f0 then x.f1 else x.f0) < -2305843009213693952
  ·rw [if_pos c2]
   refine congrArg some (decide_eq_false ?_).symm
   split at c2 <;> omega
  ·rw [if_neg c2, if_neg (by simp)]
   refine congrArg some (decide_eq_true ?_).symm
   split at c1 <;> split at c2 <;> omega
set_option maxRecDepth 100000 in
set_option maxHeartbeats 4000000 in
theorem conj1_any (B : Nat) (x : S38) (w : World) (hb : w.heap[B]? = some (.cells #[.int .i64 x.f0, .int .i64 x.f1] 38 (0, 0))) :
  Calls Tryz.prog 95 #[.pointer (some ⟨B, 0, none⟩)] w fun e w' => e = .returned (.agg #[.int .i64 x.f0, .int .i64 (wrap64 (-x.f1))]) ∧ Below w.heap.size w w' := by
 have HB := Lib.hid hb
 clear hb
 go_enter Tryz.func95, Tryz.ntmps95
 go_wp2_with (first
  | ((with_reducible refine gate_dst (N := 1) rfl ?_); refine box_event ?hg (N := 1) ?hd (cs := #[.int .i64 0, .int .i64 0]) (t := 38) ?hr ?_; (case hd => rfl); (case hg => rfl); (case hr => rfl); intro g1 hg W0 hbox hbl; have B0 := Lib.hid hbox; have HB0 := Lib.hid hbl; have L1 : w.heap.size ≤ g1 := (by rw [hg]; exact Nat.le_refl _); have k0 : W0.cell? ⟨B, 0, none⟩ = some (.int .i64 x.f0) := (blk_cell (blk_below HB.out hbl) 0).trans rfl; have k1 : W0.cell? ⟨B, 1, none⟩ = some (.int .i64 x.f1) := (blk_cell (blk_below HB.out hbl) 1).trans rfl; clear hbox hbl hg)
  | ((with_reducible refine gate_store (t := 38) (p := 1) rfl ?_); refine row_event rfl 38 _ _ rfl g1 #[.int .i64 x.f0, .int .i64 (wrap64 (-x.f1))] rfl rfl 38 #[.int .i64 0, .int .i64 0] B0.out (size38 _ _) rfl (one38 _ _) ?_; intro W7 hq hoth hbel; have B7 := Lib.hid hq; have HB7 := Lib.hid hbel; clear hq hoth hbel))
 refine bodyPost_ret (results_cell_row rfl _ _ g1 38 #[.int .i64 x.f0, .int .i64 (wrap64 (-x.f1))] (0, 0) _ rfl B7.out Tryz.underlying38 rfl (size38 _ _)) rfl ?_
 exact ⟨rfl, HB7.out _ _ L1 HB0.out⟩
def turnTo (a b : Int) : Nat → Int × Int
 | 0 => (a, b)
 | k + 1 => (wrap64 (-(turnTo a b k).2), (turnTo a b k).1)
def turnsN (n : Int) : Nat := (Go.bits .and .i64 n 3).toNat
theorem and3 (n : Int) : 0 ≤ Go.bits .and .i64 n 3 ∧ Go.bits .and .i64 n 3 ≤ 3 := by
 have e : Go.bits .and .i64 n 3 = IntKind.i64.wrap (((BitVec.ofInt 64 n).toNat &&& 3 : Nat) : Int) := rfl
 have h := Nat.and_le_right (n := (BitVec.ofInt 64 n).toNat) (m := 3)
 rw [e, i64_w]
 generalize (BitVec.ofInt 64 n).toNat &&& 3 = q at *
 unfold wrap64
 omega
set_option maxRecDepth 100000 in
set_option maxHeartbeats 4000000 in
theorem turn1_any (Bn B : Nat) (n : Int) (x : S38) (w w0 : World) (hn : w.heap[Bn]? = some (.cells #[.int .i64 n] 3 (0, 0))) (hb : w.heap[B]? = some (.cells #[.int .i64 x.f0, .int .i64 x.f1] 38 (0, 0))) (hB : w0.heap.size ≤ B) (hw : Below w0.heap.size w0 w) :
  Calls Tryz.prog 109 #[.pointer (some ⟨Bn, 0, none⟩), .pointer (some ⟨B, 0, none⟩)] w fun e w' => e = .returned (.agg #[.int .i64 (turnTo x.f0 x.f1 (turnsN n)).1, .int .i64 (turnTo x.f0 x.f1 (turnsN n)).2]) ∧ Below w0.heap.size w0 w' ∧ ∀ k, k < w.heap.size → k ≠ B → w'.heap[k]? = w.heap[k]? := by
 have HN := Lib.hid hn
 have HX := Lib.hid hb
 have HW := Lib.hid hw
 clear hn hb hw
 have h3 := and3 n
 have HT := Lib.hid (show (turnsN n : Int) = Go.bits .and .i64 n 3 by unfold turnsN; omega)
 have hT3 : turnsN n ≤ 3 := by unfold turnsN; omega
 go_enter Tryz.func109, Tryz.ntmps109
 go_wp2_with (first
  | ((with_reducible refine gate_dst (N := 2) rfl ?_); refine box_event ?hg (N := 2) ?hd (cs := #[.int .i64 0, .int .i64 0]) (t := 38) ?hr ?_; (case hd => rfl); (case hg => rfl); (case hr => rfl); intro g1 hg W0 hbox hbl; have B0 := Lib.hid hbox; have HB0 := Lib.hid hbl; have L1 : w.heap.size ≤ g1 := (by rw [hg]; exact Nat.le_refl _); have k0 : W0.cell? ⟨Bn, 0, none⟩ = some (.int .i64 n) := (blk_cell (blk_below HN.out hbl) 0).trans rfl; have HX1 := Lib.hid (blk_below HX.out hbl); clear hbox hbl hg))
 generalize Go.bits .and .i64 n 3 = q at *
 generalize hK : turnsN n = K at *
 have hK4 : (K : Int) ≤ 3 := by omega
 have LB : w.heap.size ≤ w0.heap.size ∨ w0.heap.size ≤ w.heap.size := Nat.le_total _ _
 have hsz := HW.out.size
 have NB : g1 ≠ B := by have := blk_lt HX.out; omega
 go_loopw [5] (fun s5 wr => ∃ k : Nat, k ≤ K ∧ s5 = .int .i64 k ∧ wr.heap[B]? = some (.cells #[.int .i64 (turnTo x.f0 x.f1 k).1, .int .i64 (turnTo x.f0 x.f1 k).2] 38 (0, 0)) ∧ wr.heap[g1]? = some (.cells #[.int .i64 0, .int .i64 0] 38 (0, 0)) ∧ Below w0.heap.size w0 wr ∧ (∀ j, j < w.heap.size → j ≠ B → wr.heap[j]? = w.heap[j]?)) (fun i _ => K - (intOf i).toNat)
 case atStart => exact ⟨0, by omega, rfl, HX1.out, B0.out, HW.out.trans (HB0.out.mono hsz), fun j hj _ => HB0.out.block j hj⟩
 case round =>
  obtain ⟨k, hk, rfl, hBk, hgk, hbw, hkeep⟩ := hrel
  have c0 : wr.cell? ⟨B, 0, none⟩ = some (.int .i64 (turnTo x.f0 x.f1 k).1) := (blk_cell hBk 0).trans rfl
  have c1 : wr.cell? ⟨B, 1, none⟩ = some (.int .i64 (turnTo x.f0 x.f1 k).2) := (blk_cell hBk 1).trans rfl
  have f0 := blk_frozen hBk 0
  have f1 := blk_frozen hBk 1
  have HBK := Lib.hid hBk
  have HGK := Lib.hid hgk
  have HBW := Lib.hid hbw
  have HKP := Lib.hid hkeep
  clear hBk hgk hbw hkeep
  have HQ := HT.out
  clear HT
  by_cases hlt : k < K
  ·have d1 : decide ((k : Int) < q) = true := decide_eq_true (by omega)
   have hTS := Lib.hid (show turnTo x.f0 x.f1 (k + 1) = (wrap64 (-(turnTo x.f0 x.f1 k).2), (turnTo x.f0 x.f1 k).1) from rfl)
   clear HQ
   go_wp2
   go_roundw
   case rel => exact ⟨k + 1, by omega, by go_num, by rw [hTS.out]; exact blk_put (blk_put HBK.out 0 _ rfl) 1 _ rfl, (Below.heap_setCell _ _ _ _ NB).trans ((Below.heap_setCell _ _ _ _ NB).trans HGK.out), (HBW.out.setCell (p := ⟨B, 0, none⟩) hB _).setCell (p := ⟨B, 1, none⟩) hB _, fun j hj hne => (Below.heap_setCell _ _ _ _ hne).trans ((Below.heap_setCell _ _ _ _ hne).trans (HKP.out j hj hne))⟩
   case measure => simp [intOf]; omega
  ·obtain rfl : k = K := by omega
   have d1 : decide ((k : Int) < q) = false := decide_eq_false (by omega)
   clear HQ
   go_wp2_with (first
    | ((with_reducible refine gate_dst (N := 14) rfl ?_); refine wpList_load_row rfl 38 _ rfl B rfl 38 #[.int .i64 (turnTo x.f0 x.f1 k).1, .int .i64 (turnTo x.f0 x.f1 k).2] (0, 0) _ HBK.out Tryz.underlying38 rfl (size38 _ _) ?_)
    | ((with_reducible refine gate_store (t := 38) (p := 2) rfl ?_); refine row_event rfl 38 _ _ rfl g1 #[.int .i64 (turnTo x.f0 x.f1 k).1, .int .i64 (turnTo x.f0 x.f1 k).2] rfl rfl 38 #[.int .i64 0, .int .i64 0] HGK.out (size38 _ _) rfl (one38 _ _) ?_; intro W7 hq hoth hbel; have B7 := Lib.hid hq; have HO7 := Lib.hid hoth; have HB7 := Lib.hid hbel; clear hq hoth hbel))
   refine bodyPost_ret (results_cell_row rfl _ _ g1 38 #[.int .i64 (turnTo x.f0 x.f1 k).1, .int .i64 (turnTo x.f0 x.f1 k).2] (0, 0) _ rfl B7.out Tryz.underlying38 rfl (size38 _ _)) rfl ?_
   have HKK := hK
   exact ⟨by rw [HKK], HB7.out _ _ (by omega) HBW.out, fun j hj hne => (HO7.out j (by omega)).trans (HKP.out j hj hne)⟩
set_option maxRecDepth 100000 in
set_option maxHeartbeats 4000000 in
theorem madeC_no (F : Value) (w : World) :
  Calls Tryz.prog 93 #[.bool false, F] w fun e w' => e = .returned (.tuple #[.agg #[.int .i64 0, .int .i64 0], .int .i64 2]) ∧ Below w.heap.size w w' := by
 go_enter Tryz.func93, Tryz.ntmps93
 go_wp2_with (first
  | ((with_reducible refine gate_dst (N := 4) rfl ?_); refine box_event ?hg (N := 4) ?hd (cs := #[.int .i64 0, .int .i64 0]) (t := 38) ?hr ?_; (case hd => rfl); (case hg => rfl); (case hr => first | (go_simp; done) | (go_simp; rfl)); intro g4 hg W4 hbox hbl; have B4 := Lib.hid hbox; have HB4 := Lib.hid hbl; have L4 : w.heap.size ≤ g4 := (by rw [hg]; exact Nat.le_refl _); clear hbox hbl hg)
  | ((with_reducible refine gate_dst (N := 6) rfl ?_); refine box_event ?hg (N := 6) ?hd (cs := #[.int .i64 0, .int .i64 0]) (t := 38) ?hr ?_; (case hd => rfl); (case hg => rfl); (case hr => first | (go_simp; done) | (go_simp; rfl)); intro g6 hg W6 hbox hbl; have B6 := Lib.hid hbox; have B46 := Lib.hid (blk_below B4.out hbl); have HB6 := Lib.hid (below_step HB4.out hbl); clear hbox hbl hg)
  | ((with_reducible refine gate_dst (N := 9) rfl ?_); refine wpList_load_row rfl 38 _ rfl g6 rfl 38 #[.int .i64 0, .int .i64 0] (0, 0) _ B6.out Tryz.underlying38 rfl (size38 _ _) ?_)
  | ((with_reducible refine gate_store (t := 38) (p := 4) rfl ?_); refine row_event rfl 38 _ _ rfl g4 #[.int .i64 0, .int .i64 0] rfl rfl 38 #[.int .i64 0, .int .i64 0] B46.out (size38 _ _) rfl (one38 _ _) ?_; intro W7 hq hoth hbel; have B7 := Lib.hid hq; have HB7 := Lib.hid hbel; clear hq hoth hbel))
 refine bodyPost_ret (results_ct rfl _ _ g4 38 #[.int .i64 0, .int .i64 0] (0, 0) _ rfl B7.out Tryz.underlying38 rfl (size38 _ _)) rfl ?_
 exact ⟨rfl, HB7.out _ _ L4 HB6.out⟩
set_option maxRecDepth 100000 in
set_option maxHeartbeats 4000000 in
theorem madeC_conj (B : Nat) (x : S38) (w : World) (hb : w.heap[B]? = some (.cells #[.int .i64 x.f0, .int .i64 x.f1] 38 (0, 0))) :
  Calls Tryz.prog 93 #[.bool true, .func (.func 95) #[] #[.pointer (some ⟨B, 0, none⟩)]] w fun e w' => e = .returned (.tuple #[.agg #[.int .i64 x.f0, .int .i64 (wrap64 (-x.f1))], .int .i64 0]) ∧ Below w.heap.size w w' := by
 have HX := Lib.hid hb
 clear hb
 go_enter Tryz.func93, Tryz.ntmps93
 go_wp2_with (first
  | ((with_reducible refine gate_dst (N := 4) rfl ?_); refine box_event ?hg (N := 4) ?hd (cs := #[.int .i64 0, .int .i64 0]) (t := 38) ?hr ?_; (case hd => rfl); (case hg => rfl); (case hr => first | (go_simp; done) | (go_simp; rfl)); intro g4 hg W4 hbox hbl; have B4 := Lib.hid hbox; have HB4 := Lib.hid hbl; have L4 : w.heap.size ≤ g4 := (by rw [hg]; exact Nat.le_refl _); clear hbox hbl hg)
  | (go_at_call 95; refine (conj1_any B x _ (blk_below HX.out HB4.out)).mono ?_; rintro e W5 ⟨rfl, hb⟩; have B5 := Lib.hid (blk_below B4.out hb); have HB5 := Lib.hid (below_step HB4.out hb); clear hb)
  | ((with_reducible refine gate_store (t := 38) (p := 4) rfl ?_); refine row_event rfl 38 _ _ rfl g4 #[.int .i64 x.f0, .int .i64 (wrap64 (-x.f1))] rfl rfl 38 #[.int .i64 0, .int .i64 0] B5.out (size38 _ _) rfl (one38 _ _) ?_; intro W7 hq hoth hbel; have B7 := Lib.hid hq; have HB7 := Lib.hid hbel; clear hq hoth hbel))
 refine bodyPost_ret (results_ct rfl _ _ g4 38 #[.int .i64 x.f0, .int .i64 (wrap64 (-x.f1))] (0, 0) _ rfl B7.out Tryz.underlying38 rfl (size38 _ _)) rfl ?_
 exact ⟨rfl, HB7.out _ _ L4 HB5.out⟩
set_option maxRecDepth 100000 in
set_option maxHeartbeats 4000000 in
theorem madeC_turn (Bn B : Nat) (n : Int) (x : S38) (w w0 : World) (hn : w.heap[Bn]? = some (.cells #[.int .i64 n] 3 (0, 0))) (hb : w.heap[B]? = some (.cells #[.int .i64 x.f0, .int .i64 x.f1] 38 (0, 0))) (hB : w0.heap.size ≤ B) (hw : Below w0.heap.size w0 w) :
  Calls Tryz.prog 93 #[.bool true, .func (.func 109) #[] #[.pointer (some ⟨Bn, 0, none⟩), .pointer (some ⟨B, 0, none⟩)]] w fun e w' => e = .returned (.tuple #[.agg #[.int .i64 (turnTo x.f0 x.f1 (turnsN n)).1, .int .i64 (turnTo x.f0 x.f1 (turnsN n)).2], .int .i64 0]) ∧ Below w0.heap.size w0 w' ∧ ∀ k, k < w.heap.size → k ≠ B → w'.heap[k]? = w.heap[k]? := by
 have HX := Lib.hid hb
 have HN := Lib.hid hn
 have HW := Lib.hid hw
 have hsz := hw.size
 have hBl := blk_lt hb
 clear hb hn hw
 generalize hT : turnTo x.f0 x.f1 (turnsN n) = T at *
 have HTT := Lib.hid hT
 clear hT
 go_enter Tryz.func93, Tryz.ntmps93
 go_wp2_with (first
  | ((with_reducible refine gate_dst (N := 4) rfl ?_); refine box_event ?hg (N := 4) ?hd (cs := #[.int .i64 0, .int .i64 0]) (t := 38) ?hr ?_; (case hd => rfl); (case hg => rfl); (case hr => first | (go_simp; done) | (go_simp; rfl)); intro g4 hg W4 hbox hbl; have B4 := Lib.hid hbox; have HB4 := Lib.hid hbl; have L4 : w.heap.size ≤ g4 := (by rw [hg]; exact Nat.le_refl _); clear hbox hbl hg)
  | (go_at_call 109; refine (turn1_any Bn B n x _ w0 (blk_below HN.out HB4.out) (blk_below HX.out HB4.out) hB (HW.out.trans (HB4.out.mono hsz))).mono ?_; rw [HTT.out]; rintro e W5 ⟨rfl, hb, hk⟩; have B5 := Lib.hid ((hk g4 (blk_lt B4.out) (by omega)).trans B4.out); have HB5 := Lib.hid hb; have HK5 := Lib.hid (fun k hk1 hk2 => (hk k (Nat.lt_of_lt_of_le hk1 HB4.out.size) hk2).trans (HB4.out.block k hk1)); clear hb hk)
  | ((with_reducible refine gate_store (t := 38) (p := 4) rfl ?_); refine row_event rfl 38 _ _ rfl g4 #[.int .i64 T.1, .int .i64 T.2] rfl rfl 38 #[.int .i64 0, .int .i64 0] B5.out (size38 _ _) rfl (one38 _ _) ?_; intro W7 hq hoth hbel; have B7 := Lib.hid hq; have HO7 := Lib.hid hoth; have HB7 := Lib.hid hbel; clear hq hoth hbel))
 refine bodyPost_ret (results_ct rfl _ _ g4 38 #[.int .i64 T.1, .int .i64 T.2] (0, 0) _ rfl B7.out Tryz.underlying38 rfl (size38 _ _)) rfl ?_
 exact ⟨rfl, HB7.out _ _ (by omega) HB5.out, fun k hk1 hk2 => (HO7.out k (by omega)).trans (HK5.out k hk1 hk2)⟩
set_option maxRecDepth 100000 in
set_option maxHeartbeats 4000000 in
theorem Conj_yes (x : S38) (hn : wideB x = true) (w : World) :
  Calls Tryz.prog 58 #[.agg #[.int .i64 x.f0, .int .i64 x.f1]] w fun e w' => e = .returned (.tuple #[.agg #[.int .i64 x.f0, .int .i64 (wrap64 (-x.f1))], .int .i64 0]) ∧ Below w.heap.size w w' := by
 have HW := Lib.hid (hn ▸ within_wide x)
 clear hn
 go_enter Tryz.func58, Tryz.ntmps58
 go_wp2_with (first
  | ((with_reducible refine gate_dst (N := 1) rfl ?_); refine box_event ?hg (N := 1) ?hd (cs := #[.int .i64 x.f0, .int .i64 x.f1]) (t := 38) ?hr ?_; (case hd => rfl); (case hg => rfl); (case hr => first | (go_simp; done) | (go_simp; rfl)); intro g1 hg W1 hbox hbl; have B1 := Lib.hid hbox; have HB1 := Lib.hid hbl; clear hbox hbl hg)
  | ((with_reducible refine gate_dst (N := 2) rfl ?_); refine box_event ?hg (N := 2) ?hd (cs := #[.int .i64 0, .int .i64 0]) (t := 38) ?hr ?_; (case hd => rfl); (case hg => rfl); (case hr => first | (go_simp; done) | (go_simp; rfl)); intro g2 hg W2 hbox hbl; have B2 := Lib.hid hbox; have B21 := Lib.hid (blk_below B1.out hbl); have L2 : w.heap.size ≤ g2 := (by rw [hg]; exact HB1.out.size); have HB2 := Lib.hid (below_step HB1.out hbl); clear hbox hbl hg)
  | ((with_reducible refine gate_dst (N := 4) rfl ?_); refine wpList_load_row rfl 38 _ rfl g1 rfl 38 #[.int .i64 x.f0, .int .i64 x.f1] (0, 0) _ B21.out Tryz.underlying38 rfl (size38 _ _) ?_)
  | (go_at_call 94; refine (cx_within.calls 3 2305843009213693952 (some ⟨W2.heap.size, 0, none⟩) 1 [x] true _ (C_one (blk_new W2 _)) (Nat.le_refl 1) HW.out).mono ?_; rintro e W3 ⟨rfl, hb⟩; have B31 := Lib.hid (blk_below (blk_alloc B21.out _) hb); have B32 := Lib.hid (blk_below (blk_alloc B2.out _) hb); have HB3 := Lib.hid (below_step (below_alloc HB2.out _) hb); clear hb)
  | (go_at_call 93; refine (madeC_conj g1 x _ B31.out).mono ?_; rintro e W4 ⟨rfl, hb⟩; have B42 := Lib.hid (blk_below B32.out hb); have HB4 := Lib.hid (below_step HB3.out hb); clear hb)
  | ((with_reducible refine gate_store (t := 38) (p := 2) rfl ?_); refine row_event rfl 38 _ _ rfl g2 #[.int .i64 x.f0, .int .i64 (wrap64 (-x.f1))] rfl rfl 38 #[.int .i64 0, .int .i64 0] B42.out (size38 _ _) rfl (one38 _ _) ?_; intro W7 hq hoth hbel; have B7 := Lib.hid hq; have HB7 := Lib.hid hbel; clear hq hoth hbel))
 refine bodyPost_ret (results_ct rfl _ _ g2 38 #[.int .i64 x.f0, .int .i64 (wrap64 (-x.f1))] (0, 0) _ rfl B7.out Tryz.underlying38 rfl (size38 _ _)) rfl ?_
 exact ⟨rfl, HB7.out _ _ L2 HB4.out⟩
set_option maxRecDepth 100000 in
set_option maxHeartbeats 4000000 in
theorem Conj_no (x : S38) (hn : wideB x = false) (w : World) :
  Calls Tryz.prog 58 #[.agg #[.int .i64 x.f0, .int .i64 x.f1]] w fun e w' => e = .returned (.tuple #[.agg #[.int .i64 0, .int .i64 0], .int .i64 2]) ∧ Below w.heap.size w w' := by
 have HW := Lib.hid (hn ▸ within_wide x)
 clear hn
 go_enter Tryz.func58, Tryz.ntmps58
 go_wp2_with (first
  | ((with_reducible refine gate_dst (N := 1) rfl ?_); refine box_event ?hg (N := 1) ?hd (cs := #[.int .i64 x.f0, .int .i64 x.f1]) (t := 38) ?hr ?_; (case hd => rfl); (case hg => rfl); (case hr => first | (go_simp; done) | (go_simp; rfl)); intro g1 hg W1 hbox hbl; have B1 := Lib.hid hbox; have HB1 := Lib.hid hbl; clear hbox hbl hg)
  | ((with_reducible refine gate_dst (N := 2) rfl ?_); refine box_event ?hg (N := 2) ?hd (cs := #[.int .i64 0, .int .i64 0]) (t := 38) ?hr ?_; (case hd => rfl); (case hg => rfl); (case hr => first | (go_simp; done) | (go_simp; rfl)); intro g2 hg W2 hbox hbl; have B2 := Lib.hid hbox; have B21 := Lib.hid (blk_below B1.out hbl); have L2 : w.heap.size ≤ g2 := (by rw [hg]; exact HB1.out.size); have HB2 := Lib.hid (below_step HB1.out hbl); clear hbox hbl hg)
  | ((with_reducible refine gate_dst (N := 4) rfl ?_); refine wpList_load_row rfl 38 _ rfl g1 rfl 38 #[.int .i64 x.f0, .int .i64 x.f1] (0, 0) _ B21.out Tryz.underlying38 rfl (size38 _ _) ?_)
  | (go_at_call 94; refine (cx_within.calls 3 2305843009213693952 (some ⟨W2.heap.size, 0, none⟩) 1 [x] false _ (C_one (blk_new W2 _)) (Nat.le_refl 1) HW.out).mono ?_; rintro e W3 ⟨rfl, hb⟩; have B31 := Lib.hid (blk_below (blk_alloc B21.out _) hb); have B32 := Lib.hid (blk_below (blk_alloc B2.out _) hb); have HB3 := Lib.hid (below_step (below_alloc HB2.out _) hb); clear hb)
  | (go_at_call 93; refine (madeC_no _ _).mono ?_; rintro e W4 ⟨rfl, hb⟩; have B42 := Lib.hid (blk_below B32.out hb); have HB4 := Lib.hid (below_step HB3.out hb); clear hb)
  | ((with_reducible refine gate_store (t := 38) (p := 2) rfl ?_); refine row_event rfl 38 _ _ rfl g2 #[.int .i64 0, .int .i64 0] rfl rfl 38 #[.int .i64 0, .int .i64 0] B42.out (size38 _ _) rfl (one38 _ _) ?_; intro W7 hq hoth hbel; have B7 := Lib.hid hq; have HB7 := Lib.hid hbel; clear hq hoth hbel))
 refine bodyPost_ret (results_ct rfl _ _ g2 38 #[.int .i64 0, .int .i64 0] (0, 0) _ rfl B7.out Tryz.underlying38 rfl (size38 _ _)) rfl ?_
 exact ⟨rfl, HB7.out _ _ L2 HB4.out⟩
set_option maxRecDepth 100000 in
set_option maxHeartbeats 4000000 in
theorem Turn_yes (x : S38) (n : Int) (hn : wideB x = true) (w : World) :
  Calls Tryz.prog 96 #[.agg #[.int .i64 x.f0, .int .i64 x.f1], .int .i64 n] w fun e w' => e = .returned (.tuple #[.agg #[.int .i64 (turnTo x.f0 x.f1 (turnsN n)).1, .int .i64 (turnTo x.f0 x.f1 (turnsN n)).2], .int .i64 0]) ∧ Below w.heap.size w w' := by
 have HW := Lib.hid (hn ▸ within_wide x)
 clear hn
 generalize hT : turnTo x.f0 x.f1 (turnsN n) = T at *
 have HTT := Lib.hid hT
 clear hT
 go_enter Tryz.func96, Tryz.ntmps96
 go_wp2_with (first
  | ((with_reducible refine gate_dst (N := 2) rfl ?_); refine box_event ?hg (N := 2) ?hd (cs := #[.int .i64 x.f0, .int .i64 x.f1]) (t := 38) ?hr ?_; (case hd => rfl); (case hg => rfl); (case hr => first | (go_simp; done) | (go_simp; rfl)); intro g2 hg W1 hbox hbl; have B2 := Lib.hid hbox; have HB1 := Lib.hid hbl; have L2 : w.heap.size ≤ g2 := (by rw [hg]; exact Nat.le_refl _); clear hbox hbl hg)
  | ((with_reducible refine gate_dst (N := 3) rfl ?_); refine box_event ?hg (N := 3) ?hd (cs := #[.int .i64 n]) (t := 3) ?hr ?_; (case hd => rfl); (case hg => rfl); (case hr => first | (go_simp; done) | (go_simp; rfl)); intro g3 hg W2 hbox hbl; have B3 := Lib.hid hbox; have B21 := Lib.hid (blk_below B2.out hbl); have HB2 := Lib.hid (below_step HB1.out hbl); clear hbox hbl hg)
  | ((with_reducible refine gate_dst (N := 4) rfl ?_); refine box_event ?hg (N := 4) ?hd (cs := #[.int .i64 0, .int .i64 0]) (t := 38) ?hr ?_; (case hd => rfl); (case hg => rfl); (case hr => first | (go_simp; done) | (go_simp; rfl)); intro g4 hg W3 hbox hbl; have B4 := Lib.hid hbox; have B22 := Lib.hid (blk_below B21.out hbl); have B33 := Lib.hid (blk_below B3.out hbl); have N24 : g4 ≠ g2 := (by rw [hg]; exact Nat.ne_of_gt (blk_lt B21.out)); have L4 : w.heap.size ≤ g4 := (by rw [hg]; exact HB2.out.size); have HB3 := Lib.hid (below_step HB2.out hbl); clear hbox hbl hg)
  | ((with_reducible refine gate_dst (N := 6) rfl ?_); refine wpList_load_row rfl 38 _ rfl g2 rfl 38 #[.int .i64 x.f0, .int .i64 x.f1] (0, 0) _ B22.out Tryz.underlying38 rfl (size38 _ _) ?_)
  | (go_at_call 94; refine (cx_within.calls 3 2305843009213693952 (some ⟨W3.heap.size, 0, none⟩) 1 [x] true _ (C_one (blk_new W3 _)) (Nat.le_refl 1) HW.out).mono ?_; rintro e W5 ⟨rfl, hb⟩; have C2 := Lib.hid (blk_below (blk_alloc B22.out _) hb); have C3 := Lib.hid (blk_below (blk_alloc B33.out _) hb); have C4 := Lib.hid (blk_below (blk_alloc B4.out _) hb); have HB5 := Lib.hid (below_step (below_alloc HB3.out _) hb); clear hb)
  | (go_at_call 93; refine (madeC_turn g3 g2 n x _ w C3.out C2.out L2 HB5.out).mono ?_; rw [HTT.out]; rintro e W6 ⟨rfl, hb, hk⟩; have D4 := Lib.hid ((hk g4 (blk_lt C4.out) N24).trans C4.out); have HB6 := Lib.hid hb; clear hb hk)
  | ((with_reducible refine gate_store (t := 38) (p := 4) rfl ?_); refine row_event rfl 38 _ _ rfl g4 #[.int .i64 T.1, .int .i64 T.2] rfl rfl 38 #[.int .i64 0, .int .i64 0] D4.out (size38 _ _) rfl (one38 _ _) ?_; intro W7 hq hoth hbel; have B7 := Lib.hid hq; have HB7 := Lib.hid hbel; clear hq hoth hbel))
 refine bodyPost_ret (results_ct rfl _ _ g4 38 #[.int .i64 T.1, .int .i64 T.2] (0, 0) _ rfl B7.out Tryz.underlying38 rfl (size38 _ _)) rfl ?_
 exact ⟨rfl, HB7.out _ _ L4 HB6.out⟩
set_option maxRecDepth 100000 in
set_option maxHeartbeats 4000000 in
theorem Turn_no (x : S38) (n : Int) (hn : wideB x = false) (w : World) :
  Calls Tryz.prog 96 #[.agg #[.int .i64 x.f0, .int .i64 x.f1], .int .i64 n] w fun e w' => e = .returned (.tuple #[.agg #[.int .i64 0, .int .i64 0], .int .i64 2]) ∧ Below w.heap.size w w' := by
 have HW := Lib.hid (hn ▸ within_wide x)
 clear hn
 go_enter Tryz.func96, Tryz.ntmps96
 go_wp2_with (first
  | ((with_reducible refine gate_dst (N := 2) rfl ?_); refine box_event ?hg (N := 2) ?hd (cs := #[.int .i64 x.f0, .int .i64 x.f1]) (t := 38) ?hr ?_; (case hd => rfl); (case hg => rfl); (case hr => first | (go_simp; done) | (go_simp; rfl)); intro g2 hg W1 hbox hbl; have B2 := Lib.hid hbox; have HB1 := Lib.hid hbl; have L2 : w.heap.size ≤ g2 := (by rw [hg]; exact Nat.le_refl _); clear hbox hbl hg)
  | ((with_reducible refine gate_dst (N := 3) rfl ?_); refine box_event ?hg (N := 3) ?hd (cs := #[.int .i64 n]) (t := 3) ?hr ?_; (case hd => rfl); (case hg => rfl); (case hr => first | (go_simp; done) | (go_simp; rfl)); intro g3 hg W2 hbox hbl; have B3 := Lib.hid hbox; have B21 := Lib.hid (blk_below B2.out hbl); have HB2 := Lib.hid (below_step HB1.out hbl); clear hbox hbl hg)
  | ((with_reducible refine gate_dst (N := 4) rfl ?_); refine box_event ?hg (N := 4) ?hd (cs := #[.int .i64 0, .int .i64 0]) (t := 38) ?hr ?_; (case hd => rfl); (case hg => rfl); (case hr => first | (go_simp; done) | (go_simp; rfl)); intro g4 hg W3 hbox hbl; have B4 := Lib.hid hbox; have B22 := Lib.hid (blk_below B21.out hbl); have B33 := Lib.hid (blk_below B3.out hbl); have N24 : g4 ≠ g2 := (by rw [hg]; exact Nat.ne_of_gt (blk_lt B21.out)); have L4 : w.heap.size ≤ g4 := (by rw [hg]; exact HB2.out.size); have HB3 := Lib.hid (below_step HB2.out hbl); clear hbox hbl hg)
  | ((with_reducible refine gate_dst (N := 6) rfl ?_); refine wpList_load_row rfl 38 _ rfl g2 rfl 38 #[.int .i64 x.f0, .int .i64 x.f1] (0, 0) _ B22.out Tryz.underlying38 rfl (size38 _ _) ?_)
  | (go_at_call 94; refine (cx_within.calls 3 2305843009213693952 (some ⟨W3.heap.size, 0, none⟩) 1 [x] false _ (C_one (blk_new W3 _)) (Nat.le_refl 1) HW.out).mono ?_; rintro e W5 ⟨rfl, hb⟩; have C2 := Lib.hid (blk_below (blk_alloc B22.out _) hb); have C3 := Lib.hid (blk_below (blk_alloc B33.out _) hb); have C4 := Lib.hid (blk_below (blk_alloc B4.out _) hb); have HB5 := Lib.hid (below_step (below_alloc HB3.out _) hb); clear hb)
  | (go_at_call 93; refine (madeC_no _ _).mono ?_; rintro e W6 ⟨rfl, hb⟩; have D4 := Lib.hid (blk_below C4.out hb); have HB6 := Lib.hid (below_step HB5.out hb); clear hb)
  | ((with_reducible refine gate_store (t := 38) (p := 4) rfl ?_); refine row_event rfl 38 _ _ rfl g4 #[.int .i64 0, .int .i64 0] rfl rfl 38 #[.int .i64 0, .int .i64 0] D4.out (size38 _ _) rfl (one38 _ _) ?_; intro W7 hq hoth hbel; have B7 := Lib.hid hq; have HB7 := Lib.hid hbel; clear hq hoth hbel))
 refine bodyPost_ret (results_ct rfl _ _ g4 38 #[.int .i64 0, .int .i64 0] (0, 0) _ rfl B7.out Tryz.underlying38 rfl (size38 _ _)) rfl ?_
 exact ⟨rfl, HB7.out _ _ L4 HB6.out⟩

end Go.Proofs.YteieahbadclppaaGreat.P

namespace Go.Proofs.YteieahbadclppaaGreat.P
open Go.RowKit Go.Proofs.YteieahbadclppaaGreatW.PrintWords Go.Proofs.YteieahbadclppaaGreatW.PrintLast Go.Proofs.YteieahbadclppaaGreatW.PrintMore
attribute [local go_sem] max2_int min2_int max_two min_two
set_option linter.unusedVariables false
set_option linter.unusedSimpArgs false
def inB (m : Int) (x : S38) : Bool := decide (x.f0 ≤ m ∧ x.f1 ≤ m ∧ -m ≤ x.f0 ∧ -m ≤ x.f1)
theorem within_in (m : Int) (hm0 : 0 ≤ m) (hm1 : m ≤ 2305843009213693952) (x : S38) : cx_within.f 3 m [x] = some (inB m x) := by
 have e : rd_T38 [x] 0 = x := rfl
 have hm : wrap64 (-m) = -m := by unfold wrap64; omega
 have h1 : wrap64 (0 + 1) = 1 := by decide +kernel
 unfold cx_within.f
 simp only [cx_within.l0]
 rw [if_pos (by simp), if_pos (by decide), if_pos (by simp), e, hm, h1]
 unfold mx mn inB
 by_cases c1 : (if x.f0 < x.f1 then x.f1 else x.f0) > m
 ·rw [if_pos c1]
  refine congrArg some (decide_eq_false ?_).symm
  split at c1 <;> omega
 ·rw [if_neg c1]
  by_cases c2 : (if x.f1 < x.f0 then x.f1 else x.f0) < -m
  ·rw [if_pos c2]
   refine congrArg some (decide_eq_false ?_).symm
   split at c2 <;> omega
  ·rw [if_neg c2, if_neg (by simp)]
   refine congrArg some (decide_eq_true ?_).symm
   split at c1 <;> split at c2 <;> omega
def mulRe (x y : S38) : Int := wrap64 (wrap64 (x.f0 * y.f0) - wrap64 (x.f1 * y.f1))
def mulIm (x y : S38) : Int := wrap64 (wrap64 (x.f0 * y.f1) + wrap64 (x.f1 * y.f0))
set_option maxRecDepth 100000 in
set_option maxHeartbeats 4000000 in
theorem times1_any (Bx By : Nat) (x y : S38) (w : World) (hx : w.heap[Bx]? = some (.cells #[.int .i64 x.f0, .int .i64 x.f1] 38 (0, 0))) (hy : w.heap[By]? = some (.cells #[.int .i64 y.f0, .int .i64 y.f1] 38 (0, 0))) :
  Calls Tryz.prog 112 #[.pointer (some ⟨Bx, 0, none⟩), .pointer (some ⟨By, 0, none⟩)] w fun e w' => e = .returned (.agg #[.int .i64 (mulRe x y), .int .i64 (mulIm x y)]) ∧ Below w.heap.size w w' := by
 have HX := Lib.hid hx
 have HY := Lib.hid hy
 clear hx hy
 have HV := Lib.hid (show (mulRe x y = wrap64 (wrap64 (x.f0 * y.f0) - wrap64 (x.f1 * y.f1))) ∧ (mulIm x y = wrap64 (wrap64 (x.f0 * y.f1) + wrap64 (x.f1 * y.f0))) from ⟨rfl, rfl⟩)
 go_enter Tryz.func112, Tryz.ntmps112
 go_wp2_with (first
  | ((with_reducible refine gate_dst (N := 2) rfl ?_); refine box_event ?hg (N := 2) ?hd (cs := #[.int .i64 0, .int .i64 0]) (t := 38) ?hr ?_; (case hd => rfl); (case hg => rfl); (case hr => rfl); intro g2 hg W0 hbox hbl; have B0 := Lib.hid hbox; have HB0 := Lib.hid hbl; have L2 : w.heap.size ≤ g2 := (by rw [hg]; exact Nat.le_refl _); have k0 : W0.cell? ⟨Bx, 0, none⟩ = some (.int .i64 x.f0) := (blk_cell (blk_below HX.out hbl) 0).trans rfl; have k1 : W0.cell? ⟨Bx, 1, none⟩ = some (.int .i64 x.f1) := (blk_cell (blk_below HX.out hbl) 1).trans rfl; have k2 : W0.cell? ⟨By, 0, none⟩ = some (.int .i64 y.f0) := (blk_cell (blk_below HY.out hbl) 0).trans rfl; have k3 : W0.cell? ⟨By, 1, none⟩ = some (.int .i64 y.f1) := (blk_cell (blk_below HY.out hbl) 1).trans rfl; clear hbox hbl hg)
  | ((with_reducible refine gate_store (t := 38) (p := 2) rfl ?_); refine row_event rfl 38 _ _ rfl g2 #[.int .i64 (wrap64 (wrap64 (x.f0 * y.f0) - wrap64 (x.f1 * y.f1))), .int .i64 (wrap64 (wrap64 (x.f0 * y.f1) + wrap64 (x.f1 * y.f0)))] rfl rfl 38 #[.int .i64 0, .int .i64 0] B0.out (size38 _ _) rfl (one38 _ _) ?_; intro W7 hq hoth hbel; have B7 := Lib.hid hq; have HB7 := Lib.hid hbel; clear hq hoth hbel))
 refine bodyPost_ret (results_cell_row rfl _ _ g2 38 #[.int .i64 (wrap64 (wrap64 (x.f0 * y.f0) - wrap64 (x.f1 * y.f1))), .int .i64 (wrap64 (wrap64 (x.f0 * y.f1) + wrap64 (x.f1 * y.f0)))] (0, 0) _ rfl B7.out Tryz.underlying38 rfl (size38 _ _)) rfl ?_
 exact ⟨rfl, HB7.out _ _ L2 HB0.out⟩
set_option maxRecDepth 100000 in
set_option maxHeartbeats 4000000 in
theorem madeC_times (Bx By : Nat) (x y : S38) (w : World) (hx : w.heap[Bx]? = some (.cells #[.int .i64 x.f0, .int .i64 x.f1] 38 (0, 0))) (hy : w.heap[By]? = some (.cells #[.int .i64 y.f0, .int .i64 y.f1] 38 (0, 0))) :
  Calls Tryz.prog 93 #[.bool true, .func (.func 112) #[] #[.pointer (some ⟨Bx, 0, none⟩), .pointer (some ⟨By, 0, none⟩)]] w fun e w' => e = .returned (.tuple #[.agg #[.int .i64 (mulRe x y), .int .i64 (mulIm x y)], .int .i64 0]) ∧ Below w.heap.size w w' := by
 have HX := Lib.hid hx
 have HY := Lib.hid hy
 clear hx hy
 go_enter Tryz.func93, Tryz.ntmps93
 go_wp2_with (first
  | ((with_reducible refine gate_dst (N := 4) rfl ?_); refine box_event ?hg (N := 4) ?hd (cs := #[.int .i64 0, .int .i64 0]) (t := 38) ?hr ?_; (case hd => rfl); (case hg => rfl); (case hr => first | (go_simp; done) | (go_simp; rfl)); intro g4 hg W4 hbox hbl; have B4 := Lib.hid hbox; have HB4 := Lib.hid hbl; have L4 : w.heap.size ≤ g4 := (by rw [hg]; exact Nat.le_refl _); clear hbox hbl hg)
  | (go_at_call 112; refine (times1_any Bx By x y _ (blk_below HX.out HB4.out) (blk_below HY.out HB4.out)).mono ?_; rintro e W5 ⟨rfl, hb⟩; have B5 := Lib.hid (blk_below B4.out hb); have HB5 := Lib.hid (below_step HB4.out hb); clear hb)
  | ((with_reducible refine gate_store (t := 38) (p := 4) rfl ?_); refine row_event rfl 38 _ _ rfl g4 #[.int .i64 (mulRe x y), .int .i64 (mulIm x y)] rfl rfl 38 #[.int .i64 0, .int .i64 0] B5.out (size38 _ _) rfl (one38 _ _) ?_; intro W7 hq hoth hbel; have B7 := Lib.hid hq; have HB7 := Lib.hid hbel; clear hq hoth hbel))
 refine bodyPost_ret (results_ct rfl _ _ g4 38 #[.int .i64 (mulRe x y), .int .i64 (mulIm x y)] (0, 0) _ rfl B7.out Tryz.underlying38 rfl (size38 _ _)) rfl ?_
 exact ⟨rfl, HB7.out _ _ L4 HB5.out⟩
set_option maxRecDepth 100000 in
set_option maxHeartbeats 8000000 in
theorem Times_yes (x y : S38) (hx : inB 2147483648 x = true) (hy : inB 1073741824 y = true) (w : World) :
  Calls Tryz.prog 104 #[.agg #[.int .i64 x.f0, .int .i64 x.f1], .agg #[.int .i64 y.f0, .int .i64 y.f1]] w fun e w' => e = .returned (.tuple #[.agg #[.int .i64 (mulRe x y), .int .i64 (mulIm x y)], .int .i64 0]) ∧ Below w.heap.size w w' := by
 have HX := Lib.hid (show cx_within.f 3 2147483648 [x] = some true from hx ▸ within_in 2147483648 (by decide) (by decide) x)
 have HY := Lib.hid (show cx_within.f 3 1073741824 [y] = some true from hy ▸ within_in 1073741824 (by decide) (by decide) y)
 clear hx hy
 go_enter Tryz.func104, Tryz.ntmps104
 go_wp2_with (first
  | ((with_reducible refine gate_dst (N := 2) rfl ?_); refine box_event ?hg (N := 2) ?hd (cs := #[.int .i64 x.f0, .int .i64 x.f1]) (t := 38) ?hr ?_; (case hd => rfl); (case hg => rfl); (case hr => first | (go_simp; done) | (go_simp; rfl)); intro g2 hg W1 hbox hbl; have B2 := Lib.hid hbox; have HB1 := Lib.hid hbl; clear hbox hbl hg)
  | ((with_reducible refine gate_dst (N := 3) rfl ?_); refine box_event ?hg (N := 3) ?hd (cs := #[.int .i64 y.f0, .int .i64 y.f1]) (t := 38) ?hr ?_; (case hd => rfl); (case hg => rfl); (case hr => first | (go_simp; done) | (go_simp; rfl)); intro g3 hg W2 hbox hbl; have B3 := Lib.hid hbox; have B21 := Lib.hid (blk_below B2.out hbl); have HB2 := Lib.hid (below_step HB1.out hbl); clear hbox hbl hg)
  | ((with_reducible refine gate_dst (N := 4) rfl ?_); refine box_event ?hg (N := 4) ?hd (cs := #[.int .i64 0, .int .i64 0]) (t := 38) ?hr ?_; (case hd => rfl); (case hg => rfl); (case hr => first | (go_simp; done) | (go_simp; rfl)); intro g4 hg W3 hbox hbl; have B4 := Lib.hid hbox; have B22 := Lib.hid (blk_below B21.out hbl); have B32 := Lib.hid (blk_below B3.out hbl); have L4 : w.heap.size ≤ g4 := (by rw [hg]; exact HB2.out.size); have HB3 := Lib.hid (below_step HB2.out hbl); clear hbox hbl hg)
  | ((with_reducible refine gate_dst (N := 7) rfl ?_); refine wpList_load_row rfl 38 _ rfl g2 rfl 38 #[.int .i64 x.f0, .int .i64 x.f1] (0, 0) _ B22.out Tryz.underlying38 rfl (size38 _ _) ?_)
  | (go_at_call 94; first
   | (refine (cx_within.calls 3 1073741824 (some ⟨W5.heap.size, 0, none⟩) 1 [y] true _ (C_one (blk_new W5 _)) (Nat.le_refl 1) HY.out).mono ?_; rintro e W6 ⟨rfl, hb⟩; have D2 := Lib.hid (blk_below (blk_alloc C2.out _) hb); have D3 := Lib.hid (blk_below (blk_alloc C3.out _) hb); have D4 := Lib.hid (blk_below (blk_alloc C4.out _) hb); have HB6 := Lib.hid (below_step (below_alloc HB5.out _) hb); clear hb)
   | (refine (cx_within.calls 3 2147483648 (some ⟨W3.heap.size, 0, none⟩) 1 [x] true _ (C_one (blk_new W3 _)) (Nat.le_refl 1) HX.out).mono ?_; rintro e W5 ⟨rfl, hb⟩; have C2 := Lib.hid (blk_below (blk_alloc B22.out _) hb); have C3 := Lib.hid (blk_below (blk_alloc B32.out _) hb); have C4 := Lib.hid (blk_below (blk_alloc B4.out _) hb); have HB5 := Lib.hid (below_step (below_alloc HB3.out _) hb); have k0 : W5.cell? ⟨g3, 0, none⟩ = some (.int .i64 y.f0) := (blk_cell C3.out 0).trans rfl; have k1 : W5.cell? ⟨g3, 1, none⟩ = some (.int .i64 y.f1) := (blk_cell C3.out 1).trans rfl; clear hb))
  | (go_at_call 93; refine (madeC_times g2 g3 x y _ D2.out D3.out).mono ?_; rintro e W7 ⟨rfl, hb⟩; have E4 := Lib.hid (blk_below D4.out hb); have HB7 := Lib.hid (below_step HB6.out hb); clear hb)
  | ((with_reducible refine gate_store (t := 38) (p := 4) rfl ?_); refine row_event rfl 38 _ _ rfl g4 #[.int .i64 (mulRe x y), .int .i64 (mulIm x y)] rfl rfl 38 #[.int .i64 0, .int .i64 0] E4.out (size38 _ _) rfl (one38 _ _) ?_; intro W8 hq hoth hbel; have B8 := Lib.hid hq; have HB8 := Lib.hid hbel; clear hq hoth hbel))
 refine bodyPost_ret (results_ct rfl _ _ g4 38 #[.int .i64 (mulRe x y), .int .i64 (mulIm x y)] (0, 0) _ rfl B8.out Tryz.underlying38 rfl (size38 _ _)) rfl ?_
 exact ⟨rfl, HB8.out _ _ L4 HB7.out⟩
end Go.Proofs.YteieahbadclppaaGreat.P

namespace Go.Proofs.YteieahbadclppaaGreat.P
open Go.RowKit Go.Proofs.YteieahbadclppaaGreatW.PrintWords Go.Proofs.YteieahbadclppaaGreatW.PrintLast Go.Proofs.YteieahbadclppaaGreatW.PrintMore
attribute [local go_sem] max2_int min2_int max_two min_two
set_option linter.unusedVariables false
set_option linter.unusedSimpArgs false
theorem inB_of {m : Int} {x : S38} (h : inB m x = true) : x.f0 ≤ m ∧ x.f1 ≤ m ∧ -m ≤ x.f0 ∧ -m ≤ x.f1 := of_decide_eq_true h
theorem int_pow_le {a b : Nat} (h : a ≤ b) : (2 : Int) ^ a ≤ 2 ^ b := by
 have := Nat.pow_le_pow_right (n := 2) (by decide) h
 exact_mod_cast this
theorem inB_to {m : Int} {x : S38} (h : x.f0 ≤ m ∧ x.f1 ≤ m ∧ -m ≤ x.f0 ∧ -m ≤ x.f1) : inB m x = true := decide_eq_true h
set_option maxRecDepth 100000 in
set_option maxHeartbeats 4000000 in
theorem narrow76 (x : S38) (m : Int) (hm0 : 0 ≤ m) (hm1 : m ≤ 4611686018427387904) (h : inB m x = true) (w : World) :
  Calls Tryz.prog 76 #[.agg #[.int .i64 x.f0, .int .i64 x.f1], .int .i64 m] w fun e w' => e = .returned (.bool true) ∧ Below w.heap.size w w' := by
 obtain ⟨q0, q1, q2, q3⟩ := inB_of h
 have hn : wrap64 (-m) = -m := by unfold wrap64; omega
 have d0 : decide (x.f0 ≤ m) = true := decide_eq_true q0
 have d1 : decide (x.f1 ≤ m) = true := decide_eq_true q1
 have d2 : decide (-m ≤ x.f0) = true := decide_eq_true q2
 have d3 : decide (-m ≤ x.f1) = true := decide_eq_true q3
 clear h hm0 hm1 q0 q1 q2 q3
 by_cases c : x.f0 < x.f1
 ·have c1 : (x.f0 < x.f1) = True := eq_true c
  have c2 : (x.f1 < x.f0) = False := eq_false (by omega)
  clear c
  go_enter Tryz.func76, Tryz.ntmps76
  go_wp2_with ((with_reducible refine gate_dst (N := 2) rfl ?_); refine box_event ?hg (N := 2) ?hd (cs := #[.int .i64 x.f0, .int .i64 x.f1]) (t := 38) ?hr ?_; (case hd => rfl); (case hg => rfl); (case hr => first | (go_simp; done) | (go_simp; rfl)); intro g2 hg W0 hbox hbl; have B2 := Lib.hid hbox; have HB0 := Lib.hid hbl; have k0 : W0.cell? ⟨g2, 0, none⟩ = some (.int .i64 x.f0) := (blk_cell hbox 0).trans rfl; have k1 : W0.cell? ⟨g2, 1, none⟩ = some (.int .i64 x.f1) := (blk_cell hbox 1).trans rfl; clear hbox hbl hg)
  go_ret
  exact ⟨rfl, HB0.out⟩
 ·have c1 : (x.f0 < x.f1) = False := eq_false c
  by_cases c' : x.f1 < x.f0
  ·have c2 : (x.f1 < x.f0) = True := eq_true c'
   clear c c'
   go_enter Tryz.func76, Tryz.ntmps76
   go_wp2_with ((with_reducible refine gate_dst (N := 2) rfl ?_); refine box_event ?hg (N := 2) ?hd (cs := #[.int .i64 x.f0, .int .i64 x.f1]) (t := 38) ?hr ?_; (case hd => rfl); (case hg => rfl); (case hr => first | (go_simp; done) | (go_simp; rfl)); intro g2 hg W0 hbox hbl; have B2 := Lib.hid hbox; have HB0 := Lib.hid hbl; have k0 : W0.cell? ⟨g2, 0, none⟩ = some (.int .i64 x.f0) := (blk_cell hbox 0).trans rfl; have k1 : W0.cell? ⟨g2, 1, none⟩ = some (.int .i64 x.f1) := (blk_cell hbox 1).trans rfl; clear hbox hbl hg)
   go_ret
   exact ⟨rfl, HB0.out⟩
  ·have c2 : (x.f1 < x.f0) = False := eq_false c'
   clear c c'
   go_enter Tryz.func76, Tryz.ntmps76
   go_wp2_with ((with_reducible refine gate_dst (N := 2) rfl ?_); refine box_event ?hg (N := 2) ?hd (cs := #[.int .i64 x.f0, .int .i64 x.f1]) (t := 38) ?hr ?_; (case hd => rfl); (case hg => rfl); (case hr => first | (go_simp; done) | (go_simp; rfl)); intro g2 hg W0 hbox hbl; have B2 := Lib.hid hbox; have HB0 := Lib.hid hbl; have k0 : W0.cell? ⟨g2, 0, none⟩ = some (.int .i64 x.f0) := (blk_cell hbox 0).trans rfl; have k1 : W0.cell? ⟨g2, 1, none⟩ = some (.int .i64 x.f1) := (blk_cell hbox 1).trans rfl; clear hbox hbl hg)
   go_ret
   exact ⟨rfl, HB0.out⟩
set_option maxRecDepth 100000 in
set_option maxHeartbeats 4000000 in
theorem far75 (x : S38) (h : inB 2147483648 x = true) (w : World) :
  Calls Tryz.prog 75 #[.agg #[.int .i64 x.f0, .int .i64 x.f1]] w fun e w' => e = .returned (.bool false) ∧ Below w.heap.size w w' := by
 have H := Lib.hid h
 clear h
 go_enter Tryz.func75, Tryz.ntmps75
 go_wp2_with (first
  | ((with_reducible refine gate_dst (N := 1) rfl ?_); refine box_event ?hg (N := 1) ?hd (cs := #[.int .i64 x.f0, .int .i64 x.f1]) (t := 38) ?hr ?_; (case hd => rfl); (case hg => rfl); (case hr => first | (go_simp; done) | (go_simp; rfl)); intro g2 hg W0 hbox hbl; have B2 := Lib.hid hbox; have HB0 := Lib.hid hbl; have k0 : W0.cell? ⟨g2, 0, none⟩ = some (.int .i64 x.f0) := (blk_cell hbox 0).trans rfl; have k1 : W0.cell? ⟨g2, 1, none⟩ = some (.int .i64 x.f1) := (blk_cell hbox 1).trans rfl; clear hbox hbl hg)
  | ((with_reducible refine gate_dst (N := 3) rfl ?_); refine wpList_load_row rfl 38 _ rfl g2 rfl 38 #[.int .i64 x.f0, .int .i64 x.f1] (0, 0) _ B2.out Tryz.underlying38 rfl (size38 _ _) ?_)
  | (go_at_call 76; (with_reducible refine (narrow76 x 2147483648 (by decide) (by decide) H.out _).mono ?_); rintro e W1 ⟨rfl, hb⟩; have HB1 := Lib.hid (below_step HB0.out hb); clear hb))
 go_ret
 exact ⟨rfl, HB1.out⟩
set_option maxRecDepth 100000 in
set_option maxHeartbeats 4000000 in
theorem great77 (x : S38) (Bb : Nat) (bits m : Int) (h0 : 0 ≤ bits) (h1 : bits ≤ 40) (hm : m = 2 ^ bits.toNat) (h : inB m x = true) (w : World) (hb : w.heap[Bb]? = some (.cells #[.int .i64 bits] 3 (0, 0))) :
  Calls Tryz.prog 77 #[.agg #[.int .i64 x.f0, .int .i64 x.f1], .pointer (some ⟨Bb, 0, none⟩)] w fun e w' => e = .returned (.bool false) ∧ Below w.heap.size w w' := by
 have H := Lib.hid h
 have HBb := Lib.hid hb
 have hm2 : 0 ≤ m ∧ m ≤ 4611686018427387904 := by
  have hp : (2 : Int) ^ (bits).toNat ≤ 2 ^ 40 := int_pow_le (by omega)
  have hq : (0 : Int) ≤ 2 ^ (bits).toNat := Int.pow_nonneg (by decide)
  rw [hm]
  omega
 obtain ⟨hm0, hm1⟩ := hm2
 have hw : IntKind.i64.wrap (2 ^ bits.toNat) = m := by rw [← hm, i64_w]; unfold wrap64; omega
 have hw2 : wrap64 (2 ^ bits.toNat) = m := (i64_w _).symm.trans hw
 clear h hb hm
 go_enter Tryz.func77, Tryz.ntmps77
 go_wp2_with ((with_reducible refine gate_dst (N := 2) rfl ?_); refine box_event ?hg (N := 2) ?hd (cs := #[.int .i64 x.f0, .int .i64 x.f1]) (t := 38) ?hr ?_; (case hd => rfl); (case hg => rfl); (case hr => first | (go_simp; done) | (go_simp; rfl)); intro g2 hg W0 hbox hbl; have B2 := Lib.hid hbox; have HB0 := Lib.hid hbl; have k0 : W0.cell? ⟨g2, 0, none⟩ = some (.int .i64 x.f0) := (blk_cell hbox 0).trans rfl; have k1 : W0.cell? ⟨g2, 1, none⟩ = some (.int .i64 x.f1) := (blk_cell hbox 1).trans rfl; have B20 := Lib.hid (blk_below HBb.out hbl); have kb : W0.cell? ⟨Bb, 0, none⟩ = some (.int .i64 bits) := (blk_cell (blk_below HBb.out hbl) 0).trans rfl; clear hbox hbl hg)
 go_region_held3 (fun w' => w'.cell? ⟨g2, 0, none⟩ = some (.int .i64 x.f0) ∧ w'.cell? ⟨g2, 1, none⟩ = some (.int .i64 x.f1) ∧ w'.cell? ⟨Bb, 0, none⟩ = some (.int .i64 bits) ∧ Below w.heap.size w w')
  (first
   | exact ⟨k0, k1, kb, below_drew HB0.out⟩
   | go_keep
   | exact ⟨(blk_cell (blk_below (blk_drewN B2.out 1) hb) 0).trans rfl, (blk_cell (blk_below (blk_drewN B2.out 1) hb) 1).trans rfl, (blk_cell (blk_below (blk_drewN B20.out 1) hb) 0).trans rfl, below_step (pw_below_drewN HB0.out 1) hb⟩)
  ((go_at_call 76; refine (narrow76 x m hm0 hm1 H.out _).mono ?_; rintro e W1 ⟨rfl, hb⟩))
 case _ hH =>
  go_wp2
  go_ret
  exact ⟨rfl, hH.2.2.2⟩
end Go.Proofs.YteieahbadclppaaGreat.P

namespace Go.Proofs.YteieahbadclppaaGreat.P
open Go.RowKit Go.Proofs.YteieahbadclppaaGreatW.PrintWords Go.Proofs.YteieahbadclppaaGreatW.PrintLast Go.Proofs.YteieahbadclppaaGreatW.PrintMore
set_option linter.unusedVariables false
set_option linter.unusedSimpArgs false
@[reducible] def modesC : Array Value := #[.func (.func 99) #[] #[], .func (.func 100) #[] #[], .func (.func 101) #[] #[]]
set_option maxRecDepth 100000 in
set_option maxHeartbeats 4000000 in
theorem modes_any (w : World) : Calls Tryz.prog 68 #[] w fun e w' => e = .returned (.slice (some ⟨w.heap.size, 0, none⟩) 3 3) ∧ w' = w.alloc (.cells modesC 129 (0, 0)) := by
 go_enter Tryz.func68, Tryz.ntmps68
 go_wp2
 go_ret
 exact ⟨rfl, rfl⟩
set_option maxRecDepth 100000 in
set_option maxHeartbeats 4000000 in
theorem up0_any (l h : Int) (o : Bool) (w : World) : Calls Tryz.prog 99 #[.int .i64 l, .int .i64 h, .bool o] w fun e w' => e = .returned (.bool false) ∧ w' = w := by
 go_enter Tryz.func99, Tryz.ntmps99
 go_wp2
 go_ret
 exact ⟨rfl, rfl⟩
def up1B (l h : Int) : Bool := decide (h ≤ l)
def up2B (l h : Int) (o : Bool) : Bool := decide (h < l) || (decide (l = h) && o)
set_option maxRecDepth 100000 in
set_option maxHeartbeats 4000000 in
theorem up1_any (l h : Int) (o : Bool) (w : World) : Calls Tryz.prog 100 #[.int .i64 l, .int .i64 h, .bool o] w fun e w' => e = .returned (.bool (up1B l h)) ∧ w' = w := by
 go_enter Tryz.func100, Tryz.ntmps100
 go_wp2
 go_ret
 exact ⟨rfl, rfl⟩
set_option maxRecDepth 100000 in
set_option maxHeartbeats 4000000 in
theorem up2_any (l h : Int) (o : Bool) (w : World) : Calls Tryz.prog 101 #[.int .i64 l, .int .i64 h, .bool o] w fun e w' => e = .returned (.bool (up2B l h o)) ∧ w' = w := by
 by_cases h1 : h < l
 ·have d1 : decide (h < l) = true := decide_eq_true h1
  clear h1
  go_enter Tryz.func101, Tryz.ntmps101
  go_wp2
  go_ret
  exact ⟨by unfold up2B; rw [d1]; rfl, rfl⟩
 ·have d1 : decide (h < l) = false := decide_eq_false h1
  by_cases h2 : l = h
  ·subst h2
   clear h1
   go_enter Tryz.func101, Tryz.ntmps101
   go_wp2
   go_ret
   exact ⟨by unfold up2B; rw [d1]; simp, rfl⟩
  ·have d2 : (l == h) = false := by simpa using h2
   clear h1
   go_enter Tryz.func101, Tryz.ntmps101
   go_wp2
   go_ret
   exact ⟨by unfold up2B; rw [d1, decide_eq_false h2]; rfl, rfl⟩
set_option maxRecDepth 100000 in
set_option maxHeartbeats 4000000 in
theorem Shift_bad (x s how : Int) (h : s < 0 ∨ s > 62 ∨ how < 0 ∨ how ≥ 3) (w : World) : Calls Tryz.prog 42 #[.int .i64 x, .int .i64 s, .int .i64 how] w fun e w' => e = .returned (.tuple #[.int .i64 0, .int .i64 1]) ∧ Below w.heap.size w w' := by
 have hM := fun w => modes_any w
 by_cases h1 : s < 0
 ·have d1 : decide (s < 0) = true := decide_eq_true h1
  clear h h1
  go_enter Tryz.func42, Tryz.ntmps42
  go_wp2_with (go_at_call 68; (with_reducible refine (modes_any _).mono ?_); rintro e W1 ⟨rfl, rfl⟩)
  go_ret2
  exact ⟨rfl, below_alloc (Below.refl _ _) _⟩
 ·by_cases h2 : s > 62
  ·have d1 : decide (s < 0) = false := decide_eq_false h1
   have d2 : decide (62 < s) = true := decide_eq_true h2
   clear h h1 h2
   go_enter Tryz.func42, Tryz.ntmps42
   go_wp2_with (go_at_call 68; (with_reducible refine (modes_any _).mono ?_); rintro e W1 ⟨rfl, rfl⟩)
   go_ret2
   exact ⟨rfl, below_alloc (Below.refl _ _) _⟩
  ·by_cases h3 : how < 0
   ·have d1 : decide (s < 0) = false := decide_eq_false h1
    have d2 : decide (62 < s) = false := decide_eq_false h2
    have d3 : decide (how < 0) = true := decide_eq_true h3
    clear h h1 h2 h3
    go_enter Tryz.func42, Tryz.ntmps42
    go_wp2_with (go_at_call 68; (with_reducible refine (modes_any _).mono ?_); rintro e W1 ⟨rfl, rfl⟩)
    go_ret2
    exact ⟨rfl, below_alloc (Below.refl _ _) _⟩
   ·have d1 : decide (s < 0) = false := decide_eq_false h1
    have d2 : decide (62 < s) = false := decide_eq_false h2
    have d3 : decide (how < 0) = false := decide_eq_false h3
    have d4 : decide (3 ≤ how) = true := decide_eq_true (by omega)
    clear h h1 h2 h3
    go_enter Tryz.func42, Tryz.ntmps42
    go_wp2_with (go_at_call 68; (with_reducible refine (modes_any _).mono ?_); rintro e W1 ⟨rfl, rfl⟩)
    go_ret2
    exact ⟨rfl, below_alloc (Below.refl _ _) _⟩
set_option maxRecDepth 100000 in
set_option maxHeartbeats 4000000 in
theorem Shift_zero (x how : Int) (h0 : 0 ≤ how) (h3 : how < 3) (w : World) : Calls Tryz.prog 42 #[.int .i64 x, .int .i64 0, .int .i64 how] w fun e w' => e = .returned (.tuple #[.int .i64 x, .int .i64 0]) ∧ Below w.heap.size w w' := by
 have d3 : decide (how < 0) = false := decide_eq_false (by omega)
 have d4 : decide (3 ≤ how) = false := decide_eq_false (by omega)
 clear h0 h3
 go_enter Tryz.func42, Tryz.ntmps42
 go_wp2_with (go_at_call 68; (with_reducible refine (modes_any _).mono ?_); rintro e W1 ⟨rfl, rfl⟩)
 go_ret2
 exact ⟨rfl, below_alloc (Below.refl _ _) _⟩
set_option maxRecDepth 100000 in
set_option maxHeartbeats 4000000 in
theorem Shift_0 (x s : Int) (h0 : 1 ≤ s) (h3 : s ≤ 62) (w : World) : Calls Tryz.prog 42 #[.int .i64 x, .int .i64 s, .int .i64 0] w fun e w' => e = .returned (.tuple #[.int .i64 (x / 2 ^ s.toNat), .int .i64 0]) ∧ Below w.heap.size w w' := by
 have d1 : decide (s < 0) = false := decide_eq_false (by omega)
 have d2 : decide (62 < s) = false := decide_eq_false (by omega)
 have d3 : (s == 0) = false := by simp; omega
 go_enter Tryz.func42, Tryz.ntmps42
 go_wp2_with (go_at_call 68; (with_reducible refine (modes_any _).mono ?_); rintro e W1 ⟨rfl, rfl⟩)
 go_quiet ((go_at_call 99; exact Calls.quiet_of_same (up0_any _ _ _ _)))
 go_wp2
 go_ret2
 exact ⟨rfl, pw_below_drewN (below_alloc (Below.refl _ _) _) _⟩
set_option maxRecDepth 100000 in
set_option maxHeartbeats 4000000 in
theorem Shift_1_true (x s : Int) (h0 : 1 ≤ s) (h3 : s ≤ 62) (hU : up1B (bits .and .i64 x (wrap64 (wrap64 (2 ^ s.toNat) - 1))) (wrap64 (2 ^ (s.toNat - 1))) = true) (w : World) : Calls Tryz.prog 42 #[.int .i64 x, .int .i64 s, .int .i64 1] w fun e w' => e = .returned (.tuple #[.int .i64 (wrap64 (x / 2 ^ s.toNat + 1)), .int .i64 0]) ∧ Below w.heap.size w w' := by
 have d1 : decide (s < 0) = false := decide_eq_false (by omega)
 have d2 : decide (62 < s) = false := decide_eq_false (by omega)
 have d3 : (s == 0) = false := by simp; omega
 go_enter Tryz.func42, Tryz.ntmps42
 go_wp2_with (go_at_call 68; (with_reducible refine (modes_any _).mono ?_); rintro e W1 ⟨rfl, rfl⟩)
 go_quiet ((go_at_call 100; exact Calls.quiet_of_same (up1_any _ _ _ _)))
 go_wp2
 all_goals first
  | exact absurd (hU.symm.trans ‹up1B _ _ = false›) (by decide)
  | (go_ret2; exact ⟨rfl, pw_below_drewN (below_alloc (Below.refl _ _) _) _⟩)
set_option maxRecDepth 100000 in
set_option maxHeartbeats 4000000 in
theorem Shift_1_false (x s : Int) (h0 : 1 ≤ s) (h3 : s ≤ 62) (hU : up1B (bits .and .i64 x (wrap64 (wrap64 (2 ^ s.toNat) - 1))) (wrap64 (2 ^ (s.toNat - 1))) = false) (w : World) : Calls Tryz.prog 42 #[.int .i64 x, .int .i64 s, .int .i64 1] w fun e w' => e = .returned (.tuple #[.int .i64 (x / 2 ^ s.toNat), .int .i64 0]) ∧ Below w.heap.size w w' := by
 have d1 : decide (s < 0) = false := decide_eq_false (by omega)
 have d2 : decide (62 < s) = false := decide_eq_false (by omega)
 have d3 : (s == 0) = false := by simp; omega
 go_enter Tryz.func42, Tryz.ntmps42
 go_wp2_with (go_at_call 68; (with_reducible refine (modes_any _).mono ?_); rintro e W1 ⟨rfl, rfl⟩)
 go_quiet ((go_at_call 100; exact Calls.quiet_of_same (up1_any _ _ _ _)))
 go_wp2
 all_goals first
  | exact absurd (hU.symm.trans ‹up1B _ _ = true›) (by decide)
  | (go_ret2; exact ⟨rfl, pw_below_drewN (below_alloc (Below.refl _ _) _) _⟩)
set_option maxRecDepth 100000 in
set_option maxHeartbeats 4000000 in
theorem Shift_2_true (x s : Int) (h0 : 1 ≤ s) (h3 : s ≤ 62) (hU : up2B (bits .and .i64 x (wrap64 (wrap64 (2 ^ s.toNat) - 1))) (wrap64 (2 ^ (s.toNat - 1))) (bits .and .i64 (x / 2 ^ s.toNat) 1 == 1) = true) (w : World) : Calls Tryz.prog 42 #[.int .i64 x, .int .i64 s, .int .i64 2] w fun e w' => e = .returned (.tuple #[.int .i64 (wrap64 (x / 2 ^ s.toNat + 1)), .int .i64 0]) ∧ Below w.heap.size w w' := by
 have d1 : decide (s < 0) = false := decide_eq_false (by omega)
 have d2 : decide (62 < s) = false := decide_eq_false (by omega)
 have d3 : (s == 0) = false := by simp; omega
 go_enter Tryz.func42, Tryz.ntmps42
 go_wp2_with (go_at_call 68; (with_reducible refine (modes_any _).mono ?_); rintro e W1 ⟨rfl, rfl⟩)
 go_quiet ((go_at_call 101; exact Calls.quiet_of_same (up2_any _ _ _ _)))
 go_wp2
 all_goals first
  | exact absurd (hU.symm.trans ‹up2B _ _ _ = false›) (by decide)
  | (go_ret2; exact ⟨rfl, pw_below_drewN (below_alloc (Below.refl _ _) _) _⟩)
set_option maxRecDepth 100000 in
set_option maxHeartbeats 4000000 in
theorem Shift_2_false (x s : Int) (h0 : 1 ≤ s) (h3 : s ≤ 62) (hU : up2B (bits .and .i64 x (wrap64 (wrap64 (2 ^ s.toNat) - 1))) (wrap64 (2 ^ (s.toNat - 1))) (bits .and .i64 (x / 2 ^ s.toNat) 1 == 1) = false) (w : World) : Calls Tryz.prog 42 #[.int .i64 x, .int .i64 s, .int .i64 2] w fun e w' => e = .returned (.tuple #[.int .i64 (x / 2 ^ s.toNat), .int .i64 0]) ∧ Below w.heap.size w w' := by
 have d1 : decide (s < 0) = false := decide_eq_false (by omega)
 have d2 : decide (62 < s) = false := decide_eq_false (by omega)
 have d3 : (s == 0) = false := by simp; omega
 go_enter Tryz.func42, Tryz.ntmps42
 go_wp2_with (go_at_call 68; (with_reducible refine (modes_any _).mono ?_); rintro e W1 ⟨rfl, rfl⟩)
 go_quiet ((go_at_call 101; exact Calls.quiet_of_same (up2_any _ _ _ _)))
 go_wp2
 all_goals first
  | exact absurd (hU.symm.trans ‹up2B _ _ _ = true›) (by decide)
  | (go_ret2; exact ⟨rfl, pw_below_drewN (below_alloc (Below.refl _ _) _) _⟩)
end Go.Proofs.YteieahbadclppaaGreat.P

namespace Go.Proofs.YteieahbadclppaaGreat.P
open Go.RowKit Go.Proofs.YteieahbadclppaaGreatW.PrintWords Go.Proofs.YteieahbadclppaaGreatW.PrintLast Go.Proofs.YteieahbadclppaaGreatW.PrintMore
attribute [local go_sem] max2_int min2_int max_two min_two max_three min_three max_four min_four   -- for this text's walks alone
set_option linter.unusedVariables false
set_option linter.unusedSimpArgs false

def upV (x s how : Int) : Bool := if how = 1 then up1B (bits .and .i64 x (wrap64 (wrap64 (2 ^ s.toNat) - 1))) (wrap64 (2 ^ (s.toNat - 1))) else if how = 2 then up2B (bits .and .i64 x (wrap64 (wrap64 (2 ^ s.toNat) - 1))) (wrap64 (2 ^ (s.toNat - 1))) (bits .and .i64 (x / 2 ^ s.toNat) 1 == 1) else false
def shV (x s how : Int) : Int := if s = 0 then x else if upV x s how = true then wrap64 (x / 2 ^ s.toNat + 1) else x / 2 ^ s.toNat
def round_Shift.f (a0 a1 a2 : Int) : Option (Int × Int) := if a1 < 0 ∨ a1 > 62 ∨ a2 < 0 ∨ a2 ≥ 3 then some (0, 1) else some (shV a0 a1 a2, 0)
theorem round_Shift.calls (a0 : Int) (a1 : Int) (a2 : Int) (r1 : Int) (r2 : Int) (w : World) (h : round_Shift.f a0 a1 a2 = some (r1, r2)) :
  Calls Tryz.prog 42 #[.int .i64 a0, .int .i64 a1, .int .i64 a2] w fun e w' => e = .returned (.tuple #[.int .i64 r1, .int .i64 r2]) ∧ Below w.heap.size w w' := by
 unfold round_Shift.f at h
 by_cases hb : a1 < 0 ∨ a1 > 62 ∨ a2 < 0 ∨ a2 ≥ 3
 ·rw [if_pos hb] at h
  simp only [Option.some.injEq, Prod.mk.injEq] at h
  obtain ⟨rfl, rfl⟩ := h
  exact Shift_bad a0 a1 a2 hb w
 ·rw [if_neg hb] at h
  simp only [Option.some.injEq, Prod.mk.injEq] at h
  obtain ⟨rfl, rfl⟩ := h
  unfold shV
  by_cases hz : a1 = 0
  ·subst hz
   rw [if_pos rfl]
   exact Shift_zero a0 a2 (by omega) (by omega) w
  ·rw [if_neg hz]
   have h3 : a2 = 0 ∨ a2 = 1 ∨ a2 = 2 := by omega
   rcases h3 with rfl | rfl | rfl
   ·have e : upV a0 a1 0 = false := rfl
    rw [e, if_neg (by decide)]
    exact Shift_0 a0 a1 (by omega) (by omega) w
   ·cases e : upV a0 a1 1 with
    | true => rw [if_pos rfl]; exact Shift_1_true a0 a1 (by omega) (by omega) e w
    | false => rw [if_neg (by decide)]; exact Shift_1_false a0 a1 (by omega) (by omega) e w
   ·cases e : upV a0 a1 2 with
    | true => rw [if_pos rfl]; exact Shift_2_true a0 a1 (by omega) (by omega) e w
    | false => rw [if_neg (by decide)]; exact Shift_2_false a0 a1 (by omega) (by omega) e w

end Go.Proofs.YteieahbadclppaaGreat.P

namespace Go.Proofs.YteieahbadclppaaGreat.P
open Go.RowKit Go.Proofs.YteieahbadclppaaGreatW.PrintWords Go.Proofs.YteieahbadclppaaGreatW.PrintLast Go.Proofs.YteieahbadclppaaGreatW.PrintMore
attribute [local go_sem] max2_int min2_int max_two min_two max_three min_three max_four min_four   -- for this text's walks alone
set_option linter.unusedVariables false
set_option linter.unusedSimpArgs false

def plan_in.f (a0 : Int) (a1 : Int) (a2 : Int) : Option (Bool) := if a0 ≥ a1 then (some (decide (a0 ≤ a2))) else (some false)
set_option maxHeartbeats 8000000 in
set_option maxRecDepth 100000 in
theorem plan_in.calls (a0 : Int) (a1 : Int) (a2 : Int) (r : Bool) (w : World) (h : plan_in.f a0 a1 a2 = some r) :
  Calls Tryz.prog 64 #[.int .i64 a0, .int .i64 a1, .int .i64 a2] w fun e w' => e = .returned (.bool r) ∧ Drawn0 w w' := by
 have H : (if a0 ≥ a1 then (some (decide (a0 ≤ a2))) else (some false)) = some r := h
 clear h
 by_cases c4 : a0 ≥ a1
 ·rw [if_pos c4] at H
  have c4b0 : decide (a1 ≤ a0) = true := decide_eq_true c4
  clear c4
  obtain rfl := Option.some.inj H
  go_enter Tryz.func64, Tryz.ntmps64
  go_wp2
  go_ret
  exact ⟨by first | rfl | (simp; done) | (simp [*]; done), by repeat (first | exact Drawn0.refl _ | apply Drawn0.step)⟩
 ·rw [if_neg c4] at H
  have c4b0 : decide (a1 ≤ a0) = false := decide_eq_false c4
  clear c4
  obtain rfl := Option.some.inj H
  go_enter Tryz.func64, Tryz.ntmps64
  go_wp2
  go_ret
  exact ⟨by first | rfl | (simp; done) | (simp [*]; done), by repeat (first | exact Drawn0.refl _ | apply Drawn0.step)⟩

def flip_Log.l0 : Nat → Int → Int → Option (Int × Int)
 | 0, _, _ => none
 | k + 1, x0, x4 => if x4 ≤ 6 then (if 0 ≤ x4 then (if x0 = (shl .i64 1 x4) then (some (x4, 0)) else (flip_Log.l0 k x0 (wrap64 (x4 + 1)))) else (none)) else (some (0, 3))
def flip_Log.f (k : Nat) (a0 : Int) : Option (Int × Int) := flip_Log.l0 k a0 2
set_option maxHeartbeats 8000000 in
set_option maxRecDepth 100000 in
theorem flip_Log.calls (k : Nat) (a0 : Int) (r1 : Int) (r2 : Int) (w : World) (h : flip_Log.f k a0 = some (r1, r2)) :
  Calls Tryz.prog 40 #[.int .i64 a0] w fun e w' => e = .returned (.tuple #[.int .i64 r1, .int .i64 r2]) ∧ Drawn0 w w' := by
 have H : (flip_Log.l0 k a0 2) = some (r1, r2) := h
 clear h
 have H' := Aside0.mk H
 clear H
 go_enter Tryz.func40, Tryz.ntmps40
 go_wp2
 go_loopg [4] k (fun kq v4 w' => ∃ (x4_1 : Int), v4 = .int .i64 x4_1 ∧ Aside0 (flip_Log.l0 kq a0 x4_1 = some (r1, r2)) ∧ Aside0 (kq ≤ k) ∧ Drawn0 w w')
 case atStart => exact ⟨(2), (by first | rfl | (simp; done) | (simp [*]; done)), H', ⟨Nat.le_refl _⟩, by repeat (first | exact Drawn0.refl _ | apply Drawn0.step)⟩
 case round =>
  clear H'
  obtain ⟨x4_1, rfl, HA, HK1, ⟨m1, rfl⟩⟩ := hrel
  cases gk with
  | zero => exact absurd HA.out (by simp [flip_Log.l0])
  | succ k1 =>
   have H := HA.out
   clear HA
   simp only [flip_Log.l0] at H
   by_cases c2 : x4_1 ≤ 6
   ·rw [if_pos c2] at H
    have c2b0 : decide (x4_1 ≤ 6) = true := decide_eq_true c2
    clear c2
    by_cases c3 : 0 ≤ x4_1
    ·rw [if_pos c3] at H
     have c3b0 := eq_true c3
     have c3b1 : decide (0 ≤ x4_1) = true := decide_eq_true c3
     clear c3
     obtain ⟨ji4, hji4⟩ : ∃ j_ : Int, (shl .i64 1 x4_1) = j_ := ⟨_, rfl⟩
     replace H : (if a0 = (ji4) then (some (x4_1, 0)) else (flip_Log.l0 k1 a0 (wrap64 (x4_1 + 1)))) = some (r1, r2) := by first | (rw [hji4] at H; exact H) | (simp only [hji4] at H ⊢; exact H)
     have hji4_ : (IntKind.i64.wrap (1 * 2 ^ min x4_1.toNat 64)) = ji4 := hji4
     have hji4z : x4_1 ≤ 64 → (IntKind.i64.wrap (1 * 2 ^ x4_1.toNat)) = ji4 := shl_small hji4
     have hji4u : (IntKind.i64.wrap (2 ^ min x4_1.toNat 64)) = ji4 := by have h_ := hji4_; rw [Int.one_mul] at h_; exact h_
     have hji4v : x4_1 ≤ 64 → (IntKind.i64.wrap (2 ^ x4_1.toNat)) = ji4 := fun hle_ => by have h_ := hji4z hle_; rw [Int.one_mul] at h_; exact h_
     have hji4y : (wrap64 (1 * 2 ^ min x4_1.toNat 64)) = ji4 := (i64_w _).symm.trans hji4_
     have hji4x : x4_1 ≤ 64 → (wrap64 (1 * 2 ^ x4_1.toNat)) = ji4 := fun h_ => (i64_w _).symm.trans (hji4z h_)
     by_cases c5 : a0 = (ji4)
     ·rw [if_pos c5] at H
      have c5b0 : (a0 == (ji4)) = true := beq_iff_eq.mpr c5
      have c5b1 : (a0 != (ji4)) = false := bne_eq_false_iff_eq.mpr c5
      clear c5
      simp only [Option.some.injEq, Prod.mk.injEq] at H
      obtain ⟨rfl, rfl⟩ := H
      go_wp2
      go_ret2
      exact ⟨by first | rfl | (simp; done) | (simp only [← hji4] <;> (first | rfl | simp)) | (simp [*]; done), by repeat (first | exact Drawn0.refl _ | apply Drawn0.step)⟩
     ·rw [if_neg c5] at H
      have c5b0 : (a0 == (ji4)) = false := beq_eq_false_iff_ne.mpr c5
      have c5b1 : (a0 != (ji4)) = true := bne_iff_ne.mpr c5
      have H' := Aside0.mk H
      clear H
      go_wp2
      go_roundg k1
      case measure => have := HK1.out; omega
      case rel => exact ⟨(wrap64 (x4_1 + 1)), (by first | rfl | (simp; done) | (simp [*]; done)), H', ⟨by have := HK1.out; omega⟩, by repeat (first | exact Drawn0.refl _ | apply Drawn0.step)⟩
    ·rw [if_neg c3] at H
     exact absurd H (by simp)
   ·rw [if_neg c2] at H
    have c2b0 : decide (x4_1 ≤ 6) = false := decide_eq_false c2
    clear c2
    simp only [Option.some.injEq, Prod.mk.injEq] at H
    obtain ⟨rfl, rfl⟩ := H
    go_wp2
    go_ret2
    exact ⟨by first | rfl | (simp; done) | (simp [*]; done), by repeat (first | exact Drawn0.refl _ | apply Drawn0.step)⟩

def flip_may.f (a0 : Int) : Option (Bool) := if a0 ≥ 2 then (some (decide (a0 ≤ 6))) else (some false)
set_option maxHeartbeats 8000000 in
set_option maxRecDepth 100000 in
theorem flip_may.calls (a0 : Int) (r : Bool) (w : World) (h : flip_may.f a0 = some r) :
  Calls Tryz.prog 110 #[.int .i64 a0] w fun e w' => e = .returned (.bool r) ∧ Drawn0 w w' := by
 have H : (if a0 ≥ 2 then (some (decide (a0 ≤ 6))) else (some false)) = some r := h
 clear h
 by_cases c2 : a0 ≥ 2
 ·rw [if_pos c2] at H
  have c2b0 : decide (2 ≤ a0) = true := decide_eq_true c2
  clear c2
  obtain rfl := Option.some.inj H
  go_enter Tryz.func110, Tryz.ntmps110
  go_wp2
  go_ret
  exact ⟨by first | rfl | (simp; done) | (simp [*]; done), by repeat (first | exact Drawn0.refl _ | apply Drawn0.step)⟩
 ·rw [if_neg c2] at H
  have c2b0 : decide (2 ≤ a0) = false := decide_eq_false c2
  clear c2
  obtain rfl := Option.some.inj H
  go_enter Tryz.func110, Tryz.ntmps110
  go_wp2
  go_ret
  exact ⟨by first | rfl | (simp; done) | (simp [*]; done), by repeat (first | exact Drawn0.refl _ | apply Drawn0.step)⟩

def round_Up.j0 : Nat → Int → Int → Bool → Option (Int × Int)
 | 0, _, _, _ => none
 | k + 1, x0, x1, x12 => if x12 = true then (some (0, 1)) else (if 0 ≤ (wrap64 (62 - x1)) then (if x0 < (wrap64 (-(shl .i64 1 (wrap64 (62 - x1))))) then (some (0, 2)) else (if x0 > (shl .i64 1 (wrap64 (62 - x1))) then (some (0, 2)) else (if 0 ≤ x1 then (some (shl .i64 x0 x1, 0)) else (none)))) else (none))
def IsS70 (w0 W : World) (g : Nat) (f0 : Int) (f1 : Int) : Prop := W.heap[g]? = some (.cells #[.int .i64 f0, .int .i64 f1] 70 (0, 0)) ∧ w0.heap.size ≤ g
theorem IsS70.grown {w0 W : World} {g : Nat} {f0 : Int} {f1 : Int} {W1 : World} {row : Option Nat} (h : IsS70 w0 W g f0 f1) (hw : W.grownBy W1 row) (hne : some g ≠ row) : IsS70 w0 W1 g f0 f1 := by
 obtain ⟨hb, hg⟩ := h
 exact ⟨blk_grown hb hw hne, hg⟩
theorem IsS70.kept {w0 W : World} {g : Nat} {f0 : Int} {f1 : Int} {W1 : World} {S : Nat → Prop} (h : IsS70 w0 W g f0 f1) (hk : Kept W W1 S) (hne : ¬ S g) : IsS70 w0 W1 g f0 f1 := by
 obtain ⟨hb, hg⟩ := h
 exact ⟨blk_kept hb hk hne, hg⟩
theorem IsS70.below {w0 W : World} {g : Nat} {f0 : Int} {f1 : Int} {W1 : World} (h : IsS70 w0 W g f0 f1) (hw : Below W.heap.size W W1) : IsS70 w0 W1 g f0 f1 := h.grown (grown_of_below hw none) (by simp)
theorem IsS70.alloc {w0 W : World} {g : Nat} {f0 : Int} {f1 : Int} (h : IsS70 w0 W g f0 f1) (o : Obj) : IsS70 w0 (W.alloc o) g f0 f1 := h.below (below_alloc (Below.refl _ _) o)
theorem IsS70.drewN {w0 W : World} {g : Nat} {f0 : Int} {f1 : Int} (h : IsS70 w0 W g f0 f1) (m : Nat) : IsS70 w0 (W.drewN m) g f0 f1 := h
theorem IsS70.drew {w0 W : World} {g : Nat} {f0 : Int} {f1 : Int} (h : IsS70 w0 W g f0 f1) : IsS70 w0 W.drew g f0 f1 := h
theorem IsS70.at_ {w0 W : World} {g : Nat} {f0 : Int} {f1 : Int} {w' : World} {m : Nat} (hq : W.drewN m = w') (h : IsS70 w0 W g f0 f1) : IsS70 w0 w' g f0 f1 := by subst hq; exact IsS70.drewN h m
theorem IsS70.apart {w0 W : World} {g : Nat} {f0 : Int} {f1 : Int} {α : Type} {d : Kd α} {e : Nat} {base : Nat} {ok : Nat → Prop} {v : Value} {xs : List α} (h : IsS70 w0 W g f0 f1) (ho : d.R e W base ok v xs) (ht : ∀ q, q ∈ e :: d.E → q ≠ 70) : d.R e W base (fun k => ok k ∧ k ≠ g) v xs := by
 obtain ⟨hb, hg⟩ := h
 exact Kd.R_types ho hb ht
theorem IsS70.own_ne {w0 W : World} {g : Nat} {f0 : Int} {f1 : Int} {α : Type} {d : Kd α} {e : Nat} {base : Nat} {ok : Nat → Prop} {v : Value} {xs : List α} (h : IsS70 w0 W g f0 f1) (ho : d.R e W base ok v xs) (ht : e ≠ 70) : some g ≠ v.ownBlock := by
 obtain ⟨hb, hg⟩ := h
 exact Kd.R_ne ho hb ht
theorem IsS70.lt {w0 W : World} {g : Nat} {f0 : Int} {f1 : Int} (h : IsS70 w0 W g f0 f1) : g < W.heap.size := by
 obtain ⟨hb, hg⟩ := h
 exact blk_lt hb
theorem IsS70.new (w0 W : World) (f0 : Int) (f1 : Int) (hB : Below w0.heap.size w0 W) : IsS70 w0 (W.alloc (.cells #[.int .i64 f0, .int .i64 f1] 70)) W.heap.size f0 f1 := ⟨by simpa using heap_alloc_new W _, hB.size⟩

def scan_greatest.l0 : Nat → Int → List Int → Int → Int → Option (Int)
 | 0, _, _, _, _ => none
 | k + 1, x3, x6, x7, x8 => if x8 < x7 then (if 0 ≤ x8 then (if x8 < (x6.length : Int) then (scan_greatest.l0 k (mx (mx x3 (rd x6 x8)) (wrap64 (-(rd x6 x8)))) x6 x7 (wrap64 (x8 + 1))) else (none)) else (none)) else (some x3)
def scan_greatest.f (k : Nat) (l0 : List Int) : Option (Int) := scan_greatest.l0 k 0 l0 (l0.length : Int) 0
set_option maxHeartbeats 8000000 in
set_option maxRecDepth 100000 in
theorem scan_greatest.calls (k : Nat) (A0 : Option Addr) (c0 : Nat) (l0 : List Int) (r : Int) (w : World) (hr0 : Kd.C (Kd.int .i64) w A0 l0.length l0) (hc0 : l0.length ≤ c0) (h : scan_greatest.f k l0 = some r) :
  Calls Tryz.prog 31 #[.slice A0 l0.length c0] w fun e w' => e = .returned (.int .i64 r) ∧ Below w.heap.size w w' := by
 have HR0 := Aside0.mk hr0
 have HC0 := Aside0.mk hc0
 clear hr0 hc0
 have HB := Aside0.mk (Below.refl w.heap.size w)
 have H : (scan_greatest.l0 k 0 l0 (l0.length : Int) 0) = some r := h
 clear h
 have H' := Aside0.mk H
 clear H
 go_enter Tryz.func31, Tryz.ntmps31
 go_wp2
 go_loopg [3, 8] k (fun kq v3 v8 w' => ∃ (x3_1 : Int) (x8_1 : Int), v3 = .int .i64 x3_1 ∧ v8 = .int .i64 x8_1 ∧ Aside0 (scan_greatest.l0 kq x3_1 l0 (l0.length : Int) x8_1 = some r) ∧ Aside0 (kq ≤ k) ∧ Aside0 (Below w.heap.size w w'))
 case atStart => exact ⟨(0), (0), (by first | rfl | (simp; done) | (simp [*]; done)), (by first | rfl | (simp; done) | (simp [*]; done)), H', ⟨Nat.le_refl _⟩, ⟨by repeat (first | (with_reducible first | exact HB.out | apply below_alloc | apply pw_below_drewN | apply below_drew1) | exact HB.out)⟩⟩
 case round =>
  clear H'
  obtain ⟨x3_1, x8_1, rfl, rfl, HA, HK1, HB⟩ := hrel
  cases gk with
  | zero => exact absurd HA.out (by simp [scan_greatest.l0])
  | succ k1 =>
   have H := HA.out
   clear HA
   simp only [scan_greatest.l0] at H
   by_cases c2 : x8_1 < (l0.length : Int)
   ·rw [if_pos c2] at H
    have c2b0 : decide (x8_1 < (l0.length : Int)) = true := decide_eq_true c2
    clear c2
    by_cases c3 : 0 ≤ x8_1
    ·rw [if_pos c3] at H
     have c3b0 : decide (0 ≤ x8_1) = true := decide_eq_true c3
     clear c3
     by_cases c4 : x8_1 < (l0.length : Int)
     ·rw [if_pos c4] at H
      have c4b0 : decide (x8_1 < (l0.length : Int)) = true := decide_eq_true c4
      clear c4
      obtain ⟨ji5, hji5⟩ : ∃ j_ : Int, (mx x3_1 (rd l0 x8_1)) = j_ := ⟨_, rfl⟩
      replace H : (scan_greatest.l0 k1 (mx (ji5) (wrap64 (-(rd l0 x8_1)))) l0 (l0.length : Int) (wrap64 (x8_1 + 1))) = some r := by first | (rw [hji5] at H; exact H) | (simp only [hji5] at H ⊢; exact H)
      have hji5_ : (if x3_1 < (rd l0 x8_1) then (rd l0 x8_1) else x3_1) = ji5 := hji5
      obtain ⟨ji6, hji6⟩ : ∃ j_ : Int, (mx (ji5) (wrap64 (-(rd l0 x8_1)))) = j_ := ⟨_, rfl⟩
      replace H : (scan_greatest.l0 k1 ji6 l0 (l0.length : Int) (wrap64 (x8_1 + 1))) = some r := by first | (rw [hji6] at H; exact H) | (simp only [hji6] at H ⊢; exact H)
      have hji6_ : (if (ji5) < (wrap64 (-(rd l0 x8_1))) then (wrap64 (-(rd l0 x8_1))) else (ji5)) = ji6 := hji6
      have H' := Aside0.mk H
      clear H
      have p289 : 0 ≤ (x8_1 : Int) := of_decide_eq_true (by first | (with_reducible assumption) | assumption)
      have q289 : x8_1 < (l0.length : Int) := of_decide_eq_true (by first | (with_reducible assumption) | assumption)
      obtain ⟨ad289, e289, hx289_0⟩ := Kd.at_int HR0.out x8_1 p289 q289
      cases e289
      replace hx289_0 := (HB.out.cell (World.block_lt_of_cell? w _ hx289_0)).trans hx289_0
      replace p289 := eq_true p289
      replace q289 := eq_true q289
      go_wp2
      go_roundg k1
      case measure => have := HK1.out; omega
      case rel => exact ⟨(ji6), (wrap64 (x8_1 + 1)), (by first | rfl | (simp; done) | (simp only [← hji6] <;> (first | rfl | simp)) | (simp [*]; done)), (by first | rfl | (simp; done) | (simp [*]; done)), H', ⟨by have := HK1.out; omega⟩, ⟨by repeat (first | (with_reducible first | exact HB.out | apply below_alloc | apply pw_below_drewN | apply below_drew1) | exact HB.out)⟩⟩
     ·rw [if_neg c4] at H
      exact absurd H (by simp)
    ·rw [if_neg c3] at H
     exact absurd H (by simp)
   ·rw [if_neg c2] at H
    have c2b0 : decide (x8_1 < (l0.length : Int)) = false := decide_eq_false c2
    clear c2
    obtain rfl := Option.some.inj H
    go_wp2
    go_ret
    exact ⟨by first | rfl | (simp [errW_none, errW_some] <;> rfl) | (simp [*, errW_none, errW_some] <;> rfl), by repeat (first | (with_reducible first | exact HB.out | apply below_alloc | apply pw_below_drewN | apply below_drew1) | exact HB.out)⟩

end Go.Proofs.YteieahbadclppaaGreat.P

namespace Go.Proofs.YteieahbadclppaaGreat.P
open Go.RowKit Go.Proofs.YteieahbadclppaaGreatW.PrintWords Go.Proofs.YteieahbadclppaaGreatW.PrintLast Go.Proofs.YteieahbadclppaaGreatW.PrintMore
attribute [local go_sem] max2_int min2_int max_two min_two max_three min_three max_four min_four   -- for this text's walks alone
set_option linter.unusedVariables false
set_option linter.unusedSimpArgs false

def roots_may.f (a0 : Int) (a1 : Int) : Option (Bool) := (round_Shift.f 0 a1 1).bind fun bt104 => (if a0 ≥ 2 then (if a0 ≤ 6 then (if bt104.2 = 0 then (some (decide (a1 ≤ 40))) else (some false)) else (some false)) else (some false))
set_option maxHeartbeats 8000000 in
set_option maxRecDepth 100000 in
theorem roots_may.calls (a0 : Int) (a1 : Int) (r : Bool) (w : World) (h : roots_may.f a0 a1 = some r) :
  Calls Tryz.prog 89 #[.int .i64 a0, .int .i64 a1] w fun e w' => e = .returned (.bool r) ∧ Below w.heap.size w w' := by
 have HB := Aside0.mk (Below.refl w.heap.size w)
 have H : ((round_Shift.f 0 a1 1).bind fun bt104 => (if a0 ≥ 2 then (if a0 ≤ 6 then (if bt104.2 = 0 then (some (decide (a1 ≤ 40))) else (some false)) else (some false)) else (some false))) = some r := h
 clear h
 replace H := Option.bind_eq_some_iff.mp H
 obtain ⟨⟨t104, t105⟩, A30, H⟩ := H
 replace H : (if a0 ≥ 2 then (if a0 ≤ 6 then (if t105 = 0 then (some (decide (a1 ≤ 40))) else (some false)) else (some false)) else (some false)) = some r := H
 have A3 := Aside0.mk A30
 clear A30
 by_cases c4 : a0 ≥ 2
 ·rw [if_pos c4] at H
  have c4b0 : decide (2 ≤ a0) = true := decide_eq_true c4
  clear c4
  by_cases c5 : a0 ≤ 6
  ·rw [if_pos c5] at H
   have c5b0 : decide (a0 ≤ 6) = true := decide_eq_true c5
   clear c5
   by_cases c6 : t105 = 0
   ·rw [if_pos c6] at H
    have c6b0 : (t105 == 0) = true := beq_iff_eq.mpr c6
    have c6b1 : (t105 != 0) = false := bne_eq_false_iff_eq.mpr c6
    clear c6
    obtain rfl := Option.some.inj H
    go_enter Tryz.func89, Tryz.ntmps89
    go_wp2_with (first | ((with_reducible refine gate_callee (f := 42) rfl ?_); refine goesL_ (some 9) rfl rfl Tryz.func42 (by kernel_rfl) rfl #[.int .i64 0, .int .i64 a1, .int .i64 1] rfl (by (try simp only [List.map_toArray, List.map_cons, List.map_nil]); first | done | rfl | (simp only [List.length_drop, List.length_take]; rfl)) ?_; (with_reducible refine (round_Shift.calls 0 a1 1 t104 t105 _ A3.out).mono ?_); rintro e w7 ⟨rfl, hb⟩; refine ⟨_, rfl, ?_⟩; have n0_ := Aside0.mk (below_step (by repeat (first | (with_reducible first | exact HB.out | apply below_alloc | apply pw_below_drewN | apply below_drew1) | exact HB.out)) hb); clear HB; have HB := n0_; clear n0_; (try clear hb); (try clear hb2); (try clear hk); (try clear hi)))
    go_ret
    exact ⟨by first | rfl | (simp [errW_none, errW_some] <;> rfl) | (simp [*, errW_none, errW_some] <;> rfl), by repeat (first | (with_reducible first | exact HB.out | apply below_alloc | apply pw_below_drewN | apply below_drew1) | exact HB.out)⟩
   ·rw [if_neg c6] at H
    have c6b0 : (t105 == 0) = false := beq_eq_false_iff_ne.mpr c6
    have c6b1 : (t105 != 0) = true := bne_iff_ne.mpr c6
    obtain rfl := Option.some.inj H
    go_enter Tryz.func89, Tryz.ntmps89
    go_wp2_with (first | ((with_reducible refine gate_callee (f := 42) rfl ?_); refine goesL_ (some 9) rfl rfl Tryz.func42 (by kernel_rfl) rfl #[.int .i64 0, .int .i64 a1, .int .i64 1] rfl (by (try simp only [List.map_toArray, List.map_cons, List.map_nil]); first | done | rfl | (simp only [List.length_drop, List.length_take]; rfl)) ?_; (with_reducible refine (round_Shift.calls 0 a1 1 t104 t105 _ A3.out).mono ?_); rintro e w8 ⟨rfl, hb⟩; refine ⟨_, rfl, ?_⟩; have n0_ := Aside0.mk (below_step (by repeat (first | (with_reducible first | exact HB.out | apply below_alloc | apply pw_below_drewN | apply below_drew1) | exact HB.out)) hb); clear HB; have HB := n0_; clear n0_; (try clear hb); (try clear hb2); (try clear hk); (try clear hi)))
    go_ret
    exact ⟨by first | rfl | (simp [errW_none, errW_some] <;> rfl) | (simp [*, errW_none, errW_some] <;> rfl), by repeat (first | (with_reducible first | exact HB.out | apply below_alloc | apply pw_below_drewN | apply below_drew1) | exact HB.out)⟩
  ·rw [if_neg c5] at H
   have c5b0 : decide (a0 ≤ 6) = false := decide_eq_false c5
   clear c5
   obtain rfl := Option.some.inj H
   go_enter Tryz.func89, Tryz.ntmps89
   go_wp2_with (first | ((with_reducible refine gate_callee (f := 42) rfl ?_); refine goesL_ (some 9) rfl rfl Tryz.func42 (by kernel_rfl) rfl #[.int .i64 0, .int .i64 a1, .int .i64 1] rfl (by (try simp only [List.map_toArray, List.map_cons, List.map_nil]); first | done | rfl | (simp only [List.length_drop, List.length_take]; rfl)) ?_; (with_reducible refine (round_Shift.calls 0 a1 1 t104 t105 _ A3.out).mono ?_); rintro e w9 ⟨rfl, hb⟩; refine ⟨_, rfl, ?_⟩; have n0_ := Aside0.mk (below_step (by repeat (first | (with_reducible first | exact HB.out | apply below_alloc | apply pw_below_drewN | apply below_drew1) | exact HB.out)) hb); clear HB; have HB := n0_; clear n0_; (try clear hb); (try clear hb2); (try clear hk); (try clear hi)))
   go_ret
   exact ⟨by first | rfl | (simp [errW_none, errW_some] <;> rfl) | (simp [*, errW_none, errW_some] <;> rfl), by repeat (first | (with_reducible first | exact HB.out | apply below_alloc | apply pw_below_drewN | apply below_drew1) | exact HB.out)⟩
 ·rw [if_neg c4] at H
  have c4b0 : decide (2 ≤ a0) = false := decide_eq_false c4
  clear c4
  obtain rfl := Option.some.inj H
  go_enter Tryz.func89, Tryz.ntmps89
  go_wp2_with (first | ((with_reducible refine gate_callee (f := 42) rfl ?_); refine goesL_ (some 9) rfl rfl Tryz.func42 (by kernel_rfl) rfl #[.int .i64 0, .int .i64 a1, .int .i64 1] rfl (by (try simp only [List.map_toArray, List.map_cons, List.map_nil]); first | done | rfl | (simp only [List.length_drop, List.length_take]; rfl)) ?_; (with_reducible refine (round_Shift.calls 0 a1 1 t104 t105 _ A3.out).mono ?_); rintro e w10 ⟨rfl, hb⟩; refine ⟨_, rfl, ?_⟩; have n0_ := Aside0.mk (below_step (by repeat (first | (with_reducible first | exact HB.out | apply below_alloc | apply pw_below_drewN | apply below_drew1) | exact HB.out)) hb); clear HB; have HB := n0_; clear n0_; (try clear hb); (try clear hb2); (try clear hk); (try clear hi)))
  go_ret
  exact ⟨by first | rfl | (simp [errW_none, errW_some] <;> rfl) | (simp [*, errW_none, errW_some] <;> rfl), by repeat (first | (with_reducible first | exact HB.out | apply below_alloc | apply pw_below_drewN | apply below_drew1) | exact HB.out)⟩

def cx_Shift.f (a0_0 : Int) (a0_1 : Int) (a1 : Int) (a2 : Int) : Option (Int × Int × Int) := (round_Shift.f a0_0 a1 a2).bind fun bt110 => (if bt110.2 = 0 then ((round_Shift.f a0_1 a1 a2).bind fun bt112 => (some (bt110.1, bt112.1, 0))) else (some (0, 0, bt110.2)))
set_option maxHeartbeats 8000000 in
set_option maxRecDepth 100000 in
theorem cx_Shift.calls (a0_0 : Int) (a0_1 : Int) (a1 : Int) (a2 : Int) (r1 : Int) (r2 : Int) (r3 : Int) (w : World) (h : cx_Shift.f a0_0 a0_1 a1 a2 = some (r1, r2, r3)) :
  Calls Tryz.prog 70 #[.agg #[.int .i64 a0_0, .int .i64 a0_1], .int .i64 a1, .int .i64 a2] w fun e w' => e = .returned (.tuple #[.agg #[.int .i64 r1, .int .i64 r2], .int .i64 r3]) ∧ Below w.heap.size w w' := by
 have hu38 := Tryz.underlying38
 have HB := Aside0.mk (Below.refl w.heap.size w)
 have H : ((round_Shift.f a0_0 a1 a2).bind fun bt110 => (if bt110.2 = 0 then ((round_Shift.f a0_1 a1 a2).bind fun bt112 => (some (bt110.1, bt112.1, 0))) else (some (0, 0, bt110.2)))) = some (r1, r2, r3) := h
 clear h
 replace H := Option.bind_eq_some_iff.mp H
 obtain ⟨⟨t110, t111⟩, A40, H⟩ := H
 replace H : (if t111 = 0 then ((round_Shift.f a0_1 a1 a2).bind fun bt112 => (some (t110, bt112.1, 0))) else (some (0, 0, t111))) = some (r1, r2, r3) := H
 have A4 := Aside0.mk A40
 clear A40
 by_cases c5 : t111 = 0
 ·rw [if_pos c5] at H
  have c5b0 : (t111 == 0) = true := beq_iff_eq.mpr c5
  have c5b1 : (t111 != 0) = false := bne_eq_false_iff_eq.mpr c5
  clear c5
  replace H := Option.bind_eq_some_iff.mp H
  obtain ⟨⟨t112, t113⟩, A60, H⟩ := H
  replace H : (some (t110, t112, 0)) = some (r1, r2, r3) := H
  have A6 := Aside0.mk A60
  clear A60
  simp only [Option.some.injEq, Prod.mk.injEq] at H
  obtain ⟨rfl, rfl, rfl⟩ := H
  go_enter Tryz.func70, Tryz.ntmps70
  go_wp2_with (first | ((with_reducible refine gate_dst (N := 3) rfl ?_); refine box_event ?hg (N := 3) ?hd (cs := #[.int .i64 a0_0, .int .i64 a0_1]) (t := 38) ?hr ?_; (case hd => rfl); (case hg => rfl); (case hr => first | (go_simp; done) | (go_simp; rfl)); intro gb108 hg w7 hbox hb; have n0_ := Aside0.mk (below_step (by repeat (first | (with_reducible first | exact HB.out | apply below_alloc | apply pw_below_drewN | apply below_drew1) | exact HB.out)) hb); have n1_ := Aside0.mk (hbox); have n2_ := Aside0.mk ((by rw [hg]; exact (below_size (by repeat (first | (with_reducible first | exact HB.out | apply below_alloc | apply pw_below_drewN | apply below_drew1) | exact HB.out))) : w.heap.size ≤ gb108)); have n3_ := Aside0.mk ((by rw [hg]; exact (below_size (by repeat (first | (with_reducible first | exact HB.out | apply below_alloc | apply pw_below_drewN | apply below_drew1) | exact HB.out))) : w.heap.size ≤ gb108)); clear HB; have HB := n0_; have BK108 := n1_; have GW108 := n2_; have GE108 := n3_; clear n0_ n1_ n2_ n3_; clear hb hbox hg) | ((with_reducible refine gate_dst (N := 6) rfl ?_); refine box_event ?hg (N := 6) ?hd (cs := #[.int .i64 0, .int .i64 0]) (t := 38) ?hr ?_; (case hd => rfl); (case hg => rfl); (case hr => first | (go_simp; done) | (go_simp; rfl)); intro gb109 hg w8 hbox hb; have n0_ := Aside0.mk (blk_below (g := gb108) (o := .cells #[.int .i64 a0_0, .int .i64 a0_1] 38 (0, 0)) (by (with_reducible repeat (first | refine blk_drewN ?_ _ | refine blk_drew ?_ | refine blk_alloc ?_ _)); exact BK108.out) hb); have n1_ := Aside0.mk (below_step (by repeat (first | (with_reducible first | exact HB.out | apply below_alloc | apply pw_below_drewN | apply below_drew1 | refine below_set ?_ GE108.out) | exact HB.out)) hb); have n2_ := Aside0.mk (hbox); have n3_ := Aside0.mk ((by rw [hg]; exact (below_size (by repeat (first | (with_reducible first | exact HB.out | apply below_alloc | apply pw_below_drewN | apply below_drew1 | refine below_set ?_ GE108.out) | exact HB.out))) : w.heap.size ≤ gb109)); have n4_ := Aside0.mk ((by rw [hg]; exact (below_size (by repeat (first | (with_reducible first | exact HB.out | apply below_alloc | apply pw_below_drewN | apply below_drew1 | refine below_set ?_ GE108.out) | exact HB.out))) : w.heap.size ≤ gb109)); have n5_ := Aside0.mk ((by rw [hg]; exact Nat.ne_of_lt (blk_lt (g := gb108) (o := .cells #[.int .i64 a0_0, .int .i64 a0_1] 38 (0, 0)) (by (with_reducible repeat (first | refine blk_drewN ?_ _ | refine blk_drew ?_ | refine blk_alloc ?_ _)); exact BK108.out)) : gb108 ≠ gb109)); have n6_ := Aside0.mk ((by rw [hg]; exact Nat.ne_of_gt (blk_lt (g := gb108) (o := .cells #[.int .i64 a0_0, .int .i64 a0_1] 38 (0, 0)) (by (with_reducible repeat (first | refine blk_drewN ?_ _ | refine blk_drew ?_ | refine blk_alloc ?_ _)); exact BK108.out)) : gb109 ≠ gb108)); clear BK108; clear HB; have BK108 := n0_; have HB := n1_; have BK109 := n2_; have GW109 := n3_; have GE109 := n4_; have NB108_109 := n5_; have NB109_108 := n6_; clear n0_ n1_ n2_ n3_ n4_ n5_ n6_; clear hb hbox hg; have hnb9 := NB108_109.out; have hnc9 := NB109_108.out; have hcz10_0 : w8.cell? ⟨gb108, 0, none⟩ = some (.int .i64 a0_0) := (blk_cell BK108.out 0).trans rfl; have hcz10_1 : w8.cell? ⟨gb108, 1, none⟩ = some (.int .i64 a0_1) := (blk_cell BK108.out 1).trans rfl; have hfz10_0 := blk_frozen BK108.out 0; have hfz10_1 := blk_frozen BK108.out 1) | ((with_reducible refine gate_callee (f := 42) rfl ?_); refine goesL_ (some 17) rfl rfl Tryz.func42 (by kernel_rfl) rfl #[.int .i64 a0_0, .int .i64 a1, .int .i64 a2] rfl (by (try simp only [List.map_toArray, List.map_cons, List.map_nil]); first | done | rfl | (simp only [List.length_drop, List.length_take]; rfl)) ?_; (with_reducible refine (round_Shift.calls a0_0 a1 a2 t110 t111 _ A4.out).mono ?_); rintro e w11 ⟨rfl, hb⟩; refine ⟨_, rfl, ?_⟩; have n0_ := Aside0.mk (blk_below (g := gb108) (o := .cells #[.int .i64 a0_0, .int .i64 a0_1] 38 (0, 0)) (by (with_reducible repeat (first | refine blk_drewN ?_ _ | refine blk_drew ?_ | refine blk_alloc ?_ _)); exact BK108.out) hb); have n1_ := Aside0.mk (blk_below (g := gb109) (o := .cells #[.int .i64 0, .int .i64 0] 38 (0, 0)) (by (with_reducible repeat (first | refine blk_drewN ?_ _ | refine blk_drew ?_ | refine blk_alloc ?_ _)); exact BK109.out) hb); have n2_ := Aside0.mk (below_step (by repeat (first | (with_reducible first | exact HB.out | apply below_alloc | apply pw_below_drewN | apply below_drew1 | refine below_set ?_ GE108.out | refine below_set ?_ GE109.out) | exact HB.out)) hb); clear BK108; clear BK109; clear HB; have BK108 := n0_; have BK109 := n1_; have HB := n2_; clear n0_ n1_ n2_; (try clear hb); (try clear hb2); (try clear hk); (try clear hi); have hcz12_0 : w11.cell? ⟨gb108, 0, none⟩ = some (.int .i64 a0_0) := (blk_cell BK108.out 0).trans rfl; have hcz12_1 : w11.cell? ⟨gb108, 1, none⟩ = some (.int .i64 a0_1) := (blk_cell BK108.out 1).trans rfl; have hfz12_0 := blk_frozen BK108.out 0; have hfz12_1 := blk_frozen BK108.out 1) | ((with_reducible refine gate_callee (f := 42) rfl ?_); refine goesL_ (some 29) rfl rfl Tryz.func42 (by kernel_rfl) rfl #[.int .i64 a0_1, .int .i64 a1, .int .i64 a2] rfl (by (try simp only [List.map_toArray, List.map_cons, List.map_nil]); first | done | rfl | (simp only [List.length_drop, List.length_take]; rfl)) ?_; (with_reducible refine (round_Shift.calls a0_1 a1 a2 t112 t113 _ A6.out).mono ?_); rintro e w13 ⟨rfl, hb⟩; refine ⟨_, rfl, ?_⟩; have n0_ := Aside0.mk (blk_below (g := gb108) (o := .cells #[.int .i64 a0_0, .int .i64 a0_1] 38 (0, 0)) (by (with_reducible repeat (first | refine blk_drewN ?_ _ | refine blk_drew ?_ | refine blk_alloc ?_ _)); exact BK108.out) hb); have n1_ := Aside0.mk (blk_below (g := gb109) (o := .cells #[.int .i64 0, .int .i64 0] 38 (0, 0)) (by (with_reducible repeat (first | refine blk_drewN ?_ _ | refine blk_drew ?_ | refine blk_alloc ?_ _)); exact BK109.out) hb); have n2_ := Aside0.mk (below_step (by repeat (first | (with_reducible first | exact HB.out | apply below_alloc | apply pw_below_drewN | apply below_drew1 | refine below_set ?_ GE108.out | refine below_set ?_ GE109.out) | exact HB.out)) hb); clear BK108; clear BK109; clear HB; have BK108 := n0_; have BK109 := n1_; have HB := n2_; clear n0_ n1_ n2_; (try clear hb); (try clear hb2); (try clear hk); (try clear hi); have hcz14_0 : w13.cell? ⟨gb109, 0, none⟩ = some (.int .i64 0) := (blk_cell BK109.out 0).trans rfl; have hcz14_1 : w13.cell? ⟨gb109, 1, none⟩ = some (.int .i64 0) := (blk_cell BK109.out 1).trans rfl; have hfz14_0 := blk_frozen BK109.out 0; have hfz14_1 := blk_frozen BK109.out 1))
  refine bodyPost_ret (results_ct rfl _ _ gb109 38 #[.int .i64 t110, .int .i64 t112] (0, 0) _ rfl (by (with_reducible repeat (first | refine blk_drewN ?_ _ | refine blk_drew ?_ | refine blk_alloc ?_ _)); refine blk_put (cs := #[.int .i64 t110, .int .i64 0]) ?_ 1 _ rfl; (with_reducible repeat (first | refine blk_drewN ?_ _ | refine blk_drew ?_ | refine blk_alloc ?_ _)); refine blk_put (cs := #[.int .i64 0, .int .i64 0]) ?_ 0 _ rfl; (with_reducible repeat (first | refine blk_drewN ?_ _ | refine blk_drew ?_ | refine blk_alloc ?_ _)); exact BK109.out) Tryz.underlying38 rfl (by kernel_rfl)) rfl ?_
  exact ⟨by first | rfl | (simp [errW_none, errW_some] <;> rfl) | (simp [*, errW_none, errW_some] <;> rfl), by repeat (first | (with_reducible first | exact HB.out | apply below_alloc | apply pw_below_drewN | apply below_drew1 | refine below_set ?_ GE108.out | refine below_set ?_ GE109.out) | exact HB.out)⟩
 ·rw [if_neg c5] at H
  have c5b0 : (t111 == 0) = false := beq_eq_false_iff_ne.mpr c5
  have c5b1 : (t111 != 0) = true := bne_iff_ne.mpr c5
  simp only [Option.some.injEq, Prod.mk.injEq] at H
  obtain ⟨rfl, rfl, rfl⟩ := H
  go_enter Tryz.func70, Tryz.ntmps70
  go_wp2_with (first | ((with_reducible refine gate_dst (N := 3) rfl ?_); refine box_event ?hg (N := 3) ?hd (cs := #[.int .i64 a0_0, .int .i64 a0_1]) (t := 38) ?hr ?_; (case hd => rfl); (case hg => rfl); (case hr => first | (go_simp; done) | (go_simp; rfl)); intro gb108 hg w15 hbox hb; have n0_ := Aside0.mk (below_step (by repeat (first | (with_reducible first | exact HB.out | apply below_alloc | apply pw_below_drewN | apply below_drew1) | exact HB.out)) hb); have n1_ := Aside0.mk (hbox); have n2_ := Aside0.mk ((by rw [hg]; exact (below_size (by repeat (first | (with_reducible first | exact HB.out | apply below_alloc | apply pw_below_drewN | apply below_drew1) | exact HB.out))) : w.heap.size ≤ gb108)); have n3_ := Aside0.mk ((by rw [hg]; exact (below_size (by repeat (first | (with_reducible first | exact HB.out | apply below_alloc | apply pw_below_drewN | apply below_drew1) | exact HB.out))) : w.heap.size ≤ gb108)); clear HB; have HB := n0_; have BK108 := n1_; have GW108 := n2_; have GE108 := n3_; clear n0_ n1_ n2_ n3_; clear hb hbox hg) | ((with_reducible refine gate_dst (N := 6) rfl ?_); refine box_event ?hg (N := 6) ?hd (cs := #[.int .i64 0, .int .i64 0]) (t := 38) ?hr ?_; (case hd => rfl); (case hg => rfl); (case hr => first | (go_simp; done) | (go_simp; rfl)); intro gb109 hg w16 hbox hb; have n0_ := Aside0.mk (blk_below (g := gb108) (o := .cells #[.int .i64 a0_0, .int .i64 a0_1] 38 (0, 0)) (by (with_reducible repeat (first | refine blk_drewN ?_ _ | refine blk_drew ?_ | refine blk_alloc ?_ _)); exact BK108.out) hb); have n1_ := Aside0.mk (below_step (by repeat (first | (with_reducible first | exact HB.out | apply below_alloc | apply pw_below_drewN | apply below_drew1 | refine below_set ?_ GE108.out) | exact HB.out)) hb); have n2_ := Aside0.mk (hbox); have n3_ := Aside0.mk ((by rw [hg]; exact (below_size (by repeat (first | (with_reducible first | exact HB.out | apply below_alloc | apply pw_below_drewN | apply below_drew1 | refine below_set ?_ GE108.out) | exact HB.out))) : w.heap.size ≤ gb109)); have n4_ := Aside0.mk ((by rw [hg]; exact (below_size (by repeat (first | (with_reducible first | exact HB.out | apply below_alloc | apply pw_below_drewN | apply below_drew1 | refine below_set ?_ GE108.out) | exact HB.out))) : w.heap.size ≤ gb109)); have n5_ := Aside0.mk ((by rw [hg]; exact Nat.ne_of_lt (blk_lt (g := gb108) (o := .cells #[.int .i64 a0_0, .int .i64 a0_1] 38 (0, 0)) (by (with_reducible repeat (first | refine blk_drewN ?_ _ | refine blk_drew ?_ | refine blk_alloc ?_ _)); exact BK108.out)) : gb108 ≠ gb109)); have n6_ := Aside0.mk ((by rw [hg]; exact Nat.ne_of_gt (blk_lt (g := gb108) (o := .cells #[.int .i64 a0_0, .int .i64 a0_1] 38 (0, 0)) (by (with_reducible repeat (first | refine blk_drewN ?_ _ | refine blk_drew ?_ | refine blk_alloc ?_ _)); exact BK108.out)) : gb109 ≠ gb108)); clear BK108; clear HB; have BK108 := n0_; have HB := n1_; have BK109 := n2_; have GW109 := n3_; have GE109 := n4_; have NB108_109 := n5_; have NB109_108 := n6_; clear n0_ n1_ n2_ n3_ n4_ n5_ n6_; clear hb hbox hg; have hnb17 := NB108_109.out; have hnc17 := NB109_108.out; have hcz18_0 : w16.cell? ⟨gb108, 0, none⟩ = some (.int .i64 a0_0) := (blk_cell BK108.out 0).trans rfl; have hcz18_1 : w16.cell? ⟨gb108, 1, none⟩ = some (.int .i64 a0_1) := (blk_cell BK108.out 1).trans rfl; have hfz18_0 := blk_frozen BK108.out 0; have hfz18_1 := blk_frozen BK108.out 1) | ((with_reducible refine gate_callee (f := 42) rfl ?_); refine goesL_ (some 17) rfl rfl Tryz.func42 (by kernel_rfl) rfl #[.int .i64 a0_0, .int .i64 a1, .int .i64 a2] rfl (by (try simp only [List.map_toArray, List.map_cons, List.map_nil]); first | done | rfl | (simp only [List.length_drop, List.length_take]; rfl)) ?_; (with_reducible refine (round_Shift.calls a0_0 a1 a2 t110 t111 _ A4.out).mono ?_); rintro e w19 ⟨rfl, hb⟩; refine ⟨_, rfl, ?_⟩; have n0_ := Aside0.mk (blk_below (g := gb108) (o := .cells #[.int .i64 a0_0, .int .i64 a0_1] 38 (0, 0)) (by (with_reducible repeat (first | refine blk_drewN ?_ _ | refine blk_drew ?_ | refine blk_alloc ?_ _)); exact BK108.out) hb); have n1_ := Aside0.mk (blk_below (g := gb109) (o := .cells #[.int .i64 0, .int .i64 0] 38 (0, 0)) (by (with_reducible repeat (first | refine blk_drewN ?_ _ | refine blk_drew ?_ | refine blk_alloc ?_ _)); exact BK109.out) hb); have n2_ := Aside0.mk (below_step (by repeat (first | (with_reducible first | exact HB.out | apply below_alloc | apply pw_below_drewN | apply below_drew1 | refine below_set ?_ GE108.out | refine below_set ?_ GE109.out) | exact HB.out)) hb); clear BK108; clear BK109; clear HB; have BK108 := n0_; have BK109 := n1_; have HB := n2_; clear n0_ n1_ n2_; (try clear hb); (try clear hb2); (try clear hk); (try clear hi); have hcz20_0 : w19.cell? ⟨gb109, 0, none⟩ = some (.int .i64 0) := (blk_cell BK109.out 0).trans rfl; have hcz20_1 : w19.cell? ⟨gb109, 1, none⟩ = some (.int .i64 0) := (blk_cell BK109.out 1).trans rfl; have hfz20_0 := blk_frozen BK109.out 0; have hfz20_1 := blk_frozen BK109.out 1))
  refine bodyPost_ret (results_ct rfl _ _ gb109 38 #[.int .i64 0, .int .i64 0] (0, 0) _ rfl (by (with_reducible repeat (first | refine blk_drewN ?_ _ | refine blk_drew ?_ | refine blk_alloc ?_ _)); refine blk_put (cs := #[.int .i64 0, .int .i64 0]) ?_ 1 _ rfl; (with_reducible repeat (first | refine blk_drewN ?_ _ | refine blk_drew ?_ | refine blk_alloc ?_ _)); refine blk_put (cs := #[.int .i64 0, .int .i64 0]) ?_ 0 _ rfl; (with_reducible repeat (first | refine blk_drewN ?_ _ | refine blk_drew ?_ | refine blk_alloc ?_ _)); exact BK109.out) Tryz.underlying38 rfl (by kernel_rfl)) rfl ?_
  exact ⟨by first | rfl | (simp [errW_none, errW_some] <;> rfl) | (simp [*, errW_none, errW_some] <;> rfl), by repeat (first | (with_reducible first | exact HB.out | apply below_alloc | apply pw_below_drewN | apply below_drew1 | refine below_set ?_ GE108.out | refine below_set ?_ GE109.out) | exact HB.out)⟩

mutual
def flip_Bits.j0 : Nat → Int → Int → Bool → Option (Int × Int)
 | 0, _, _, _ => none
 | k + 1, x0, x1, x19 => if x19 = true then (some (0, 1)) else (flip_Bits.l0 k x0 0 x1 0)
def flip_Bits.l0 : Nat → Int → Int → Int → Int → Option (Int × Int)
 | 0, _, _, _, _ => none
 | k + 1, x0, x6, x20, x21 => if x21 < x20 then (flip_Bits.l0 k (x0 / 2) (Go.bits .or .i64 (wrap64 (x6 * 2)) (Go.bits .and .i64 x0 1)) x20 (wrap64 (x21 + 1))) else (some (x6, 0))
end
def flip_Bits.f (k : Nat) (a0 : Int) (a1 : Int) : Option (Int × Int) := (flip_may.f a1).bind fun t156 => (if t156 = true then (if a0 < 0 then (flip_Bits.j0 k a0 a1 true) else (if 0 ≤ a1 then (flip_Bits.j0 k a0 a1 (decide (a0 ≥ (shl .i64 1 a1)))) else (none))) else (flip_Bits.j0 k a0 a1 true))
set_option maxHeartbeats 8000000 in
set_option maxRecDepth 100000 in
theorem flip_Bits.calls (k : Nat) (a0 : Int) (a1 : Int) (r1 : Int) (r2 : Int) (w : World) (h : flip_Bits.f k a0 a1 = some (r1, r2)) :
  Calls Tryz.prog 111 #[.int .i64 a0, .int .i64 a1] w fun e w' => e = .returned (.tuple #[.int .i64 r1, .int .i64 r2]) ∧ Drawn0 w w' := by
 have H : ((flip_may.f a1).bind fun t156 => (if t156 = true then (if a0 < 0 then (flip_Bits.j0 k a0 a1 true) else (if 0 ≤ a1 then (flip_Bits.j0 k a0 a1 (decide (a0 ≥ (shl .i64 1 a1)))) else (none))) else (flip_Bits.j0 k a0 a1 true))) = some (r1, r2) := h
 clear h
 have HC3 := Aside0.mk H
 clear H
 go_enter Tryz.func111, Tryz.ntmps111
 go_upto_region 1 with (fail)
 go_cut [19] (fun v19 wc => ∃ (kq : Nat) (x19_2 : Bool), v19 = .bool x19_2 ∧ Aside0 (flip_Bits.j0 kq a0 a1 x19_2 = some (r1, r2)) ∧ Aside0 (kq ≤ k) ∧ Drawn0 w wc)
 case first =>
  have H := HC3.out
  clear HC3
  replace H := Option.bind_eq_some_iff.mp H
  obtain ⟨t156, A40, H⟩ := H
  replace H : (if t156 = true then (if a0 < 0 then (flip_Bits.j0 k a0 a1 true) else (if 0 ≤ a1 then (flip_Bits.j0 k a0 a1 (decide (a0 ≥ (shl .i64 1 a1)))) else (none))) else (flip_Bits.j0 k a0 a1 true)) = some (r1, r2) := H
  have A4 := Aside0.mk A40
  clear A40
  by_cases c5 : t156 = true
  ·subst c5
   have H1 : (if a0 < 0 then (flip_Bits.j0 k a0 a1 true) else (if 0 ≤ a1 then (flip_Bits.j0 k a0 a1 (decide (a0 ≥ (shl .i64 1 a1)))) else (none))) = some (r1, r2) := by rw [if_pos rfl] at H; exact H
   clear H
   have H := H1
   clear H1
   by_cases c6 : a0 < 0
   ·rw [if_pos c6] at H
    have c6b0 : decide (a0 < 0) = true := decide_eq_true c6
    clear c6
    (first | rw [c6b0] | (simp only [i64_w, i32_w]; rw [c6b0]) | skip)
    have H' := Aside0.mk H
    clear H
    go_wp2_with (first | ((with_reducible refine gate_callee (f := 110) rfl ?_); refine goesL_ (some 8) rfl rfl Tryz.func110 (by kernel_rfl) rfl #[.int .i64 a1] rfl (by (try simp only [List.map_toArray, List.map_cons, List.map_nil]); first | done | rfl | (simp only [List.length_drop, List.length_take]; rfl)) ?_; (with_reducible refine (flip_may.calls a1 true _ A4.out).mono ?_); rintro e w' ⟨rfl, ⟨nd, rfl⟩⟩; refine ⟨_, rfl, ?_⟩))
    go_meet
    case rel => exact ⟨_, (true), (by first | rfl | (simp; done) | (simp [*]; done)), H', ⟨by first | omega | exact Nat.le_refl _⟩, by repeat (first | exact Drawn0.refl _ | apply Drawn0.step)⟩
   ·rw [if_neg c6] at H
    have c6b0 : decide (a0 < 0) = false := decide_eq_false c6
    clear c6
    (first | rw [c6b0] | (simp only [i64_w, i32_w]; rw [c6b0]) | skip)
    by_cases c7 : 0 ≤ a1
    ·rw [if_pos c7] at H
     have c7b0 := eq_true c7
     have c7b1 : decide (0 ≤ a1) = true := decide_eq_true c7
     clear c7
     obtain ⟨ji8, hji8⟩ : ∃ j_ : Int, (shl .i64 1 a1) = j_ := ⟨_, rfl⟩
     replace H : (flip_Bits.j0 k a0 a1 (decide (a0 ≥ (ji8)))) = some (r1, r2) := by first | (rw [hji8] at H; exact H) | (simp only [hji8] at H ⊢; exact H)
     (try rw [hji8] at A4)
     have hji8_ : (IntKind.i64.wrap (1 * 2 ^ min a1.toNat 64)) = ji8 := hji8
     have hji8z : a1 ≤ 64 → (IntKind.i64.wrap (1 * 2 ^ a1.toNat)) = ji8 := shl_small hji8
     have hji8u : (IntKind.i64.wrap (2 ^ min a1.toNat 64)) = ji8 := by have h_ := hji8_; rw [Int.one_mul] at h_; exact h_
     have hji8v : a1 ≤ 64 → (IntKind.i64.wrap (2 ^ a1.toNat)) = ji8 := fun hle_ => by have h_ := hji8z hle_; rw [Int.one_mul] at h_; exact h_
     have hji8y : (wrap64 (1 * 2 ^ min a1.toNat 64)) = ji8 := (i64_w _).symm.trans hji8_
     have hji8x : a1 ≤ 64 → (wrap64 (1 * 2 ^ a1.toNat)) = ji8 := fun h_ => (i64_w _).symm.trans (hji8z h_)
     have H' := Aside0.mk H
     clear H
     go_wp2_with (first | ((with_reducible refine gate_callee (f := 110) rfl ?_); refine goesL_ (some 8) rfl rfl Tryz.func110 (by kernel_rfl) rfl #[.int .i64 a1] rfl (by (try simp only [List.map_toArray, List.map_cons, List.map_nil]); first | done | rfl | (simp only [List.length_drop, List.length_take]; rfl)) ?_; (with_reducible refine (flip_may.calls a1 true _ A4.out).mono ?_); rintro e w' ⟨rfl, ⟨nd, rfl⟩⟩; refine ⟨_, rfl, ?_⟩))
     go_meet
     case rel => exact ⟨_, (decide (a0 ≥ (ji8))), (by first | rfl | (simp; done) | (simp only [← hji8] <;> (first | rfl | simp)) | (simp [*]; done)), H', ⟨by first | omega | exact Nat.le_refl _⟩, by repeat (first | exact Drawn0.refl _ | apply Drawn0.step)⟩
    ·rw [if_neg c7] at H
     exact absurd H (by simp)
  ·replace c5 := Bool.eq_false_iff.mpr c5
   subst c5
   have H1 : (flip_Bits.j0 k a0 a1 true) = some (r1, r2) := by rw [if_neg (show ¬ (false = true) by decide)] at H; exact H
   clear H
   have H := H1
   clear H1
   have H' := Aside0.mk H
   clear H
   go_wp2_with (first | ((with_reducible refine gate_callee (f := 110) rfl ?_); refine goesL_ (some 8) rfl rfl Tryz.func110 (by kernel_rfl) rfl #[.int .i64 a1] rfl (by (try simp only [List.map_toArray, List.map_cons, List.map_nil]); first | done | rfl | (simp only [List.length_drop, List.length_take]; rfl)) ?_; (with_reducible refine (flip_may.calls a1 false _ A4.out).mono ?_); rintro e w' ⟨rfl, ⟨nd, rfl⟩⟩; refine ⟨_, rfl, ?_⟩))
   go_meet
   case rel => exact ⟨_, (true), (by first | rfl | (simp; done) | (simp [*]; done)), H', ⟨by first | omega | exact Nat.le_refl _⟩, by repeat (first | exact Drawn0.refl _ | apply Drawn0.step)⟩
 case rest =>
  clear HC3
  try clear c1
  try clear p2
  try clear c5
  try clear c6
  try clear c6b0
  try clear p6
  try clear c7
  try clear c7b0
  try clear c7b1
  obtain ⟨kq, x19_2, rfl, HA, HJ2, ⟨mc2, rfl⟩⟩ := hcut
  cases kq with
  | zero => exact absurd HA.out (by simp [flip_Bits.j0])
  | succ kj2 =>
   have H := HA.out
   clear HA
   simp only [flip_Bits.j0] at H
   by_cases c9 : x19_2 = true
   ·subst c9
    have H1 : (some (0, 1)) = some (r1, r2) := by rw [if_pos rfl] at H; exact H
    clear H
    have H := H1
    clear H1
    simp only [Option.some.injEq, Prod.mk.injEq] at H
    obtain ⟨rfl, rfl⟩ := H
    go_wp2
    go_ret2
    exact ⟨by first | rfl | (simp; done) | (simp [*]; done), by repeat (first | exact Drawn0.refl _ | apply Drawn0.step)⟩
   ·replace c9 := Bool.eq_false_iff.mpr c9
    subst c9
    have H1 : (flip_Bits.l0 kj2 a0 0 a1 0) = some (r1, r2) := by rw [if_neg (show ¬ (false = true) by decide)] at H; exact H
    clear H
    have H := H1
    clear H1
    have H' := Aside0.mk H
    clear H
    go_wp2
    go_loopg [0, 6, 21] kj2 (fun kq v0 v6 v21 w' => ∃ (x0_2 : Int) (x6_2 : Int) (x21_2 : Int), v0 = .int .i64 x0_2 ∧ v6 = .int .i64 x6_2 ∧ v21 = .int .i64 x21_2 ∧ Aside0 (flip_Bits.l0 kq x0_2 x6_2 a1 x21_2 = some (r1, r2)) ∧ Aside0 (kq ≤ kj2) ∧ Drawn0 w w')
    case atStart => exact ⟨(a0), (0), (0), (by first | rfl | (simp; done) | (simp [*]; done)), (by first | rfl | (simp; done) | (simp [*]; done)), (by first | rfl | (simp; done) | (simp [*]; done)), H', ⟨Nat.le_refl _⟩, by repeat (first | exact Drawn0.refl _ | apply Drawn0.step)⟩
    case round =>
     clear H'
     try clear c1
     try clear c2
     try clear p2
     try clear c5
     try clear c6
     try clear c6b0
     try clear p6
     try clear c7
     try clear c7b0
     try clear c7b1
     try clear c9
     try clear p2
     try clear p6
     obtain ⟨x0_2, x6_2, x21_2, rfl, rfl, rfl, HA, HK2, ⟨m2, rfl⟩⟩ := hrel
     cases gk with
     | zero => exact absurd HA.out (by simp [flip_Bits.l0])
     | succ k2 =>
      have H := HA.out
      clear HA
      simp only [flip_Bits.l0] at H
      by_cases c10 : x21_2 < a1
      ·rw [if_pos c10] at H
       have c10b0 : decide (x21_2 < a1) = true := decide_eq_true c10
       clear c10
       have H' := Aside0.mk H
       clear H
       go_wp2
       go_roundg k2
       case measure => have := HJ2.out; have := HK2.out; omega
       case rel => exact ⟨(x0_2 / 2), (Go.bits .or .i64 (wrap64 (x6_2 * 2)) (Go.bits .and .i64 x0_2 1)), (wrap64 (x21_2 + 1)), (by first | rfl | (simp; done) | (simp [*]; done)), (by first | rfl | (simp; done) | (simp [*]; done)), (by first | rfl | (simp; done) | (simp [*]; done)), H', ⟨by have := HJ2.out; have := HK2.out; omega⟩, by repeat (first | exact Drawn0.refl _ | apply Drawn0.step)⟩
      ·rw [if_neg c10] at H
       have c10b0 : decide (x21_2 < a1) = false := decide_eq_false c10
       clear c10
       simp only [Option.some.injEq, Prod.mk.injEq] at H
       obtain ⟨rfl, rfl⟩ := H
       go_wp2
       go_ret2
       exact ⟨by first | rfl | (simp; done) | (simp [*]; done), by repeat (first | exact Drawn0.refl _ | apply Drawn0.step)⟩

def two_settings.f (a0 : Int) (a1 : Int) (a2 : Int) : Option (Bool) := (round_Shift.f 0 0 a2).bind fun bt229 => (if a0 ≥ 0 then (if a0 ≤ 29 then (if a1 ≥ 0 then (if a1 ≤ 3 then (some (bt229.2 == 0)) else (some false)) else (some false)) else (some false)) else (some false))
set_option maxHeartbeats 8000000 in
set_option maxRecDepth 100000 in
theorem two_settings.calls (a0 : Int) (a1 : Int) (a2 : Int) (r : Bool) (w : World) (h : two_settings.f a0 a1 a2 = some r) :
  Calls Tryz.prog 78 #[.int .i64 a0, .int .i64 a1, .int .i64 a2] w fun e w' => e = .returned (.bool r) ∧ Below w.heap.size w w' := by
 have HB := Aside0.mk (Below.refl w.heap.size w)
 have H : ((round_Shift.f 0 0 a2).bind fun bt229 => (if a0 ≥ 0 then (if a0 ≤ 29 then (if a1 ≥ 0 then (if a1 ≤ 3 then (some (bt229.2 == 0)) else (some false)) else (some false)) else (some false)) else (some false))) = some r := h
 clear h
 replace H := Option.bind_eq_some_iff.mp H
 obtain ⟨⟨t229, t230⟩, A40, H⟩ := H
 replace H : (if a0 ≥ 0 then (if a0 ≤ 29 then (if a1 ≥ 0 then (if a1 ≤ 3 then (some (t230 == 0)) else (some false)) else (some false)) else (some false)) else (some false)) = some r := H
 have A4 := Aside0.mk A40
 clear A40
 by_cases c5 : a0 ≥ 0
 ·rw [if_pos c5] at H
  have c5b0 : decide (0 ≤ a0) = true := decide_eq_true c5
  clear c5
  by_cases c6 : a0 ≤ 29
  ·rw [if_pos c6] at H
   have c6b0 : decide (a0 ≤ 29) = true := decide_eq_true c6
   clear c6
   by_cases c7 : a1 ≥ 0
   ·rw [if_pos c7] at H
    have c7b0 : decide (0 ≤ a1) = true := decide_eq_true c7
    clear c7
    by_cases c8 : a1 ≤ 3
    ·rw [if_pos c8] at H
     have c8b0 : decide (a1 ≤ 3) = true := decide_eq_true c8
     clear c8
     obtain rfl := Option.some.inj H
     go_enter Tryz.func78, Tryz.ntmps78
     go_wp2_with (first | ((with_reducible refine gate_callee (f := 42) rfl ?_); refine goesL_ (some 11) rfl rfl Tryz.func42 (by kernel_rfl) rfl #[.int .i64 0, .int .i64 0, .int .i64 a2] rfl (by (try simp only [List.map_toArray, List.map_cons, List.map_nil]); first | done | rfl | (simp only [List.length_drop, List.length_take]; rfl)) ?_; (with_reducible refine (round_Shift.calls 0 0 a2 t229 t230 _ A4.out).mono ?_); rintro e w9 ⟨rfl, hb⟩; refine ⟨_, rfl, ?_⟩; have n0_ := Aside0.mk (below_step (by repeat (first | (with_reducible first | exact HB.out | apply below_alloc | apply pw_below_drewN | apply below_drew1) | exact HB.out)) hb); clear HB; have HB := n0_; clear n0_; (try clear hb); (try clear hb2); (try clear hk); (try clear hi)))
     go_ret
     exact ⟨by first | rfl | (simp [errW_none, errW_some] <;> rfl) | (simp [*, errW_none, errW_some] <;> rfl), by repeat (first | (with_reducible first | exact HB.out | apply below_alloc | apply pw_below_drewN | apply below_drew1) | exact HB.out)⟩
    ·rw [if_neg c8] at H
     have c8b0 : decide (a1 ≤ 3) = false := decide_eq_false c8
     clear c8
     obtain rfl := Option.some.inj H
     go_enter Tryz.func78, Tryz.ntmps78
     go_wp2_with (first | ((with_reducible refine gate_callee (f := 42) rfl ?_); refine goesL_ (some 11) rfl rfl Tryz.func42 (by kernel_rfl) rfl #[.int .i64 0, .int .i64 0, .int .i64 a2] rfl (by (try simp only [List.map_toArray, List.map_cons, List.map_nil]); first | done | rfl | (simp only [List.length_drop, List.length_take]; rfl)) ?_; (with_reducible refine (round_Shift.calls 0 0 a2 t229 t230 _ A4.out).mono ?_); rintro e w10 ⟨rfl, hb⟩; refine ⟨_, rfl, ?_⟩; have n0_ := Aside0.mk (below_step (by repeat (first | (with_reducible first | exact HB.out | apply below_alloc | apply pw_below_drewN | apply below_drew1) | exact HB.out)) hb); clear HB; have HB := n0_; clear n0_; (try clear hb); (try clear hb2); (try clear hk); (try clear hi)))
     go_ret
     exact ⟨by first | rfl | (simp [errW_none, errW_some] <;> rfl) | (simp [*, errW_none, errW_some] <;> rfl), by repeat (first | (with_reducible first | exact HB.out | apply below_alloc | apply pw_below_drewN | apply below_drew1) | exact HB.out)⟩
   ·rw [if_neg c7] at H
    have c7b0 : decide (0 ≤ a1) = false := decide_eq_false c7
    clear c7
    obtain rfl := Option.some.inj H
    go_enter Tryz.func78, Tryz.ntmps78
    go_wp2_with (first | ((with_reducible refine gate_callee (f := 42) rfl ?_); refine goesL_ (some 11) rfl rfl Tryz.func42 (by kernel_rfl) rfl #[.int .i64 0, .int .i64 0, .int .i64 a2] rfl (by (try simp only [List.map_toArray, List.map_cons, List.map_nil]); first | done | rfl | (simp only [List.length_drop, List.length_take]; rfl)) ?_; (with_reducible refine (round_Shift.calls 0 0 a2 t229 t230 _ A4.out).mono ?_); rintro e w11 ⟨rfl, hb⟩; refine ⟨_, rfl, ?_⟩; have n0_ := Aside0.mk (below_step (by repeat (first | (with_reducible first | exact HB.out | apply below_alloc | apply pw_below_drewN | apply below_drew1) | exact HB.out)) hb); clear HB; have HB := n0_; clear n0_; (try clear hb); (try clear hb2); (try clear hk); (try clear hi)))
    go_ret
    exact ⟨by first | rfl | (simp [errW_none, errW_some] <;> rfl) | (simp [*, errW_none, errW_some] <;> rfl), by repeat (first | (with_reducible first | exact HB.out | apply below_alloc | apply pw_below_drewN | apply below_drew1) | exact HB.out)⟩
  ·rw [if_neg c6] at H
   have c6b0 : decide (a0 ≤ 29) = false := decide_eq_false c6
   clear c6
   obtain rfl := Option.some.inj H
   go_enter Tryz.func78, Tryz.ntmps78
   go_wp2_with (first | ((with_reducible refine gate_callee (f := 42) rfl ?_); refine goesL_ (some 11) rfl rfl Tryz.func42 (by kernel_rfl) rfl #[.int .i64 0, .int .i64 0, .int .i64 a2] rfl (by (try simp only [List.map_toArray, List.map_cons, List.map_nil]); first | done | rfl | (simp only [List.length_drop, List.length_take]; rfl)) ?_; (with_reducible refine (round_Shift.calls 0 0 a2 t229 t230 _ A4.out).mono ?_); rintro e w12 ⟨rfl, hb⟩; refine ⟨_, rfl, ?_⟩; have n0_ := Aside0.mk (below_step (by repeat (first | (with_reducible first | exact HB.out | apply below_alloc | apply pw_below_drewN | apply below_drew1) | exact HB.out)) hb); clear HB; have HB := n0_; clear n0_; (try clear hb); (try clear hb2); (try clear hk); (try clear hi)))
   go_ret
   exact ⟨by first | rfl | (simp [errW_none, errW_some] <;> rfl) | (simp [*, errW_none, errW_some] <;> rfl), by repeat (first | (with_reducible first | exact HB.out | apply below_alloc | apply pw_below_drewN | apply below_drew1) | exact HB.out)⟩
 ·rw [if_neg c5] at H
  have c5b0 : decide (0 ≤ a0) = false := decide_eq_false c5
  clear c5
  obtain rfl := Option.some.inj H
  go_enter Tryz.func78, Tryz.ntmps78
  go_wp2_with (first | ((with_reducible refine gate_callee (f := 42) rfl ?_); refine goesL_ (some 11) rfl rfl Tryz.func42 (by kernel_rfl) rfl #[.int .i64 0, .int .i64 0, .int .i64 a2] rfl (by (try simp only [List.map_toArray, List.map_cons, List.map_nil]); first | done | rfl | (simp only [List.length_drop, List.length_take]; rfl)) ?_; (with_reducible refine (round_Shift.calls 0 0 a2 t229 t230 _ A4.out).mono ?_); rintro e w13 ⟨rfl, hb⟩; refine ⟨_, rfl, ?_⟩; have n0_ := Aside0.mk (below_step (by repeat (first | (with_reducible first | exact HB.out | apply below_alloc | apply pw_below_drewN | apply below_drew1) | exact HB.out)) hb); clear HB; have HB := n0_; clear n0_; (try clear hb); (try clear hb2); (try clear hk); (try clear hi)))
  go_ret
  exact ⟨by first | rfl | (simp [errW_none, errW_some] <;> rfl) | (simp [*, errW_none, errW_some] <;> rfl), by repeat (first | (with_reducible first | exact HB.out | apply below_alloc | apply pw_below_drewN | apply below_drew1) | exact HB.out)⟩

def single_part.f (a0 : Int) : Option (Int) := (round_Shift.f a0 13 1).bind fun bt286 => (some bt286.1)
set_option maxHeartbeats 8000000 in
set_option maxRecDepth 100000 in
theorem single_part.calls (a0 : Int) (r : Int) (w : World) (h : single_part.f a0 = some r) :
  Calls Tryz.prog 28 #[.int .i64 a0] w fun e w' => e = .returned (.int .i64 r) ∧ Below w.heap.size w w' := by
 have HB := Aside0.mk (Below.refl w.heap.size w)
 have H : ((round_Shift.f a0 13 1).bind fun bt286 => (some bt286.1)) = some r := h
 clear h
 replace H := Option.bind_eq_some_iff.mp H
 obtain ⟨⟨t286, t287⟩, A20, H⟩ := H
 replace H : (some t286) = some r := H
 have A2 := Aside0.mk A20
 clear A20
 obtain rfl := Option.some.inj H
 go_enter Tryz.func28, Tryz.ntmps28
 go_wp2_with (first | ((with_reducible refine gate_callee (f := 42) rfl ?_); refine goesL_ (some 7) rfl rfl Tryz.func42 (by kernel_rfl) rfl #[.int .i64 a0, .int .i64 13, .int .i64 1] rfl (by (try simp only [List.map_toArray, List.map_cons, List.map_nil]); first | done | rfl | (simp only [List.length_drop, List.length_take]; rfl)) ?_; (with_reducible refine (round_Shift.calls a0 13 1 t286 t287 _ A2.out).mono ?_); rintro e w3 ⟨rfl, hb⟩; refine ⟨_, rfl, ?_⟩; have n0_ := Aside0.mk (below_step (by repeat (first | (with_reducible first | exact HB.out | apply below_alloc | apply pw_below_drewN | apply below_drew1) | exact HB.out)) hb); clear HB; have HB := n0_; clear n0_; (try clear hb); (try clear hb2); (try clear hk); (try clear hi)))
 go_ret
 exact ⟨by first | rfl | (simp [errW_none, errW_some] <;> rfl) | (simp [*, errW_none, errW_some] <;> rfl), by repeat (first | (with_reducible first | exact HB.out | apply below_alloc | apply pw_below_drewN | apply below_drew1) | exact HB.out)⟩

end Go.Proofs.YteieahbadclppaaGreat.P

namespace Go.Proofs.YteieahbadclppaaGreat.P
open Go.RowKit Go.Proofs.YteieahbadclppaaGreatW.PrintWords Go.Proofs.YteieahbadclppaaGreatW.PrintLast Go.Proofs.YteieahbadclppaaGreatW.PrintMore
attribute [local go_sem] max2_int min2_int max_two min_two
set_option linter.unusedVariables false
set_option linter.unusedSimpArgs false
def shC (s mode : Int) (x : S38) : S38 := ⟨shV x.f0 s mode, shV x.f1 s mode⟩
theorem shiftC_f (x : S38) (s mode : Int) (h0 : 0 ≤ s) (h1 : s ≤ 62) (h2 : 0 ≤ mode) (h3 : mode < 3) : cx_Shift.f x.f0 x.f1 s mode = some ((shC s mode x).f0, (shC s mode x).f1, 0) := by
 unfold cx_Shift.f round_Shift.f
 rw [if_neg (by omega), if_neg (by omega)]
 rfl
theorem R_other {base : Nat} {ok : Nat → Prop} {W w1 : World} {v : Value} {xs : List S38} {g : Nat} (h : Kd.R k38 38 W base ok v xs) (hw : ∀ k, k ≠ g → w1.heap[k]? = W.heap[k]?) (hne : some g ≠ v.ownBlock) : Kd.R k38 38 w1 base ok v xs :=
 Kd.R_mono (Kd.R_step (Kd.R_tight rfl h) (fun k hk _ => hw k (fun e_ => hne (by rw [← e_]; exact hk.symm ▸ rfl)))) (fun k hk => h.1 k hk.symm)
section
variable {ops : Array Oper} {rest : List Oper} {o : Oper} {a : Act} {Q : Exit → Act → World → Prop}
theorem cx_make0 {w0 W : World} (base : Nat) (hgd : o.guard = none) (x y : Operand) (ho : o.op = .makeSlice 22 x y) (m : Nat) (hx : a.eval x = .int .i64 0) (hy : a.eval y = .int .i64 m) (hm : m ≤ 1000000) (HB : Below base w0 W) (hbase : base ≤ W.heap.size)
  (h : ∀ v1 w1, Kd.R k38 38 w1 base (fun _ => True) v1 [] → Below base w0 w1 → wpList Tryz.prog ops Q rest (a.put o.dst v1) w1) : wpList Tryz.prog ops Q (o :: rest) a W := by
 obtain ⟨i, hi, hz⟩ := Option.map_eq_some_iff.1 (info38 : (Tryz.prog.info? 38).map (fun i => (i.zero, i.size, i.bytes)) = some (some (.agg #[(.int .i64 0), (.int .i64 0)]), 2, 16))
 simp only [Prod.mk.injEq] at hz
 obtain ⟨z0, z1, z2⟩ := hz
 obtain ⟨w1, hr, hown, hg⟩ := run_make_own (P := Tryz.prog) W base 22 38 i _ 2 Tryz.underlying22 hi z0 z1 .i64 .i64 m (by rw [z2]; omega) (by unfold maxLen; omega) hbase
 refine Kd.event_run hgd (v := .slice (some ⟨W.heap.size, 0, none⟩) 0 m) (w1 := w1) ?_ (h _ _ ⟨fun _ _ => trivial, [], hown, Reps.none _ _⟩ ?_)
 ·simp only [execOp, ho, hx, hy]
  simp [hr]
 ·exact HB.grown hg hbase (by simp)
end
set_option maxRecDepth 100000 in
set_option maxHeartbeats 4000000 in
theorem Shifted0 (mode : Int) (h0 : 0 ≤ mode) (h1 : mode < 3) (A : Option Addr) (c : Nat) (l : List S38) (w : World) (hr : Kd.C k38 w A l.length l) (hc : l.length ≤ c) (hl : l.length ≤ 1000) :
  Calls Tryz.prog 67 #[.slice A l.length c, .int .i64 0, .int .i64 mode] w fun e w' => ∃ v, e = .returned (.tuple #[v, .int .i64 0]) ∧ Kd.R k38 38 w' w.heap.size (fun _ => True) v (l.map (shC 0 mode)) ∧ Below w.heap.size w w' := by
 have HR := Lib.hid hr
 clear hr
 have HS := Lib.hid (show round_Shift.f 0 0 mode = some (shV 0 0 mode, 0) by unfold round_Shift.f; rw [if_neg (by omega)])
 have HC := Lib.hid (fun x : S38 => shiftC_f x 0 mode (by omega) (by omega) h0 h1)
 have HBr := Lib.hid (Below.refl w.heap.size w)
 clear h0 h1
 generalize shV 0 0 mode = z0 at *
 go_enter Tryz.func67, Tryz.ntmps67
 go_wp2_with (first
  | (go_at_call 42; (with_reducible refine (round_Shift.calls 0 0 mode _ _ _ HS.out).mono ?_); rintro e W0 ⟨rfl, hb⟩; have HB0 := Lib.hid (below_step HBr.out hb); clear hb HBr)
  | ((with_reducible refine gate_dst (N := 31) rfl ?_); refine cx_make0 (w0 := w) w.heap.size rfl _ _ rfl l.length rfl rfl (by omega) HB0.out (below_size HB0.out) ?_; intro v31 W1 ho hb; have HO1 := Lib.hid ho; have HB1 := Lib.hid hb; clear ho hb))
 go_loopw [10, 34] (fun s10 s34 wr => ∃ k : Nat, k ≤ l.length ∧ s34 = .int .i64 k ∧ Kd.R k38 38 wr w.heap.size (fun _ => True) s10 ((l.take k).map (shC 0 mode)) ∧ Below w.heap.size w wr) (fun _ i _ => l.length - (intOf i).toNat)
 case atStart => exact ⟨0, by omega, rfl, by simpa using HO1.out, HB1.out⟩
 case round =>
  obtain ⟨k, hk, rfl, ho, hb⟩ := hrel
  have HOr := Lib.hid ho
  have HBr := Lib.hid hb
  clear ho hb HO1 HB1 HB0
  by_cases hlt : k < l.length
  ·obtain ⟨ad, rfl, h0, h1⟩ := at_T38 HR.out (k : Int) (by omega) (by omega)
   have HT := Lib.hid (show (l.take (k + 1)).map (shC 0 mode) = (l.take k).map (shC 0 mode) ++ [shC 0 mode (rd_T38 l k)] by
    rw [List.take_succ_eq_append_getElem hlt, List.map_append]
    unfold rd_T38
    rw [Int.toNat_natCast, List.getD_eq_getElem?_getD, List.getElem?_eq_getElem hlt]
    rfl)
   have hlen : ((l.take k).map (shC 0 mode)).length ≤ 1000 := by simp; omega
   have HL := Lib.hid hlen
   rw [Int.toNat_natCast] at h0 h1
   replace h0 := (HBr.out.cell (World.block_lt_of_cell? w _ h0)).trans h0
   replace h1 := (HBr.out.cell (World.block_lt_of_cell? w _ h1)).trans h1
   have HX := Lib.hid (HC.out (rd_T38 l k))
   clear hlen
   generalize rd_T38 l k = x at *
   generalize (l.take k).map (shC 0 mode) = Y at *
   generalize shC 0 mode x = y at *
   go_wp2_with (first
    | ((with_reducible refine gate_dst (N := 12) rfl ?_); refine box_event ?hg (N := 12) ?hd (cs := #[.int .i64 0, .int .i64 0]) (t := 38) ?hr ?_; (case hd => rfl); (case hg => rfl); (case hr => first | (go_simp; done) | (go_simp; rfl)); intro g12 hg W12 hbox hbl; have B12 := Lib.hid hbox; have HB12 := Lib.hid (below_step HBr.out hbl); have L12 : w.heap.size ≤ g12 := (by rw [hg]; exact below_size HBr.out); have HO12 := Lib.hid (Kd.R_below HOr.out hbl); have N12 := Lib.hid (show some g12 ≠ _ from by rw [hg]; exact Kd.R_ne_new HOr.out 0); clear hbox hbl hg)
    | ((with_reducible refine gate_store (t := 38) (p := 12) rfl ?_); refine row_event rfl 38 _ _ rfl g12 #[.int .i64 x.f0, .int .i64 x.f1] rfl rfl 38 #[.int .i64 0, .int .i64 0] B12.out (size38 _ _) rfl (one38 _ _) ?_; intro W13 hq hoth hbel; have B13 := Lib.hid hq; have HB13 := Lib.hid (hbel _ _ L12 HB12.out); clear hbel; have HO13 := Lib.hid (R_other HO12.out hoth N12.out); clear hq hoth)
    | ((with_reducible refine gate_dst (N := 41) rfl ?_); refine wpList_load_row rfl 38 _ rfl g12 rfl 38 #[.int .i64 x.f0, .int .i64 x.f1] (0, 0) _ B13.out Tryz.underlying38 rfl (size38 _ _) ?_)
    | (go_at_call 70; (with_reducible refine (cx_Shift.calls x.f0 x.f1 0 mode y.f0 y.f1 0 _ HX.out).mono ?_); rintro e W14 ⟨rfl, hb⟩; have B14 := Lib.hid (blk_below B13.out hb); have HB14 := Lib.hid (below_step HB13.out hb); have HO14 := Lib.hid (Kd.R_below HO13.out hb); clear hb)
    | ((with_reducible refine gate_store (t := 38) (p := 12) rfl ?_); refine row_event rfl 38 _ _ rfl g12 #[.int .i64 y.f0, .int .i64 y.f1] rfl rfl 38 #[.int .i64 x.f0, .int .i64 x.f1] B14.out (size38 _ _) rfl (one38 _ _) ?_; intro W15 hq hoth hbel; have B15 := Lib.hid hq; have HB15 := Lib.hid (hbel _ _ L12 HB14.out); clear hbel; have HO15 := Lib.hid (R_other HO14.out hoth N12.out); clear hq hoth)
    | ((with_reducible refine gate_dst (N := 48) rfl ?_); refine wpList_load_row rfl 38 _ rfl g12 rfl 38 #[.int .i64 y.f0, .int .i64 y.f1] (0, 0) _ B15.out Tryz.underlying38 rfl (size38 _ _) ?_)
    | ((with_reducible refine gate_builtin (b := .append) (xs := #[.tmp 47, .tmp 49]) rfl ?_); at_builtin; refine Kd.R_append k38 (w0 := w) w.heap.size rfl (.tmp 47) (.tmp 49) 22 38 (.agg #[(.int .i64 0), (.int .i64 0)]) 16 rfl Tryz.underlying22 info38 rfl (by decide) (by omega) _ Y y [.int .i64 y.f0, .int .i64 y.f1] (fun _ => True) (fun _ => False) rfl rfl ?aP (fun _ hk => hk.elim) ?aF ?aO ?aB ?aS ?aL ?_; (case aP => exact k38_mkM _ _ _ y); (case aB => exact HB15.out); (case aF => exact (fun _ _ => trivial)); (case aO => exact HO15.out); (case aS => exact below_size HB15.out); (case aL => have := HL.out; omega); intro v50 W16 ho hb hg hat; have HO16 := Lib.hid ho; have HB16 := Lib.hid hb; clear ho hb hg hat))
   go_roundw
   case rel => exact ⟨k + 1, by omega, by go_num, by rw [HT.out]; exact HO16.out, HB16.out⟩
   case measure => simp [intOf]; omega
  ·obtain rfl : k = l.length := by omega
   go_wp2
   go_ret2
   exact ⟨_, rfl, by have h := HOr.out; rw [List.take_length] at h; exact h, HBr.out⟩
end Go.Proofs.YteieahbadclppaaGreat.P

namespace Go.Proofs.YteieahbadclppaaGreat.P
open Go.RowKit Go.Proofs.YteieahbadclppaaGreatW.PrintWords Go.Proofs.YteieahbadclppaaGreatW.PrintLast Go.Proofs.YteieahbadclppaaGreatW.PrintMore
attribute [local go_sem] max2_int min2_int max_two min_two
set_option linter.unusedVariables false
set_option linter.unusedSimpArgs false
theorem allB_drop {l : List S38} {p : S38 → Bool} (h : ∀ x, x ∈ l → p x = true) (k : Nat) (hk : k < l.length) : p (rd_T38 l k) = true := by
 unfold rd_T38
 rw [Int.toNat_natCast, List.getD_eq_getElem?_getD, List.getElem?_eq_getElem hk]
 exact h _ (List.getElem_mem hk)
def fidx {α : Type} (p : α → Bool) : List α → Nat → Int
 | [], _ => -1
 | x :: l, i => if p x = true then i else fidx p l (i + 1)
theorem fidx_sign {α : Type} (p : α → Bool) : ∀ (l : List α) (i : Nat), decide (0 ≤ fidx p l i) = l.any p := by
 intro l
 induction l with
 | nil => intro i; rfl
 | cons x l ih =>
  intro i
  unfold fidx
  cases hx : p x with
  | true => simp [hx]
  | false => simp [hx, ih]
set_option maxRecDepth 100000 in
set_option maxHeartbeats 4000000 in
theorem IndexNo75 (A : Option Addr) (c : Nat) (l : List S38) (w : World) (hr : Kd.C k38 w A l.length l) (hc : l.length ≤ c) (hl : ∀ x, x ∈ l → inB 2147483648 x = true) :
  Calls Tryz.prog 69 #[.slice A l.length c, .func (.func 75) #[] #[]] w fun e w' => e = .returned (.int .i64 (-1)) ∧ Below w.heap.size w w' := by
 have hmax := hr.2.1
 unfold maxLen at hmax
 have HR := Lib.hid hr
 have HL := Lib.hid hl
 clear hr hl
 have HB := Lib.hid (Below.refl w.heap.size w)
 go_enter Tryz.func69, Tryz.ntmps69
 go_wp2
 go_loopw [8] (fun s8 wr => ∃ k : Nat, k ≤ l.length ∧ s8 = .int .i64 k ∧ Below w.heap.size w wr) (fun i _ => l.length - (intOf i).toNat)
 case atStart => exact ⟨0, by omega, rfl, HB.out⟩
 case round =>
  obtain ⟨k, hk, rfl, hb⟩ := hrel
  have HBR := Lib.hid hb
  clear hb HB
  by_cases hlt : k < l.length
  ·obtain ⟨ad, rfl, h0, h1⟩ := at_T38 HR.out (k : Int) (by omega) (by omega)
   have HX := Lib.hid (allB_drop HL.out k hlt)
   rw [Int.toNat_natCast] at h0 h1
   replace h0 := (HBR.out.cell (World.block_lt_of_cell? w _ h0)).trans h0
   replace h1 := (HBR.out.cell (World.block_lt_of_cell? w _ h1)).trans h1
   generalize rd_T38 l k = x at *
   go_wp2_with (go_at_call 75; refine (far75 x HX.out _).mono ?_; rintro e w1 ⟨rfl, hb⟩; have HB1 := Lib.hid (below_step HBR.out hb); clear hb)
   go_roundw
   case rel => exact ⟨k + 1, by omega, by go_num, HB1.out⟩
   case measure => simp [intOf]; omega
  ·obtain rfl : k = l.length := by omega
   go_wp2
   go_ret
   exact ⟨rfl, HBR.out⟩
set_option maxRecDepth 100000 in
set_option maxHeartbeats 4000000 in
theorem ContainsNo75 (A : Option Addr) (c : Nat) (l : List S38) (w : World) (hr : Kd.C k38 w A l.length l) (hc : l.length ≤ c) (hl : ∀ x, x ∈ l → inB 2147483648 x = true) :
  Calls Tryz.prog 43 #[.slice A l.length c, .func (.func 75) #[] #[]] w fun e w' => e = .returned (.bool false) ∧ Below w.heap.size w w' := by
 have HI := Lib.hid (IndexNo75 A c l w hr hc hl)
 clear hr hl
 go_enter Tryz.func43, Tryz.ntmps43
 go_wp2_with (go_at_call 69; refine HI.out.mono ?_; rintro e w1 ⟨rfl, hb⟩)
 go_ret
 exact ⟨rfl, hb⟩
set_option maxRecDepth 100000 in
set_option maxHeartbeats 4000000 in
theorem IndexNo77 (A : Option Addr) (c : Nat) (l : List S38) (Bb : Nat) (bits m : Int) (g0 : 0 ≤ bits) (g1 : bits ≤ 40) (hm : m = 2 ^ bits.toNat) (w : World) (hr : Kd.C k38 w A l.length l) (hc : l.length ≤ c) (hBb : w.heap[Bb]? = some (.cells #[.int .i64 bits] 3 (0, 0))) (hl : ∀ x, x ∈ l → inB m x = true) :
  Calls Tryz.prog 69 #[.slice A l.length c, .func (.func 77) #[] #[.pointer (some ⟨Bb, 0, none⟩)]] w fun e w' => e = .returned (.int .i64 (-1)) ∧ Below w.heap.size w w' := by
 have hmax := hr.2.1
 unfold maxLen at hmax
 have HR := Lib.hid hr
 have HL := Lib.hid hl
 clear hr hl
 have CBb := Lib.hid hBb
 clear hBb
 have HB := Lib.hid (Below.refl w.heap.size w)
 go_enter Tryz.func69, Tryz.ntmps69
 go_wp2
 go_loopw [8] (fun s8 wr => ∃ k : Nat, k ≤ l.length ∧ s8 = .int .i64 k ∧ Below w.heap.size w wr) (fun i _ => l.length - (intOf i).toNat)
 case atStart => exact ⟨0, by omega, rfl, HB.out⟩
 case round =>
  obtain ⟨k, hk, rfl, hb⟩ := hrel
  have HBR := Lib.hid hb
  have DBb := Lib.hid (blk_below CBb.out hb); clear hb HB
  by_cases hlt : k < l.length
  ·obtain ⟨ad, rfl, h0, h1⟩ := at_T38 HR.out (k : Int) (by omega) (by omega)
   have HX := Lib.hid (allB_drop HL.out k hlt)
   rw [Int.toNat_natCast] at h0 h1
   replace h0 := (HBR.out.cell (World.block_lt_of_cell? w _ h0)).trans h0
   replace h1 := (HBR.out.cell (World.block_lt_of_cell? w _ h1)).trans h1
   generalize rd_T38 l k = x at *
   go_wp2_with (go_at_call 77; refine (great77 x Bb bits m g0 g1 hm HX.out _ DBb.out).mono ?_; rintro e w1 ⟨rfl, hb⟩; have HB1 := Lib.hid (below_step HBR.out hb); clear hb)
   go_roundw
   case rel => exact ⟨k + 1, by omega, by go_num, HB1.out⟩
   case measure => simp [intOf]; omega
  ·obtain rfl : k = l.length := by omega
   go_wp2
   go_ret
   exact ⟨rfl, HBR.out⟩
set_option maxRecDepth 100000 in
set_option maxHeartbeats 4000000 in
theorem ContainsNo77 (A : Option Addr) (c : Nat) (l : List S38) (Bb : Nat) (bits m : Int) (g0 : 0 ≤ bits) (g1 : bits ≤ 40) (hm : m = 2 ^ bits.toNat) (w : World) (hr : Kd.C k38 w A l.length l) (hc : l.length ≤ c) (hBb : w.heap[Bb]? = some (.cells #[.int .i64 bits] 3 (0, 0))) (hl : ∀ x, x ∈ l → inB m x = true) :
  Calls Tryz.prog 43 #[.slice A l.length c, .func (.func 77) #[] #[.pointer (some ⟨Bb, 0, none⟩)]] w fun e w' => e = .returned (.bool false) ∧ Below w.heap.size w w' := by
 have HI := Lib.hid (IndexNo77 A c l Bb bits m g0 g1 hm w hr hc hBb hl)
 clear hr hl hBb
 go_enter Tryz.func43, Tryz.ntmps43
 go_wp2_with (go_at_call 69; refine HI.out.mono ?_; rintro e w1 ⟨rfl, hb⟩)
 go_ret
 exact ⟨rfl, hb⟩
end Go.Proofs.YteieahbadclppaaGreat.P

namespace Go.Proofs.YteieahbadclppaaGreat.P
open Go.RowKit Go.Proofs.YteieahbadclppaaGreatW.PrintWords Go.Proofs.YteieahbadclppaaGreatW.PrintLast Go.Proofs.YteieahbadclppaaGreatW.PrintMore
attribute [local go_sem] max2_int min2_int max_two min_two
set_option linter.unusedVariables false
set_option linter.unusedSimpArgs false
def oddB (a b : Int) (x : S38) : Bool := decide (x.f0 < a ∨ x.f1 < a ∨ b < x.f0 ∨ b < x.f1)
set_option maxRecDepth 100000 in
set_option maxHeartbeats 4000000 in
theorem odd65 (Ba Bb : Nat) (a b : Int) (x : S38) (w : World) (ha : w.heap[Ba]? = some (.cells #[.int .i64 a] 3 (0, 0))) (hb : w.heap[Bb]? = some (.cells #[.int .i64 b] 3 (0, 0))) :
  Calls Tryz.prog 65 #[.agg #[.int .i64 x.f0, .int .i64 x.f1], .pointer (some ⟨Ba, 0, none⟩), .pointer (some ⟨Bb, 0, none⟩)] w fun e w' => e = .returned (.bool (oddB a b x)) ∧ Below w.heap.size w w' := by
 have HA := Lib.hid ha
 have HBb := Lib.hid hb
 clear ha hb
 by_cases c : x.f0 < x.f1
 ·have c1 : (x.f0 < x.f1) = True := eq_true c
  have c2 : (x.f1 < x.f0) = False := eq_false (by omega)
  by_cases e : x.f0 < a
  ·have HO := Lib.hid (show oddB a b x = true from decide_eq_true (by omega))
   have e1 : (x.f0 < a) = True := eq_true e
   have e2 : decide (x.f0 < a) = true := decide_eq_true e
   clear e
   try clear c
   go_enter Tryz.func65, Tryz.ntmps65
   go_wp2_with ((with_reducible refine gate_dst (N := 3) rfl ?_); refine box_event ?hg (N := 3) ?hd (cs := #[.int .i64 x.f0, .int .i64 x.f1]) (t := 38) ?hr ?_; (case hd => rfl); (case hg => rfl); (case hr => first | (go_simp; done) | (go_simp; rfl)); intro g2 hg W0 hbox hbl; have B2 := Lib.hid hbox; have HB0 := Lib.hid hbl; have k0 : W0.cell? ⟨g2, 0, none⟩ = some (.int .i64 x.f0) := (blk_cell hbox 0).trans rfl; have k1 : W0.cell? ⟨g2, 1, none⟩ = some (.int .i64 x.f1) := (blk_cell hbox 1).trans rfl; have ka : W0.cell? ⟨Ba, 0, none⟩ = some (.int .i64 a) := (blk_cell (blk_below HA.out hbl) 0).trans rfl; have kb : W0.cell? ⟨Bb, 0, none⟩ = some (.int .i64 b) := (blk_cell (blk_below HBb.out hbl) 0).trans rfl; clear hbox hbl hg)
   go_ret
   exact ⟨by rw [HO.out]; rfl, HB0.out⟩
  ·have e1 : (x.f0 < a) = False := eq_false e
   have e2 : decide (x.f0 < a) = false := decide_eq_false e
   by_cases f : b < x.f1
   ·have HO := Lib.hid (show oddB a b x = true from decide_eq_true (by omega))
    have f1 : (b < x.f1) = True := eq_true f
    have f2 : decide (b < x.f1) = true := decide_eq_true f
    clear e f
    try clear c
    go_enter Tryz.func65, Tryz.ntmps65
    go_wp2_with ((with_reducible refine gate_dst (N := 3) rfl ?_); refine box_event ?hg (N := 3) ?hd (cs := #[.int .i64 x.f0, .int .i64 x.f1]) (t := 38) ?hr ?_; (case hd => rfl); (case hg => rfl); (case hr => first | (go_simp; done) | (go_simp; rfl)); intro g2 hg W0 hbox hbl; have B2 := Lib.hid hbox; have HB0 := Lib.hid hbl; have k0 : W0.cell? ⟨g2, 0, none⟩ = some (.int .i64 x.f0) := (blk_cell hbox 0).trans rfl; have k1 : W0.cell? ⟨g2, 1, none⟩ = some (.int .i64 x.f1) := (blk_cell hbox 1).trans rfl; have ka : W0.cell? ⟨Ba, 0, none⟩ = some (.int .i64 a) := (blk_cell (blk_below HA.out hbl) 0).trans rfl; have kb : W0.cell? ⟨Bb, 0, none⟩ = some (.int .i64 b) := (blk_cell (blk_below HBb.out hbl) 0).trans rfl; clear hbox hbl hg)
    go_ret
    exact ⟨by rw [HO.out]; rfl, HB0.out⟩
   ·have HO := Lib.hid (show oddB a b x = false from decide_eq_false (by omega))
    have f1 : (b < x.f1) = False := eq_false f
    have f2 : decide (b < x.f1) = false := decide_eq_false f
    clear e f
    try clear c
    go_enter Tryz.func65, Tryz.ntmps65
    go_wp2_with ((with_reducible refine gate_dst (N := 3) rfl ?_); refine box_event ?hg (N := 3) ?hd (cs := #[.int .i64 x.f0, .int .i64 x.f1]) (t := 38) ?hr ?_; (case hd => rfl); (case hg => rfl); (case hr => first | (go_simp; done) | (go_simp; rfl)); intro g2 hg W0 hbox hbl; have B2 := Lib.hid hbox; have HB0 := Lib.hid hbl; have k0 : W0.cell? ⟨g2, 0, none⟩ = some (.int .i64 x.f0) := (blk_cell hbox 0).trans rfl; have k1 : W0.cell? ⟨g2, 1, none⟩ = some (.int .i64 x.f1) := (blk_cell hbox 1).trans rfl; have ka : W0.cell? ⟨Ba, 0, none⟩ = some (.int .i64 a) := (blk_cell (blk_below HA.out hbl) 0).trans rfl; have kb : W0.cell? ⟨Bb, 0, none⟩ = some (.int .i64 b) := (blk_cell (blk_below HBb.out hbl) 0).trans rfl; clear hbox hbl hg)
    go_ret
    exact ⟨by rw [HO.out]; rfl, HB0.out⟩
 ·have c1 : (x.f0 < x.f1) = False := eq_false c
  by_cases c' : x.f1 < x.f0
  ·have c2 : (x.f1 < x.f0) = True := eq_true c'
   by_cases e : x.f1 < a
   ·have HO := Lib.hid (show oddB a b x = true from decide_eq_true (by omega))
    have e1 : (x.f1 < a) = True := eq_true e
    have e2 : decide (x.f1 < a) = true := decide_eq_true e
    clear e
    try clear c c'
    go_enter Tryz.func65, Tryz.ntmps65
    go_wp2_with ((with_reducible refine gate_dst (N := 3) rfl ?_); refine box_event ?hg (N := 3) ?hd (cs := #[.int .i64 x.f0, .int .i64 x.f1]) (t := 38) ?hr ?_; (case hd => rfl); (case hg => rfl); (case hr => first | (go_simp; done) | (go_simp; rfl)); intro g2 hg W0 hbox hbl; have B2 := Lib.hid hbox; have HB0 := Lib.hid hbl; have k0 : W0.cell? ⟨g2, 0, none⟩ = some (.int .i64 x.f0) := (blk_cell hbox 0).trans rfl; have k1 : W0.cell? ⟨g2, 1, none⟩ = some (.int .i64 x.f1) := (blk_cell hbox 1).trans rfl; have ka : W0.cell? ⟨Ba, 0, none⟩ = some (.int .i64 a) := (blk_cell (blk_below HA.out hbl) 0).trans rfl; have kb : W0.cell? ⟨Bb, 0, none⟩ = some (.int .i64 b) := (blk_cell (blk_below HBb.out hbl) 0).trans rfl; clear hbox hbl hg)
    go_ret
    exact ⟨by rw [HO.out]; rfl, HB0.out⟩
   ·have e1 : (x.f1 < a) = False := eq_false e
    have e2 : decide (x.f1 < a) = false := decide_eq_false e
    by_cases f : b < x.f0
    ·have HO := Lib.hid (show oddB a b x = true from decide_eq_true (by omega))
     have f1 : (b < x.f0) = True := eq_true f
     have f2 : decide (b < x.f0) = true := decide_eq_true f
     clear e f
     try clear c c'
     go_enter Tryz.func65, Tryz.ntmps65
     go_wp2_with ((with_reducible refine gate_dst (N := 3) rfl ?_); refine box_event ?hg (N := 3) ?hd (cs := #[.int .i64 x.f0, .int .i64 x.f1]) (t := 38) ?hr ?_; (case hd => rfl); (case hg => rfl); (case hr => first | (go_simp; done) | (go_simp; rfl)); intro g2 hg W0 hbox hbl; have B2 := Lib.hid hbox; have HB0 := Lib.hid hbl; have k0 : W0.cell? ⟨g2, 0, none⟩ = some (.int .i64 x.f0) := (blk_cell hbox 0).trans rfl; have k1 : W0.cell? ⟨g2, 1, none⟩ = some (.int .i64 x.f1) := (blk_cell hbox 1).trans rfl; have ka : W0.cell? ⟨Ba, 0, none⟩ = some (.int .i64 a) := (blk_cell (blk_below HA.out hbl) 0).trans rfl; have kb : W0.cell? ⟨Bb, 0, none⟩ = some (.int .i64 b) := (blk_cell (blk_below HBb.out hbl) 0).trans rfl; clear hbox hbl hg)
     go_ret
     exact ⟨by rw [HO.out]; rfl, HB0.out⟩
    ·have HO := Lib.hid (show oddB a b x = false from decide_eq_false (by omega))
     have f1 : (b < x.f0) = False := eq_false f
     have f2 : decide (b < x.f0) = false := decide_eq_false f
     clear e f
     try clear c c'
     go_enter Tryz.func65, Tryz.ntmps65
     go_wp2_with ((with_reducible refine gate_dst (N := 3) rfl ?_); refine box_event ?hg (N := 3) ?hd (cs := #[.int .i64 x.f0, .int .i64 x.f1]) (t := 38) ?hr ?_; (case hd => rfl); (case hg => rfl); (case hr => first | (go_simp; done) | (go_simp; rfl)); intro g2 hg W0 hbox hbl; have B2 := Lib.hid hbox; have HB0 := Lib.hid hbl; have k0 : W0.cell? ⟨g2, 0, none⟩ = some (.int .i64 x.f0) := (blk_cell hbox 0).trans rfl; have k1 : W0.cell? ⟨g2, 1, none⟩ = some (.int .i64 x.f1) := (blk_cell hbox 1).trans rfl; have ka : W0.cell? ⟨Ba, 0, none⟩ = some (.int .i64 a) := (blk_cell (blk_below HA.out hbl) 0).trans rfl; have kb : W0.cell? ⟨Bb, 0, none⟩ = some (.int .i64 b) := (blk_cell (blk_below HBb.out hbl) 0).trans rfl; clear hbox hbl hg)
     go_ret
     exact ⟨by rw [HO.out]; rfl, HB0.out⟩
  ·have c2 : (x.f1 < x.f0) = False := eq_false c'
   have hx : x.f1 = x.f0 := by omega
   by_cases e : x.f0 < a
   ·have HO := Lib.hid (show oddB a b x = true from decide_eq_true (by omega))
    have e1 : (x.f0 < a) = True := eq_true e
    have e2 : decide (x.f0 < a) = true := decide_eq_true e
    clear e
    try clear c c'
    go_enter Tryz.func65, Tryz.ntmps65
    go_wp2_with ((with_reducible refine gate_dst (N := 3) rfl ?_); refine box_event ?hg (N := 3) ?hd (cs := #[.int .i64 x.f0, .int .i64 x.f1]) (t := 38) ?hr ?_; (case hd => rfl); (case hg => rfl); (case hr => first | (go_simp; done) | (go_simp; rfl)); intro g2 hg W0 hbox hbl; have B2 := Lib.hid hbox; have HB0 := Lib.hid hbl; have k0 : W0.cell? ⟨g2, 0, none⟩ = some (.int .i64 x.f0) := (blk_cell hbox 0).trans rfl; have k1 : W0.cell? ⟨g2, 1, none⟩ = some (.int .i64 x.f1) := (blk_cell hbox 1).trans rfl; have ka : W0.cell? ⟨Ba, 0, none⟩ = some (.int .i64 a) := (blk_cell (blk_below HA.out hbl) 0).trans rfl; have kb : W0.cell? ⟨Bb, 0, none⟩ = some (.int .i64 b) := (blk_cell (blk_below HBb.out hbl) 0).trans rfl; clear hbox hbl hg)
    go_ret
    exact ⟨by rw [HO.out]; rfl, HB0.out⟩
   ·have e1 : (x.f0 < a) = False := eq_false e
    have e2 : decide (x.f0 < a) = false := decide_eq_false e
    by_cases f : b < x.f0
    ·have HO := Lib.hid (show oddB a b x = true from decide_eq_true (by omega))
     have f1 : (b < x.f0) = True := eq_true f
     have f2 : decide (b < x.f0) = true := decide_eq_true f
     clear e f
     try clear c c'
     go_enter Tryz.func65, Tryz.ntmps65
     go_wp2_with ((with_reducible refine gate_dst (N := 3) rfl ?_); refine box_event ?hg (N := 3) ?hd (cs := #[.int .i64 x.f0, .int .i64 x.f1]) (t := 38) ?hr ?_; (case hd => rfl); (case hg => rfl); (case hr => first | (go_simp; done) | (go_simp; rfl)); intro g2 hg W0 hbox hbl; have B2 := Lib.hid hbox; have HB0 := Lib.hid hbl; have k0 : W0.cell? ⟨g2, 0, none⟩ = some (.int .i64 x.f0) := (blk_cell hbox 0).trans rfl; have k1 : W0.cell? ⟨g2, 1, none⟩ = some (.int .i64 x.f1) := (blk_cell hbox 1).trans rfl; have ka : W0.cell? ⟨Ba, 0, none⟩ = some (.int .i64 a) := (blk_cell (blk_below HA.out hbl) 0).trans rfl; have kb : W0.cell? ⟨Bb, 0, none⟩ = some (.int .i64 b) := (blk_cell (blk_below HBb.out hbl) 0).trans rfl; clear hbox hbl hg)
     go_ret
     exact ⟨by rw [HO.out]; rfl, HB0.out⟩
    ·have HO := Lib.hid (show oddB a b x = false from decide_eq_false (by omega))
     have f1 : (b < x.f0) = False := eq_false f
     have f2 : decide (b < x.f0) = false := decide_eq_false f
     clear e f
     try clear c c'
     go_enter Tryz.func65, Tryz.ntmps65
     go_wp2_with ((with_reducible refine gate_dst (N := 3) rfl ?_); refine box_event ?hg (N := 3) ?hd (cs := #[.int .i64 x.f0, .int .i64 x.f1]) (t := 38) ?hr ?_; (case hd => rfl); (case hg => rfl); (case hr => first | (go_simp; done) | (go_simp; rfl)); intro g2 hg W0 hbox hbl; have B2 := Lib.hid hbox; have HB0 := Lib.hid hbl; have k0 : W0.cell? ⟨g2, 0, none⟩ = some (.int .i64 x.f0) := (blk_cell hbox 0).trans rfl; have k1 : W0.cell? ⟨g2, 1, none⟩ = some (.int .i64 x.f1) := (blk_cell hbox 1).trans rfl; have ka : W0.cell? ⟨Ba, 0, none⟩ = some (.int .i64 a) := (blk_cell (blk_below HA.out hbl) 0).trans rfl; have kb : W0.cell? ⟨Bb, 0, none⟩ = some (.int .i64 b) := (blk_cell (blk_below HBb.out hbl) 0).trans rfl; clear hbox hbl hg)
     go_ret
     exact ⟨by rw [HO.out]; rfl, HB0.out⟩
set_option maxRecDepth 100000 in
set_option maxHeartbeats 4000000 in
theorem IndexOdd (Ba Bb : Nat) (a b : Int) (A : Option Addr) (c : Nat) (l : List S38) (w : World) (hr : Kd.C k38 w A l.length l) (hc : l.length ≤ c) (ha : w.heap[Ba]? = some (.cells #[.int .i64 a] 3 (0, 0))) (hb : w.heap[Bb]? = some (.cells #[.int .i64 b] 3 (0, 0))) :
  Calls Tryz.prog 69 #[.slice A l.length c, .func (.func 65) #[] #[.pointer (some ⟨Ba, 0, none⟩), .pointer (some ⟨Bb, 0, none⟩)]] w fun e w' => e = .returned (.int .i64 (fidx (oddB a b) l 0)) ∧ Below w.heap.size w w' := by
 have hmax := hr.2.1
 unfold maxLen at hmax
 have HR := Lib.hid hr
 have CA := Lib.hid ha
 have CB := Lib.hid hb
 clear hr ha hb
 have HB := Lib.hid (Below.refl w.heap.size w)
 go_enter Tryz.func69, Tryz.ntmps69
 go_wp2
 go_loopw [8] (fun s8 wr => ∃ k : Nat, k ≤ l.length ∧ s8 = .int .i64 k ∧ fidx (oddB a b) l 0 = fidx (oddB a b) (l.drop k) k ∧ Below w.heap.size w wr) (fun i _ => l.length - (intOf i).toNat)
 case atStart => exact ⟨0, by omega, rfl, rfl, HB.out⟩
 case round =>
  obtain ⟨k, hk, rfl, hf, hb⟩ := hrel
  have HF := Lib.hid hf
  have HBR := Lib.hid hb
  have DA := Lib.hid (blk_below CA.out hb)
  have DB := Lib.hid (blk_below CB.out hb)
  clear hf hb HB
  by_cases hlt : k < l.length
  ·obtain ⟨ad, rfl, h0, h1⟩ := at_T38 HR.out (k : Int) (by omega) (by omega)
   rw [Int.toNat_natCast] at h0 h1
   replace h0 := (HBR.out.cell (World.block_lt_of_cell? w _ h0)).trans h0
   replace h1 := (HBR.out.cell (World.block_lt_of_cell? w _ h1)).trans h1
   have hd : l.drop k = rd_T38 l k :: l.drop (k + 1) := by
    rw [List.drop_eq_getElem_cons hlt]
    unfold rd_T38
    rw [Int.toNat_natCast, List.getD_eq_getElem?_getD, List.getElem?_eq_getElem hlt]
    rfl
   have HD := Lib.hid hd
   clear hd
   generalize rd_T38 l k = x at *
   cases hn : oddB a b x with
   | false =>
    have HN := Lib.hid hn
    have HX := Lib.hid (show fidx (oddB a b) l 0 = fidx (oddB a b) (l.drop (k + 1)) (k + 1) by rw [HF.out, HD.out, fidx, hn]; rfl)
    clear hn
    go_wp2_with (go_at_call 65; refine (odd65 Ba Bb a b x _ DA.out DB.out).mono ?_; rw [HN.out]; rintro e w1 ⟨rfl, hb⟩; have HB1 := Lib.hid (below_step HBR.out hb); clear hb)
    go_roundw
    case rel => exact ⟨k + 1, by omega, by go_num, HX.out, HB1.out⟩
    case measure => simp [intOf]; omega
   | true =>
    have HN := Lib.hid hn
    have HX := Lib.hid (show fidx (oddB a b) l 0 = k by rw [HF.out, HD.out, fidx, hn]; rfl)
    clear hn
    go_wp2_with (go_at_call 65; refine (odd65 Ba Bb a b x _ DA.out DB.out).mono ?_; rw [HN.out]; rintro e w1 ⟨rfl, hb⟩; have HB1 := Lib.hid (below_step HBR.out hb); clear hb)
    go_ret
    exact ⟨by rw [HX.out]; rfl, HB1.out⟩
  ·obtain rfl : k = l.length := by omega
   go_wp2
   go_ret
   exact ⟨by rw [HF.out, List.drop_length]; rfl, HBR.out⟩
set_option maxRecDepth 100000 in
set_option maxHeartbeats 4000000 in
theorem ContainsOdd (Ba Bb : Nat) (a b : Int) (A : Option Addr) (c : Nat) (l : List S38) (w : World) (hr : Kd.C k38 w A l.length l) (hc : l.length ≤ c) (ha : w.heap[Ba]? = some (.cells #[.int .i64 a] 3 (0, 0))) (hb : w.heap[Bb]? = some (.cells #[.int .i64 b] 3 (0, 0))) :
  Calls Tryz.prog 43 #[.slice A l.length c, .func (.func 65) #[] #[.pointer (some ⟨Ba, 0, none⟩), .pointer (some ⟨Bb, 0, none⟩)]] w fun e w' => e = .returned (.bool (l.any (oddB a b))) ∧ Below w.heap.size w w' := by
 have HI := Lib.hid (IndexOdd Ba Bb a b A c l w hr hc ha hb)
 have HS := Lib.hid (fidx_sign (oddB a b) l 0)
 clear hr ha hb
 go_enter Tryz.func43, Tryz.ntmps43
 go_wp2_with (go_at_call 69; refine HI.out.mono ?_; rintro e w1 ⟨rfl, hb⟩)
 go_ret
 exact ⟨congrArg (fun q => Ending.returned (.bool q)) HS.out, hb⟩
def farInt (n : Int) : Bool := decide (n < -2147483648 ∨ 2147483648 < n)
set_option maxRecDepth 100000 in
set_option maxHeartbeats 4000000 in
theorem look54 (n : Int) (w : World) :
  Calls Tryz.prog 54 #[.int .i64 n] w fun e w' => e = .returned (.bool (farInt n)) ∧ Below w.heap.size w w' := by
 have HB0 := Lib.hid (Below.refl w.heap.size w)
 by_cases e : n < -2147483648
 ·have HO := Lib.hid (show farInt n = true from decide_eq_true (by omega))
  have e1 : (n < -2147483648) = True := eq_true e
  have e2 : decide (n < -2147483648) = true := decide_eq_true e
  clear e
  go_enter Tryz.func54, Tryz.ntmps54
  go_wp2
  go_ret
  exact ⟨by rw [HO.out]; rfl, HB0.out⟩
 ·have e1 : (n < -2147483648) = False := eq_false e
  have e2 : decide (n < -2147483648) = false := decide_eq_false e
  by_cases f : 2147483648 < n
  ·have HO := Lib.hid (show farInt n = true from decide_eq_true (by omega))
   have f1 : (2147483648 < n) = True := eq_true f
   have f2 : decide (2147483648 < n) = true := decide_eq_true f
   clear e f
   go_enter Tryz.func54, Tryz.ntmps54
   go_wp2
   go_ret
   exact ⟨by rw [HO.out]; rfl, HB0.out⟩
  ·have HO := Lib.hid (show farInt n = false from decide_eq_false (by omega))
   have f1 : (2147483648 < n) = False := eq_false f
   have f2 : decide (2147483648 < n) = false := decide_eq_false f
   clear e f
   go_enter Tryz.func54, Tryz.ntmps54
   go_wp2
   go_ret
   exact ⟨by rw [HO.out]; rfl, HB0.out⟩
set_option maxRecDepth 100000 in
set_option maxHeartbeats 4000000 in
theorem IndexInts (A : Option Addr) (c : Nat) (l : List Int) (w : World) (hr : Kd.C (Kd.int .i64) w A l.length l) (hc : l.length ≤ c) :
  Calls Tryz.prog 88 #[.slice A l.length c, .func (.func 54) #[] #[]] w fun e w' => e = .returned (.int .i64 (fidx farInt l 0)) ∧ Below w.heap.size w w' := by
 have hmax := hr.2.1
 unfold maxLen at hmax
 have HR := Lib.hid hr
 clear hr
 have HB := Lib.hid (Below.refl w.heap.size w)
 go_enter Tryz.func88, Tryz.ntmps88
 go_wp2
 go_loopw [8] (fun s8 wr => ∃ k : Nat, k ≤ l.length ∧ s8 = .int .i64 k ∧ fidx farInt l 0 = fidx farInt (l.drop k) k ∧ Below w.heap.size w wr) (fun i _ => l.length - (intOf i).toNat)
 case atStart => exact ⟨0, by omega, rfl, rfl, HB.out⟩
 case round =>
  obtain ⟨k, hk, rfl, hf, hb⟩ := hrel
  have HF := Lib.hid hf
  have HBR := Lib.hid hb
  clear hf hb HB
  by_cases hlt : k < l.length
  ·obtain ⟨ad, rfl, h0⟩ := Kd.at_int HR.out (k : Int) (by omega) (by omega)
   rw [Int.toNat_natCast] at h0
   replace h0 := (HBR.out.cell (World.block_lt_of_cell? w _ h0)).trans h0
   have hd : l.drop k = rd l k :: l.drop (k + 1) := by
    rw [List.drop_eq_getElem_cons hlt]
    unfold rd
    rw [Int.toNat_natCast, List.getD_eq_getElem?_getD, List.getElem?_eq_getElem hlt]
    rfl
   have HD := Lib.hid hd
   clear hd
   generalize rd l k = x at *
   cases hn : farInt x with
   | false =>
    have HN := Lib.hid hn
    have HX := Lib.hid (show fidx farInt l 0 = fidx farInt (l.drop (k + 1)) (k + 1) by rw [HF.out, HD.out, fidx, hn]; rfl)
    clear hn
    go_wp2_with (go_at_call 54; refine (look54 x _).mono ?_; rw [HN.out]; rintro e w1 ⟨rfl, hb⟩; have HB1 := Lib.hid (below_step HBR.out hb); clear hb)
    go_roundw
    case rel => exact ⟨k + 1, by omega, by go_num, HX.out, HB1.out⟩
    case measure => simp [intOf]; omega
   | true =>
    have HN := Lib.hid hn
    have HX := Lib.hid (show fidx farInt l 0 = k by rw [HF.out, HD.out, fidx, hn]; rfl)
    clear hn
    go_wp2_with (go_at_call 54; refine (look54 x _).mono ?_; rw [HN.out]; rintro e w1 ⟨rfl, hb⟩; have HB1 := Lib.hid (below_step HBR.out hb); clear hb)
    go_ret
    exact ⟨by rw [HX.out]; rfl, HB1.out⟩
  ·obtain rfl : k = l.length := by omega
   go_wp2
   go_ret
   exact ⟨by rw [HF.out, List.drop_length]; rfl, HBR.out⟩
set_option maxRecDepth 100000 in
set_option maxHeartbeats 4000000 in
theorem ContainsInts (A : Option Addr) (c : Nat) (l : List Int) (w : World) (hr : Kd.C (Kd.int .i64) w A l.length l) (hc : l.length ≤ c) :
  Calls Tryz.prog 53 #[.slice A l.length c, .func (.func 54) #[] #[]] w fun e w' => e = .returned (.bool (l.any farInt)) ∧ Below w.heap.size w w' := by
 have HI := Lib.hid (IndexInts A c l w hr hc)
 have HS := Lib.hid (fidx_sign farInt l 0)
 clear hr
 go_enter Tryz.func53, Tryz.ntmps53
 go_wp2_with (go_at_call 88; refine HI.out.mono ?_; rintro e w1 ⟨rfl, hb⟩)
 go_ret
 exact ⟨congrArg (fun q => Ending.returned (.bool q)) HS.out, hb⟩

def planC (p0 p1 p2 p3 p4 : Int) (p5 : Bool) : Array Value := #[.int .i64 p0, .int .i64 p1, .int .i64 p2, .int .i64 p3, .int .i64 p4, .bool p5]
set_option maxRecDepth 100000 in
set_option maxHeartbeats 4000000 in
theorem fftMay_any (v : Bool) (p0 p1 p2 p3 p4 : Int) (p5 : Bool) (a b : Int) (A : Option Addr) (c : Nat) (l : List S38) (w : World) (hr : Kd.C k38 w A l.length l) (hc : l.length ≤ c) (h0 : 0 ≤ p1) (h1 : p1 ≤ 40) (hn : (l.length : Int) = 2 ^ p1.toNat) (hv : l.any (oddB a b) = v) :
  Calls Tryz.prog 38 #[.slice A l.length c, .agg (planC p0 p1 p2 p3 p4 p5), .int .i64 a, .int .i64 b] w fun e w' => e = .returned (.int .i64 (if v then 2 else 0)) ∧ Below w.heap.size w w' := by
 have hm2 : (0 : Int) ≤ 2 ^ p1.toNat ∧ (2 : Int) ^ p1.toNat ≤ 2 ^ 40 := ⟨Int.pow_nonneg (by decide), int_pow_le (by omega)⟩
 have HR := Lib.hid hr
 have HC := Lib.hid hc
 have HV := Lib.hid hv
 clear hr hc hv
 have hw : IntKind.i64.wrap (2 ^ p1.toNat) = (l.length : Int) := by rw [hn, i64_w]; unfold wrap64; omega
 have hw2 : wrap64 (2 ^ p1.toNat) = (l.length : Int) := (i64_w _).symm.trans hw
 clear hm2 hn
 cases v with
 | true =>
  go_enter Tryz.func38, Tryz.ntmps38
  go_wp2_with (first
   | ((with_reducible refine gate_dst (N := 5) rfl ?_); refine box_event ?hg (N := 5) ?hd (cs := planC p0 p1 p2 p3 p4 p5) (t := 24) ?hr ?_; (case hd => rfl); (case hg => rfl); (case hr => first | (go_simp; done) | (go_simp; rfl)); intro g5 hg W5 hbox hbl; have B5 := Lib.hid hbox; have HB5 := Lib.hid hbl; clear hbox hbl hg)
   | ((with_reducible refine gate_dst (N := 6) rfl ?_); refine box_event ?hg (N := 6) ?hd (cs := #[.int .i64 a]) (t := 3) ?hr ?_; (case hd => rfl); (case hg => rfl); (case hr => first | (go_simp; done) | (go_simp; rfl)); intro g6 hg W6 hbox hbl; have B6 := Lib.hid hbox; have B56 := Lib.hid (blk_below B5.out hbl); have HB6 := Lib.hid (below_step HB5.out hbl); clear hbox hbl hg)
   | ((with_reducible refine gate_dst (N := 7) rfl ?_); refine box_event ?hg (N := 7) ?hd (cs := #[.int .i64 b]) (t := 3) ?hr ?_; (case hd => rfl); (case hg => rfl); (case hr => first | (go_simp; done) | (go_simp; rfl)); intro g7 hg W7 hbox hbl; have B7 := Lib.hid hbox; have B67 := Lib.hid (blk_below B6.out hbl); have HB7 := Lib.hid (below_step HB6.out hbl); have k5 : W7.cell? ⟨g5, 1, none⟩ = some (.int .i64 p1) := (blk_cell (blk_below B56.out hbl) 1).trans rfl; have R7 := Lib.hid (Kd.C_below HR.out HB7.out); clear hbox hbl hg)
   | (go_at_call 43; refine (ContainsOdd g6 g7 a b A c l _ R7.out HC.out B67.out B7.out).mono ?_; rw [HV.out]; rintro e W8 ⟨rfl, hb⟩; have HB8 := Lib.hid (below_step HB7.out hb); clear hb))
  go_ret
  exact ⟨rfl, HB8.out⟩
 | false =>
  go_enter Tryz.func38, Tryz.ntmps38
  go_wp2_with (first
   | ((with_reducible refine gate_dst (N := 5) rfl ?_); refine box_event ?hg (N := 5) ?hd (cs := planC p0 p1 p2 p3 p4 p5) (t := 24) ?hr ?_; (case hd => rfl); (case hg => rfl); (case hr => first | (go_simp; done) | (go_simp; rfl)); intro g5 hg W5 hbox hbl; have B5 := Lib.hid hbox; have HB5 := Lib.hid hbl; clear hbox hbl hg)
   | ((with_reducible refine gate_dst (N := 6) rfl ?_); refine box_event ?hg (N := 6) ?hd (cs := #[.int .i64 a]) (t := 3) ?hr ?_; (case hd => rfl); (case hg => rfl); (case hr => first | (go_simp; done) | (go_simp; rfl)); intro g6 hg W6 hbox hbl; have B6 := Lib.hid hbox; have B56 := Lib.hid (blk_below B5.out hbl); have HB6 := Lib.hid (below_step HB5.out hbl); clear hbox hbl hg)
   | ((with_reducible refine gate_dst (N := 7) rfl ?_); refine box_event ?hg (N := 7) ?hd (cs := #[.int .i64 b]) (t := 3) ?hr ?_; (case hd => rfl); (case hg => rfl); (case hr => first | (go_simp; done) | (go_simp; rfl)); intro g7 hg W7 hbox hbl; have B7 := Lib.hid hbox; have B67 := Lib.hid (blk_below B6.out hbl); have HB7 := Lib.hid (below_step HB6.out hbl); have k5 : W7.cell? ⟨g5, 1, none⟩ = some (.int .i64 p1) := (blk_cell (blk_below B56.out hbl) 1).trans rfl; have R7 := Lib.hid (Kd.C_below HR.out HB7.out); clear hbox hbl hg)
   | (go_at_call 43; refine (ContainsOdd g6 g7 a b A c l _ R7.out HC.out B67.out B7.out).mono ?_; rw [HV.out]; rintro e W8 ⟨rfl, hb⟩; have HB8 := Lib.hid (below_step HB7.out hb); clear hb))
  go_ret
  exact ⟨rfl, HB8.out⟩
end Go.Proofs.YteieahbadclppaaGreat.P

namespace Go.Proofs.YteieahbadclppaaGreat.P
open Go.RowKit Go.Proofs.YteieahbadclppaaGreatW.PrintWords Go.Proofs.YteieahbadclppaaGreatW.PrintLast Go.Proofs.YteieahbadclppaaGreatW.PrintMore
attribute [local go_sem] max2_int min2_int max_two min_two max_three min_three max_four min_four   -- for this text's walks alone
set_option linter.unusedVariables false
set_option linter.unusedSimpArgs false

def scan_Max.l0 : Nat → Int → List (S38) → Int → Int → Option (Int × Int)
 | 0, _, _, _, _ => none
 | k + 1, x4, x7, x8, x9 => if x9 < x8 then (if 0 ≤ x9 then (if x9 < (x7.length : Int) then (if (mn ((rd_T38 x7 x9).f0) ((rd_T38 x7 x9).f1)) < (-2147483648) then (some (0, 2)) else (if (mx ((rd_T38 x7 x9).f0) ((rd_T38 x7 x9).f1)) > 2147483648 then (some (0, 2)) else ((scan_greatest.f k (([x4, (rd_T38 x7 x9).f0, (rd_T38 x7 x9).f1] : List Int))).bind fun t295 => (scan_Max.l0 k t295 x7 x8 (wrap64 (x9 + 1)))))) else (none)) else (none)) else (some (x4, 0))
def scan_Max.f (k : Nat) (l0 : List (S38)) : Option (Int × Int) := scan_Max.l0 k 0 l0 (l0.length : Int) 0
set_option maxHeartbeats 8000000 in
set_option maxRecDepth 100000 in
theorem scan_Max.calls (k : Nat) (A0 : Option Addr) (c0 : Nat) (l0 : List (S38)) (r1 : Int) (r2 : Int) (w : World) (hr0 : Kd.C k38 w A0 l0.length l0) (hc0 : l0.length ≤ c0) (h : scan_Max.f k l0 = some (r1, r2)) :
  Calls Tryz.prog 13 #[.slice A0 l0.length c0] w fun e w' => e = .returned (.tuple #[.int .i64 r1, .int .i64 r2]) ∧ Below w.heap.size w w' := by
 have hu38 := Tryz.underlying38
 have HR0 := Aside0.mk hr0
 have HC0 := Aside0.mk hc0
 clear hr0 hc0
 have HB := Aside0.mk (Below.refl w.heap.size w)
 have H : (scan_Max.l0 k 0 l0 (l0.length : Int) 0) = some (r1, r2) := h
 clear h
 have H' := Aside0.mk H
 clear H
 go_enter Tryz.func13, Tryz.ntmps13
 go_wp2
 go_loopg [4, 9] k (fun kq v4 v9 w' => ∃ (x4_1 : Int) (x9_1 : Int), v4 = .int .i64 x4_1 ∧ v9 = .int .i64 x9_1 ∧ Aside0 (scan_Max.l0 kq x4_1 l0 (l0.length : Int) x9_1 = some (r1, r2)) ∧ Aside0 (kq ≤ k) ∧ Aside0 (Below w.heap.size w w'))
 case atStart => exact ⟨(0), (0), (by first | rfl | (simp; done) | (simp [*]; done)), (by first | rfl | (simp; done) | (simp [*]; done)), H', ⟨Nat.le_refl _⟩, ⟨by repeat (first | (with_reducible first | exact HB.out | apply below_alloc | apply pw_below_drewN | apply below_drew1) | exact HB.out)⟩⟩
 case round =>
  clear H'
  try clear c1
  obtain ⟨x4_1, x9_1, rfl, rfl, HA, HK1, HB⟩ := hrel
  cases gk with
  | zero => exact absurd HA.out (by simp [scan_Max.l0])
  | succ k1 =>
   have H := HA.out
   clear HA
   simp only [scan_Max.l0] at H
   by_cases c2 : x9_1 < (l0.length : Int)
   ·rw [if_pos c2] at H
    have c2b0 : decide (x9_1 < (l0.length : Int)) = true := decide_eq_true c2
    clear c2
    by_cases c3 : 0 ≤ x9_1
    ·rw [if_pos c3] at H
     have c3b0 : decide (0 ≤ x9_1) = true := decide_eq_true c3
     clear c3
     by_cases c4 : x9_1 < (l0.length : Int)
     ·rw [if_pos c4] at H
      have c4b0 : decide (x9_1 < (l0.length : Int)) = true := decide_eq_true c4
      clear c4
      obtain ⟨ji5, hji5⟩ : ∃ j_ : Int, (mn ((rd_T38 l0 x9_1).f0) ((rd_T38 l0 x9_1).f1)) = j_ := ⟨_, rfl⟩
      replace H : (if (ji5) < (-2147483648) then (some (0, 2)) else (if (mx ((rd_T38 l0 x9_1).f0) ((rd_T38 l0 x9_1).f1)) > 2147483648 then (some (0, 2)) else ((scan_greatest.f k1 (([x4_1, (rd_T38 l0 x9_1).f0, (rd_T38 l0 x9_1).f1] : List Int))).bind fun t295 => (scan_Max.l0 k1 t295 l0 (l0.length : Int) (wrap64 (x9_1 + 1)))))) = some (r1, r2) := by first | (rw [hji5] at H; exact H) | (simp only [hji5] at H ⊢; exact H)
      have hji5_ : (if ((rd_T38 l0 x9_1).f1) < ((rd_T38 l0 x9_1).f0) then ((rd_T38 l0 x9_1).f1) else ((rd_T38 l0 x9_1).f0)) = ji5 := hji5
      by_cases c6 : (ji5) < (-2147483648)
      ·rw [if_pos c6] at H
       have c6b0 : decide ((ji5) < (-2147483648)) = true := decide_eq_true c6
       clear c6
       simp only [Option.some.injEq, Prod.mk.injEq] at H
       obtain ⟨rfl, rfl⟩ := H
       have p290 : 0 ≤ (x9_1 : Int) := of_decide_eq_true (by first | (with_reducible assumption) | assumption)
       have q290 : x9_1 < (l0.length : Int) := of_decide_eq_true (by first | (with_reducible assumption) | assumption)
       obtain ⟨ad290, e290, hx290_0, hx290_1⟩ := at_T38 HR0.out x9_1 p290 q290
       cases e290
       replace hx290_0 := (HB.out.cell (World.block_lt_of_cell? w _ hx290_0)).trans hx290_0
       replace hx290_1 := (HB.out.cell (World.block_lt_of_cell? w _ hx290_1)).trans hx290_1
       replace p290 := eq_true p290
       replace q290 := eq_true q290
       go_wp2_with (first | ((with_reducible refine gate_dst (N := 6) rfl ?_); (try (refine gate_guard (by rfl) ?_; dsimp only)); refine box_event ?hg (N := 6) ?hd (cs := #[.int .i64 0, .int .i64 0]) (t := 38) ?hr ?_; (case hd => rfl); (case hg => rfl); (case hr => first | (go_simp; done) | (go_simp; rfl)); intro gb291 hg w7 hbox hb; have n0_ := Aside0.mk (below_step (by repeat (first | (with_reducible first | exact HB.out | apply below_alloc | apply pw_below_drewN | apply below_drew1) | exact HB.out)) hb); have n1_ := Aside0.mk (hbox); have n2_ := Aside0.mk ((by rw [hg]; exact (below_size (by repeat (first | (with_reducible first | exact HB.out | apply below_alloc | apply pw_below_drewN | apply below_drew1) | exact HB.out))) : w.heap.size ≤ gb291)); have n3_ := Aside0.mk ((by rw [hg]; exact (below_size (by repeat (first | (with_reducible first | exact HB.out | apply below_alloc | apply pw_below_drewN | apply below_drew1) | exact HB.out))) : w.heap.size ≤ gb291)); clear HB; have HB := n0_; have BK291 := n1_; have GW291 := n2_; have GE291 := n3_; clear n0_ n1_ n2_ n3_; clear hb hbox hg; have hcz8_0 : w7.cell? ⟨gb291, 0, none⟩ = some (.int .i64 0) := (blk_cell BK291.out 0).trans rfl; have hcz8_1 : w7.cell? ⟨gb291, 1, none⟩ = some (.int .i64 0) := (blk_cell BK291.out 1).trans rfl; have hfz8_0 := blk_frozen BK291.out 0; have hfz8_1 := blk_frozen BK291.out 1))
       go_ret2
       exact ⟨by first | rfl | (simp [errW_none, errW_some] <;> rfl) | (simp only [← hji5]; first | rfl | (simp [errW_none, errW_some] <;> rfl)) | (simp [*, errW_none, errW_some] <;> rfl), by repeat (first | (with_reducible first | exact HB.out | apply below_alloc | apply pw_below_drewN | apply below_drew1 | refine below_set ?_ GE291.out) | exact HB.out)⟩
      ·rw [if_neg c6] at H
       have c6b0 : decide ((ji5) < (-2147483648)) = false := decide_eq_false c6
       clear c6
       obtain ⟨ji9, hji9⟩ : ∃ j_ : Int, (mx ((rd_T38 l0 x9_1).f0) ((rd_T38 l0 x9_1).f1)) = j_ := ⟨_, rfl⟩
       replace H : (if (ji9) > 2147483648 then (some (0, 2)) else ((scan_greatest.f k1 (([x4_1, (rd_T38 l0 x9_1).f0, (rd_T38 l0 x9_1).f1] : List Int))).bind fun t295 => (scan_Max.l0 k1 t295 l0 (l0.length : Int) (wrap64 (x9_1 + 1))))) = some (r1, r2) := by first | (rw [hji9] at H; exact H) | (simp only [hji9] at H ⊢; exact H)
       have hji9_ : (if ((rd_T38 l0 x9_1).f0) < ((rd_T38 l0 x9_1).f1) then ((rd_T38 l0 x9_1).f1) else ((rd_T38 l0 x9_1).f0)) = ji9 := hji9
       by_cases c10 : (ji9) > 2147483648
       ·rw [if_pos c10] at H
        have c10b0 : decide (2147483648 < (ji9)) = true := decide_eq_true c10
        clear c10
        simp only [Option.some.injEq, Prod.mk.injEq] at H
        obtain ⟨rfl, rfl⟩ := H
        have p290 : 0 ≤ (x9_1 : Int) := of_decide_eq_true (by first | (with_reducible assumption) | assumption)
        have q290 : x9_1 < (l0.length : Int) := of_decide_eq_true (by first | (with_reducible assumption) | assumption)
        obtain ⟨ad290, e290, hx290_0, hx290_1⟩ := at_T38 HR0.out x9_1 p290 q290
        cases e290
        replace hx290_0 := (HB.out.cell (World.block_lt_of_cell? w _ hx290_0)).trans hx290_0
        replace hx290_1 := (HB.out.cell (World.block_lt_of_cell? w _ hx290_1)).trans hx290_1
        replace p290 := eq_true p290
        replace q290 := eq_true q290
        go_wp2_with (first | ((with_reducible refine gate_dst (N := 6) rfl ?_); (try (refine gate_guard (by rfl) ?_; dsimp only)); refine box_event ?hg (N := 6) ?hd (cs := #[.int .i64 0, .int .i64 0]) (t := 38) ?hr ?_; (case hd => rfl); (case hg => rfl); (case hr => first | (go_simp; done) | (go_simp; rfl)); intro gb291 hg w11 hbox hb; have n0_ := Aside0.mk (below_step (by repeat (first | (with_reducible first | exact HB.out | apply below_alloc | apply pw_below_drewN | apply below_drew1) | exact HB.out)) hb); have n1_ := Aside0.mk (hbox); have n2_ := Aside0.mk ((by rw [hg]; exact (below_size (by repeat (first | (with_reducible first | exact HB.out | apply below_alloc | apply pw_below_drewN | apply below_drew1) | exact HB.out))) : w.heap.size ≤ gb291)); have n3_ := Aside0.mk ((by rw [hg]; exact (below_size (by repeat (first | (with_reducible first | exact HB.out | apply below_alloc | apply pw_below_drewN | apply below_drew1) | exact HB.out))) : w.heap.size ≤ gb291)); clear HB; have HB := n0_; have BK291 := n1_; have GW291 := n2_; have GE291 := n3_; clear n0_ n1_ n2_ n3_; clear hb hbox hg; have hcz12_0 : w11.cell? ⟨gb291, 0, none⟩ = some (.int .i64 0) := (blk_cell BK291.out 0).trans rfl; have hcz12_1 : w11.cell? ⟨gb291, 1, none⟩ = some (.int .i64 0) := (blk_cell BK291.out 1).trans rfl; have hfz12_0 := blk_frozen BK291.out 0; have hfz12_1 := blk_frozen BK291.out 1))
        go_ret2
        exact ⟨by first | rfl | (simp [errW_none, errW_some] <;> rfl) | (simp only [← hji5, ← hji9]; first | rfl | (simp [errW_none, errW_some] <;> rfl)) | (simp [*, errW_none, errW_some] <;> rfl), by repeat (first | (with_reducible first | exact HB.out | apply below_alloc | apply pw_below_drewN | apply below_drew1 | refine below_set ?_ GE291.out) | exact HB.out)⟩
       ·rw [if_neg c10] at H
        have c10b0 : decide (2147483648 < (ji9)) = false := decide_eq_false c10
        clear c10
        obtain ⟨y292, hy292⟩ : ∃ y_ : List Int, y_ = (([x4_1, (rd_T38 l0 x9_1).f0, (rd_T38 l0 x9_1).f1] : List Int)) := ⟨_, rfl⟩
        replace H : ((scan_greatest.f k1 y292).bind fun t295 => (scan_Max.l0 k1 t295 l0 (l0.length : Int) (wrap64 (x9_1 + 1)))) = some (r1, r2) := by first | (rw [hy292]; with_reducible exact H) | (have H2_ := (Option.bind_some _ _).symm.trans H; rw [hy292]; with_reducible exact H2_) | (have H2_ := (Option.bind_some _ _).symm.trans H; with_reducible exact H2_) | with_reducible exact H | (rw [hy292]; exact H) | exact H
        have Ny292 := Aside0.mk hy292
        clear hy292
        replace H := Option.bind_eq_some_iff.mp H
        obtain ⟨t295, A130, H⟩ := H
        replace H : (scan_Max.l0 k1 t295 l0 (l0.length : Int) (wrap64 (x9_1 + 1))) = some (r1, r2) := H
        have A13 := Aside0.mk A130
        clear A130
        have H' := Aside0.mk H
        clear H
        have p290 : 0 ≤ (x9_1 : Int) := of_decide_eq_true (by first | (with_reducible assumption) | assumption)
        have q290 : x9_1 < (l0.length : Int) := of_decide_eq_true (by first | (with_reducible assumption) | assumption)
        obtain ⟨ad290, e290, hx290_0, hx290_1⟩ := at_T38 HR0.out x9_1 p290 q290
        cases e290
        replace hx290_0 := (HB.out.cell (World.block_lt_of_cell? w _ hx290_0)).trans hx290_0
        replace hx290_1 := (HB.out.cell (World.block_lt_of_cell? w _ hx290_1)).trans hx290_1
        replace p290 := eq_true p290
        replace q290 := eq_true q290
        go_wp2_with (first | ((with_reducible refine gate_dst (N := 6) rfl ?_); (try (refine gate_guard (by rfl) ?_; dsimp only)); refine box_event ?hg (N := 6) ?hd (cs := #[.int .i64 0, .int .i64 0]) (t := 38) ?hr ?_; (case hd => rfl); (case hg => rfl); (case hr => first | (go_simp; done) | (go_simp; rfl)); intro gb291 hg w14 hbox hb; have n0_ := Aside0.mk (below_step (by repeat (first | (with_reducible first | exact HB.out | apply below_alloc | apply pw_below_drewN | apply below_drew1) | exact HB.out)) hb); have n1_ := Aside0.mk (hbox); have n2_ := Aside0.mk ((by rw [hg]; exact (below_size (by repeat (first | (with_reducible first | exact HB.out | apply below_alloc | apply pw_below_drewN | apply below_drew1) | exact HB.out))) : w.heap.size ≤ gb291)); have n3_ := Aside0.mk ((by rw [hg]; exact (below_size (by repeat (first | (with_reducible first | exact HB.out | apply below_alloc | apply pw_below_drewN | apply below_drew1) | exact HB.out))) : w.heap.size ≤ gb291)); clear HB; have HB := n0_; have BK291 := n1_; have GW291 := n2_; have GE291 := n3_; clear n0_ n1_ n2_ n3_; clear hb hbox hg; have hcz15_0 : w14.cell? ⟨gb291, 0, none⟩ = some (.int .i64 0) := (blk_cell BK291.out 0).trans rfl; have hcz15_1 : w14.cell? ⟨gb291, 1, none⟩ = some (.int .i64 0) := (blk_cell BK291.out 1).trans rfl; have hfz15_0 := blk_frozen BK291.out 0; have hfz15_1 := blk_frozen BK291.out 1) | ((with_reducible refine gate_dst (N := 32) rfl ?_); (try (refine gate_guard (by rfl) ?_; dsimp only)); refine Kd.R_lit (Kd.int .i64) _ 3 ?hg (N := 32) ?hd (xs := ([x4_1, (rd_T38 l0 x9_1).f0, (rd_T38 l0 x9_1).f1] : List Int)) (inner := [.int .i64 x4_1, .int .i64 ((rd_T38 l0 x9_1).f0), .int .i64 ((rd_T38 l0 x9_1).f1)]) (ok := fun _ => True) (okp := fun _ => True) ?hr ?hp (fun _ hk => hk) trivial (Below.refl _ _) (Nat.le_refl _) (by simp) ?_; (case hd => rfl); (case hg => rfl); (case hr => first | (go_simp; done) | (go_simp; rfl)); (case hp => exact (Reps.one (show Kd.M (Kd.int .i64) _ _ _ x4_1 [.int .i64 x4_1] from rfl) (Reps.one (show Kd.M (Kd.int .i64) _ _ _ ((rd_T38 l0 x9_1).f0) [.int .i64 ((rd_T38 l0 x9_1).f0)] from rfl) (Reps.one (show Kd.M (Kd.int .i64) _ _ _ ((rd_T38 l0 x9_1).f1) [.int .i64 ((rd_T38 l0 x9_1).f1)] from rfl) (Reps.none _ _))))); intro v293 w16 ho17 hb hg_ hnew_; clear hg_ hnew_; (first | rw [← Ny292.out] at ho17 | (simp only [Int.reduceToNat] at ho17; rw [← Ny292.out] at ho17)); have n0_ := Aside0.mk (Kd.R_lower ho17 (below_size (by repeat (first | (with_reducible first | exact HB.out | apply below_alloc | apply pw_below_drewN | apply below_drew1 | refine below_set ?_ GE291.out) | exact HB.out)))); have n1_ := Aside0.mk (blk_below (g := gb291) (o := .cells #[.int .i64 ((rd_T38 l0 x9_1).f0), .int .i64 ((rd_T38 l0 x9_1).f1)] 38 (0, 0)) (by (with_reducible repeat (first | refine blk_drewN ?_ _ | refine blk_drew ?_ | refine blk_alloc ?_ _)); refine blk_put (cs := #[.int .i64 ((rd_T38 l0 x9_1).f0), .int .i64 0]) ?_ 1 _ rfl; (with_reducible repeat (first | refine blk_drewN ?_ _ | refine blk_drew ?_ | refine blk_alloc ?_ _)); refine blk_put (cs := #[.int .i64 0, .int .i64 0]) ?_ 0 _ rfl; (with_reducible repeat (first | refine blk_drewN ?_ _ | refine blk_drew ?_ | refine blk_alloc ?_ _)); exact BK291.out) hb); have n2_ := Aside0.mk (below_step (by repeat (first | (with_reducible first | exact HB.out | apply below_alloc | apply pw_below_drewN | apply below_drew1 | refine below_set ?_ GE291.out) | exact HB.out)) hb); clear BK291; clear HB; have HO294 := n0_; have BK291 := n1_; have HB := n2_; clear n0_ n1_ n2_; clear hb ho17; obtain ⟨Ao18, co18, eo18⟩ := Kd.R_slice HO294.out; subst eo18) | ((with_reducible refine gate_callee (f := 31) rfl ?_); refine goesL_ (some 33) rfl rfl Tryz.func31 (by kernel_rfl) rfl #[.slice Ao18 y292.length co18] rfl (by (try simp only [List.map_toArray, List.map_cons, List.map_nil]); first | done | rfl | (simp only [List.length_drop, List.length_take]; rfl)) ?_; (with_reducible refine (scan_greatest.calls k1 _ _ y292 t295 _ ?side1 ?side2 A13.out).mono ?_); (case side1 => repeat (first | exact (Kd.R_reads' HO294.out).2.2 | (with_reducible refine Kd.C_alloc ?_ _) | (with_reducible refine Kd.C_drewN ?_ _) | (with_reducible refine Kd.C_drew ?_))); (case side2 => exact (Kd.R_reads' HO294.out).2.1); rintro e w19 ⟨rfl, hb⟩; refine ⟨_, rfl, ?_⟩; have n0_ := Aside0.mk (Kd.R_below (by (with_reducible repeat (first | apply Kd.R_alloc | apply Kd.R_drewN | apply Kd.R_drew)); exact HO294.out) hb); have n1_ := Aside0.mk (blk_below (g := gb291) (o := .cells #[.int .i64 ((rd_T38 l0 x9_1).f0), .int .i64 ((rd_T38 l0 x9_1).f1)] 38 (0, 0)) (by (with_reducible repeat (first | refine blk_drewN ?_ _ | refine blk_drew ?_ | refine blk_alloc ?_ _)); exact BK291.out) hb); have n2_ := Aside0.mk (below_step (by repeat (first | (with_reducible first | exact HB.out | apply below_alloc | apply pw_below_drewN | apply below_drew1 | refine below_set ?_ GE291.out) | exact HB.out)) hb); clear HO294; clear BK291; clear HB; have HO294 := n0_; have BK291 := n1_; have HB := n2_; clear n0_ n1_ n2_; (try clear hb); (try clear hb2); (try clear hk); (try clear hi)))
        go_roundg k1
        case measure => have := HK1.out; omega
        case rel => exact ⟨(t295), (wrap64 (x9_1 + 1)), (by first | rfl | (simp; done) | (simp [*]; done)), (by first | rfl | (simp; done) | (simp [*]; done)), H', ⟨by have := HK1.out; omega⟩, ⟨by repeat (first | (with_reducible first | exact HB.out | apply below_alloc | apply pw_below_drewN | apply below_drew1 | refine below_set ?_ GE291.out) | exact HB.out)⟩⟩
     ·rw [if_neg c4] at H
      exact absurd H (by simp)
    ·rw [if_neg c3] at H
     exact absurd H (by simp)
   ·rw [if_neg c2] at H
    have c2b0 : decide (x9_1 < (l0.length : Int)) = false := decide_eq_false c2
    clear c2
    simp only [Option.some.injEq, Prod.mk.injEq] at H
    obtain ⟨rfl, rfl⟩ := H
    go_wp2
    go_ret2
    exact ⟨by first | rfl | (simp [errW_none, errW_some] <;> rfl) | (simp [*, errW_none, errW_some] <;> rfl), by repeat (first | (with_reducible first | exact HB.out | apply below_alloc | apply pw_below_drewN | apply below_drew1) | exact HB.out)⟩

end Go.Proofs.YteieahbadclppaaGreat.P

namespace Go.Proofs.YteieahbadclppaaGreat.P
open Go.RowKit Go.Proofs.YteieahbadclppaaGreatW.PrintWords Go.Proofs.YteieahbadclppaaGreatW.PrintLast Go.Proofs.YteieahbadclppaaGreatW.PrintMore
attribute [local go_sem] max2_int min2_int max_two min_two max_three min_three max_four min_four   -- for this text's walks alone
set_option linter.unusedVariables false
set_option linter.unusedSimpArgs false

def sat_Bits.f (a0 : Int) : Option (Int × Int) := if a0 = 0 then (some (15, 0)) else (if a0 = 1 then (some (31, 0)) else (some (0, 1)))
set_option maxHeartbeats 8000000 in
set_option maxRecDepth 100000 in
theorem sat_Bits.calls (a0 : Int) (r1 : Int) (r2 : Int) (w : World) (h : sat_Bits.f a0 = some (r1, r2)) :
  Calls Tryz.prog 41 #[.int .i64 a0] w fun e w' => e = .returned (.tuple #[.int .i64 r1, .int .i64 r2]) ∧ Drawn0 w w' := by
 have H : (if a0 = 0 then (some (15, 0)) else (if a0 = 1 then (some (31, 0)) else (some (0, 1)))) = some (r1, r2) := h
 clear h
 by_cases c2 : a0 = 0
 ·rw [if_pos c2] at H
  have c2b0 : (a0 == 0) = true := beq_iff_eq.mpr c2
  have c2b1 : (a0 != 0) = false := bne_eq_false_iff_eq.mpr c2
  clear c2
  simp only [Option.some.injEq, Prod.mk.injEq] at H
  obtain ⟨rfl, rfl⟩ := H
  go_enter Tryz.func41, Tryz.ntmps41
  go_wp2
  go_ret2
  exact ⟨by first | rfl | (simp; done) | (simp [*]; done), by repeat (first | exact Drawn0.refl _ | apply Drawn0.step)⟩
 ·rw [if_neg c2] at H
  have c2b0 : (a0 == 0) = false := beq_eq_false_iff_ne.mpr c2
  have c2b1 : (a0 != 0) = true := bne_iff_ne.mpr c2
  by_cases c3 : a0 = 1
  ·rw [if_pos c3] at H
   have c3b0 : (a0 == 1) = true := beq_iff_eq.mpr c3
   have c3b1 : (a0 != 1) = false := bne_eq_false_iff_eq.mpr c3
   clear c3
   simp only [Option.some.injEq, Prod.mk.injEq] at H
   obtain ⟨rfl, rfl⟩ := H
   go_enter Tryz.func41, Tryz.ntmps41
   go_wp2
   go_ret2
   exact ⟨by first | rfl | (simp; done) | (simp [*]; done), by repeat (first | exact Drawn0.refl _ | apply Drawn0.step)⟩
  ·rw [if_neg c3] at H
   have c3b0 : (a0 == 1) = false := beq_eq_false_iff_ne.mpr c3
   have c3b1 : (a0 != 1) = true := bne_iff_ne.mpr c3
   simp only [Option.some.injEq, Prod.mk.injEq] at H
   obtain ⟨rfl, rfl⟩ := H
   go_enter Tryz.func41, Tryz.ntmps41
   go_wp2
   go_ret2
   exact ⟨by first | rfl | (simp; done) | (simp [*]; done), by repeat (first | exact Drawn0.refl _ | apply Drawn0.step)⟩

end Go.Proofs.YteieahbadclppaaGreat.P

