/- Squares: the walks of cx.Norm, power.may and what they call. -/
import Derived.Test.YtajgpilcbaoneaaPg1
import Derived.Great.BuildSlice
import Derived.Laws.CopyOwn
import Derived.Deep.QuietTactic
import Derived.BigQuiet
import Derived.Outline
import Derived.Lib.Hide
namespace Go.Proofs.Ytajgpilcbaoneaa.P
open Go.RowKit Go.Proofs.YtajgpilcbaoneaaW.PrintWords Go.Proofs.YtajgpilcbaoneaaW.PrintLast Go.Proofs.YtajgpilcbaoneaaW.PrintMore
attribute [local go_sem] max2_int min2_int max_two min_two
set_option linter.unusedVariables false
set_option linter.unusedSimpArgs false
section
variable {P : Program} {ops : Array Oper} {rest : List Oper} {o : Oper} {a : Act} {Q : Exit → Act → World → Prop}
/-- A whole row stored into a block, the world behind it under a name of its own. -/
theorem row_event {W : World} (hgd : o.guard = none) (ty : TypeId) (x y : Operand) (ho : o.op = .store ty x y)
    (g : Nat) (cells : Array Value) (hx : a.eval x = .pointer (some ⟨g, 0, none⟩)) (hy : a.eval y = .agg cells)
    (t : TypeId) (old : Array Value) (hg : W.heap[g]? = some (.cells old t (0, 0))) (hi : (P.info? ty).map (·.size) = some cells.size)
    (hold : old.size = cells.size) (h1 : cells.all (·.oneCell') = true)
    (h : ∀ w1, w1.heap[g]? = some (.cells cells t (0, 0)) → (∀ k, k ≠ g → w1.heap[k]? = W.heap[k]?) → (∀ B w0, B ≤ g → Below B w0 W → Below B w0 w1) → wpList P ops Q rest (a.put o.dst undef) w1) : wpList P ops Q (o :: rest) a W :=
  wpList_store_row hgd ty x y ho g cells hx hy t old hg hi hold h1 (h _ (setRow_heap W g old cells t (0, 0) hg) (fun k hk => setRow_other W g k cells hk) (fun B w0 hB hb => below_setRow hb hB cells))
end
theorem size45 (a b : Value) : (Try.prog.info? 45).map (·.size) = some (#[a, b] : Array Value).size := by kernel_rfl
theorem one45 (a b : Int) : (#[.int .i64 a, .int .i64 b] : Array Value).all (·.oneCell') = true := by simp [Value.oneCell']
/-- Are a number's parts in their range? -/
def narrowB (x : S45) : Bool := decide (x.f0 ≤ 2147483648 ∧ x.f1 ≤ 2147483648 ∧ -2147483648 ≤ x.f0 ∧ -2147483648 ≤ x.f1)
/-- The sum of the squares, of what may be. -/
def normU (x : S45) : Int := if narrowB x = true then x.f0 * x.f0 + x.f1 * x.f1 else 0
theorem within_one (x : S45) : cx_within.f 3 2147483648 [x] = some (narrowB x) := by
  have e : rd_T45 [x] 0 = x := rfl
  have hm : wrap64 (-2147483648) = -2147483648 := by decide +kernel
  have h1 : wrap64 (0 + 1) = 1 := by decide +kernel
  unfold cx_within.f
  simp only [cx_within.l0]
  rw [if_pos (by simp), if_pos (by decide), if_pos (by simp), e, hm, h1]
  unfold mx mn narrowB
  by_cases c1 : (if x.f0 < x.f1 then x.f1 else x.f0) > 2147483648
  · rw [if_pos c1]
    refine congrArg some (decide_eq_false ?_).symm
    split at c1 <;> omega
  · rw [if_neg c1]
    by_cases c2 : (if x.f1 < x.f0 then x.f1 else x.f0) < -2147483648
    · rw [if_pos c2]
      refine congrArg some (decide_eq_false ?_).symm
      split at c2 <;> omega
    · rw [if_neg c2, if_neg (by simp)]
      refine congrArg some (decide_eq_true ?_).symm
      split at c1 <;> split at c2 <;> omega
theorem C_one {W : World} {B : Nat} {x : S45} (h : W.heap[B]? = some (.cells #[.int .i64 x.f0, .int .i64 x.f1] 45 (0, 0))) : Kd.C k45 W (some ⟨B, 0, none⟩) [x].length [x] := by
  refine ⟨rfl, (show 1 ≤ 9223372036854775807 by decide), fun _ => ?_⟩
  refine ⟨⟨B, 0, none⟩, rfl, fun j p hp => ?_⟩
  cases j with
  | zero =>
    obtain rfl := Option.some.inj hp
    refine ⟨_, rfl, k45_mk W _, fun i u hu => ?_⟩
    have hc := blk_cell h i
    have e : (Addr.mk B 0 none).add (0 * k45.sz + i) = ⟨B, i, none⟩ := by rw [Nat.zero_mul, Nat.zero_add]; unfold Addr.add; split <;> simp_all
    rw [e, hc, List.getElem?_toArray]
    exact hu
  | succ j => simp at hp
set_option maxRecDepth 100000 in
set_option maxHeartbeats 4000000 in
theorem norm1_any (B : Nat) (x : S45) (hn : narrowB x = true) (w : World) (hb : w.heap[B]? = some (.cells #[.int .i64 x.f0, .int .i64 x.f1] 45 (0, 0))) :
    Calls Try.prog 57 #[.pointer (some ⟨B, 0, none⟩)] w fun e w' => e = .returned (.int .u64 (normU x)) ∧ Below w.heap.size w w' := by
  have hc0 : w.cell? ⟨B, 0, none⟩ = some (.int .i64 x.f0) := (blk_cell hb 0).trans rfl
  have hc1 : w.cell? ⟨B, 1, none⟩ = some (.int .i64 x.f1) := (blk_cell hb 1).trans rfl
  clear hb
  have hv : IntKind.u64.wrap (IntKind.u64.wrap (wrap64 (x.f0 * x.f0)) + IntKind.u64.wrap (wrap64 (x.f1 * x.f1))) = normU x := by
    unfold normU
    rw [if_pos hn]
    unfold narrowB at hn
    have h := of_decide_eq_true hn
    have a1 : x.f0 * x.f0 ≤ 2147483648 * 2147483648 ∧ 0 ≤ x.f0 * x.f0 := by
      have p : 0 ≤ (2147483648 - x.f0) * (2147483648 + x.f0) := Int.mul_nonneg (by omega) (by omega)
      refine ⟨by grind, ?_⟩
      rcases Int.le_total 0 x.f0 with q | q
      · exact Int.mul_nonneg q q
      · exact Int.mul_nonneg_of_nonpos_of_nonpos q q
    have a2 : x.f1 * x.f1 ≤ 2147483648 * 2147483648 ∧ 0 ≤ x.f1 * x.f1 := by
      have p : 0 ≤ (2147483648 - x.f1) * (2147483648 + x.f1) := Int.mul_nonneg (by omega) (by omega)
      refine ⟨by grind, ?_⟩
      rcases Int.le_total 0 x.f1 with q | q
      · exact Int.mul_nonneg q q
      · exact Int.mul_nonneg_of_nonpos_of_nonpos q q
    generalize x.f0 * x.f0 = p at *
    generalize x.f1 * x.f1 = q at *
    have e1 : ∀ n : Int, IntKind.u64.wrap n = n % 18446744073709551616 := fun n => by simp [IntKind.wrap, IntKind.bits, IntKind.signed]
    rw [e1, e1, e1]
    unfold wrap64
    omega
  have HV := Lib.hid hv
  clear hv
  go_enter Try.func57, Try.ntmps57
  go_wp2
  go_ret
  exact ⟨congrArg (fun q => Ending.returned (.int .u64 q)) HV.out, Below.refl _ _⟩
set_option maxRecDepth 100000 in
set_option maxHeartbeats 4000000 in
theorem made_no (F : Value) (w : World) :
    Calls Try.prog 56 #[.bool false, F] w fun e w' => e = .returned (.tuple #[.int .u64 0, .int .i64 2]) ∧ Below w.heap.size w w' := by
  go_enter Try.func56, Try.ntmps56
  go_wp2
  go_ret2
  exact ⟨rfl, Below.refl _ _⟩
set_option maxRecDepth 100000 in
set_option maxHeartbeats 4000000 in
theorem made_yes (B : Nat) (x : S45) (hn : narrowB x = true) (w : World) (hb : w.heap[B]? = some (.cells #[.int .i64 x.f0, .int .i64 x.f1] 45 (0, 0))) :
    Calls Try.prog 56 #[.bool true, .func (.func 57) #[] #[.pointer (some ⟨B, 0, none⟩)]] w fun e w' => e = .returned (.tuple #[.int .u64 (normU x), .int .i64 0]) ∧ Below w.heap.size w w' := by
  have HB := Lib.hid hb
  clear hb
  go_enter Try.func56, Try.ntmps56
  go_wp2_with (go_at_call 57; refine (norm1_any B x hn _ HB.out).mono ?_; rintro e w1 ⟨rfl, hb1⟩)
  go_ret2
  exact ⟨rfl, hb1⟩
set_option maxRecDepth 100000 in
set_option maxHeartbeats 4000000 in
theorem Norm_yes (x : S45) (hn : narrowB x = true) (w : World) :
    Calls Try.prog 51 #[.agg #[.int .i64 x.f0, .int .i64 x.f1]] w fun e w' => e = .returned (.tuple #[.int .u64 (normU x), .int .i64 0]) ∧ Below w.heap.size w w' := by
  have HW := Lib.hid (hn ▸ within_one x)
  have HN := Lib.hid hn
  clear hn
  go_enter Try.func51, Try.ntmps51
  go_wp2_with (first
    | ((with_reducible refine gate_dst (N := 1) rfl ?_); refine box_event ?hg (N := 1) ?hd (cs := #[.int .i64 x.f0, .int .i64 x.f1]) (t := 45) ?hr ?_; (case hd => rfl); (case hg => rfl); (case hr => first | (go_simp; done) | (go_simp; rfl)); intro g1 hg W0 hbox hb; have B0 := Lib.hid hbox; have HB0 := Lib.hid hb; clear hbox hb hg)
    | ((with_reducible refine gate_dst (N := 4) rfl ?_); refine wpList_load_row rfl 45 _ rfl g1 rfl 45 #[.int .i64 x.f0, .int .i64 x.f1] (0, 0) _ B0.out Try.underlying45 rfl (size45 _ _) ?_)
    | (go_at_call 46; refine (cx_within.calls 3 2147483648 (some ⟨W0.heap.size, 0, none⟩) 1 [x] true _ (C_one (blk_new W0 _)) (Nat.le_refl 1) HW.out).mono ?_; rintro e W1 ⟨rfl, hb⟩; have B1 := Lib.hid (blk_below (blk_alloc B0.out _) hb); have HB1 := Lib.hid (below_step (below_alloc HB0.out _) hb); clear hb)
    | (go_at_call 56; refine (made_yes g1 x HN.out _ B1.out).mono ?_; rintro e W2 ⟨rfl, hb⟩; have HB2 := Lib.hid (below_step HB1.out hb); clear hb))
  go_ret2
  exact ⟨rfl, HB2.out⟩
set_option maxRecDepth 100000 in
set_option maxHeartbeats 4000000 in
theorem Norm_no (x : S45) (hn : narrowB x = false) (w : World) :
    Calls Try.prog 51 #[.agg #[.int .i64 x.f0, .int .i64 x.f1]] w fun e w' => e = .returned (.tuple #[.int .u64 0, .int .i64 2]) ∧ Below w.heap.size w w' := by
  have HW := Lib.hid (hn ▸ within_one x)
  have HN := Lib.hid hn
  clear hn
  go_enter Try.func51, Try.ntmps51
  go_wp2_with (first
    | ((with_reducible refine gate_dst (N := 1) rfl ?_); refine box_event ?hg (N := 1) ?hd (cs := #[.int .i64 x.f0, .int .i64 x.f1]) (t := 45) ?hr ?_; (case hd => rfl); (case hg => rfl); (case hr => first | (go_simp; done) | (go_simp; rfl)); intro g1 hg W0 hbox hb; have B0 := Lib.hid hbox; have HB0 := Lib.hid hb; clear hbox hb hg)
    | ((with_reducible refine gate_dst (N := 4) rfl ?_); refine wpList_load_row rfl 45 _ rfl g1 rfl 45 #[.int .i64 x.f0, .int .i64 x.f1] (0, 0) _ B0.out Try.underlying45 rfl (size45 _ _) ?_)
    | (go_at_call 46; refine (cx_within.calls 3 2147483648 (some ⟨W0.heap.size, 0, none⟩) 1 [x] false _ (C_one (blk_new W0 _)) (Nat.le_refl 1) HW.out).mono ?_; rintro e W1 ⟨rfl, hb⟩; have B1 := Lib.hid (blk_below (blk_alloc B0.out _) hb); have HB1 := Lib.hid (below_step (below_alloc HB0.out _) hb); clear hb)
    | (go_at_call 56; refine (made_no _ _).mono ?_; rintro e W2 ⟨rfl, hb⟩; have HB2 := Lib.hid (below_step HB1.out hb); clear hb))
  go_ret2
  exact ⟨rfl, HB2.out⟩
theorem Norm_any (x : S45) (w : World) :
    Calls Try.prog 51 #[.agg #[.int .i64 x.f0, .int .i64 x.f1]] w fun e w' => e = .returned (.tuple #[.int .u64 (normU x), .int .i64 (if narrowB x = true then 0 else 2)]) ∧ Below w.heap.size w w' := by
  cases hn : narrowB x with
  | true => exact Norm_yes x hn w
  | false =>
    have e : normU x = 0 := by unfold normU; rw [hn]; rfl
    rw [e]
    exact Norm_no x hn w
set_option maxRecDepth 100000 in
set_option maxHeartbeats 4000000 in
theorem far_any (x : S45) (w : World) :
    Calls Try.prog 50 #[.agg #[.int .i64 x.f0, .int .i64 x.f1]] w fun e w' => e = .returned (.bool (!narrowB x)) ∧ Below w.heap.size w w' := by
  cases hn : narrowB x with
  | true =>
    have HN := Lib.hid hn
    clear hn
    go_enter Try.func50, Try.ntmps50
    go_wp2_with (first
      | ((with_reducible refine gate_dst (N := 1) rfl ?_); refine box_event ?hg (N := 1) ?hd (cs := #[.int .i64 x.f0, .int .i64 x.f1]) (t := 45) ?hr ?_; (case hd => rfl); (case hg => rfl); (case hr => first | (go_simp; done) | (go_simp; rfl)); intro g1 hg W0 hbox hb; have B0 := Lib.hid hbox; have HB0 := Lib.hid hb; clear hbox hb hg)
      | ((with_reducible refine gate_dst (N := 6) rfl ?_); refine wpList_load_row rfl 45 _ rfl g1 rfl 45 #[.int .i64 x.f0, .int .i64 x.f1] (0, 0) _ B0.out Try.underlying45 rfl (size45 _ _) ?_)
      | (go_at_call 51; refine (Norm_yes x HN.out _).mono ?_; rintro e W1 ⟨rfl, hb⟩; have HB1 := Lib.hid (below_step HB0.out hb); clear hb))
    go_ret
    exact ⟨rfl, HB1.out⟩
  | false =>
    have HN := Lib.hid hn
    clear hn
    go_enter Try.func50, Try.ntmps50
    go_wp2_with (first
      | ((with_reducible refine gate_dst (N := 1) rfl ?_); refine box_event ?hg (N := 1) ?hd (cs := #[.int .i64 x.f0, .int .i64 x.f1]) (t := 45) ?hr ?_; (case hd => rfl); (case hg => rfl); (case hr => first | (go_simp; done) | (go_simp; rfl)); intro g1 hg W0 hbox hb; have B0 := Lib.hid hbox; have HB0 := Lib.hid hb; clear hbox hb hg)
      | ((with_reducible refine gate_dst (N := 6) rfl ?_); refine wpList_load_row rfl 45 _ rfl g1 rfl 45 #[.int .i64 x.f0, .int .i64 x.f1] (0, 0) _ B0.out Try.underlying45 rfl (size45 _ _) ?_)
      | (go_at_call 51; refine (Norm_no x HN.out _).mono ?_; rintro e W1 ⟨rfl, hb⟩; have HB1 := Lib.hid (below_step HB0.out hb); clear hb))
    go_ret
    exact ⟨rfl, HB1.out⟩
/-- The place of the first number that is out of its range, from i on; or -1. -/
def farIdx : List S45 → Nat → Int
  | [], _ => -1
  | x :: xs, i => if narrowB x = true then farIdx xs (i + 1) else i
set_option maxRecDepth 100000 in
set_option maxHeartbeats 4000000 in
theorem IndexFunc_any (A : Option Addr) (c : Nat) (l : List S45) (w : World) (hr : Kd.C k45 w A l.length l) (hc : l.length ≤ c) :
    Calls Try.prog 58 #[.slice A l.length c, .func (.func 50) #[] #[]] w fun e w' => e = .returned (.int .i64 (farIdx l 0)) ∧ Below w.heap.size w w' := by
  have hmax := hr.2.1
  unfold maxLen at hmax
  have HR := Lib.hid hr
  clear hr
  have HB := Lib.hid (Below.refl w.heap.size w)
  go_enter Try.func58, Try.ntmps58
  go_wp2
  go_loopw [8] (fun s8 wr => ∃ k : Nat, k ≤ l.length ∧ s8 = .int .i64 k ∧ farIdx l 0 = farIdx (l.drop k) k ∧ Below w.heap.size w wr) (fun i _ => l.length - (intOf i).toNat)
  case atStart => exact ⟨0, by omega, rfl, rfl, HB.out⟩
  case round =>
    obtain ⟨k, hk, rfl, hf, hb⟩ := hrel
    have HF := Lib.hid hf
    have HBR := Lib.hid hb
    clear hf hb HB
    by_cases hlt : k < l.length
    · obtain ⟨ad, rfl, h0, h1⟩ := at_T45 HR.out (k : Int) (by omega) (by omega)
      rw [Int.toNat_natCast] at h0 h1
      replace h0 := (HBR.out.cell (World.block_lt_of_cell? w _ h0)).trans h0
      replace h1 := (HBR.out.cell (World.block_lt_of_cell? w _ h1)).trans h1
      have hd : l.drop k = rd_T45 l k :: l.drop (k + 1) := by
        rw [List.drop_eq_getElem_cons hlt]
        unfold rd_T45
        rw [Int.toNat_natCast, List.getD_eq_getElem?_getD, List.getElem?_eq_getElem hlt]
        rfl
      have HD := Lib.hid hd
      clear hd
      generalize rd_T45 l k = x at *
      cases hn : narrowB x with
      | true =>
        have HN := Lib.hid hn
        have HX := Lib.hid (show farIdx l 0 = farIdx (l.drop (k + 1)) (k + 1) by rw [HF.out, HD.out, farIdx, if_pos hn])
        clear hn
        go_wp2_with (go_at_call 50; refine (far_any x _).mono ?_; rw [HN.out]; rintro e w1 ⟨rfl, hb⟩; have HB1 := Lib.hid (below_step HBR.out hb); clear hb)
        go_roundw
        case rel => exact ⟨k + 1, by omega, by go_num, HX.out, HB1.out⟩
        case measure => simp [intOf]; omega
      | false =>
        have HN := Lib.hid hn
        have HX := Lib.hid (show farIdx l 0 = k by rw [HF.out, HD.out, farIdx, hn]; rfl)
        clear hn
        go_wp2_with (go_at_call 50; refine (far_any x _).mono ?_; rw [HN.out]; rintro e w1 ⟨rfl, hb⟩; have HB1 := Lib.hid (below_step HBR.out hb); clear hb)
        go_ret
        exact ⟨by rw [HX.out]; rfl, HB1.out⟩
    · obtain rfl : k = l.length := by omega
      go_wp2
      go_ret
      exact ⟨by rw [HF.out, List.drop_length]; rfl, HBR.out⟩
theorem farIdx_sign : ∀ (l : List S45) (i : Nat), decide (0 ≤ farIdx l i) = l.any (fun x => !narrowB x) := by
  intro l
  induction l with
  | nil => intro i; rfl
  | cons x l ih =>
    intro i
    rw [farIdx, List.any_cons]
    cases hn : narrowB x with
    | true => rw [if_pos rfl, ih]; rfl
    | false => rw [if_neg (by decide)]; simp
set_option maxRecDepth 100000 in
set_option maxHeartbeats 4000000 in
theorem ContainsFunc_any (A : Option Addr) (c : Nat) (l : List S45) (w : World) (hr : Kd.C k45 w A l.length l) (hc : l.length ≤ c) :
    Calls Try.prog 52 #[.slice A l.length c, .func (.func 50) #[] #[]] w fun e w' => e = .returned (.bool (l.any (fun x => !narrowB x))) ∧ Below w.heap.size w w' := by
  have HR := Lib.hid hr
  have HS := Lib.hid (farIdx_sign l 0)
  clear hr
  go_enter Try.func52, Try.ntmps52
  go_wp2_with (go_at_call 58; refine (IndexFunc_any A c l _ HR.out hc).mono ?_; rintro e w1 ⟨rfl, hb⟩)
  go_ret
  exact ⟨congrArg (fun q => Ending.returned (.bool q)) HS.out, hb⟩
/-- Why numbers may not be. -/
def mayE (l : List S45) : Int := if l.any (fun x => !narrowB x) = true then 2 else 0
set_option maxRecDepth 100000 in
set_option maxHeartbeats 4000000 in
theorem may_any (A : Option Addr) (c : Nat) (l : List S45) (w : World) (hr : Kd.C k45 w A l.length l) (hc : l.length ≤ c) :
    Calls Try.prog 38 #[.slice A l.length c] w fun e w' => e = .returned (.int .i64 (mayE l)) ∧ Below w.heap.size w w' := by
  have HR := Lib.hid hr
  clear hr
  unfold mayE
  cases hb : l.any (fun x => !narrowB x) with
  | true =>
    have HB := Lib.hid hb
    clear hb
    go_enter Try.func38, Try.ntmps38
    go_wp2_with (go_at_call 52; refine (ContainsFunc_any A c l _ HR.out hc).mono ?_; rw [HB.out]; rintro e w1 ⟨rfl, hb⟩)
    go_ret
    exact ⟨rfl, hb⟩
  | false =>
    have HB := Lib.hid hb
    clear hb
    go_enter Try.func38, Try.ntmps38
    go_wp2_with (go_at_call 52; refine (ContainsFunc_any A c l _ HR.out hc).mono ?_; rw [HB.out]; rintro e w1 ⟨rfl, hb⟩)
    go_ret
    exact ⟨rfl, hb⟩
end Go.Proofs.Ytajgpilcbaoneaa.P
