-- Printed for this claim by drive.py (a program of this session's) through the kit's print program; not trusted: Lean checks it.
import Derived.Test.YtghajjjdfhcljaaP0
import Derived.Lib.Hide
import Derived.LoopIn
import Derived.LoopNIn
import Derived.Maps.AppendAt
import Derived.Outline
import Derived.OwnWalkIn
import Derived.RangeFuncBound
import Derived.RangeFuncBox
import Derived.RangeFuncCalls
import Derived.RangeFuncLeaves
import Derived.RangeFuncNested
import Derived.RegionIn
import Derived.Shelf.Abstract
import Derived.Shelf.RegionOpen
import Derived.TacticsInMore
import Derived.WalkKit
namespace Go.Proofs.Ytghajjjdfhcljaa.P
open Go.RowKit Go.Proofs.YtghajjjdfhcljaaW.PrintWords Go.Proofs.YtghajjjdfhcljaaW.PrintLast Go.Proofs.YtghajjjdfhcljaaW.PrintMore
attribute [local go_sem] max2_int min2_int max_two min_two max_three min_three max_four min_four   -- for this text's walks alone
set_option linter.unusedVariables false
set_option linter.unusedSimpArgs false

/-! ### arc_sum: function 45 -/
-- IMPORT Derived.RangeFuncNested
-- IMPORT Derived.RangeFuncBound
-- IMPORT Derived.RangeFuncCalls
-- IMPORT Derived.RangeFuncLeaves
-- IMPORT Derived.RangeFuncBox
-- IMPORT Derived.Shelf.Abstract
-- IMPORT Derived.Shelf.RegionOpen
-- IMPORT Derived.WalkKit
-- IMPORT Derived.OwnWalkIn
-- IMPORT Derived.TacticsInMore
-- IMPORT Derived.LoopNIn
-- IMPORT Derived.LoopIn
-- IMPORT Derived.RegionIn
-- IMPORT Derived.Outline
-- IMPORT Derived.Lib.Hide
-- IMPORT Derived.Maps.AppendAt

section
open Go.Shelf
theorem tdiv_pos (x d : Int) (hx : 0 ≤ x) : x.tdiv d = x / d := Int.tdiv_eq_ediv_of_nonneg hx
set_option maxHeartbeats 1000000 in
theorem rdiv_any (x d : Int) (w : World) (hx : 0 ≤ x ∧ x ≤ 9223372036854775807) (hd : 1 ≤ d) :
    Calls Try.prog 65 #[.int .i64 x, .int .i64 d] w fun e w' => e = .returned (.tuple #[.int .i64 (x / d), .int .i64 0]) ∧ w = w' := by
  obtain ⟨hx0, hx1⟩ := hx
  have h1 : 0 ≤ x % d := Int.emod_nonneg _ (by omega)
  go_enter Try.func65, Try.ntmps65
  go_wp2
  go_ret2
  exact ⟨rfl, rfl⟩
set_option maxHeartbeats 1000000 in
theorem div_any (x d : Int) (w : World) (hx : 0 ≤ x ∧ x ≤ 9223372036854775807) (hd : 1 ≤ d) :
    Calls Try.prog 62 #[.int .i64 x, .int .i64 d] w fun e w' => e = .returned (.int .i64 (x / d)) ∧ w = w' := by
  go_enter Try.func62, Try.ntmps62
  go_wp2_with (go_at_call 65; refine (rdiv_any _ _ _ hx hd).mono ?_; rintro e w' ⟨rfl, rfl⟩)
  go_ret
  exact ⟨rfl, rfl⟩

attribute [local go_sem] Oper.semAt_some
/-- A variable's box holds on what it held. -/
def KeepBox (ty : TypeId) (B : Nat) (W W' : World) : Prop := ∀ v, Boxed W B ty v → Boxed W' B ty v
theorem keepBox_t {ty : TypeId} {B : Nat} {X Y Z : World} (h : KeepBox ty B X Y) (k : KeepBox ty B Y Z) : KeepBox ty B X Z := fun v hv => k v (h v hv)
theorem keepBox_b {ty : TypeId} {B s : Nat} (hB : B < s) (W : World) (l : Nat) (o o' : Obj) (hl : s ≤ l) (_ : W.heap[l]? = some o) (_ : o.isCells = false) (_ : o.isWalk = false) : KeepBox ty B W (W.putObj l o') := fun v hv =>
  (World.putObj_heap_other (by omega)).trans hv
theorem keepBox_set {ty : TypeId} {B : Nat} (W : World) {B' : Nat} (hne : B ≠ B') (u : Value) : KeepBox ty B W (W.setCell ⟨B', 0, none⟩ u) := fun v hv => hv.other hne u
/-- The terms that are still to come, p the part of 2^56, s the sign, o the odd number. -/
def termsFrom (n : Int) : Nat → Int → Int → Int → List Int
  | 0, _, _, _ => []
  | f + 1, p, s, o => if 0 < p then s * (p / o) :: termsFrom n f (p / n / n) (-s) (o + 2) else []
def termsL (n : Int) : List Int := termsFrom n 60 (72057594037927936 / n) 1 1
theorem quo_bounds {p n : Int} {f : Nat} (hn : 2 ≤ n) (hp : 0 < p) (hf : p < 4 ^ (f + 1)) : 0 ≤ p / n / n ∧ p / n / n < 4 ^ f ∧ p / n / n < p ∧ 0 ≤ p / n ∧ p / n ≤ p := by
  have a0 : 0 ≤ p / n := Int.ediv_nonneg (by omega) (by omega)
  have a1 : p / n ≤ p / 2 := by
    have := Int.ediv_mul_le p (show n ≠ 0 by omega)
    have h2 : p / n * 2 ≤ p / n * n := Int.mul_le_mul_of_nonneg_left hn a0
    omega
  have b0 : 0 ≤ p / n / n := Int.ediv_nonneg a0 (by omega)
  have b1 : p / n / n ≤ p / n / 2 := by
    have := Int.ediv_mul_le (p / n) (show n ≠ 0 by omega)
    have h2 : p / n / n * 2 ≤ p / n / n * n := Int.mul_le_mul_of_nonneg_left hn b0
    omega
  rw [Int.pow_succ] at hf
  generalize (4 : Int) ^ f = q at hf ⊢
  exact ⟨b0, by omega, by omega, a0, by omega⟩
theorem term_bounds {p s o : Int} (hp : 0 ≤ p ∧ p ≤ 36028797018963968) (hs : s = 1 ∨ s = -1) (ho : 1 ≤ o) : 0 ≤ p / o ∧ p / o ≤ 36028797018963968 ∧ wrap64 (s * (p / o)) = s * (p / o) := by
  have h0 : 0 ≤ p / o := Int.ediv_nonneg hp.1 (by omega)
  have h1 : p / o ≤ p := Int.ediv_le_self _ hp.1
  refine ⟨h0, by omega, ?_⟩
  rcases hs with rfl | rfl <;> unfold wrap64 <;> omega

set_option maxRecDepth 100000 in
set_option maxHeartbeats 2000000 in
theorem terms1_in (n : Nat) (hn : 1 ≤ n) (l Bn : Nat) (m : Int) (hm0 : 2 ≤ m) (hm1 : m ≤ 17592186044416) (J Jx : List Int → World → Prop)
    (hJd : ∀ pre W k, J pre W → J pre (World.drewN W k))
    (hY : ∀ pre x W, J pre W → pre.length < (termsL m).length → YieldAt Fence.wide (n - 1) Try.prog l #[.int .i64 x] W fun e W' =>
      (e = .returned (.bool true) ∧ J (pre ++ [x]) W' ∧ KeepBox 3 Bn W W') ∨ (e = .returned (.bool false) ∧ Jx (pre ++ [x]) W'))
    (W : World) (hbx : Boxed W Bn 3 (.int .i64 m)) (h0 : J [] W) :
    CallsIn Fence.wide n Try.prog 61 #[.func (.yield l) #[] #[], .pointer (some ⟨Bn, 0, none⟩)] W fun e W' => (∃ v, e = .returned v) ∧
      ((∃ ys, ys = termsL m ∧ J ys W') ∨ (∃ pre, pre <+: termsL m ∧ Jx pre W')) := by
  have hc := hbx.cell
  have hmx : Try.prog.follows .mixedOrders = true := by kernel_rfl
  have hq : 0 ≤ 72057594037927936 / m := Int.ediv_nonneg (by decide) (by omega)
  have hq1 : 72057594037927936 / m ≤ 36028797018963968 := by
    have := Int.ediv_mul_le 72057594037927936 (show m ≠ 0 by omega)
    have h2 : 72057594037927936 / m * 2 ≤ 72057594037927936 / m * m := Int.mul_le_mul_of_nonneg_left hm0 hq
    omega
  refine callsIn_of_wp Try.func61 rfl trivial ?_ rfl
  simp only [Try.ntmps61, List.size_toArray, List.length_cons, List.length_nil, Nat.reduceAdd, Nat.reduceSub, Array.replicate_succ, Array.replicate_zero, List.push_toArray, List.append_toArray, List.nil_append, List.cons_append]
  gi_wp2_with (refine ⟨trivial, ?_⟩; gi_at_call 62; refine (callsIn_wide.2 (div_any _ _ _ (by decide) (by omega))).mono ?_; rintro e w' ⟨rfl, rfl⟩)
  gi_loopw [3, 4, 5] (fun vs vo vp wr => ∃ (pre : List Int) (f : Nat) (p s o : Int), vs = .int .i64 s ∧ vo = .int .i64 o ∧ vp = .int .i64 p ∧ termsL m = pre ++ termsFrom m f p s o ∧ (0 ≤ p ∧ p ≤ 36028797018963968) ∧ p < 4 ^ f ∧ (s = 1 ∨ s = -1) ∧ (1 ≤ o ∧ o + 2 * (f : Int) ≤ 1000) ∧ J pre wr ∧ Boxed wr Bn 3 (.int .i64 m))
    (fun _ _ vp _ => (intOf vp).toNat)
  case atStart =>
    exact ⟨[], 60, _, 1, 1, rfl, rfl, rfl, rfl, ⟨hq, hq1⟩, by omega, .inl rfl, by omega, h0, hbx⟩
  case round =>
    obtain ⟨pre, f, p, s, o, rfl, rfl, rfl, hx, hp, hpf, hs, ho, hJs, hbs⟩ := hrel
    have hcs := hbs.cell
    by_cases hpos : 0 < p
    · obtain ⟨f, rfl⟩ : ∃ g, f = g + 1 := by
        cases f with
        | zero => simp at hpf; omega
        | succ g => exact ⟨g, rfl⟩
      have hb := quo_bounds hm0 hpos hpf
      obtain ⟨t0, t1, t2⟩ := term_bounds hp hs ho.1
      have hx' : termsL m = (pre ++ [s * (p / o)]) ++ termsFrom m f (p / m / m) (-s) (o + 2) := by rw [hx]; simp [termsFrom, hpos]
      have Hx' := Lib.hid hx'
      clear hx' hx
      obtain ⟨fn, tmps, assign, body, hy, hR⟩ := hY pre (s * (p / o)) wr hJs (by rw [Hx'.out]; simp)
      have Ht2 := t2
      gi_wp2_with (refine ⟨trivial, ?_⟩; gi_at_call 62; refine (callsIn_wide.2 (div_any _ _ _ (by omega) (by omega))).mono ?_; rintro e w' ⟨rfl, rfl⟩)
      refine hR.mono ?_
      rintro e W3 (⟨rfl, hJ3, hk3⟩ | ⟨rfl, hJx3⟩)
      · have hb3 := hk3 _ hbs
        have hc3 := hb3.cell
        clear hR hy
        gi_wp2
        gi_region_with_o (refine ⟨trivial, ?_⟩; gi_at_call 62; refine (callsIn_wide.2 (div_any _ _ _ (by omega) (by omega))).mono ?_; rintro e w' ⟨rfl, rfl⟩)
        all_goals
          simp only [Act.put, List.setIfInBounds_toArray, List.set_cons_zero, List.set_cons_succ]
          go_roundw
          case rel => ((repeat apply Exists.intro); exact ⟨⟨pre ++ [s * (p / o)], f, p / m / m, -s, o + 2, rfl, rfl, rfl, Hx'.out, ⟨hb.1, by omega⟩, hb.2.1, by omega, by omega, hJd _ _ 1 hJ3, hb3⟩, rfl⟩)
          case measure => simp [intOf]; omega
      · gi_wp2
        refine bodyPost_ret (results_none rfl _ _ _) rfl ?_
        exact ⟨⟨_, rfl⟩, .inr ⟨pre ++ [s * (p / o)], ⟨_, Hx'.out.symm⟩, hJx3⟩⟩
    · gi_wp2
      go_end0
      have hz : termsFrom m f p s o = [] := by cases f <;> simp [termsFrom, hpos]
      exact ⟨⟨_, rfl⟩, .inl (by rw [hz]; simpa using hJs)⟩

set_option maxHeartbeats 1000000 in
theorem terms_in (n : Nat) (m : Int) (w : World) :
    CallsIn Fence.wide n Try.prog 47 #[.int .i64 m] w fun e w' => e = .returned (.func (.func 61) #[] #[.pointer (some ⟨w.heap.size, 0, none⟩)]) ∧ w' = w.alloc (.cells #[.int .i64 m] 3) := by
  refine callsIn_of_wp Try.func47 rfl trivial ?_ rfl
  simp only [Try.ntmps47, List.size_toArray, List.length_cons, List.length_nil, Nat.reduceAdd, Nat.reduceSub, Array.replicate_succ, Array.replicate_zero, List.push_toArray, List.append_toArray, List.nil_append, List.cons_append]
  gi_wp2
  go_ret
  exact ⟨rfl, rfl⟩
theorem terms_stops (n : Nat) (hn : 1 ≤ n) (Bn : Nat) (m : Int) (hm0 : 2 ≤ m) (hm1 : m ≤ 17592186044416) (w : World) (hb : Boxed w Bn 3 (.int .i64 m)) :
    SeqStopsK Fence.wide n Try.prog 61 #[.pointer (some ⟨Bn, 0, none⟩)] (fun x : Int => #[Value.int .i64 x]) (KeepBox 3 Bn) (fun ys => ys = termsL m) (fun pre => pre <+: termsL m) (termsL m).length w := fun l J Jx W hW hJ _ hY h0 =>
  terms1_in n hn l Bn m hm0 hm1 J Jx (fun pre W k h => hJ _ _ _ none h (grown_of_below (pw_below_drewN (Below.refl _ _) k) none) (fun r e => by cases e)) hY W ((hW.block Bn hb.lt).trans hb) h0
def sumT : List Int → Int := List.foldl (fun s v => wrap64 (s + v)) 0
theorem sumT_snoc (pre : List Int) (x : Int) : sumT (pre ++ [x]) = wrap64 (sumT pre + x) := by simp [sumT]

set_option maxRecDepth 100000 in
set_option maxHeartbeats 2000000 in
theorem sum_in (n : Nat) (hn : 3 ≤ n) (m : Int) (hm0 : 2 ≤ m) (hm1 : m ≤ 17592186044416) (w : World) :
    CallsIn Fence.wide n Try.prog 45 #[.int .i64 m] w fun e W' => e = .returned (.int .i64 (sumT (termsL m))) ∧ Below w.heap.size w W' := by
  have h1 : 1 ≤ n := by omega
  refine callsIn_of_wp_marks Try.func45 rfl trivial ?_ rfl
  simp only [Try.ntmps45, List.size_toArray, List.length_cons, List.length_nil, Nat.reduceAdd, Nat.reduceSub, Array.replicate_succ, Array.replicate_zero, List.push_toArray, List.append_toArray, List.nil_append, List.cons_append]
  gi_wp2_with (refine ⟨trivial, ?_⟩; gi_at_call 47; refine (terms_in (n - 1) _ _).mono ?_; rintro e w' ⟨rfl, rfl⟩)
  have bO := Boxed.new w 3 (.int .i64 0)
  have bN := Boxed.new (w.alloc (.cells #[.int .i64 0] 3)) 3 (.int .i64 m)
  rw [World.size_alloc] at bN
  have hB0 : Below w.heap.size w ((w.alloc (.cells #[.int .i64 0] 3)).alloc (.cells #[.int .i64 m] 3)) := ((Below.refl _ w).alloc (Nat.le_refl _) _).alloc (by simp) _
  refine wpIn_rangeFunc_ownF rfl h1 (gf := 61) (lb := #[.pointer (some ⟨w.heap.size + 1, 0, none⟩)]) rfl trivial (enters_of Try.func61 (by kernel_rfl) rfl)
    (terms_stops (n - 1) (by omega) (w.heap.size + 1) m hm0 hm1 _ bN) keepBox_t (keepBox_b (by simp)) (Below.refl _ _) (fun _ => rfl)
    (fun pre W => Boxed W w.heap.size 3 (.int .i64 (sumT pre)) ∧ Below w.heap.size w W)
    (fun _ _ _ => False)
    (OwnFrom.and (Own.from (boxed_own w.heap.size 3 (fun pre => .int .i64 (sumT pre))) _) (ownFrom_below (Nat.le_refl _) (by simp; omega)))
    (fun _ _ _ _ _ hs _ _ => hs)
    ⟨bO.alloc _, hB0⟩
    (fun x => { tmps := #[.int .i64 m, undef, .int .i64 0, .pointer (some ⟨w.heap.size, 0, none⟩), .int .i64 x, .int .i64 m, .func (.func 61) #[] #[.pointer (some ⟨w.heap.size + 1, 0, none⟩)], .int .i64 x, undef, undef, undef, undef], defers := [] }) ?assign ?body ?done ?stop
  case assign =>
    intro l x W K hK
    gi_wp2
    exact hK
  case body =>
    rintro l pre x W ⟨hv, hB⟩ _
    have hc := hv.cell
    have hf := hv.frozen
    gi_wp2
    exact ⟨KeepsOthers.setCell _ _ _, keepBox_set W (by simp) _, by rw [sumT_snoc]; exact hv.set _, hB.setCell (p := ⟨w.heap.size, 0, none⟩) (Nat.le_refl _) _⟩
  case done =>
    rintro D ys W hD rfl ⟨hv, hB⟩ hK
    have hc := hv.cell
    gi_wp2
    refine ⟨by simp, .inl ⟨_, _, rfl, run_takeDeferred hK, ?_⟩⟩
    exact ⟨_, results_tmp rfl _ _ _, rfl, hB.trans (belowK_b (w := w) (Nat.le_refl _) W D _ _ (by simp at hD; omega) hK rfl rfl)⟩
  case stop =>
    rintro D c pre W _ _ h _
    exact h.elim
theorem termsFrom_length (n : Int) : ∀ f p s o, (termsFrom n f p s o).length ≤ f := by
  intro f
  induction f with
  | zero => intro p s o; simp [termsFrom]
  | succ f ih =>
    intro p s o
    unfold termsFrom
    split
    · simp [ih]
    · simp
theorem termsL_length (m : Int) : (termsL m).length ≤ 60 := termsFrom_length _ _ _ _ _
theorem keepBox_below {B n₀ : Nat} {ty : TypeId} {W W' : World} (h : Below n₀ W W') (hB : B < n₀) : KeepBox ty B W W' := fun v hv => (h.block B hB).trans hv

set_option maxRecDepth 100000 in
set_option maxHeartbeats 4000000 in
theorem appendSeq_in (n : Nat) (hn : 3 ≤ n) (Bn : Nat) (m : Int) (hm0 : 2 ≤ m) (hm1 : m ≤ 17592186044416) (w : World) (hb : Boxed w Bn 3 (.int .i64 m)) :
    CallsIn Fence.wide n Try.prog 60 #[.slice none 0 0, .func (.func 61) #[] #[.pointer (some ⟨Bn, 0, none⟩)]] w fun e W' => ∃ v, e = .returned v ∧ W'.ownsRow w.heap.size 3 1 v (termsL m).length ((termsL m).map (Value.int .i64)) ∧ Below w.heap.size w W' := by
  have h1 : 1 ≤ n := by omega
  have hmx : Try.prog.follows .mixedOrders = true := by kernel_rfl
  have htl := termsL_length m
  obtain ⟨i0, hi, hz0, hz1, hz2⟩ := info_parts info3
  refine callsIn_of_wp_marks Try.func60 rfl trivial ?_ rfl
  simp only [Try.ntmps60, List.size_toArray, List.length_cons, List.length_nil, Nat.reduceAdd, Nat.reduceSub, Array.replicate_succ, Array.replicate_zero, List.push_toArray, List.append_toArray, List.nil_append, List.cons_append]
  gi_wp2
  have bO := Boxed.new w 29 (.slice none 0 0)
  have hB0 : Below w.heap.size w (w.alloc (.cells #[.slice none 0 0] 29)) := (Below.refl _ w).alloc (Nat.le_refl _) _
  have hbl := hb.lt
  refine wpIn_rangeFunc_ownF rfl h1 (gf := 61) (lb := #[.pointer (some ⟨Bn, 0, none⟩)]) rfl trivial (enters_of Try.func61 (by kernel_rfl) rfl)
    (terms_stops (n - 1) (by omega) Bn m hm0 hm1 _ (hb.alloc _)) keepBox_t (keepBox_b (by simp; omega)) (Below.refl _ _) (fun _ => rfl)
    (fun (pre : List Int) W => (∃ v, Boxed W w.heap.size 29 v ∧ W.ownsRow w.heap.size 3 1 v pre.length (pre.map (Value.int .i64)) ∧ True) ∧ Below w.heap.size w W)
    (fun _ _ _ => False)
    (OwnFrom.and (Own.from (holdsRow_own w.heap.size w.heap.size 29 3 1 (fun (pre : List Int) => pre.length) (fun pre => pre.map (Value.int .i64)) (fun pre v => True)) _) (ownFrom_below (Nat.le_refl _) (by simp)))
    (fun _ _ _ _ _ hs _ _ => hs)
    ⟨⟨_, bO, World.ownsRow_nil _ _ _ _, trivial⟩, hB0⟩
    (fun x => { tmps := #[.slice none 0 0, .func (.func 61) #[] #[.pointer (some ⟨Bn, 0, none⟩)], .pointer (some ⟨w.heap.size, 0, none⟩), undef, .slice none 0 0, .int .i64 x, .func (.func 61) #[] #[.pointer (some ⟨Bn, 0, none⟩)], .int .i64 x, undef, undef, undef, undef, undef], defers := [] }) ?assign ?body ?done ?stop
  case assign =>
    intro l x W K hK
    gi_wp2
    exact hK
  case body =>
    rintro l pre x W ⟨⟨v, hv, hrow, _⟩, hB⟩ hlt
    have hc := hv.cell
    have hbs := hB.size
    gi_wp2_with (gi_at_builtin; refine wpListIn_append_own _ rfl _ _ 29 rfl w.heap.size 3 i0 (.int .i64 0) 1 8 Try.underlying29 hi hz0 hz1 hz2 rfl (by decide) _ _ _ rfl (hrow.alloc _) ⟨W.heap.size, 0, none⟩ 1 1 [.int .i64 x] rfl rfl (cell_one_new _ _ _) (by simp [Value.oneCell']) (by rw [show maxLen = 9223372036854775807 from by decide]; omega) (by omega) (by simp; omega) ?_; intro v' w1 hown' hgrow _; obtain ⟨g', cap', rfl⟩ := ownsRow_succ hown'; obtain ⟨hv1, hv2, hr2, hk2, hb2⟩ := hv.appended (by decide) hrow hB.size (Nat.le_refl _) hown' hgrow; have hc1 := hv1.cell; have hf1 := hv1.frozen)
    exact ⟨hk2, keepBox_below hb2 hbl, ⟨_, hv2, by simpa using hr2, trivial⟩, hB.trans hb2⟩
  case done =>
    rintro D ys W hD rfl ⟨⟨v, hv, hrow, _⟩, hB⟩ hK
    have hc := hv.cell
    gi_wp2
    refine ⟨by simp, .inl ⟨_, _, rfl, run_takeDeferred hK, ?_⟩⟩
    exact ⟨_, results_tmp rfl _ _ _, v, rfl, ownsRow_putObj hrow _ hK rfl, hB.trans (belowK_b (w := w) (Nat.le_refl _) W D _ _ (by simp at hD; omega) hK rfl rfl)⟩
  case stop =>
    rintro D c pre W _ _ h _
    exact h.elim

set_option maxHeartbeats 1000000 in
theorem collect_in (n : Nat) (hn : 4 ≤ n) (Bn : Nat) (m : Int) (hm0 : 2 ≤ m) (hm1 : m ≤ 17592186044416) (w : World) (hb : Boxed w Bn 3 (.int .i64 m)) :
    CallsIn Fence.wide n Try.prog 46 #[.func (.func 61) #[] #[.pointer (some ⟨Bn, 0, none⟩)]] w fun e W' => ∃ v, e = .returned v ∧ W'.ownsRow w.heap.size 3 1 v (termsL m).length ((termsL m).map (Value.int .i64)) ∧ Below w.heap.size w W' := by
  refine callsIn_of_wp Try.func46 rfl trivial ?_ rfl
  simp only [Try.ntmps46, List.size_toArray, List.length_cons, List.length_nil, Nat.reduceAdd, Nat.reduceSub, Array.replicate_succ, Array.replicate_zero, List.push_toArray, List.append_toArray, List.nil_append, List.cons_append]
  gi_wp2_with (refine ⟨trivial, by simp [Fence.wide], ?_⟩; refine (appendSeq_in (n - 1) (by omega) Bn m hm0 hm1 w hb).mono ?_; rintro e w' ⟨v, rfl, hr, hbw⟩)
  go_ret
  exact ⟨v, rfl, hr, hbw⟩
set_option maxHeartbeats 1000000 in
theorem termsFn_in (n : Nat) (hn : 5 ≤ n) (m : Int) (w : World) :
    CallsIn Fence.wide n Try.prog 17 #[.int .i64 m] w fun e W' => ∃ v, e = .returned (.tuple #[v, .int .i64 (if 2 ≤ m ∧ m ≤ 17592186044416 then 0 else 1)]) ∧
      W'.ownsRow w.heap.size 3 1 v (if 2 ≤ m ∧ m ≤ 17592186044416 then termsL m else []).length ((if 2 ≤ m ∧ m ≤ 17592186044416 then termsL m else []).map (Value.int .i64)) ∧ Below w.heap.size w W' := by
  refine callsIn_of_wp Try.func17 rfl trivial ?_ rfl
  simp only [Try.ntmps17, List.size_toArray, List.length_cons, List.length_nil, Nat.reduceAdd, Nat.reduceSub, Array.replicate_succ, Array.replicate_zero, List.push_toArray, List.append_toArray, List.nil_append, List.cons_append]
  by_cases h : 2 ≤ m ∧ m ≤ 17592186044416
  · have h' := h
    obtain ⟨hm0, hm1⟩ := h'
    have bN := Boxed.new w 3 (.int .i64 m)
    simp only [if_pos h]
    gi_wp2_with (first
      | (refine ⟨trivial, by simp [Fence.wide], ?_⟩; refine (terms_in (n - 1) _ _).mono ?_; rintro e w' ⟨rfl, rfl⟩)
      | (refine ⟨trivial, by simp [Fence.wide], ?_⟩; refine (collect_in (n - 1) (by omega) w.heap.size m hm0 hm1 _ bN).mono ?_; rintro e w' ⟨v, rfl, hr, hbw⟩))
    go_ret2
    exact ⟨v, rfl, own_weaken hr (by simp), ((Below.refl _ w).alloc (Nat.le_refl _) _).trans (hbw.mono (by simp))⟩
  · simp only [if_neg h]
    by_cases h2 : m < 2
    · gi_wp2
      go_ret2
      exact ⟨_, rfl, World.ownsRow_nil _ _ _ _, Below.refl _ _⟩
    · have h3 : 17592186044416 < m := by omega
      gi_wp2
      go_ret2
      exact ⟨_, rfl, World.ownsRow_nil _ _ _ _, Below.refl _ _⟩
end
def arc_sum.f (a0 : Int) : Option Int := if 2 ≤ a0 ∧ a0 ≤ 17592186044416 then some (sumT (termsL a0)) else none
theorem arc_sum.calls (a0 : Int) (r : Int) (w : World) (h : arc_sum.f a0 = some r) :
    Calls Try.prog 45 #[.int .i64 a0] w fun e w' => e = .returned (.int .i64 r) ∧ Below w.heap.size w w' := by
  unfold arc_sum.f at h
  by_cases hc : 2 ≤ a0 ∧ a0 ≤ 17592186044416
  · rw [if_pos hc] at h
    obtain rfl := Option.some.inj h
    exact callsIn_wide.1 (sum_in 3 (by decide) a0 hc.1 hc.2 w)
  · rw [if_neg hc] at h
    cases h

end Go.Proofs.Ytghajjjdfhcljaa.P
