-- Printed for this claim by drive.py (a program of this session's) through the kit's print program; not trusted: Lean checks it.
import Derived.Test.YtbpanbmjkfhcgaaP0
import Derived.Test.YtbpanbmjkfhcgaaPf16
import Derived.Test.YtbpanbmjkfhcgaaPg1
import Derived.Test.YtbpanbmjkfhcgaaPg2
import Derived.BigRegion
import Derived.Deep.RegionWith
import Derived.Lib.Hide
import Derived.LoopIn
import Derived.LoopNIn
import Derived.Outline
import Derived.OwnWalkIn
import Derived.RangeFuncBound
import Derived.RangeFuncBox
import Derived.RangeFuncCalls
import Derived.RangeFuncLeaves
import Derived.RangeFuncNested
import Derived.RegionIn
import Derived.RegionTactic
import Derived.Shelf.Abstract
import Derived.Shelf.RegionOpen
import Derived.TacticsInMore
import Derived.WalkKit
namespace Go.Proofs.Ytbpanbmjkfhcgaa.P
open Go.RowKit Go.Proofs.YtbpanbmjkfhcgaaW.PrintWords Go.Proofs.YtbpanbmjkfhcgaaW.PrintLast Go.Proofs.YtbpanbmjkfhcgaaW.PrintMore
attribute [local go_sem] max2_int min2_int max_two min_two max_three min_three max_four min_four   -- for this text's walks alone
set_option linter.unusedVariables false
set_option linter.unusedSimpArgs false

/-! ### plan_Every: function 20 -/
-- IMPORT Derived.RangeFuncNested
-- IMPORT Derived.RangeFuncBound
-- IMPORT Derived.RangeFuncCalls
-- IMPORT Derived.RangeFuncLeaves
-- IMPORT Derived.RangeFuncBox
-- IMPORT Derived.Shelf.Abstract
-- IMPORT Derived.Shelf.RegionOpen
-- IMPORT Derived.WalkKit
-- IMPORT Derived.OwnWalkIn
-- IMPORT Derived.TacticsInMore
-- IMPORT Derived.LoopNIn
-- IMPORT Derived.LoopIn
-- IMPORT Derived.RegionIn
-- IMPORT Derived.Outline
-- IMPORT Derived.Lib.Hide

section
open Go.Shelf
attribute [local go_sem] Oper.semAt_some
set_option maxHeartbeats 1000000 in
theorem every_in (n : Nat) (w : World) :
    CallsIn Fence.wide n Try.prog 45 #[] w fun e w' => e = .returned (.func (.func 55) #[] #[]) ∧ w' = w := by
  refine callsIn_of_wp Try.func45 rfl trivial ?_ rfl
  simp only [Try.ntmps45, List.size_toArray, List.length_cons, List.length_nil, Nat.reduceAdd, Nat.reduceSub, Array.replicate_succ, Array.replicate_zero, List.push_toArray, List.append_toArray, List.nil_append, List.cons_append]
  gi_wp2
  go_ret
  exact ⟨rfl, rfl⟩
/-- A plan's cells. -/
def cells23 (x : S23) : Array Value := #[.int .i64 x.f0, .int .i64 x.f1, .int .i64 x.f2, .int .i64 x.f3, .int .i64 x.f4, .bool x.f5]
/-- The plan at a place. -/
def planAt (i : Int) : S23 := ⟨i / 270, 2 + i / 54 % 5, i / 18 % 3, i / 6 % 3, i / 2 % 3, Go.bits .and .i64 i 1 == 1⟩
def plansFrom : Nat → Int → List S23
  | 0, _ => []
  | d + 1, i => planAt i :: plansFrom d (i + 1)
def plansL : List S23 := plansFrom 540 0

set_option maxRecDepth 100000 in
set_option maxHeartbeats 4000000 in
theorem every1_in (n : Nat) (hn : 1 ≤ n) (l : Nat) (J Jx : List S23 → World → Prop)
    (hJg : ∀ pre W W', J pre W → W.grownBy W' none → J pre W')
    (hY : ∀ pre x W, J pre W → pre.length < plansL.length → YieldAt Fence.wide (n - 1) Try.prog l #[.agg (cells23 x)] W fun e W' =>
      (e = .returned (.bool true) ∧ J (pre ++ [x]) W' ∧ True) ∨ (e = .returned (.bool false) ∧ Jx (pre ++ [x]) W'))
    (W : World) (h0 : J [] W) :
    CallsIn Fence.wide n Try.prog 55 #[.func (.yield l) #[] #[]] W fun e W' => (∃ v, e = .returned v) ∧
      ((∃ ys, ys = plansL ∧ J ys W') ∨ (∃ pre, pre <+: plansL ∧ Jx pre W')) := by
  have hmx : Try.prog.follows .mixedOrders = true := by kernel_rfl
  have hu23 := Try.underlying23
  refine callsIn_of_wp Try.func55 rfl trivial ?_ rfl
  simp only [Try.ntmps55, List.size_toArray, List.length_cons, List.length_nil, Nat.reduceAdd, Nat.reduceSub, Array.replicate_succ, Array.replicate_zero, List.push_toArray, List.append_toArray, List.nil_append, List.cons_append]
  gi_wp2
  gi_loopw [4] (fun vi wr => ∃ (pre : List S23) (d : Nat) (i : Int), vi = .int .i64 i ∧ plansL = pre ++ plansFrom d i ∧ 0 ≤ i ∧ i + d = 540 ∧ J pre wr)
    (fun vi _ => (540 - intOf vi).toNat)
  case atStart =>
    exact ⟨[], 540, 0, rfl, rfl, by omega, by omega, h0⟩
  case round =>
    obtain ⟨pre, d, i, rfl, hx, hi0, hid, hJs⟩ := hrel
    cases d with
    | zero =>
      have hi : i = 540 := by omega
      subst hi
      gi_wp2
      go_end0
      exact ⟨⟨_, rfl⟩, .inl ⟨pre, by simpa [plansFrom] using hx.symm, hJs⟩⟩
    | succ d =>
      have hlt : i < 540 := by omega
      have hxl : plansL = (pre ++ [planAt i]) ++ plansFrom d (i + 1) := by rw [hx]; simp [plansFrom]
      have Hxl := Lib.hid hxl
      clear hxl hx
      obtain ⟨fn, tmps, assign, body, hy, hR⟩ := hY pre (planAt i) (wr.alloc (.cells (cells23 (planAt i)) 23)) (hJg _ _ _ hJs (World.grownBy_alloc wr _ none)) (by rw [Hxl.out]; simp)
      simp only [cells23, planAt] at hy hR
      gi_wp2
      refine hR.mono ?_
      rintro e W3 (⟨rfl, hJ3, _⟩ | ⟨rfl, hJx3⟩)
      · clear hR hy
        gi_wp2
        go_roundw
        case rel => exact ⟨pre ++ [planAt i], d, i + 1, rfl, Hxl.out, by omega, by omega, hJ3⟩
        case measure => simp [intOf]; omega
      · gi_wp2
        refine bodyPost_ret (results_none rfl _ _ _) rfl ?_
        exact ⟨⟨_, rfl⟩, .inr ⟨pre ++ [planAt i], ⟨_, Hxl.out.symm⟩, hJx3⟩⟩
theorem every_stops (n : Nat) (hn : 1 ≤ n) (w : World) :
    SeqStopsK Fence.wide n Try.prog 55 #[] (fun x : S23 => #[.agg (cells23 x)]) (fun _ _ => True) (fun ys => ys = plansL) (fun pre => pre <+: plansL) plansL.length w := fun l J Jx W hW hJ _ hY h0 =>
  every1_in n hn l J Jx (fun pre W W' h hg => hJ _ _ _ none h hg (fun r e => by cases e)) hY W h0

def okB (x : S23) : Bool := plan_Check.f x.f0 x.f1 x.f2 x.f3 x.f4 x.f5 == some 0
def okL (pre : List S23) : List S23 := pre.filter okB
def flat23 (l : List S23) : List Value := l.flatMap fun x => (cells23 x).toList
theorem okL_hit (pre : List S23) {x : S23} (h : okB x = true) : okL (pre ++ [x]) = okL pre ++ [x] := by simp [okL, h]
theorem okL_miss (pre : List S23) {x : S23} (h : okB x = false) : okL (pre ++ [x]) = okL pre := by simp [okL, h]
theorem flat23_snoc (l : List S23) (x : S23) : flat23 (l ++ [x]) = flat23 l ++ (cells23 x).toList := by simp [flat23]
theorem reps23 (w : World) (base : Nat) (ok : Nat → Prop) (l : List S23) : Reps (k23.M w base ok) 6 l (flat23 l) := by
  have key : ∀ l acc : List S23, Reps (k23.M w base ok) 6 acc (flat23 acc) → Reps (k23.M w base ok) 6 (acc ++ l) (flat23 (acc ++ l)) := by
    intro l
    induction l with
    | nil => intro acc h; simpa using h
    | cons x l ih =>
      intro acc h
      have := ih (acc ++ [x]) (by rw [flat23_snoc]; exact h.snoc (k23_mkM w base ok x) rfl)
      simpa using this
  simpa using key l [] (Reps.none _ _)
theorem block_own {β : Type} (B : Nat) (t : TypeId) (cs : Array Value) : Own (fun (_ : β) W => W.heap[B]? = some (.cells cs t (0, 0))) := fun s X Y row hs hg hrow =>
  (hg.block B (Array.getElem?_eq_some_iff.1 hs).1 (fun e' => by obtain ⟨o, ho, hc⟩ := hrow B e'.symm; rw [hs] at ho; cases ho; cases hc)).trans hs
theorem keepsFrom_of_below {B : Nat} {W W' : World} (h : Below W.heap.size W W') : KeepsFrom B W W' := ⟨h.size, fun k o _ hk _ => (h.block k (Array.getElem?_eq_some_iff.1 hk).1).trans hk⟩
theorem new_cells (W2 : World) (x : S23) (j : Nat) (u : Value) (hj : (cells23 x).toList[j]? = some u) : (W2.alloc (Obj.cells (cells23 x) 23)).cell? (Addr.add ⟨W2.heap.size, 0, none⟩ j) = some u := by
  have hb : (W2.alloc (Obj.cells (cells23 x) 23)).heap[W2.heap.size]? = some (.cells (cells23 x) 23 (0, 0)) := blk_new W2 _
  have h1 : (W2.alloc (Obj.cells (cells23 x) 23)).cell? ⟨W2.heap.size, 0 + j, none⟩ = (cells23 x)[0 + j]? := blk_cell hb (0 + j)
  rw [Nat.zero_add] at h1
  have h2 : Addr.add ⟨W2.heap.size, 0, none⟩ j = ⟨W2.heap.size, j, none⟩ := by simp [Addr.add]; omega
  rw [h2, h1]
  simpa using hj
theorem cells_one (x : S23) : ∀ u ∈ (cells23 x).toList, u.oneCell' = true := by
  intro u hu
  simp [cells23] at hu
  rcases hu with rfl | rfl | rfl | rfl | rfl | rfl <;> rfl
theorem plansL_length : plansL.length = 540 := by decide +kernel
theorem check_any (x : S23) : ∃ r, plan_Check.f x.f0 x.f1 x.f2 x.f3 x.f4 x.f5 = some r := by
  have hin : ∀ a b c : Int, plan_in.f a b c = some (decide (b ≤ a ∧ a ≤ c)) := fun a b c => by
    unfold plan_in.f
    by_cases h : a ≥ b
    · rw [if_pos h]; simp [show b ≤ a from h]
    · rw [if_neg h]; simp [show ¬ b ≤ a from h]
  unfold plan_Check.f
  simp only [hin, Option.bind_some]
  (repeat' split) <;> exact ⟨_, rfl⟩

set_option maxRecDepth 100000 in
set_option maxHeartbeats 4000000 in
theorem everyE_in (n : Nat) (hn : 4 ≤ n) (w : World) :
    CallsIn Fence.wide n Try.prog 20 #[] w fun e W' => ∃ v, e = .returned v ∧ W'.ownsRow w.heap.size 23 6 v (okL plansL).length (flat23 (okL plansL)) ∧ Below w.heap.size w W' := by
  have h1 : 1 ≤ n := by omega
  have hmx : Try.prog.follows .mixedOrders = true := by kernel_rfl
  have hu23 := Try.underlying23
  obtain ⟨i0, hi, hz0, hz1, hz2⟩ := info_parts info23
  refine callsIn_of_wp_marks Try.func20 rfl trivial ?_ rfl
  simp only [Try.ntmps20, List.size_toArray, List.length_cons, List.length_nil, Nat.reduceAdd, Nat.reduceSub, Array.replicate_succ, Array.replicate_zero, List.push_toArray, List.append_toArray, List.nil_append, List.cons_append]
  gi_wp2_with (refine ⟨trivial, ?_⟩; gi_at_call 45; refine (every_in (n - 1) _).mono ?_; rintro e w' ⟨rfl, rfl⟩)
  have bO := Boxed.new w 36 (.slice none 0 0)
  have hB0 : Below w.heap.size w (w.alloc (.cells #[.slice none 0 0] 36)) := (Below.refl _ w).alloc (Nat.le_refl _) _
  refine wpIn_rangeFunc_ownH rfl h1 (gf := 55) (lb := #[]) rfl trivial (enters_of Try.func55 (by kernel_rfl) rfl)
    (every_stops (n - 1) (by omega) _) (fun _ _ => trivial) (fun _ _ _ _ _ _ _ _ => trivial) (Below.refl _ _) (fun _ => rfl)
    (fun pre W => (∃ v, Boxed W w.heap.size 36 v ∧ W.ownsRow w.heap.size 23 6 v (okL pre).length (flat23 (okL pre)) ∧ True) ∧ Below w.heap.size w W)
    (fun _ _ _ => False)
    (OwnFrom.and (Own.from (holdsRow_own w.heap.size w.heap.size 36 23 6 (fun pre => (okL pre).length) (fun pre => flat23 (okL pre)) (fun pre v => True)) _) (ownFrom_below (Nat.le_refl _) (by simp)))
    (fun _ _ _ _ _ hs _ _ => hs)
    ⟨⟨_, bO, World.ownsRow_nil _ _ _ _, trivial⟩, hB0⟩
    (fun x a' W => ∃ Bx, w.heap.size < Bx ∧ W.heap[Bx]? = some (.cells (cells23 x) 23 (0, 0)) ∧ a' = { tmps := #[.slice none 0 0, .pointer (some ⟨w.heap.size, 0, none⟩), .pointer (some ⟨Bx, 0, none⟩), .func (.func 55) #[] #[], .agg (cells23 x), undef, undef, undef, undef, undef, undef, undef, undef], defers := [] })
    (fun x a' _ X Y row hs hg hr => by obtain ⟨Bx, h1, h2, h3⟩ := hs; exact ⟨Bx, h1, block_own Bx 23 (cells23 x) () X Y row h2 hg (fun r e => (hr r e).2), h3⟩)
    ?assign ?body ?done ?stop
  case assign =>
    rintro l pre x W K ⟨⟨v, hv, hrow, _⟩, hB⟩ hK
    simp only [cells23]
    gi_wp2
    exact hK _ _ ((KeepsOthers.alloc _ _).from _) trivial ⟨⟨v, hv.alloc _, hrow.kept (World.grownBy_alloc W _ none) (by cases hv' : v.ownBlock <;> simp), trivial⟩, hB.alloc hB.size _⟩ ⟨W.heap.size, hv.lt, heap_alloc_new W _, rfl⟩
  case body =>
    rintro l pre x a' W hl ⟨r, hr⟩ ⟨⟨v, hv, hrow, _⟩, hB⟩ ⟨Bx, hBx, bX, rfl⟩ hlt
    have hpl : (okL pre).length ≤ pre.length := List.length_filter_le _ _
    have hlen := plansL_length
    obtain ⟨rc, hrc⟩ := check_any x
    have c0 : W.cell? ⟨Bx, 0, none⟩ = some (.int .i64 x.f0) := (blk_cell bX 0).trans rfl
    have c1 : W.cell? ⟨Bx, 1, none⟩ = some (.int .i64 x.f1) := (blk_cell bX 1).trans rfl
    have c2 : W.cell? ⟨Bx, 2, none⟩ = some (.int .i64 x.f2) := (blk_cell bX 2).trans rfl
    have c3 : W.cell? ⟨Bx, 3, none⟩ = some (.int .i64 x.f3) := (blk_cell bX 3).trans rfl
    have c4 : W.cell? ⟨Bx, 4, none⟩ = some (.int .i64 x.f4) := (blk_cell bX 4).trans rfl
    have c5 : W.cell? ⟨Bx, 5, none⟩ = some (.bool x.f5) := (blk_cell bX 5).trans rfl
    have hbw := hB.size
    gi_wp2_with (first
      | (refine ⟨trivial, by simp [Fence.wide], ?_⟩; refine (CallsIn.inRound l (callsIn_wide.2 (plan_Check.calls x.f0 x.f1 x.f2 x.f3 x.f4 x.f5 rc _ hrc))).mono ?_; rintro e W2 ⟨rfl, hb1⟩; have hv1 : Boxed W2 w.heap.size 36 v := (hb1.block _ hv.lt).trans hv; have hc1 := hv1.cell; have hrow1 := own_move hrow (fun k hk => hb1.block k (own_lt hrow k hk)); have bX1 := blk_below bX hb1; have d0 : W2.cell? ⟨Bx, 0, none⟩ = some (.int .i64 x.f0) := (blk_cell bX1 0).trans rfl; have d1 : W2.cell? ⟨Bx, 1, none⟩ = some (.int .i64 x.f1) := (blk_cell bX1 1).trans rfl; have d2 : W2.cell? ⟨Bx, 2, none⟩ = some (.int .i64 x.f2) := (blk_cell bX1 2).trans rfl; have d3 : W2.cell? ⟨Bx, 3, none⟩ = some (.int .i64 x.f3) := (blk_cell bX1 3).trans rfl; have d4 : W2.cell? ⟨Bx, 4, none⟩ = some (.int .i64 x.f4) := (blk_cell bX1 4).trans rfl; have d5 : W2.cell? ⟨Bx, 5, none⟩ = some (.bool x.f5) := (blk_cell bX1 5).trans rfl; have hbs := hb1.size; have hB1 : Below w.heap.size w W2 := hB.trans (hb1.mono hB.size))
      | (gi_at_builtin; refine wpListIn_append_own _ rfl _ _ 36 rfl w.heap.size 23 i0 _ 6 48 Try.underlying36 hi hz0 hz1 hz2 rfl (by decide) _ _ _ rfl (hrow1.alloc _) ⟨W2.heap.size, 0, none⟩ 1 1 (cells23 x).toList rfl rfl (new_cells W2 x) (cells_one x) (by rw [show maxLen = 9223372036854775807 from by decide]; omega) (by omega) (by rw [World.size_alloc]; omega) ?_; intro v' w1 hown' hgrow _; obtain ⟨g', cap', rfl⟩ := ownsRow_succ hown'; obtain ⟨hv3, hv2, hr2, hk2, hb2⟩ := hv1.appended (by decide) hrow1 (by omega) (Nat.le_refl _) hown' hgrow; have hc3 := hv3.cell; have hf3 := hv3.frozen))
    · have hr00 : (rc == 0) = true := by assumption
      have hr0 : rc = 0 := by simpa using hr00
      have hok : okB x = true := by unfold okB; rw [hrc, hr0]; rfl
      exact ⟨(keepsFrom_of_below hb1).trans (hk2.from _), trivial, ⟨_, hv2, by rw [okL_hit pre hok, List.length_append, flat23_snoc]; exact hr2, trivial⟩, hB1.trans hb2⟩
    · have hr00 : (rc == 0) = false := by assumption
      have hr0 : ¬ rc = 0 := by simpa using hr00
      have hok : okB x = false := by unfold okB; rw [hrc]; simpa using hr0
      exact ⟨keepsFrom_of_below hb1, trivial, ⟨_, hv1, by rw [okL_miss pre hok]; exact hrow1, trivial⟩, hB1⟩
  case done =>
    rintro D ys W hD rfl ⟨⟨v, hv, hrow, _⟩, hB⟩ hK
    have hc := hv.cell
    gi_wp2
    refine ⟨by simp, .inl ⟨_, _, rfl, run_takeDeferred hK, ?_⟩⟩
    exact ⟨_, results_tmp rfl _ _ _, v, rfl, ownsRow_putObj hrow _ hK rfl, hB.trans (belowK_b (w := w) (Nat.le_refl _) W D _ _ (by simp at hD; omega) hK rfl rfl)⟩
  case stop =>
    rintro D c pre W _ _ h _
    exact h.elim
def plan_Every.f : Option (List S23) := some (okL plansL)
theorem plan_Every.calls (r : List S23) (w : World) (h : plan_Every.f = some r) :
    Calls Try.prog 20 #[] w fun e w' => ∃ v0_ : Value, e = .returned (v0_) ∧ Kd.R k23 23 w' w.heap.size (fun _ => True) v0_ r ∧ Below w.heap.size w w' := by
  obtain rfl := Option.some.inj h
  refine (callsIn_wide.1 (everyE_in 4 (by decide) w)).mono ?_
  rintro e W' ⟨v, rfl, hr, hb⟩
  exact ⟨v, rfl, ⟨fun _ _ => trivial, flat23 (okL plansL), hr, reps23 _ _ _ _⟩, hb⟩
end

/-! ### budget_Step: function 22 -/
-- IMPORT Derived.Deep.RegionWith
-- IMPORT Derived.RegionTactic
-- IMPORT Derived.BigRegion
def budget_Step.f (a0 : Int) (a1 : Int) (a2 : Int) (a3 : Int) : Option (Int × Int) :=
  if ¬ (a1 = 2 ∨ a1 = 4) then some (0, 1) else if a0 < 0 then some (0, 1) else if 1099511627776 < a0 then some (0, 1) else if a2 < 0 then some (0, 1) else if 2 < a2 then some (0, 1) else if a3 < 0 then some (0, 1) else if 3 < a3 then some (0, 1) else (budget_step.f a0 a1 a2 a3).bind fun t => some (t, 0)
theorem look2 (w : World) : ∀ (l : List (Int × Bool × Int)) (n : Nat) (a : Int) (p : Bool), (Instr.lookup 74 (.map (some w.heap.size)) (.agg #[.int .i64 a, .bool p]) true).run Try.prog ((w.alloc (lmap l)).drewN n) = .ok (.tuple #[.int .i64 ((has l a p).getD 0), .bool (has l a p).isSome]) ((w.alloc (lmap l)).drewN n) := fun l n a p =>
  run_lookup_rule (w := (w.alloc (lmap l)).drewN n) (b := w.heap.size) (heap_alloc_new w (lmap l)) a p true
theorem says_some {l : List (Int × Bool × Int)} (hs : Says l) {k : Int} (hk : k = 2 ∨ k = 4) (p : Bool) : (has l k p).isSome = true := by
  rw [hs]
  rcases hk with rfl | rfl <;> rfl
theorem says_none {l : List (Int × Bool × Int)} (hs : Says l) {k : Int} (hk : ¬ (k = 2 ∨ k = 4)) (p : Bool) : (has l k p).isSome = false := by
  rw [hs, if_neg (fun h => hk (.inl h)), if_neg (fun h => hk (.inr h))]
  rfl
set_option maxHeartbeats 8000000 in
set_option maxRecDepth 100000 in
theorem Step_no0 (e k sc s : Int) (w : World) (hk : ¬ (k = 2 ∨ k = 4)) : Calls Try.prog 22 #[.int .i64 e, .int .i64 k, .int .i64 sc, .int .i64 s] w fun e_ w' => e_ = .returned (.tuple #[.int .i64 0, .int .i64 1]) ∧ Below w.heap.size w w' := by
  have hlk := look2 w
  have Hk := Aside0.mk hk
  clear hk
  go_enter Try.func22, Try.ntmps22
  go_wp2_with (go_at_call 47; refine (loses_calls _).mono ?_; rintro e1 w1 ⟨l, rfl, hs, n, rfl⟩; have his := says_none hs Hk.out false)
  go_ret2
  exact ⟨rfl, pw_below_drewN (below_alloc (Below.refl _ _) _) _⟩
set_option maxHeartbeats 8000000 in
set_option maxRecDepth 100000 in
theorem Step_no1 (e k sc s : Int) (w : World) (hk : k = 2 ∨ k = 4) (h1 : decide (e < 0) = true) : Calls Try.prog 22 #[.int .i64 e, .int .i64 k, .int .i64 sc, .int .i64 s] w fun e_ w' => e_ = .returned (.tuple #[.int .i64 0, .int .i64 1]) ∧ Below w.heap.size w w' := by
  have hlk := look2 w
  have Hk := Aside0.mk hk
  clear hk
  go_enter Try.func22, Try.ntmps22
  go_wp2_with (go_at_call 47; refine (loses_calls _).mono ?_; rintro e1 w1 ⟨l, rfl, hs, n, rfl⟩; have his := says_some hs Hk.out false)
  go_ret2
  exact ⟨rfl, pw_below_drewN (below_alloc (Below.refl _ _) _) _⟩
set_option maxHeartbeats 8000000 in
set_option maxRecDepth 100000 in
theorem Step_no2 (e k sc s : Int) (w : World) (hk : k = 2 ∨ k = 4) (h1 : decide (e < 0) = false) (h2 : decide (1099511627776 < e) = true) : Calls Try.prog 22 #[.int .i64 e, .int .i64 k, .int .i64 sc, .int .i64 s] w fun e_ w' => e_ = .returned (.tuple #[.int .i64 0, .int .i64 1]) ∧ Below w.heap.size w w' := by
  have hlk := look2 w
  have Hk := Aside0.mk hk
  clear hk
  go_enter Try.func22, Try.ntmps22
  go_wp2_with (go_at_call 47; refine (loses_calls _).mono ?_; rintro e1 w1 ⟨l, rfl, hs, n, rfl⟩; have his := says_some hs Hk.out false)
  go_ret2
  exact ⟨rfl, pw_below_drewN (below_alloc (Below.refl _ _) _) _⟩
set_option maxHeartbeats 8000000 in
set_option maxRecDepth 100000 in
theorem Step_no3 (e k sc s : Int) (w : World) (hk : k = 2 ∨ k = 4) (h1 : decide (e < 0) = false) (h2 : decide (1099511627776 < e) = false) (h3 : decide (sc < 0) = true) : Calls Try.prog 22 #[.int .i64 e, .int .i64 k, .int .i64 sc, .int .i64 s] w fun e_ w' => e_ = .returned (.tuple #[.int .i64 0, .int .i64 1]) ∧ Below w.heap.size w w' := by
  have hlk := look2 w
  have Hk := Aside0.mk hk
  clear hk
  go_enter Try.func22, Try.ntmps22
  go_wp2_with (go_at_call 47; refine (loses_calls _).mono ?_; rintro e1 w1 ⟨l, rfl, hs, n, rfl⟩; have his := says_some hs Hk.out false)
  go_ret2
  exact ⟨rfl, pw_below_drewN (below_alloc (Below.refl _ _) _) _⟩
set_option maxHeartbeats 8000000 in
set_option maxRecDepth 100000 in
theorem Step_no4 (e k sc s : Int) (w : World) (hk : k = 2 ∨ k = 4) (h1 : decide (e < 0) = false) (h2 : decide (1099511627776 < e) = false) (h3 : decide (sc < 0) = false) (h4 : decide (2 < sc) = true) : Calls Try.prog 22 #[.int .i64 e, .int .i64 k, .int .i64 sc, .int .i64 s] w fun e_ w' => e_ = .returned (.tuple #[.int .i64 0, .int .i64 1]) ∧ Below w.heap.size w w' := by
  have hlk := look2 w
  have Hk := Aside0.mk hk
  clear hk
  go_enter Try.func22, Try.ntmps22
  go_wp2_with (go_at_call 47; refine (loses_calls _).mono ?_; rintro e1 w1 ⟨l, rfl, hs, n, rfl⟩; have his := says_some hs Hk.out false)
  go_ret2
  exact ⟨rfl, pw_below_drewN (below_alloc (Below.refl _ _) _) _⟩
set_option maxHeartbeats 8000000 in
set_option maxRecDepth 100000 in
theorem Step_no5 (e k sc s : Int) (w : World) (hk : k = 2 ∨ k = 4) (h1 : decide (e < 0) = false) (h2 : decide (1099511627776 < e) = false) (h3 : decide (sc < 0) = false) (h4 : decide (2 < sc) = false) (h5 : decide (s < 0) = true) : Calls Try.prog 22 #[.int .i64 e, .int .i64 k, .int .i64 sc, .int .i64 s] w fun e_ w' => e_ = .returned (.tuple #[.int .i64 0, .int .i64 1]) ∧ Below w.heap.size w w' := by
  have hlk := look2 w
  have Hk := Aside0.mk hk
  clear hk
  go_enter Try.func22, Try.ntmps22
  go_wp2_with (go_at_call 47; refine (loses_calls _).mono ?_; rintro e1 w1 ⟨l, rfl, hs, n, rfl⟩; have his := says_some hs Hk.out false)
  go_ret2
  exact ⟨rfl, pw_below_drewN (below_alloc (Below.refl _ _) _) _⟩
set_option maxHeartbeats 8000000 in
set_option maxRecDepth 100000 in
theorem Step_no6 (e k sc s : Int) (w : World) (hk : k = 2 ∨ k = 4) (h1 : decide (e < 0) = false) (h2 : decide (1099511627776 < e) = false) (h3 : decide (sc < 0) = false) (h4 : decide (2 < sc) = false) (h5 : decide (s < 0) = false) (h6 : decide (3 < s) = true) : Calls Try.prog 22 #[.int .i64 e, .int .i64 k, .int .i64 sc, .int .i64 s] w fun e_ w' => e_ = .returned (.tuple #[.int .i64 0, .int .i64 1]) ∧ Below w.heap.size w w' := by
  have hlk := look2 w
  have Hk := Aside0.mk hk
  clear hk
  go_enter Try.func22, Try.ntmps22
  go_wp2_with (go_at_call 47; refine (loses_calls _).mono ?_; rintro e1 w1 ⟨l, rfl, hs, n, rfl⟩; have his := says_some hs Hk.out false)
  go_ret2
  exact ⟨rfl, pw_below_drewN (below_alloc (Below.refl _ _) _) _⟩
set_option maxHeartbeats 8000000 in
set_option maxRecDepth 100000 in
theorem Step_yes (e k sc s r : Int) (w : World) (hk : k = 2 ∨ k = 4) (h1 : decide (e < 0) = false) (h2 : decide (1099511627776 < e) = false) (h3 : decide (sc < 0) = false) (h4 : decide (2 < sc) = false) (h5 : decide (s < 0) = false) (h6 : decide (3 < s) = false) (hr : budget_step.f e k sc s = some r) : Calls Try.prog 22 #[.int .i64 e, .int .i64 k, .int .i64 sc, .int .i64 s] w fun e_ w' => e_ = .returned (.tuple #[.int .i64 r, .int .i64 0]) ∧ Below w.heap.size w w' := by
  have hlk := look2 w
  have Hk := Aside0.mk hk
  clear hk
  have Hr := Aside0.mk hr
  clear hr
  go_enter Try.func22, Try.ntmps22
  go_wp2_with (first | (go_at_call 47; refine (loses_calls _).mono ?_; rintro e1 w1 ⟨l, rfl, hs, n, rfl⟩; have his := says_some hs Hk.out false; clear hs) | (go_at_call 48; refine (budget_step.calls e k sc s r _ Hr.out).mono ?_; rintro e1 w1 ⟨rfl, hb⟩))
  go_ret2
  exact ⟨rfl, below_step (pw_below_drewN (below_alloc (Below.refl _ _) _) _) hb⟩
theorem budget_Step.calls (a0 : Int) (a1 : Int) (a2 : Int) (a3 : Int) (r1 : Int) (r2 : Int) (w : World) (h : budget_Step.f a0 a1 a2 a3 = some (r1, r2)) :
    Calls Try.prog 22 #[.int .i64 a0, .int .i64 a1, .int .i64 a2, .int .i64 a3] w fun e w' => e = .returned (.tuple #[.int .i64 r1, .int .i64 r2]) ∧ Below w.heap.size w w' := by
  unfold budget_Step.f at h
  by_cases hk : a1 = 2 ∨ a1 = 4
  · rw [if_neg (fun z => z hk)] at h
    by_cases c1 : a0 < 0
    · rw [if_pos c1] at h; simp only [Option.some.injEq, Prod.mk.injEq] at h; obtain ⟨rfl, rfl⟩ := h; exact Step_no1 a0 a1 a2 a3 w hk (decide_eq_true c1)
    rw [if_neg c1] at h
    by_cases c2 : 1099511627776 < a0
    · rw [if_pos c2] at h; simp only [Option.some.injEq, Prod.mk.injEq] at h; obtain ⟨rfl, rfl⟩ := h; exact Step_no2 a0 a1 a2 a3 w hk (decide_eq_false c1) (decide_eq_true c2)
    rw [if_neg c2] at h
    by_cases c3 : a2 < 0
    · rw [if_pos c3] at h; simp only [Option.some.injEq, Prod.mk.injEq] at h; obtain ⟨rfl, rfl⟩ := h; exact Step_no3 a0 a1 a2 a3 w hk (decide_eq_false c1) (decide_eq_false c2) (decide_eq_true c3)
    rw [if_neg c3] at h
    by_cases c4 : 2 < a2
    · rw [if_pos c4] at h; simp only [Option.some.injEq, Prod.mk.injEq] at h; obtain ⟨rfl, rfl⟩ := h; exact Step_no4 a0 a1 a2 a3 w hk (decide_eq_false c1) (decide_eq_false c2) (decide_eq_false c3) (decide_eq_true c4)
    rw [if_neg c4] at h
    by_cases c5 : a3 < 0
    · rw [if_pos c5] at h; simp only [Option.some.injEq, Prod.mk.injEq] at h; obtain ⟨rfl, rfl⟩ := h; exact Step_no5 a0 a1 a2 a3 w hk (decide_eq_false c1) (decide_eq_false c2) (decide_eq_false c3) (decide_eq_false c4) (decide_eq_true c5)
    rw [if_neg c5] at h
    by_cases c6 : 3 < a3
    · rw [if_pos c6] at h; simp only [Option.some.injEq, Prod.mk.injEq] at h; obtain ⟨rfl, rfl⟩ := h; exact Step_no6 a0 a1 a2 a3 w hk (decide_eq_false c1) (decide_eq_false c2) (decide_eq_false c3) (decide_eq_false c4) (decide_eq_false c5) (decide_eq_true c6)
    rw [if_neg c6] at h
    obtain ⟨t, ht, h⟩ := Option.bind_eq_some_iff.1 h
    simp only [Option.some.injEq, Prod.mk.injEq] at h
    obtain ⟨rfl, rfl⟩ := h
    exact Step_yes a0 a1 a2 a3 _ w hk (decide_eq_false c1) (decide_eq_false c2) (decide_eq_false c3) (decide_eq_false c4) (decide_eq_false c5) (decide_eq_false c6) ht
  · rw [if_pos hk] at h; simp only [Option.some.injEq, Prod.mk.injEq] at h; obtain ⟨rfl, rfl⟩ := h; exact Step_no0 a0 a1 a2 a3 w hk

/-! ### budget_Start: function 23 -/
def budget_Start.f (a0_0 : Int) (a0_1 : Int) (a0_2 : Int) (a0_3 : Int) (a0_4 : Int) (a0_5 : Bool) : Option (Int × Int) := (plan_Check.f a0_0 a0_1 a0_2 a0_3 a0_4 a0_5).bind fun t218 => (if t218 = 0 then (if a0_3 = 0 then (some (91, 0)) else (some (0, 0))) else (some (0, t218)))
set_option maxHeartbeats 8000000 in
set_option maxRecDepth 100000 in
theorem budget_Start.calls (a0_0 : Int) (a0_1 : Int) (a0_2 : Int) (a0_3 : Int) (a0_4 : Int) (a0_5 : Bool) (r1 : Int) (r2 : Int) (w : World) (h : budget_Start.f a0_0 a0_1 a0_2 a0_3 a0_4 a0_5 = some (r1, r2)) :
    Calls Try.prog 23 #[.agg #[.int .i64 a0_0, .int .i64 a0_1, .int .i64 a0_2, .int .i64 a0_3, .int .i64 a0_4, .bool a0_5]] w fun e w' => e = .returned (.tuple #[.int .i64 r1, .int .i64 r2]) ∧ Below w.heap.size w w' := by
  have hu23 := Try.underlying23
  have HB := Aside0.mk (Below.refl w.heap.size w)
  have H : ((plan_Check.f a0_0 a0_1 a0_2 a0_3 a0_4 a0_5).bind fun t218 => (if t218 = 0 then (if a0_3 = 0 then (some (91, 0)) else (some (0, 0))) else (some (0, t218)))) = some (r1, r2) := h
  clear h
  replace H := Option.bind_eq_some_iff.mp H
  obtain ⟨t218, A20, H⟩ := H
  replace H : (if t218 = 0 then (if a0_3 = 0 then (some (91, 0)) else (some (0, 0))) else (some (0, t218))) = some (r1, r2) := H
  have A2 := Aside0.mk A20
  clear A20
  by_cases c3 : t218 = 0
  · rw [if_pos c3] at H
    have c3b0 : (t218 == 0) = true := beq_iff_eq.mpr c3
    have c3b1 : (t218 != 0) = false := bne_eq_false_iff_eq.mpr c3
    clear c3
    by_cases c4 : a0_3 = 0
    · rw [if_pos c4] at H
      have c4b0 : (a0_3 == 0) = true := beq_iff_eq.mpr c4
      have c4b1 : (a0_3 != 0) = false := bne_eq_false_iff_eq.mpr c4
      clear c4
      simp only [Option.some.injEq, Prod.mk.injEq] at H
      obtain ⟨rfl, rfl⟩ := H
      go_enter Try.func23, Try.ntmps23
      go_wp2_with (first | ((with_reducible refine gate_dst (N := 1) rfl ?_); refine box_event ?hg (N := 1) ?hd (cs := #[.int .i64 a0_0, .int .i64 a0_1, .int .i64 a0_2, .int .i64 a0_3, .int .i64 a0_4, .bool a0_5]) (t := 23) ?hr ?_; (case hd => rfl); (case hg => rfl); (case hr => first | (go_simp; done) | (go_simp; rfl)); intro gb217 hg w5 hbox hb; have n0_ := Aside0.mk (below_step (by repeat (first | (with_reducible first | exact HB.out | apply below_alloc | apply pw_below_drewN | apply below_drew1) | exact HB.out)) hb); have n1_ := Aside0.mk (hbox); have n2_ := Aside0.mk ((by rw [hg]; exact (below_size (by repeat (first | (with_reducible first | exact HB.out | apply below_alloc | apply pw_below_drewN | apply below_drew1) | exact HB.out))) : w.heap.size ≤ gb217)); have n3_ := Aside0.mk ((by rw [hg]; exact (below_size (by repeat (first | (with_reducible first | exact HB.out | apply below_alloc | apply pw_below_drewN | apply below_drew1) | exact HB.out))) : w.heap.size ≤ gb217)); clear HB; have HB := n0_; have BK217 := n1_; have GW217 := n2_; have GE217 := n3_; clear n0_ n1_ n2_ n3_; clear hb hbox hg; have hcz6_0 : w5.cell? ⟨gb217, 0, none⟩ = some (.int .i64 a0_0) := (blk_cell BK217.out 0).trans rfl; have hcz6_1 : w5.cell? ⟨gb217, 1, none⟩ = some (.int .i64 a0_1) := (blk_cell BK217.out 1).trans rfl; have hcz6_2 : w5.cell? ⟨gb217, 2, none⟩ = some (.int .i64 a0_2) := (blk_cell BK217.out 2).trans rfl; have hcz6_3 : w5.cell? ⟨gb217, 3, none⟩ = some (.int .i64 a0_3) := (blk_cell BK217.out 3).trans rfl; have hcz6_4 : w5.cell? ⟨gb217, 4, none⟩ = some (.int .i64 a0_4) := (blk_cell BK217.out 4).trans rfl; have hcz6_5 : w5.cell? ⟨gb217, 5, none⟩ = some (.bool a0_5) := (blk_cell BK217.out 5).trans rfl; have hfz6_0 := blk_frozen BK217.out 0; have hfz6_1 := blk_frozen BK217.out 1; have hfz6_2 := blk_frozen BK217.out 2; have hfz6_3 := blk_frozen BK217.out 3; have hfz6_4 := blk_frozen BK217.out 4; have hfz6_5 := blk_frozen BK217.out 5) | ((with_reducible refine gate_callee (f := 16) rfl ?_); refine goesL_ (some 6) rfl rfl Try.func16 (by kernel_rfl) rfl #[.agg #[.int .i64 a0_0, .int .i64 a0_1, .int .i64 a0_2, .int .i64 a0_3, .int .i64 a0_4, .bool a0_5]] rfl (by (try simp only [List.map_toArray, List.map_cons, List.map_nil]); first | done | rfl | (simp only [List.length_drop, List.length_take]; rfl)) ?_; (with_reducible refine (plan_Check.calls a0_0 a0_1 a0_2 a0_3 a0_4 a0_5 t218 _ A2.out).mono ?_); rintro e w7 ⟨rfl, hb⟩; refine ⟨_, rfl, ?_⟩; have n0_ := Aside0.mk (blk_below (g := gb217) (o := .cells #[.int .i64 a0_0, .int .i64 a0_1, .int .i64 a0_2, .int .i64 a0_3, .int .i64 a0_4, .bool a0_5] 23 (0, 0)) (by (with_reducible repeat (first | refine blk_drewN ?_ _ | refine blk_drew ?_ | refine blk_alloc ?_ _)); exact BK217.out) hb); have n1_ := Aside0.mk (below_step (by repeat (first | (with_reducible first | exact HB.out | apply below_alloc | apply pw_below_drewN | apply below_drew1 | refine below_set ?_ GE217.out) | exact HB.out)) hb); clear BK217; clear HB; have BK217 := n0_; have HB := n1_; clear n0_ n1_; (try clear hb); (try clear hb2); (try clear hk); (try clear hi); have hcz8_0 : w7.cell? ⟨gb217, 0, none⟩ = some (.int .i64 a0_0) := (blk_cell BK217.out 0).trans rfl; have hcz8_1 : w7.cell? ⟨gb217, 1, none⟩ = some (.int .i64 a0_1) := (blk_cell BK217.out 1).trans rfl; have hcz8_2 : w7.cell? ⟨gb217, 2, none⟩ = some (.int .i64 a0_2) := (blk_cell BK217.out 2).trans rfl; have hcz8_3 : w7.cell? ⟨gb217, 3, none⟩ = some (.int .i64 a0_3) := (blk_cell BK217.out 3).trans rfl; have hcz8_4 : w7.cell? ⟨gb217, 4, none⟩ = some (.int .i64 a0_4) := (blk_cell BK217.out 4).trans rfl; have hcz8_5 : w7.cell? ⟨gb217, 5, none⟩ = some (.bool a0_5) := (blk_cell BK217.out 5).trans rfl; have hfz8_0 := blk_frozen BK217.out 0; have hfz8_1 := blk_frozen BK217.out 1; have hfz8_2 := blk_frozen BK217.out 2; have hfz8_3 := blk_frozen BK217.out 3; have hfz8_4 := blk_frozen BK217.out 4; have hfz8_5 := blk_frozen BK217.out 5))
      go_ret2
      exact ⟨by first | rfl | (simp [errW_none, errW_some] <;> rfl) | (simp [*, errW_none, errW_some] <;> rfl), by repeat (first | (with_reducible first | exact HB.out | apply below_alloc | apply pw_below_drewN | apply below_drew1 | refine below_set ?_ GE217.out) | exact HB.out)⟩
    · rw [if_neg c4] at H
      have c4b0 : (a0_3 == 0) = false := beq_eq_false_iff_ne.mpr c4
      have c4b1 : (a0_3 != 0) = true := bne_iff_ne.mpr c4
      simp only [Option.some.injEq, Prod.mk.injEq] at H
      obtain ⟨rfl, rfl⟩ := H
      go_enter Try.func23, Try.ntmps23
      go_wp2_with (first | ((with_reducible refine gate_dst (N := 1) rfl ?_); refine box_event ?hg (N := 1) ?hd (cs := #[.int .i64 a0_0, .int .i64 a0_1, .int .i64 a0_2, .int .i64 a0_3, .int .i64 a0_4, .bool a0_5]) (t := 23) ?hr ?_; (case hd => rfl); (case hg => rfl); (case hr => first | (go_simp; done) | (go_simp; rfl)); intro gb217 hg w9 hbox hb; have n0_ := Aside0.mk (below_step (by repeat (first | (with_reducible first | exact HB.out | apply below_alloc | apply pw_below_drewN | apply below_drew1) | exact HB.out)) hb); have n1_ := Aside0.mk (hbox); have n2_ := Aside0.mk ((by rw [hg]; exact (below_size (by repeat (first | (with_reducible first | exact HB.out | apply below_alloc | apply pw_below_drewN | apply below_drew1) | exact HB.out))) : w.heap.size ≤ gb217)); have n3_ := Aside0.mk ((by rw [hg]; exact (below_size (by repeat (first | (with_reducible first | exact HB.out | apply below_alloc | apply pw_below_drewN | apply below_drew1) | exact HB.out))) : w.heap.size ≤ gb217)); clear HB; have HB := n0_; have BK217 := n1_; have GW217 := n2_; have GE217 := n3_; clear n0_ n1_ n2_ n3_; clear hb hbox hg; have hcz10_0 : w9.cell? ⟨gb217, 0, none⟩ = some (.int .i64 a0_0) := (blk_cell BK217.out 0).trans rfl; have hcz10_1 : w9.cell? ⟨gb217, 1, none⟩ = some (.int .i64 a0_1) := (blk_cell BK217.out 1).trans rfl; have hcz10_2 : w9.cell? ⟨gb217, 2, none⟩ = some (.int .i64 a0_2) := (blk_cell BK217.out 2).trans rfl; have hcz10_3 : w9.cell? ⟨gb217, 3, none⟩ = some (.int .i64 a0_3) := (blk_cell BK217.out 3).trans rfl; have hcz10_4 : w9.cell? ⟨gb217, 4, none⟩ = some (.int .i64 a0_4) := (blk_cell BK217.out 4).trans rfl; have hcz10_5 : w9.cell? ⟨gb217, 5, none⟩ = some (.bool a0_5) := (blk_cell BK217.out 5).trans rfl; have hfz10_0 := blk_frozen BK217.out 0; have hfz10_1 := blk_frozen BK217.out 1; have hfz10_2 := blk_frozen BK217.out 2; have hfz10_3 := blk_frozen BK217.out 3; have hfz10_4 := blk_frozen BK217.out 4; have hfz10_5 := blk_frozen BK217.out 5) | ((with_reducible refine gate_callee (f := 16) rfl ?_); refine goesL_ (some 6) rfl rfl Try.func16 (by kernel_rfl) rfl #[.agg #[.int .i64 a0_0, .int .i64 a0_1, .int .i64 a0_2, .int .i64 a0_3, .int .i64 a0_4, .bool a0_5]] rfl (by (try simp only [List.map_toArray, List.map_cons, List.map_nil]); first | done | rfl | (simp only [List.length_drop, List.length_take]; rfl)) ?_; (with_reducible refine (plan_Check.calls a0_0 a0_1 a0_2 a0_3 a0_4 a0_5 t218 _ A2.out).mono ?_); rintro e w11 ⟨rfl, hb⟩; refine ⟨_, rfl, ?_⟩; have n0_ := Aside0.mk (blk_below (g := gb217) (o := .cells #[.int .i64 a0_0, .int .i64 a0_1, .int .i64 a0_2, .int .i64 a0_3, .int .i64 a0_4, .bool a0_5] 23 (0, 0)) (by (with_reducible repeat (first | refine blk_drewN ?_ _ | refine blk_drew ?_ | refine blk_alloc ?_ _)); exact BK217.out) hb); have n1_ := Aside0.mk (below_step (by repeat (first | (with_reducible first | exact HB.out | apply below_alloc | apply pw_below_drewN | apply below_drew1 | refine below_set ?_ GE217.out) | exact HB.out)) hb); clear BK217; clear HB; have BK217 := n0_; have HB := n1_; clear n0_ n1_; (try clear hb); (try clear hb2); (try clear hk); (try clear hi); have hcz12_0 : w11.cell? ⟨gb217, 0, none⟩ = some (.int .i64 a0_0) := (blk_cell BK217.out 0).trans rfl; have hcz12_1 : w11.cell? ⟨gb217, 1, none⟩ = some (.int .i64 a0_1) := (blk_cell BK217.out 1).trans rfl; have hcz12_2 : w11.cell? ⟨gb217, 2, none⟩ = some (.int .i64 a0_2) := (blk_cell BK217.out 2).trans rfl; have hcz12_3 : w11.cell? ⟨gb217, 3, none⟩ = some (.int .i64 a0_3) := (blk_cell BK217.out 3).trans rfl; have hcz12_4 : w11.cell? ⟨gb217, 4, none⟩ = some (.int .i64 a0_4) := (blk_cell BK217.out 4).trans rfl; have hcz12_5 : w11.cell? ⟨gb217, 5, none⟩ = some (.bool a0_5) := (blk_cell BK217.out 5).trans rfl; have hfz12_0 := blk_frozen BK217.out 0; have hfz12_1 := blk_frozen BK217.out 1; have hfz12_2 := blk_frozen BK217.out 2; have hfz12_3 := blk_frozen BK217.out 3; have hfz12_4 := blk_frozen BK217.out 4; have hfz12_5 := blk_frozen BK217.out 5))
      go_ret2
      exact ⟨by first | rfl | (simp [errW_none, errW_some] <;> rfl) | (simp [*, errW_none, errW_some] <;> rfl), by repeat (first | (with_reducible first | exact HB.out | apply below_alloc | apply pw_below_drewN | apply below_drew1 | refine below_set ?_ GE217.out) | exact HB.out)⟩
  · rw [if_neg c3] at H
    have c3b0 : (t218 == 0) = false := beq_eq_false_iff_ne.mpr c3
    have c3b1 : (t218 != 0) = true := bne_iff_ne.mpr c3
    simp only [Option.some.injEq, Prod.mk.injEq] at H
    obtain ⟨rfl, rfl⟩ := H
    go_enter Try.func23, Try.ntmps23
    go_wp2_with (first | ((with_reducible refine gate_dst (N := 1) rfl ?_); refine box_event ?hg (N := 1) ?hd (cs := #[.int .i64 a0_0, .int .i64 a0_1, .int .i64 a0_2, .int .i64 a0_3, .int .i64 a0_4, .bool a0_5]) (t := 23) ?hr ?_; (case hd => rfl); (case hg => rfl); (case hr => first | (go_simp; done) | (go_simp; rfl)); intro gb217 hg w13 hbox hb; have n0_ := Aside0.mk (below_step (by repeat (first | (with_reducible first | exact HB.out | apply below_alloc | apply pw_below_drewN | apply below_drew1) | exact HB.out)) hb); have n1_ := Aside0.mk (hbox); have n2_ := Aside0.mk ((by rw [hg]; exact (below_size (by repeat (first | (with_reducible first | exact HB.out | apply below_alloc | apply pw_below_drewN | apply below_drew1) | exact HB.out))) : w.heap.size ≤ gb217)); have n3_ := Aside0.mk ((by rw [hg]; exact (below_size (by repeat (first | (with_reducible first | exact HB.out | apply below_alloc | apply pw_below_drewN | apply below_drew1) | exact HB.out))) : w.heap.size ≤ gb217)); clear HB; have HB := n0_; have BK217 := n1_; have GW217 := n2_; have GE217 := n3_; clear n0_ n1_ n2_ n3_; clear hb hbox hg; have hcz14_0 : w13.cell? ⟨gb217, 0, none⟩ = some (.int .i64 a0_0) := (blk_cell BK217.out 0).trans rfl; have hcz14_1 : w13.cell? ⟨gb217, 1, none⟩ = some (.int .i64 a0_1) := (blk_cell BK217.out 1).trans rfl; have hcz14_2 : w13.cell? ⟨gb217, 2, none⟩ = some (.int .i64 a0_2) := (blk_cell BK217.out 2).trans rfl; have hcz14_3 : w13.cell? ⟨gb217, 3, none⟩ = some (.int .i64 a0_3) := (blk_cell BK217.out 3).trans rfl; have hcz14_4 : w13.cell? ⟨gb217, 4, none⟩ = some (.int .i64 a0_4) := (blk_cell BK217.out 4).trans rfl; have hcz14_5 : w13.cell? ⟨gb217, 5, none⟩ = some (.bool a0_5) := (blk_cell BK217.out 5).trans rfl; have hfz14_0 := blk_frozen BK217.out 0; have hfz14_1 := blk_frozen BK217.out 1; have hfz14_2 := blk_frozen BK217.out 2; have hfz14_3 := blk_frozen BK217.out 3; have hfz14_4 := blk_frozen BK217.out 4; have hfz14_5 := blk_frozen BK217.out 5) | ((with_reducible refine gate_callee (f := 16) rfl ?_); refine goesL_ (some 6) rfl rfl Try.func16 (by kernel_rfl) rfl #[.agg #[.int .i64 a0_0, .int .i64 a0_1, .int .i64 a0_2, .int .i64 a0_3, .int .i64 a0_4, .bool a0_5]] rfl (by (try simp only [List.map_toArray, List.map_cons, List.map_nil]); first | done | rfl | (simp only [List.length_drop, List.length_take]; rfl)) ?_; (with_reducible refine (plan_Check.calls a0_0 a0_1 a0_2 a0_3 a0_4 a0_5 t218 _ A2.out).mono ?_); rintro e w15 ⟨rfl, hb⟩; refine ⟨_, rfl, ?_⟩; have n0_ := Aside0.mk (blk_below (g := gb217) (o := .cells #[.int .i64 a0_0, .int .i64 a0_1, .int .i64 a0_2, .int .i64 a0_3, .int .i64 a0_4, .bool a0_5] 23 (0, 0)) (by (with_reducible repeat (first | refine blk_drewN ?_ _ | refine blk_drew ?_ | refine blk_alloc ?_ _)); exact BK217.out) hb); have n1_ := Aside0.mk (below_step (by repeat (first | (with_reducible first | exact HB.out | apply below_alloc | apply pw_below_drewN | apply below_drew1 | refine below_set ?_ GE217.out) | exact HB.out)) hb); clear BK217; clear HB; have BK217 := n0_; have HB := n1_; clear n0_ n1_; (try clear hb); (try clear hb2); (try clear hk); (try clear hi)))
    go_ret2
    exact ⟨by first | rfl | (simp [errW_none, errW_some] <;> rfl) | (simp [*, errW_none, errW_some] <;> rfl), by repeat (first | (with_reducible first | exact HB.out | apply below_alloc | apply pw_below_drewN | apply below_drew1 | refine below_set ?_ GE217.out) | exact HB.out)⟩

/-! ### headroomref14_up: function 49 -/
def headroomref14_up.f (k : Nat) (a0 : Int) (a1 : Int) : Option (Int) := (headroomref01_Floor.f k (wrap64 (-a0)) a1).bind fun t228 => (some (wrap64 (-t228)))
theorem headroomref14_up.mono : ∀ a0 a1 k, LeO (headroomref14_up.f k a0 a1) (headroomref14_up.f (k + 1) a0 a1) := by
  intro a0 a1 k
  unfold headroomref14_up.f
  repeat' first
      | (with_reducible exact headroomref01_Floor.mono _ _ _)
      | (with_reducible exact LeO.refl _)
      | (with_reducible exact LeO.none _)
      | (with_reducible refine LeO.ite ?_ ?_)
      | (with_reducible refine LeO.bind ?_ (fun _ => ?_))
      | exact headroomref01_Floor.mono _ _ _
      | exact LeO.none _
      | refine LeO.ite ?_ ?_
      | refine LeO.bind ?_ (fun _ => ?_)
set_option maxHeartbeats 8000000 in
set_option maxRecDepth 100000 in
theorem headroomref14_up.calls (k : Nat) (a0 : Int) (a1 : Int) (r : Int) (w : World) (h : headroomref14_up.f k a0 a1 = some r) :
    Calls Try.prog 49 #[.int .i64 a0, .int .i64 a1] w fun e w' => e = .returned (.int .i64 r) ∧ Drawn0 w w' := by
  have H : ((headroomref01_Floor.f k (wrap64 (-a0)) a1).bind fun t228 => (some (wrap64 (-t228)))) = some r := h
  clear h
  replace H := Option.bind_eq_some_iff.mp H
  obtain ⟨t228, A30, H⟩ := H
  replace H : (some (wrap64 (-t228))) = some r := H
  have A3 := Aside0.mk A30
  clear A30
  obtain rfl := Option.some.inj H
  go_enter Try.func49, Try.ntmps49
  go_wp2_with (first | ((with_reducible refine gate_callee (f := 56) rfl ?_); refine goesL_ (some 8) rfl rfl Try.func56 (by kernel_rfl) rfl #[.int .i64 (wrap64 (-a0)), .int .i64 a1] rfl (by (try simp only [List.map_toArray, List.map_cons, List.map_nil]); first | done | rfl | (simp only [List.length_drop, List.length_take]; rfl)) ?_; (with_reducible refine (headroomref01_Floor.calls k (wrap64 (-a0)) a1 t228 _ A3.out).mono ?_); rintro e w' ⟨rfl, ⟨nd, rfl⟩⟩; refine ⟨_, rfl, ?_⟩))
  go_ret
  exact ⟨by first | rfl | (simp; done) | (simp [*]; done), by repeat (first | exact Drawn0.refl _ | apply Drawn0.step)⟩

end Go.Proofs.Ytbpanbmjkfhcgaa.P
