-- Printed for this claim by drive.py (a program of this session's) through the kit's print program; not trusted: Lean checks it.
import Derived.Test.YtbpanbmjkfhcgaaP0
import Derived.Test.YtbpanbmjkfhcgaaPf16
import Derived.Test.YtbpanbmjkfhcgaaPg1
import Derived.Test.YtbpanbmjkfhcgaaPg2
import Derived.BigRegion
import Derived.Deep.RegionWith
import Derived.RegionTactic
namespace Go.Proofs.Ytbpanbmjkfhcgaa.P
open Go.RowKit Go.Proofs.YtbpanbmjkfhcgaaW.PrintWords Go.Proofs.YtbpanbmjkfhcgaaW.PrintLast Go.Proofs.YtbpanbmjkfhcgaaW.PrintMore
attribute [local go_sem] max2_int min2_int max_two min_two max_three min_three max_four min_four   -- for this text's walks alone
set_option linter.unusedVariables false
set_option linter.unusedSimpArgs false

/-! ### budget_Step: function 22 -/
-- IMPORT Derived.Deep.RegionWith
-- IMPORT Derived.RegionTactic
-- IMPORT Derived.BigRegion
def budget_Step.f (a0 : Int) (a1 : Int) (a2 : Int) (a3 : Int) : Option (Int × Int) :=
  if ¬ (a1 = 2 ∨ a1 = 4) then some (0, 1) else if a0 < 0 then some (0, 1) else if 1099511627776 < a0 then some (0, 1) else if a2 < 0 then some (0, 1) else if 2 < a2 then some (0, 1) else if a3 < 0 then some (0, 1) else if 3 < a3 then some (0, 1) else (budget_step.f a0 a1 a2 a3).bind fun t => some (t, 0)
theorem look2 (w : World) : ∀ (l : List (Int × Bool × Int)) (n : Nat) (a : Int) (p : Bool), (Instr.lookup 74 (.map (some w.heap.size)) (.agg #[.int .i64 a, .bool p]) true).run Try.prog ((w.alloc (lmap l)).drewN n) = .ok (.tuple #[.int .i64 ((has l a p).getD 0), .bool (has l a p).isSome]) ((w.alloc (lmap l)).drewN n) := fun l n a p =>
  run_lookup_rule (w := (w.alloc (lmap l)).drewN n) (b := w.heap.size) (heap_alloc_new w (lmap l)) a p true
theorem says_some {l : List (Int × Bool × Int)} (hs : Says l) {k : Int} (hk : k = 2 ∨ k = 4) (p : Bool) : (has l k p).isSome = true := by
  rw [hs]
  rcases hk with rfl | rfl <;> rfl
theorem says_none {l : List (Int × Bool × Int)} (hs : Says l) {k : Int} (hk : ¬ (k = 2 ∨ k = 4)) (p : Bool) : (has l k p).isSome = false := by
  rw [hs, if_neg (fun h => hk (.inl h)), if_neg (fun h => hk (.inr h))]
  rfl
set_option maxHeartbeats 8000000 in
set_option maxRecDepth 100000 in
theorem Step_no0 (e k sc s : Int) (w : World) (hk : ¬ (k = 2 ∨ k = 4)) : Calls Try.prog 22 #[.int .i64 e, .int .i64 k, .int .i64 sc, .int .i64 s] w fun e_ w' => e_ = .returned (.tuple #[.int .i64 0, .int .i64 1]) ∧ Below w.heap.size w w' := by
  have hlk := look2 w
  have Hk := Aside0.mk hk
  clear hk
  go_enter Try.func22, Try.ntmps22
  go_wp2_with (go_at_call 47; refine (loses_calls _).mono ?_; rintro e1 w1 ⟨l, rfl, hs, n, rfl⟩; have his := says_none hs Hk.out false)
  go_ret2
  exact ⟨rfl, pw_below_drewN (below_alloc (Below.refl _ _) _) _⟩
set_option maxHeartbeats 8000000 in
set_option maxRecDepth 100000 in
theorem Step_no1 (e k sc s : Int) (w : World) (hk : k = 2 ∨ k = 4) (h1 : decide (e < 0) = true) : Calls Try.prog 22 #[.int .i64 e, .int .i64 k, .int .i64 sc, .int .i64 s] w fun e_ w' => e_ = .returned (.tuple #[.int .i64 0, .int .i64 1]) ∧ Below w.heap.size w w' := by
  have hlk := look2 w
  have Hk := Aside0.mk hk
  clear hk
  go_enter Try.func22, Try.ntmps22
  go_wp2_with (go_at_call 47; refine (loses_calls _).mono ?_; rintro e1 w1 ⟨l, rfl, hs, n, rfl⟩; have his := says_some hs Hk.out false)
  go_ret2
  exact ⟨rfl, pw_below_drewN (below_alloc (Below.refl _ _) _) _⟩
set_option maxHeartbeats 8000000 in
set_option maxRecDepth 100000 in
theorem Step_no2 (e k sc s : Int) (w : World) (hk : k = 2 ∨ k = 4) (h1 : decide (e < 0) = false) (h2 : decide (1099511627776 < e) = true) : Calls Try.prog 22 #[.int .i64 e, .int .i64 k, .int .i64 sc, .int .i64 s] w fun e_ w' => e_ = .returned (.tuple #[.int .i64 0, .int .i64 1]) ∧ Below w.heap.size w w' := by
  have hlk := look2 w
  have Hk := Aside0.mk hk
  clear hk
  go_enter Try.func22, Try.ntmps22
  go_wp2_with (go_at_call 47; refine (loses_calls _).mono ?_; rintro e1 w1 ⟨l, rfl, hs, n, rfl⟩; have his := says_some hs Hk.out false)
  go_ret2
  exact ⟨rfl, pw_below_drewN (below_alloc (Below.refl _ _) _) _⟩
set_option maxHeartbeats 8000000 in
set_option maxRecDepth 100000 in
theorem Step_no3 (e k sc s : Int) (w : World) (hk : k = 2 ∨ k = 4) (h1 : decide (e < 0) = false) (h2 : decide (1099511627776 < e) = false) (h3 : decide (sc < 0) = true) : Calls Try.prog 22 #[.int .i64 e, .int .i64 k, .int .i64 sc, .int .i64 s] w fun e_ w' => e_ = .returned (.tuple #[.int .i64 0, .int .i64 1]) ∧ Below w.heap.size w w' := by
  have hlk := look2 w
  have Hk := Aside0.mk hk
  clear hk
  go_enter Try.func22, Try.ntmps22
  go_wp2_with (go_at_call 47; refine (loses_calls _).mono ?_; rintro e1 w1 ⟨l, rfl, hs, n, rfl⟩; have his := says_some hs Hk.out false)
  go_ret2
  exact ⟨rfl, pw_below_drewN (below_alloc (Below.refl _ _) _) _⟩
set_option maxHeartbeats 8000000 in
set_option maxRecDepth 100000 in
theorem Step_no4 (e k sc s : Int) (w : World) (hk : k = 2 ∨ k = 4) (h1 : decide (e < 0) = false) (h2 : decide (1099511627776 < e) = false) (h3 : decide (sc < 0) = false) (h4 : decide (2 < sc) = true) : Calls Try.prog 22 #[.int .i64 e, .int .i64 k, .int .i64 sc, .int .i64 s] w fun e_ w' => e_ = .returned (.tuple #[.int .i64 0, .int .i64 1]) ∧ Below w.heap.size w w' := by
  have hlk := look2 w
  have Hk := Aside0.mk hk
  clear hk
  go_enter Try.func22, Try.ntmps22
  go_wp2_with (go_at_call 47; refine (loses_calls _).mono ?_; rintro e1 w1 ⟨l, rfl, hs, n, rfl⟩; have his := says_some hs Hk.out false)
  go_ret2
  exact ⟨rfl, pw_below_drewN (below_alloc (Below.refl _ _) _) _⟩
set_option maxHeartbeats 8000000 in
set_option maxRecDepth 100000 in
theorem Step_no5 (e k sc s : Int) (w : World) (hk : k = 2 ∨ k = 4) (h1 : decide (e < 0) = false) (h2 : decide (1099511627776 < e) = false) (h3 : decide (sc < 0) = false) (h4 : decide (2 < sc) = false) (h5 : decide (s < 0) = true) : Calls Try.prog 22 #[.int .i64 e, .int .i64 k, .int .i64 sc, .int .i64 s] w fun e_ w' => e_ = .returned (.tuple #[.int .i64 0, .int .i64 1]) ∧ Below w.heap.size w w' := by
  have hlk := look2 w
  have Hk := Aside0.mk hk
  clear hk
  go_enter Try.func22, Try.ntmps22
  go_wp2_with (go_at_call 47; refine (loses_calls _).mono ?_; rintro e1 w1 ⟨l, rfl, hs, n, rfl⟩; have his := says_some hs Hk.out false)
  go_ret2
  exact ⟨rfl, pw_below_drewN (below_alloc (Below.refl _ _) _) _⟩
set_option maxHeartbeats 8000000 in
set_option maxRecDepth 100000 in
theorem Step_no6 (e k sc s : Int) (w : World) (hk : k = 2 ∨ k = 4) (h1 : decide (e < 0) = false) (h2 : decide (1099511627776 < e) = false) (h3 : decide (sc < 0) = false) (h4 : decide (2 < sc) = false) (h5 : decide (s < 0) = false) (h6 : decide (3 < s) = true) : Calls Try.prog 22 #[.int .i64 e, .int .i64 k, .int .i64 sc, .int .i64 s] w fun e_ w' => e_ = .returned (.tuple #[.int .i64 0, .int .i64 1]) ∧ Below w.heap.size w w' := by
  have hlk := look2 w
  have Hk := Aside0.mk hk
  clear hk
  go_enter Try.func22, Try.ntmps22
  go_wp2_with (go_at_call 47; refine (loses_calls _).mono ?_; rintro e1 w1 ⟨l, rfl, hs, n, rfl⟩; have his := says_some hs Hk.out false)
  go_ret2
  exact ⟨rfl, pw_below_drewN (below_alloc (Below.refl _ _) _) _⟩
set_option maxHeartbeats 8000000 in
set_option maxRecDepth 100000 in
theorem Step_yes (e k sc s r : Int) (w : World) (hk : k = 2 ∨ k = 4) (h1 : decide (e < 0) = false) (h2 : decide (1099511627776 < e) = false) (h3 : decide (sc < 0) = false) (h4 : decide (2 < sc) = false) (h5 : decide (s < 0) = false) (h6 : decide (3 < s) = false) (hr : budget_step.f e k sc s = some r) : Calls Try.prog 22 #[.int .i64 e, .int .i64 k, .int .i64 sc, .int .i64 s] w fun e_ w' => e_ = .returned (.tuple #[.int .i64 r, .int .i64 0]) ∧ Below w.heap.size w w' := by
  have hlk := look2 w
  have Hk := Aside0.mk hk
  clear hk
  have Hr := Aside0.mk hr
  clear hr
  go_enter Try.func22, Try.ntmps22
  go_wp2_with (first | (go_at_call 47; refine (loses_calls _).mono ?_; rintro e1 w1 ⟨l, rfl, hs, n, rfl⟩; have his := says_some hs Hk.out false; clear hs) | (go_at_call 48; refine (budget_step.calls e k sc s r _ Hr.out).mono ?_; rintro e1 w1 ⟨rfl, hb⟩))
  go_ret2
  exact ⟨rfl, below_step (pw_below_drewN (below_alloc (Below.refl _ _) _) _) hb⟩
theorem budget_Step.calls (a0 : Int) (a1 : Int) (a2 : Int) (a3 : Int) (r1 : Int) (r2 : Int) (w : World) (h : budget_Step.f a0 a1 a2 a3 = some (r1, r2)) :
    Calls Try.prog 22 #[.int .i64 a0, .int .i64 a1, .int .i64 a2, .int .i64 a3] w fun e w' => e = .returned (.tuple #[.int .i64 r1, .int .i64 r2]) ∧ Below w.heap.size w w' := by
  unfold budget_Step.f at h
  by_cases hk : a1 = 2 ∨ a1 = 4
  · rw [if_neg (fun z => z hk)] at h
    by_cases c1 : a0 < 0
    · rw [if_pos c1] at h; simp only [Option.some.injEq, Prod.mk.injEq] at h; obtain ⟨rfl, rfl⟩ := h; exact Step_no1 a0 a1 a2 a3 w hk (decide_eq_true c1)
    rw [if_neg c1] at h
    by_cases c2 : 1099511627776 < a0
    · rw [if_pos c2] at h; simp only [Option.some.injEq, Prod.mk.injEq] at h; obtain ⟨rfl, rfl⟩ := h; exact Step_no2 a0 a1 a2 a3 w hk (decide_eq_false c1) (decide_eq_true c2)
    rw [if_neg c2] at h
    by_cases c3 : a2 < 0
    · rw [if_pos c3] at h; simp only [Option.some.injEq, Prod.mk.injEq] at h; obtain ⟨rfl, rfl⟩ := h; exact Step_no3 a0 a1 a2 a3 w hk (decide_eq_false c1) (decide_eq_false c2) (decide_eq_true c3)
    rw [if_neg c3] at h
    by_cases c4 : 2 < a2
    · rw [if_pos c4] at h; simp only [Option.some.injEq, Prod.mk.injEq] at h; obtain ⟨rfl, rfl⟩ := h; exact Step_no4 a0 a1 a2 a3 w hk (decide_eq_false c1) (decide_eq_false c2) (decide_eq_false c3) (decide_eq_true c4)
    rw [if_neg c4] at h
    by_cases c5 : a3 < 0
    · rw [if_pos c5] at h; simp only [Option.some.injEq, Prod.mk.injEq] at h; obtain ⟨rfl, rfl⟩ := h; exact Step_no5 a0 a1 a2 a3 w hk (decide_eq_false c1) (decide_eq_false c2) (decide_eq_false c3) (decide_eq_false c4) (decide_eq_true c5)
    rw [if_neg c5] at h
    by_cases c6 : 3 < a3
    · rw [if_pos c6] at h; simp only [Option.some.injEq, Prod.mk.injEq] at h; obtain ⟨rfl, rfl⟩ := h; exact Step_no6 a0 a1 a2 a3 w hk (decide_eq_false c1) (decide_eq_false c2) (decide_eq_false c3) (decide_eq_false c4) (decide_eq_false c5) (decide_eq_true c6)
    rw [if_neg c6] at h
    obtain ⟨t, ht, h⟩ := Option.bind_eq_some_iff.1 h
    simp only [Option.some.injEq, Prod.mk.injEq] at h
    obtain ⟨rfl, rfl⟩ := h
    exact Step_yes a0 a1 a2 a3 _ w hk (decide_eq_false c1) (decide_eq_false c2) (decide_eq_false c3) (decide_eq_false c4) (decide_eq_false c5) (decide_eq_false c6) ht
  · rw [if_pos hk] at h; simp only [Option.some.injEq, Prod.mk.injEq] at h; obtain ⟨rfl, rfl⟩ := h; exact Step_no0 a0 a1 a2 a3 w hk

/-! ### budget_Start: function 23 -/
def budget_Start.f (a0_0 : Int) (a0_1 : Int) (a0_2 : Int) (a0_3 : Int) (a0_4 : Int) (a0_5 : Bool) : Option (Int × Int) := (plan_Check.f a0_0 a0_1 a0_2 a0_3 a0_4 a0_5).bind fun t204 => (if t204 = 0 then (if a0_3 = 0 then (some (91, 0)) else (some (0, 0))) else (some (0, t204)))
set_option maxHeartbeats 8000000 in
set_option maxRecDepth 100000 in
theorem budget_Start.calls (a0_0 : Int) (a0_1 : Int) (a0_2 : Int) (a0_3 : Int) (a0_4 : Int) (a0_5 : Bool) (r1 : Int) (r2 : Int) (w : World) (h : budget_Start.f a0_0 a0_1 a0_2 a0_3 a0_4 a0_5 = some (r1, r2)) :
    Calls Try.prog 23 #[.agg #[.int .i64 a0_0, .int .i64 a0_1, .int .i64 a0_2, .int .i64 a0_3, .int .i64 a0_4, .bool a0_5]] w fun e w' => e = .returned (.tuple #[.int .i64 r1, .int .i64 r2]) ∧ Below w.heap.size w w' := by
  have hu23 := Try.underlying23
  have HB := Aside0.mk (Below.refl w.heap.size w)
  have H : ((plan_Check.f a0_0 a0_1 a0_2 a0_3 a0_4 a0_5).bind fun t204 => (if t204 = 0 then (if a0_3 = 0 then (some (91, 0)) else (some (0, 0))) else (some (0, t204)))) = some (r1, r2) := h
  clear h
  replace H := Option.bind_eq_some_iff.mp H
  obtain ⟨t204, A20, H⟩ := H
  replace H : (if t204 = 0 then (if a0_3 = 0 then (some (91, 0)) else (some (0, 0))) else (some (0, t204))) = some (r1, r2) := H
  have A2 := Aside0.mk A20
  clear A20
  by_cases c3 : t204 = 0
  · rw [if_pos c3] at H
    have c3b0 : (t204 == 0) = true := beq_iff_eq.mpr c3
    have c3b1 : (t204 != 0) = false := bne_eq_false_iff_eq.mpr c3
    clear c3
    by_cases c4 : a0_3 = 0
    · rw [if_pos c4] at H
      have c4b0 : (a0_3 == 0) = true := beq_iff_eq.mpr c4
      have c4b1 : (a0_3 != 0) = false := bne_eq_false_iff_eq.mpr c4
      clear c4
      simp only [Option.some.injEq, Prod.mk.injEq] at H
      obtain ⟨rfl, rfl⟩ := H
      go_enter Try.func23, Try.ntmps23
      go_wp2_with (first | ((with_reducible refine gate_dst (N := 1) rfl ?_); refine box_event ?hg (N := 1) ?hd (cs := #[.int .i64 a0_0, .int .i64 a0_1, .int .i64 a0_2, .int .i64 a0_3, .int .i64 a0_4, .bool a0_5]) (t := 23) ?hr ?_; (case hd => rfl); (case hg => rfl); (case hr => first | (go_simp; done) | (go_simp; rfl)); intro gb203 hg w5 hbox hb; have n0_ := Aside0.mk (below_step (by repeat (first | (with_reducible first | exact HB.out | apply below_alloc | apply pw_below_drewN | apply below_drew1) | exact HB.out)) hb); have n1_ := Aside0.mk (hbox); have n2_ := Aside0.mk ((by rw [hg]; exact (below_size (by repeat (first | (with_reducible first | exact HB.out | apply below_alloc | apply pw_below_drewN | apply below_drew1) | exact HB.out))) : w.heap.size ≤ gb203)); have n3_ := Aside0.mk ((by rw [hg]; exact (below_size (by repeat (first | (with_reducible first | exact HB.out | apply below_alloc | apply pw_below_drewN | apply below_drew1) | exact HB.out))) : w.heap.size ≤ gb203)); clear HB; have HB := n0_; have BK203 := n1_; have GW203 := n2_; have GE203 := n3_; clear n0_ n1_ n2_ n3_; clear hb hbox hg; have hcz6_0 : w5.cell? ⟨gb203, 0, none⟩ = some (.int .i64 a0_0) := (blk_cell BK203.out 0).trans rfl; have hcz6_1 : w5.cell? ⟨gb203, 1, none⟩ = some (.int .i64 a0_1) := (blk_cell BK203.out 1).trans rfl; have hcz6_2 : w5.cell? ⟨gb203, 2, none⟩ = some (.int .i64 a0_2) := (blk_cell BK203.out 2).trans rfl; have hcz6_3 : w5.cell? ⟨gb203, 3, none⟩ = some (.int .i64 a0_3) := (blk_cell BK203.out 3).trans rfl; have hcz6_4 : w5.cell? ⟨gb203, 4, none⟩ = some (.int .i64 a0_4) := (blk_cell BK203.out 4).trans rfl; have hcz6_5 : w5.cell? ⟨gb203, 5, none⟩ = some (.bool a0_5) := (blk_cell BK203.out 5).trans rfl; have hfz6_0 := blk_frozen BK203.out 0; have hfz6_1 := blk_frozen BK203.out 1; have hfz6_2 := blk_frozen BK203.out 2; have hfz6_3 := blk_frozen BK203.out 3; have hfz6_4 := blk_frozen BK203.out 4; have hfz6_5 := blk_frozen BK203.out 5) | ((with_reducible refine gate_callee (f := 16) rfl ?_); refine goesL_ (some 6) rfl rfl Try.func16 (by kernel_rfl) rfl #[.agg #[.int .i64 a0_0, .int .i64 a0_1, .int .i64 a0_2, .int .i64 a0_3, .int .i64 a0_4, .bool a0_5]] rfl (by (try simp only [List.map_toArray, List.map_cons, List.map_nil]); first | done | rfl | (simp only [List.length_drop, List.length_take]; rfl)) ?_; (with_reducible refine (plan_Check.calls a0_0 a0_1 a0_2 a0_3 a0_4 a0_5 t204 _ A2.out).mono ?_); rintro e w7 ⟨rfl, hb⟩; refine ⟨_, rfl, ?_⟩; have n0_ := Aside0.mk (blk_below (g := gb203) (o := .cells #[.int .i64 a0_0, .int .i64 a0_1, .int .i64 a0_2, .int .i64 a0_3, .int .i64 a0_4, .bool a0_5] 23 (0, 0)) (by (with_reducible repeat (first | refine blk_drewN ?_ _ | refine blk_drew ?_ | refine blk_alloc ?_ _)); exact BK203.out) hb); have n1_ := Aside0.mk (below_step (by repeat (first | (with_reducible first | exact HB.out | apply below_alloc | apply pw_below_drewN | apply below_drew1 | refine below_set ?_ GE203.out) | exact HB.out)) hb); clear BK203; clear HB; have BK203 := n0_; have HB := n1_; clear n0_ n1_; (try clear hb); (try clear hb2); (try clear hk); (try clear hi); have hcz8_0 : w7.cell? ⟨gb203, 0, none⟩ = some (.int .i64 a0_0) := (blk_cell BK203.out 0).trans rfl; have hcz8_1 : w7.cell? ⟨gb203, 1, none⟩ = some (.int .i64 a0_1) := (blk_cell BK203.out 1).trans rfl; have hcz8_2 : w7.cell? ⟨gb203, 2, none⟩ = some (.int .i64 a0_2) := (blk_cell BK203.out 2).trans rfl; have hcz8_3 : w7.cell? ⟨gb203, 3, none⟩ = some (.int .i64 a0_3) := (blk_cell BK203.out 3).trans rfl; have hcz8_4 : w7.cell? ⟨gb203, 4, none⟩ = some (.int .i64 a0_4) := (blk_cell BK203.out 4).trans rfl; have hcz8_5 : w7.cell? ⟨gb203, 5, none⟩ = some (.bool a0_5) := (blk_cell BK203.out 5).trans rfl; have hfz8_0 := blk_frozen BK203.out 0; have hfz8_1 := blk_frozen BK203.out 1; have hfz8_2 := blk_frozen BK203.out 2; have hfz8_3 := blk_frozen BK203.out 3; have hfz8_4 := blk_frozen BK203.out 4; have hfz8_5 := blk_frozen BK203.out 5))
      go_ret2
      exact ⟨by first | rfl | (simp [errW_none, errW_some] <;> rfl) | (simp [*, errW_none, errW_some] <;> rfl), by repeat (first | (with_reducible first | exact HB.out | apply below_alloc | apply pw_below_drewN | apply below_drew1 | refine below_set ?_ GE203.out) | exact HB.out)⟩
    · rw [if_neg c4] at H
      have c4b0 : (a0_3 == 0) = false := beq_eq_false_iff_ne.mpr c4
      have c4b1 : (a0_3 != 0) = true := bne_iff_ne.mpr c4
      simp only [Option.some.injEq, Prod.mk.injEq] at H
      obtain ⟨rfl, rfl⟩ := H
      go_enter Try.func23, Try.ntmps23
      go_wp2_with (first | ((with_reducible refine gate_dst (N := 1) rfl ?_); refine box_event ?hg (N := 1) ?hd (cs := #[.int .i64 a0_0, .int .i64 a0_1, .int .i64 a0_2, .int .i64 a0_3, .int .i64 a0_4, .bool a0_5]) (t := 23) ?hr ?_; (case hd => rfl); (case hg => rfl); (case hr => first | (go_simp; done) | (go_simp; rfl)); intro gb203 hg w9 hbox hb; have n0_ := Aside0.mk (below_step (by repeat (first | (with_reducible first | exact HB.out | apply below_alloc | apply pw_below_drewN | apply below_drew1) | exact HB.out)) hb); have n1_ := Aside0.mk (hbox); have n2_ := Aside0.mk ((by rw [hg]; exact (below_size (by repeat (first | (with_reducible first | exact HB.out | apply below_alloc | apply pw_below_drewN | apply below_drew1) | exact HB.out))) : w.heap.size ≤ gb203)); have n3_ := Aside0.mk ((by rw [hg]; exact (below_size (by repeat (first | (with_reducible first | exact HB.out | apply below_alloc | apply pw_below_drewN | apply below_drew1) | exact HB.out))) : w.heap.size ≤ gb203)); clear HB; have HB := n0_; have BK203 := n1_; have GW203 := n2_; have GE203 := n3_; clear n0_ n1_ n2_ n3_; clear hb hbox hg; have hcz10_0 : w9.cell? ⟨gb203, 0, none⟩ = some (.int .i64 a0_0) := (blk_cell BK203.out 0).trans rfl; have hcz10_1 : w9.cell? ⟨gb203, 1, none⟩ = some (.int .i64 a0_1) := (blk_cell BK203.out 1).trans rfl; have hcz10_2 : w9.cell? ⟨gb203, 2, none⟩ = some (.int .i64 a0_2) := (blk_cell BK203.out 2).trans rfl; have hcz10_3 : w9.cell? ⟨gb203, 3, none⟩ = some (.int .i64 a0_3) := (blk_cell BK203.out 3).trans rfl; have hcz10_4 : w9.cell? ⟨gb203, 4, none⟩ = some (.int .i64 a0_4) := (blk_cell BK203.out 4).trans rfl; have hcz10_5 : w9.cell? ⟨gb203, 5, none⟩ = some (.bool a0_5) := (blk_cell BK203.out 5).trans rfl; have hfz10_0 := blk_frozen BK203.out 0; have hfz10_1 := blk_frozen BK203.out 1; have hfz10_2 := blk_frozen BK203.out 2; have hfz10_3 := blk_frozen BK203.out 3; have hfz10_4 := blk_frozen BK203.out 4; have hfz10_5 := blk_frozen BK203.out 5) | ((with_reducible refine gate_callee (f := 16) rfl ?_); refine goesL_ (some 6) rfl rfl Try.func16 (by kernel_rfl) rfl #[.agg #[.int .i64 a0_0, .int .i64 a0_1, .int .i64 a0_2, .int .i64 a0_3, .int .i64 a0_4, .bool a0_5]] rfl (by (try simp only [List.map_toArray, List.map_cons, List.map_nil]); first | done | rfl | (simp only [List.length_drop, List.length_take]; rfl)) ?_; (with_reducible refine (plan_Check.calls a0_0 a0_1 a0_2 a0_3 a0_4 a0_5 t204 _ A2.out).mono ?_); rintro e w11 ⟨rfl, hb⟩; refine ⟨_, rfl, ?_⟩; have n0_ := Aside0.mk (blk_below (g := gb203) (o := .cells #[.int .i64 a0_0, .int .i64 a0_1, .int .i64 a0_2, .int .i64 a0_3, .int .i64 a0_4, .bool a0_5] 23 (0, 0)) (by (with_reducible repeat (first | refine blk_drewN ?_ _ | refine blk_drew ?_ | refine blk_alloc ?_ _)); exact BK203.out) hb); have n1_ := Aside0.mk (below_step (by repeat (first | (with_reducible first | exact HB.out | apply below_alloc | apply pw_below_drewN | apply below_drew1 | refine below_set ?_ GE203.out) | exact HB.out)) hb); clear BK203; clear HB; have BK203 := n0_; have HB := n1_; clear n0_ n1_; (try clear hb); (try clear hb2); (try clear hk); (try clear hi); have hcz12_0 : w11.cell? ⟨gb203, 0, none⟩ = some (.int .i64 a0_0) := (blk_cell BK203.out 0).trans rfl; have hcz12_1 : w11.cell? ⟨gb203, 1, none⟩ = some (.int .i64 a0_1) := (blk_cell BK203.out 1).trans rfl; have hcz12_2 : w11.cell? ⟨gb203, 2, none⟩ = some (.int .i64 a0_2) := (blk_cell BK203.out 2).trans rfl; have hcz12_3 : w11.cell? ⟨gb203, 3, none⟩ = some (.int .i64 a0_3) := (blk_cell BK203.out 3).trans rfl; have hcz12_4 : w11.cell? ⟨gb203, 4, none⟩ = some (.int .i64 a0_4) := (blk_cell BK203.out 4).trans rfl; have hcz12_5 : w11.cell? ⟨gb203, 5, none⟩ = some (.bool a0_5) := (blk_cell BK203.out 5).trans rfl; have hfz12_0 := blk_frozen BK203.out 0; have hfz12_1 := blk_frozen BK203.out 1; have hfz12_2 := blk_frozen BK203.out 2; have hfz12_3 := blk_frozen BK203.out 3; have hfz12_4 := blk_frozen BK203.out 4; have hfz12_5 := blk_frozen BK203.out 5))
      go_ret2
      exact ⟨by first | rfl | (simp [errW_none, errW_some] <;> rfl) | (simp [*, errW_none, errW_some] <;> rfl), by repeat (first | (with_reducible first | exact HB.out | apply below_alloc | apply pw_below_drewN | apply below_drew1 | refine below_set ?_ GE203.out) | exact HB.out)⟩
  · rw [if_neg c3] at H
    have c3b0 : (t204 == 0) = false := beq_eq_false_iff_ne.mpr c3
    have c3b1 : (t204 != 0) = true := bne_iff_ne.mpr c3
    simp only [Option.some.injEq, Prod.mk.injEq] at H
    obtain ⟨rfl, rfl⟩ := H
    go_enter Try.func23, Try.ntmps23
    go_wp2_with (first | ((with_reducible refine gate_dst (N := 1) rfl ?_); refine box_event ?hg (N := 1) ?hd (cs := #[.int .i64 a0_0, .int .i64 a0_1, .int .i64 a0_2, .int .i64 a0_3, .int .i64 a0_4, .bool a0_5]) (t := 23) ?hr ?_; (case hd => rfl); (case hg => rfl); (case hr => first | (go_simp; done) | (go_simp; rfl)); intro gb203 hg w13 hbox hb; have n0_ := Aside0.mk (below_step (by repeat (first | (with_reducible first | exact HB.out | apply below_alloc | apply pw_below_drewN | apply below_drew1) | exact HB.out)) hb); have n1_ := Aside0.mk (hbox); have n2_ := Aside0.mk ((by rw [hg]; exact (below_size (by repeat (first | (with_reducible first | exact HB.out | apply below_alloc | apply pw_below_drewN | apply below_drew1) | exact HB.out))) : w.heap.size ≤ gb203)); have n3_ := Aside0.mk ((by rw [hg]; exact (below_size (by repeat (first | (with_reducible first | exact HB.out | apply below_alloc | apply pw_below_drewN | apply below_drew1) | exact HB.out))) : w.heap.size ≤ gb203)); clear HB; have HB := n0_; have BK203 := n1_; have GW203 := n2_; have GE203 := n3_; clear n0_ n1_ n2_ n3_; clear hb hbox hg; have hcz14_0 : w13.cell? ⟨gb203, 0, none⟩ = some (.int .i64 a0_0) := (blk_cell BK203.out 0).trans rfl; have hcz14_1 : w13.cell? ⟨gb203, 1, none⟩ = some (.int .i64 a0_1) := (blk_cell BK203.out 1).trans rfl; have hcz14_2 : w13.cell? ⟨gb203, 2, none⟩ = some (.int .i64 a0_2) := (blk_cell BK203.out 2).trans rfl; have hcz14_3 : w13.cell? ⟨gb203, 3, none⟩ = some (.int .i64 a0_3) := (blk_cell BK203.out 3).trans rfl; have hcz14_4 : w13.cell? ⟨gb203, 4, none⟩ = some (.int .i64 a0_4) := (blk_cell BK203.out 4).trans rfl; have hcz14_5 : w13.cell? ⟨gb203, 5, none⟩ = some (.bool a0_5) := (blk_cell BK203.out 5).trans rfl; have hfz14_0 := blk_frozen BK203.out 0; have hfz14_1 := blk_frozen BK203.out 1; have hfz14_2 := blk_frozen BK203.out 2; have hfz14_3 := blk_frozen BK203.out 3; have hfz14_4 := blk_frozen BK203.out 4; have hfz14_5 := blk_frozen BK203.out 5) | ((with_reducible refine gate_callee (f := 16) rfl ?_); refine goesL_ (some 6) rfl rfl Try.func16 (by kernel_rfl) rfl #[.agg #[.int .i64 a0_0, .int .i64 a0_1, .int .i64 a0_2, .int .i64 a0_3, .int .i64 a0_4, .bool a0_5]] rfl (by (try simp only [List.map_toArray, List.map_cons, List.map_nil]); first | done | rfl | (simp only [List.length_drop, List.length_take]; rfl)) ?_; (with_reducible refine (plan_Check.calls a0_0 a0_1 a0_2 a0_3 a0_4 a0_5 t204 _ A2.out).mono ?_); rintro e w15 ⟨rfl, hb⟩; refine ⟨_, rfl, ?_⟩; have n0_ := Aside0.mk (blk_below (g := gb203) (o := .cells #[.int .i64 a0_0, .int .i64 a0_1, .int .i64 a0_2, .int .i64 a0_3, .int .i64 a0_4, .bool a0_5] 23 (0, 0)) (by (with_reducible repeat (first | refine blk_drewN ?_ _ | refine blk_drew ?_ | refine blk_alloc ?_ _)); exact BK203.out) hb); have n1_ := Aside0.mk (below_step (by repeat (first | (with_reducible first | exact HB.out | apply below_alloc | apply pw_below_drewN | apply below_drew1 | refine below_set ?_ GE203.out) | exact HB.out)) hb); clear BK203; clear HB; have BK203 := n0_; have HB := n1_; clear n0_ n1_; (try clear hb); (try clear hb2); (try clear hk); (try clear hi)))
    go_ret2
    exact ⟨by first | rfl | (simp [errW_none, errW_some] <;> rfl) | (simp [*, errW_none, errW_some] <;> rfl), by repeat (first | (with_reducible first | exact HB.out | apply below_alloc | apply pw_below_drewN | apply below_drew1 | refine below_set ?_ GE203.out) | exact HB.out)⟩

/-! ### headroomref14_up: function 49 -/
def headroomref14_up.f (k : Nat) (a0 : Int) (a1 : Int) : Option (Int) := (headroomref01_Floor.f k (wrap64 (-a0)) a1).bind fun t214 => (some (wrap64 (-t214)))
theorem headroomref14_up.mono : ∀ a0 a1 k, LeO (headroomref14_up.f k a0 a1) (headroomref14_up.f (k + 1) a0 a1) := by
  intro a0 a1 k
  unfold headroomref14_up.f
  repeat' first
      | (with_reducible exact headroomref01_Floor.mono _ _ _)
      | (with_reducible exact LeO.refl _)
      | (with_reducible exact LeO.none _)
      | (with_reducible refine LeO.ite ?_ ?_)
      | (with_reducible refine LeO.bind ?_ (fun _ => ?_))
      | exact headroomref01_Floor.mono _ _ _
      | exact LeO.none _
      | refine LeO.ite ?_ ?_
      | refine LeO.bind ?_ (fun _ => ?_)
set_option maxHeartbeats 8000000 in
set_option maxRecDepth 100000 in
theorem headroomref14_up.calls (k : Nat) (a0 : Int) (a1 : Int) (r : Int) (w : World) (h : headroomref14_up.f k a0 a1 = some r) :
    Calls Try.prog 49 #[.int .i64 a0, .int .i64 a1] w fun e w' => e = .returned (.int .i64 r) ∧ Drawn0 w w' := by
  have H : ((headroomref01_Floor.f k (wrap64 (-a0)) a1).bind fun t214 => (some (wrap64 (-t214)))) = some r := h
  clear h
  replace H := Option.bind_eq_some_iff.mp H
  obtain ⟨t214, A30, H⟩ := H
  replace H : (some (wrap64 (-t214))) = some r := H
  have A3 := Aside0.mk A30
  clear A30
  obtain rfl := Option.some.inj H
  go_enter Try.func49, Try.ntmps49
  go_wp2_with (first | ((with_reducible refine gate_callee (f := 56) rfl ?_); refine goesL_ (some 8) rfl rfl Try.func56 (by kernel_rfl) rfl #[.int .i64 (wrap64 (-a0)), .int .i64 a1] rfl (by (try simp only [List.map_toArray, List.map_cons, List.map_nil]); first | done | rfl | (simp only [List.length_drop, List.length_take]; rfl)) ?_; (with_reducible refine (headroomref01_Floor.calls k (wrap64 (-a0)) a1 t214 _ A3.out).mono ?_); rintro e w' ⟨rfl, ⟨nd, rfl⟩⟩; refine ⟨_, rfl, ?_⟩))
  go_ret
  exact ⟨by first | rfl | (simp; done) | (simp [*]; done), by repeat (first | exact Drawn0.refl _ | apply Drawn0.step)⟩

end Go.Proofs.Ytbpanbmjkfhcgaa.P
