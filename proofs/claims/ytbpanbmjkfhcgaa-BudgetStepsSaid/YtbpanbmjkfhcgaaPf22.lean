-- Printed for this claim by drive.py (a program of this session's) through the kit's print program; not trusted: Lean checks it.
import Derived.Test.YtbpanbmjkfhcgaaP0
import Derived.Test.YtbpanbmjkfhcgaaPf47
import Derived.Test.YtbpanbmjkfhcgaaPf48
import Derived.BigRegion
import Derived.Deep.RegionWith
import Derived.RegionTactic
namespace Go.Proofs.Ytbpanbmjkfhcgaa.P
open Go.RowKit Go.Proofs.YtbpanbmjkfhcgaaW.PrintWords Go.Proofs.YtbpanbmjkfhcgaaW.PrintLast Go.Proofs.YtbpanbmjkfhcgaaW.PrintMore
attribute [local go_sem] max2_int min2_int max_two min_two max_three min_three max_four min_four   -- for this text's walks alone
set_option linter.unusedVariables false
set_option linter.unusedSimpArgs false

/-! ### budget_Step: function 22 -/
-- IMPORT Derived.Deep.RegionWith
-- IMPORT Derived.RegionTactic
-- IMPORT Derived.BigRegion
def budget_Step.f (a0 : Int) (a1 : Int) (a2 : Int) (a3 : Int) : Option (Int × Int) :=
  if ¬ (a1 = 2 ∨ a1 = 4) then some (0, 1) else if a0 < 0 then some (0, 1) else if 1099511627776 < a0 then some (0, 1) else if a2 < 0 then some (0, 1) else if 2 < a2 then some (0, 1) else if a3 < 0 then some (0, 1) else if 3 < a3 then some (0, 1) else (budget_step.f a0 a1 a2 a3).bind fun t => some (t, 0)
theorem look2 (w : World) : ∀ (l : List (Int × Bool × Int)) (n : Nat) (a : Int) (p : Bool), (Instr.lookup 74 (.map (some w.heap.size)) (.agg #[.int .i64 a, .bool p]) true).run Try.prog ((w.alloc (lmap l)).drewN n) = .ok (.tuple #[.int .i64 ((has l a p).getD 0), .bool (has l a p).isSome]) ((w.alloc (lmap l)).drewN n) := fun l n a p =>
  run_lookup_rule (w := (w.alloc (lmap l)).drewN n) (b := w.heap.size) (heap_alloc_new w (lmap l)) a p true
theorem says_some {l : List (Int × Bool × Int)} (hs : Says l) {k : Int} (hk : k = 2 ∨ k = 4) (p : Bool) : (has l k p).isSome = true := by
  rw [hs]
  rcases hk with rfl | rfl <;> rfl
theorem says_none {l : List (Int × Bool × Int)} (hs : Says l) {k : Int} (hk : ¬ (k = 2 ∨ k = 4)) (p : Bool) : (has l k p).isSome = false := by
  rw [hs, if_neg (fun h => hk (.inl h)), if_neg (fun h => hk (.inr h))]
  rfl
set_option maxHeartbeats 8000000 in
set_option maxRecDepth 100000 in
theorem Step_no0 (e k sc s : Int) (w : World) (hk : ¬ (k = 2 ∨ k = 4)) : Calls Try.prog 22 #[.int .i64 e, .int .i64 k, .int .i64 sc, .int .i64 s] w fun e_ w' => e_ = .returned (.tuple #[.int .i64 0, .int .i64 1]) ∧ Below w.heap.size w w' := by
  have hlk := look2 w
  have Hk := Aside0.mk hk
  clear hk
  go_enter Try.func22, Try.ntmps22
  go_wp2_with (go_at_call 47; refine (loses_calls _).mono ?_; rintro e1 w1 ⟨l, rfl, hs, n, rfl⟩; have his := says_none hs Hk.out false)
  go_ret2
  exact ⟨rfl, pw_below_drewN (below_alloc (Below.refl _ _) _) _⟩
set_option maxHeartbeats 8000000 in
set_option maxRecDepth 100000 in
theorem Step_no1 (e k sc s : Int) (w : World) (hk : k = 2 ∨ k = 4) (h1 : decide (e < 0) = true) : Calls Try.prog 22 #[.int .i64 e, .int .i64 k, .int .i64 sc, .int .i64 s] w fun e_ w' => e_ = .returned (.tuple #[.int .i64 0, .int .i64 1]) ∧ Below w.heap.size w w' := by
  have hlk := look2 w
  have Hk := Aside0.mk hk
  clear hk
  go_enter Try.func22, Try.ntmps22
  go_wp2_with (go_at_call 47; refine (loses_calls _).mono ?_; rintro e1 w1 ⟨l, rfl, hs, n, rfl⟩; have his := says_some hs Hk.out false)
  go_ret2
  exact ⟨rfl, pw_below_drewN (below_alloc (Below.refl _ _) _) _⟩
set_option maxHeartbeats 8000000 in
set_option maxRecDepth 100000 in
theorem Step_no2 (e k sc s : Int) (w : World) (hk : k = 2 ∨ k = 4) (h1 : decide (e < 0) = false) (h2 : decide (1099511627776 < e) = true) : Calls Try.prog 22 #[.int .i64 e, .int .i64 k, .int .i64 sc, .int .i64 s] w fun e_ w' => e_ = .returned (.tuple #[.int .i64 0, .int .i64 1]) ∧ Below w.heap.size w w' := by
  have hlk := look2 w
  have Hk := Aside0.mk hk
  clear hk
  go_enter Try.func22, Try.ntmps22
  go_wp2_with (go_at_call 47; refine (loses_calls _).mono ?_; rintro e1 w1 ⟨l, rfl, hs, n, rfl⟩; have his := says_some hs Hk.out false)
  go_ret2
  exact ⟨rfl, pw_below_drewN (below_alloc (Below.refl _ _) _) _⟩
set_option maxHeartbeats 8000000 in
set_option maxRecDepth 100000 in
theorem Step_no3 (e k sc s : Int) (w : World) (hk : k = 2 ∨ k = 4) (h1 : decide (e < 0) = false) (h2 : decide (1099511627776 < e) = false) (h3 : decide (sc < 0) = true) : Calls Try.prog 22 #[.int .i64 e, .int .i64 k, .int .i64 sc, .int .i64 s] w fun e_ w' => e_ = .returned (.tuple #[.int .i64 0, .int .i64 1]) ∧ Below w.heap.size w w' := by
  have hlk := look2 w
  have Hk := Aside0.mk hk
  clear hk
  go_enter Try.func22, Try.ntmps22
  go_wp2_with (go_at_call 47; refine (loses_calls _).mono ?_; rintro e1 w1 ⟨l, rfl, hs, n, rfl⟩; have his := says_some hs Hk.out false)
  go_ret2
  exact ⟨rfl, pw_below_drewN (below_alloc (Below.refl _ _) _) _⟩
set_option maxHeartbeats 8000000 in
set_option maxRecDepth 100000 in
theorem Step_no4 (e k sc s : Int) (w : World) (hk : k = 2 ∨ k = 4) (h1 : decide (e < 0) = false) (h2 : decide (1099511627776 < e) = false) (h3 : decide (sc < 0) = false) (h4 : decide (2 < sc) = true) : Calls Try.prog 22 #[.int .i64 e, .int .i64 k, .int .i64 sc, .int .i64 s] w fun e_ w' => e_ = .returned (.tuple #[.int .i64 0, .int .i64 1]) ∧ Below w.heap.size w w' := by
  have hlk := look2 w
  have Hk := Aside0.mk hk
  clear hk
  go_enter Try.func22, Try.ntmps22
  go_wp2_with (go_at_call 47; refine (loses_calls _).mono ?_; rintro e1 w1 ⟨l, rfl, hs, n, rfl⟩; have his := says_some hs Hk.out false)
  go_ret2
  exact ⟨rfl, pw_below_drewN (below_alloc (Below.refl _ _) _) _⟩
set_option maxHeartbeats 8000000 in
set_option maxRecDepth 100000 in
theorem Step_no5 (e k sc s : Int) (w : World) (hk : k = 2 ∨ k = 4) (h1 : decide (e < 0) = false) (h2 : decide (1099511627776 < e) = false) (h3 : decide (sc < 0) = false) (h4 : decide (2 < sc) = false) (h5 : decide (s < 0) = true) : Calls Try.prog 22 #[.int .i64 e, .int .i64 k, .int .i64 sc, .int .i64 s] w fun e_ w' => e_ = .returned (.tuple #[.int .i64 0, .int .i64 1]) ∧ Below w.heap.size w w' := by
  have hlk := look2 w
  have Hk := Aside0.mk hk
  clear hk
  go_enter Try.func22, Try.ntmps22
  go_wp2_with (go_at_call 47; refine (loses_calls _).mono ?_; rintro e1 w1 ⟨l, rfl, hs, n, rfl⟩; have his := says_some hs Hk.out false)
  go_ret2
  exact ⟨rfl, pw_below_drewN (below_alloc (Below.refl _ _) _) _⟩
set_option maxHeartbeats 8000000 in
set_option maxRecDepth 100000 in
theorem Step_no6 (e k sc s : Int) (w : World) (hk : k = 2 ∨ k = 4) (h1 : decide (e < 0) = false) (h2 : decide (1099511627776 < e) = false) (h3 : decide (sc < 0) = false) (h4 : decide (2 < sc) = false) (h5 : decide (s < 0) = false) (h6 : decide (3 < s) = true) : Calls Try.prog 22 #[.int .i64 e, .int .i64 k, .int .i64 sc, .int .i64 s] w fun e_ w' => e_ = .returned (.tuple #[.int .i64 0, .int .i64 1]) ∧ Below w.heap.size w w' := by
  have hlk := look2 w
  have Hk := Aside0.mk hk
  clear hk
  go_enter Try.func22, Try.ntmps22
  go_wp2_with (go_at_call 47; refine (loses_calls _).mono ?_; rintro e1 w1 ⟨l, rfl, hs, n, rfl⟩; have his := says_some hs Hk.out false)
  go_ret2
  exact ⟨rfl, pw_below_drewN (below_alloc (Below.refl _ _) _) _⟩
set_option maxHeartbeats 8000000 in
set_option maxRecDepth 100000 in
theorem Step_yes (e k sc s r : Int) (w : World) (hk : k = 2 ∨ k = 4) (h1 : decide (e < 0) = false) (h2 : decide (1099511627776 < e) = false) (h3 : decide (sc < 0) = false) (h4 : decide (2 < sc) = false) (h5 : decide (s < 0) = false) (h6 : decide (3 < s) = false) (hr : budget_step.f e k sc s = some r) : Calls Try.prog 22 #[.int .i64 e, .int .i64 k, .int .i64 sc, .int .i64 s] w fun e_ w' => e_ = .returned (.tuple #[.int .i64 r, .int .i64 0]) ∧ Below w.heap.size w w' := by
  have hlk := look2 w
  have Hk := Aside0.mk hk
  clear hk
  have Hr := Aside0.mk hr
  clear hr
  go_enter Try.func22, Try.ntmps22
  go_wp2_with (first | (go_at_call 47; refine (loses_calls _).mono ?_; rintro e1 w1 ⟨l, rfl, hs, n, rfl⟩; have his := says_some hs Hk.out false; clear hs) | (go_at_call 48; refine (budget_step.calls e k sc s r _ Hr.out).mono ?_; rintro e1 w1 ⟨rfl, hb⟩))
  go_ret2
  exact ⟨rfl, below_step (pw_below_drewN (below_alloc (Below.refl _ _) _) _) hb⟩
theorem budget_Step.calls (a0 : Int) (a1 : Int) (a2 : Int) (a3 : Int) (r1 : Int) (r2 : Int) (w : World) (h : budget_Step.f a0 a1 a2 a3 = some (r1, r2)) :
    Calls Try.prog 22 #[.int .i64 a0, .int .i64 a1, .int .i64 a2, .int .i64 a3] w fun e w' => e = .returned (.tuple #[.int .i64 r1, .int .i64 r2]) ∧ Below w.heap.size w w' := by
  unfold budget_Step.f at h
  by_cases hk : a1 = 2 ∨ a1 = 4
  · rw [if_neg (fun z => z hk)] at h
    by_cases c1 : a0 < 0
    · rw [if_pos c1] at h; simp only [Option.some.injEq, Prod.mk.injEq] at h; obtain ⟨rfl, rfl⟩ := h; exact Step_no1 a0 a1 a2 a3 w hk (decide_eq_true c1)
    rw [if_neg c1] at h
    by_cases c2 : 1099511627776 < a0
    · rw [if_pos c2] at h; simp only [Option.some.injEq, Prod.mk.injEq] at h; obtain ⟨rfl, rfl⟩ := h; exact Step_no2 a0 a1 a2 a3 w hk (decide_eq_false c1) (decide_eq_true c2)
    rw [if_neg c2] at h
    by_cases c3 : a2 < 0
    · rw [if_pos c3] at h; simp only [Option.some.injEq, Prod.mk.injEq] at h; obtain ⟨rfl, rfl⟩ := h; exact Step_no3 a0 a1 a2 a3 w hk (decide_eq_false c1) (decide_eq_false c2) (decide_eq_true c3)
    rw [if_neg c3] at h
    by_cases c4 : 2 < a2
    · rw [if_pos c4] at h; simp only [Option.some.injEq, Prod.mk.injEq] at h; obtain ⟨rfl, rfl⟩ := h; exact Step_no4 a0 a1 a2 a3 w hk (decide_eq_false c1) (decide_eq_false c2) (decide_eq_false c3) (decide_eq_true c4)
    rw [if_neg c4] at h
    by_cases c5 : a3 < 0
    · rw [if_pos c5] at h; simp only [Option.some.injEq, Prod.mk.injEq] at h; obtain ⟨rfl, rfl⟩ := h; exact Step_no5 a0 a1 a2 a3 w hk (decide_eq_false c1) (decide_eq_false c2) (decide_eq_false c3) (decide_eq_false c4) (decide_eq_true c5)
    rw [if_neg c5] at h
    by_cases c6 : 3 < a3
    · rw [if_pos c6] at h; simp only [Option.some.injEq, Prod.mk.injEq] at h; obtain ⟨rfl, rfl⟩ := h; exact Step_no6 a0 a1 a2 a3 w hk (decide_eq_false c1) (decide_eq_false c2) (decide_eq_false c3) (decide_eq_false c4) (decide_eq_false c5) (decide_eq_true c6)
    rw [if_neg c6] at h
    obtain ⟨t, ht, h⟩ := Option.bind_eq_some_iff.1 h
    simp only [Option.some.injEq, Prod.mk.injEq] at h
    obtain ⟨rfl, rfl⟩ := h
    exact Step_yes a0 a1 a2 a3 _ w hk (decide_eq_false c1) (decide_eq_false c2) (decide_eq_false c3) (decide_eq_false c4) (decide_eq_false c5) (decide_eq_false c6) ht
  · rw [if_pos hk] at h; simp only [Option.some.injEq, Prod.mk.injEq] at h; obtain ⟨rfl, rfl⟩ := h; exact Step_no0 a0 a1 a2 a3 w hk

end Go.Proofs.Ytbpanbmjkfhcgaa.P
