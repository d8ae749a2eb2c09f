-- Printed for this claim by drive.py (a program of this session's) through the kit's print program; not trusted: Lean checks it.
import Derived.Test.YtbpanbmjkfhcgaaP0
import Derived.Test.YtbpanbmjkfhcgaaPf47
import Derived.BigRegion
import Derived.Deep.RegionWith
import Derived.RegionTactic
namespace Go.Proofs.Ytbpanbmjkfhcgaa.P
open Go.RowKit Go.Proofs.YtbpanbmjkfhcgaaW.PrintWords Go.Proofs.YtbpanbmjkfhcgaaW.PrintLast Go.Proofs.YtbpanbmjkfhcgaaW.PrintMore
attribute [local go_sem] max2_int min2_int max_two min_two max_three min_three max_four min_four   -- for this text's walks alone
set_option linter.unusedVariables false
set_option linter.unusedSimpArgs false

/-! ### budget_step: function 48 -/
-- IMPORT Derived.Deep.RegionWith
-- IMPORT Derived.RegionTactic
-- IMPORT Derived.BigRegion
/-- What a pass loses of its own. -/
def lossOf (k : Int) (p : Bool) : Int := (if k = 2 then some (if p then 608 else 224) else if k = 4 then some (if p then 1632 else 288) else none : Option Int).getD 0
def stepVal (e k : Int) (p : Bool) (s : Nat) : Int := wrap64 ((wrap64 (wrap64 (wrap64 (k * e) + wrap64 (2 ^ s)) - 1)) / 2 ^ s + lossOf k p)
def budget_step.f (a0 : Int) (a1 : Int) (a2 : Int) (a3 : Int) : Option (Int) :=
  if a2 = 2 then some (stepVal a0 a1 true 0) else if a3 = 0 then some (stepVal a0 a1 false 0) else if a3 = 1 then some (stepVal a0 a1 false 1) else if a3 = 2 then some (stepVal a0 a1 false 2) else if a3 = 3 then some (stepVal a0 a1 false 3) else none
theorem ret_i64 {a b : Int} (h : a = b) : Ending.returned (.int .i64 a) = .returned (.int .i64 b) := by rw [h]
theorem look1 (w : World) : ∀ (X : Obj) (l : List (Int × Bool × Int)) (n : Nat) (a : Int) (p : Bool), (Instr.lookup 74 (.map (some (w.heap.size + 1))) (.agg #[.int .i64 a, .bool p]) false).run Try.prog (((w.alloc X).alloc (lmap l)).drewN n) = .ok (.int .i64 ((has l a p).getD 0)) (((w.alloc X).alloc (lmap l)).drewN n) := fun X l n a p => by
  have h := run_lookup_rule (w := ((w.alloc X).alloc (lmap l)).drewN n) (b := (w.alloc X).heap.size) (heap_alloc_new (w.alloc X) (lmap l)) a p false
  rw [World.size_alloc] at h
  exact h
set_option maxHeartbeats 8000000 in
set_option maxRecDepth 100000 in
theorem step_bare (e k s : Int) (w : World) : Calls Try.prog 48 #[.int .i64 e, .int .i64 k, .int .i64 2, .int .i64 s] w fun e_ w' => e_ = .returned (.int .i64 (stepVal e k true 0)) ∧ Below w.heap.size w w' := by
  have hu77 := Try.underlying77
  have hlk := look1 w
  go_enter Try.func48, Try.ntmps48
  go_wp2
  go_region_with (go_at_call 47; refine (loses_calls _).mono ?_; rintro e1 w1 ⟨l, rfl, hs, n, rfl⟩)
  all_goals
    clear hlk
    go_wp2
    go_ret
    refine ⟨ret_i64 ?_, pw_below_drewN (below_alloc (below_alloc (Below.refl _ _) _) _) _⟩
    rw [hs]
    simp only [IntWalk.i64_left]
    first | rfl | (simp [stepVal, lossOf]; done)
set_option maxHeartbeats 8000000 in
set_option maxRecDepth 100000 in
theorem step_0 (e k sc : Int) (w : World) (h : (sc == 2) = false) : Calls Try.prog 48 #[.int .i64 e, .int .i64 k, .int .i64 sc, .int .i64 0] w fun e_ w' => e_ = .returned (.int .i64 (stepVal e k false 0)) ∧ Below w.heap.size w w' := by
  have hu77 := Try.underlying77
  have hlk := look1 w
  go_enter Try.func48, Try.ntmps48
  go_wp2
  go_region_with (go_at_call 47; refine (loses_calls _).mono ?_; rintro e1 w1 ⟨l, rfl, hs, n, rfl⟩)
  all_goals
    clear hlk
    go_wp2
    go_ret
    refine ⟨ret_i64 ?_, pw_below_drewN (below_alloc (below_alloc (Below.refl _ _) _) _) _⟩
    rw [hs]
    simp only [IntWalk.i64_left]
    first | rfl | (simp [stepVal, lossOf]; done)
set_option maxHeartbeats 8000000 in
set_option maxRecDepth 100000 in
theorem step_1 (e k sc : Int) (w : World) (h : (sc == 2) = false) : Calls Try.prog 48 #[.int .i64 e, .int .i64 k, .int .i64 sc, .int .i64 1] w fun e_ w' => e_ = .returned (.int .i64 (stepVal e k false 1)) ∧ Below w.heap.size w w' := by
  have hu77 := Try.underlying77
  have hlk := look1 w
  go_enter Try.func48, Try.ntmps48
  go_wp2
  go_region_with (go_at_call 47; refine (loses_calls _).mono ?_; rintro e1 w1 ⟨l, rfl, hs, n, rfl⟩)
  all_goals
    clear hlk
    go_wp2
    go_ret
    refine ⟨ret_i64 ?_, pw_below_drewN (below_alloc (below_alloc (Below.refl _ _) _) _) _⟩
    rw [hs]
    simp only [IntWalk.i64_left]
    first | rfl | (simp [stepVal, lossOf]; done)
set_option maxHeartbeats 8000000 in
set_option maxRecDepth 100000 in
theorem step_2 (e k sc : Int) (w : World) (h : (sc == 2) = false) : Calls Try.prog 48 #[.int .i64 e, .int .i64 k, .int .i64 sc, .int .i64 2] w fun e_ w' => e_ = .returned (.int .i64 (stepVal e k false 2)) ∧ Below w.heap.size w w' := by
  have hu77 := Try.underlying77
  have hlk := look1 w
  go_enter Try.func48, Try.ntmps48
  go_wp2
  go_region_with (go_at_call 47; refine (loses_calls _).mono ?_; rintro e1 w1 ⟨l, rfl, hs, n, rfl⟩)
  all_goals
    clear hlk
    go_wp2
    go_ret
    refine ⟨ret_i64 ?_, pw_below_drewN (below_alloc (below_alloc (Below.refl _ _) _) _) _⟩
    rw [hs]
    simp only [IntWalk.i64_left]
    first | rfl | (simp [stepVal, lossOf]; done)
set_option maxHeartbeats 8000000 in
set_option maxRecDepth 100000 in
theorem step_3 (e k sc : Int) (w : World) (h : (sc == 2) = false) : Calls Try.prog 48 #[.int .i64 e, .int .i64 k, .int .i64 sc, .int .i64 3] w fun e_ w' => e_ = .returned (.int .i64 (stepVal e k false 3)) ∧ Below w.heap.size w w' := by
  have hu77 := Try.underlying77
  have hlk := look1 w
  go_enter Try.func48, Try.ntmps48
  go_wp2
  go_region_with (go_at_call 47; refine (loses_calls _).mono ?_; rintro e1 w1 ⟨l, rfl, hs, n, rfl⟩)
  all_goals
    clear hlk
    go_wp2
    go_ret
    refine ⟨ret_i64 ?_, pw_below_drewN (below_alloc (below_alloc (Below.refl _ _) _) _) _⟩
    rw [hs]
    simp only [IntWalk.i64_left]
    first | rfl | (simp [stepVal, lossOf]; done)
theorem budget_step.calls (a0 : Int) (a1 : Int) (a2 : Int) (a3 : Int) (r : Int) (w : World) (h : budget_step.f a0 a1 a2 a3 = some r) :
    Calls Try.prog 48 #[.int .i64 a0, .int .i64 a1, .int .i64 a2, .int .i64 a3] w fun e w' => e = .returned (.int .i64 r) ∧ Below w.heap.size w w' := by
  unfold budget_step.f at h
  by_cases h2 : a2 = 2
  · rw [if_pos h2] at h; obtain rfl := Option.some.inj h; subst h2; exact step_bare a0 a1 a3 w
  · rw [if_neg h2] at h
    have hb : (a2 == 2) = false := beq_eq_false_iff_ne.2 h2
    by_cases s0 : a3 = 0
    · rw [if_pos s0] at h; obtain rfl := Option.some.inj h; subst s0; exact step_0 a0 a1 a2 w hb
    · rw [if_neg s0] at h
      by_cases s1 : a3 = 1
      · rw [if_pos s1] at h; obtain rfl := Option.some.inj h; subst s1; exact step_1 a0 a1 a2 w hb
      · rw [if_neg s1] at h
        by_cases s2 : a3 = 2
        · rw [if_pos s2] at h; obtain rfl := Option.some.inj h; subst s2; exact step_2 a0 a1 a2 w hb
        · rw [if_neg s2] at h
          by_cases s3 : a3 = 3
          · rw [if_pos s3] at h; obtain rfl := Option.some.inj h; subst s3; exact step_3 a0 a1 a2 w hb
          · rw [if_neg s3] at h; cases h

end Go.Proofs.Ytbpanbmjkfhcgaa.P
