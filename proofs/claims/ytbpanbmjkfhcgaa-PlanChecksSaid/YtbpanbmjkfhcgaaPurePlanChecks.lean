/- The statement PlanChecks over numbers and lists alone. -/
import Derived.Test.YtbpanbmjkfhcgaaPf3
import Derived.Test.YtbpanbmjkfhcgaaPlan
namespace Go.Proofs.Ytbpanbmjkfhcgaa.Pure
open Go.RowKit Go.Proofs.Ytbpanbmjkfhcgaa.P Go.Proofs.YtbpanbmjkfhcgaaW.PrintWords Go.Proofs.YtbpanbmjkfhcgaaW.PrintLast
open Go.Proofs.Ytbpanbmjkfhcgaa.Plan

theorem planAlive : headroomlaw13_alive.f 30 = some true := by decide +kernel

set_option maxRecDepth 100000 in
theorem planChecks_ok : ∀ f ∈ ([0, 1] : List Int), ∀ l ∈ logs, ∀ k ∈ threes, ∀ s ∈ threes, ∀ m ∈ threes, (k = 2 → s = 0) → ∀ i : Bool, headroomlaw13_PlanChecks.f 30 f l k s m i = some true := by decide +kernel

theorem PlanChecks : ∀ (a0_0 : Int) (a0_1 : Int) (a0_2 : Int) (a0_3 : Int) (a0_4 : Int) (a0_5 : Bool), (Lit.int .i64 a0_0).wf = true → (Lit.int .i64 a0_1).wf = true → (Lit.int .i64 a0_2).wf = true → (Lit.int .i64 a0_3).wf = true → (Lit.int .i64 a0_4).wf = true → ∃ k, headroomlaw13_PlanChecks.f k a0_0 a0_1 a0_2 a0_3 a0_4 a0_5 = some true := by
  intro f l k s m i _ _ _ _ _
  refine ⟨30, ?_⟩
  by_cases h : Ok f l k s m
  · exact each planChecks_ok i h
  · unfold headroomlaw13_PlanChecks.f
    rw [passes_no i h, refCheck_eq 29, check_eq, if_neg h, planAlive]
    simp [h]

end Go.Proofs.Ytbpanbmjkfhcgaa.Pure
