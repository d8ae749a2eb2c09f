/- The statement BudgetSteps over numbers alone. -/
import Derived.Test.YtbpanbmjkfhcgaaPf6
import Derived.Test.YtbpanbmjkfhcgaaBudget
set_option linter.unusedVariables false
namespace Go.Proofs.Ytbpanbmjkfhcgaa.Pure
open Go.RowKit Go.Proofs.Ytbpanbmjkfhcgaa.P Go.Proofs.YtbpanbmjkfhcgaaW.PrintWords Go.Proofs.YtbpanbmjkfhcgaaW.PrintLast
open Go.Proofs.Ytbpanbmjkfhcgaa.Plan Go.Proofs.Ytbpanbmjkfhcgaa.Budget

theorem steps_last (e k sc s : Int) : headroomlaw14_BudgetSteps.j0 50 e k sc s (if May e k sc s then (stepV e k sc s, (0 : Int)) else (0, 1)).1 (if May e k sc s then (stepV e k sc s, (0 : Int)) else (0, 1)).2 false = some true := by
  simp only [headroomlaw14_BudgetSteps.j0]
  rw [if_neg (by decide), Budget.may_eq e k sc s (by decide)]
  simp only [Option.bind_some, decide_eq_true_eq]
  by_cases h : May e k sc s
  · rw [if_pos h, if_pos h]
    simp only
    rw [if_pos trivial, refStep_eq (by have := h.1; omega) h.2.1 h.2.2.2 (by decide)]
    simp [h]
  · rw [if_neg h, if_neg h]
    simp [h]

theorem BudgetSteps : ∀ (a0 : Int) (a1 : Int) (a2 : Int) (a3 : Int) (a4_0 : Int) (a4_1 : Int) (a4_2 : Int) (a4_3 : Int) (a4_4 : Int) (a4_5 : Bool), (Lit.int .i64 a0).wf = true → (Lit.int .i64 a1).wf = true → (Lit.int .i64 a2).wf = true → (Lit.int .i64 a3).wf = true → (Lit.int .i64 a4_0).wf = true → (Lit.int .i64 a4_1).wf = true → (Lit.int .i64 a4_2).wf = true → (Lit.int .i64 a4_3).wf = true → (Lit.int .i64 a4_4).wf = true → ∃ k, headroomlaw14_BudgetSteps.f k a0 a1 a2 a3 a4_0 a4_1 a4_2 a4_3 a4_4 a4_5 = some true := by
  intro e k sc s f l q c m i _ _ _ _ _ _ _ _ _
  refine ⟨50, ?_⟩
  have al : headroomlaw14_alive.f 50 = some true := at_rounds headroomlaw14_alive.mono (by omega) alive40
  unfold headroomlaw14_BudgetSteps.f
  rw [Step_eq, Budget.start_eq, refCheck_eq 49, refStart_eq, al]
  simp only [Option.bind_some, decide_eq_true_eq]
  by_cases h : Ok f l q c m
  · rw [if_pos h, if_pos h]
    simp only
    rw [if_pos trivial, if_pos trivial]
    exact steps_last e k sc s
  · rw [if_neg h, if_neg h]
    simp only
    rw [if_pos trivial, if_pos trivial]
    exact steps_last e k sc s

end Go.Proofs.Ytbpanbmjkfhcgaa.Pure
