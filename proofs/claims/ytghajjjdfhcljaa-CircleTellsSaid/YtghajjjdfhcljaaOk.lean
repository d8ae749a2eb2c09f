/- What a turn asks, and what it answers. -/
import Derived.Test.YtghajjjdfhcljaaBase
import Derived.Test.YtghajjjdfhcljaaPf23
set_option linter.unusedSimpArgs false
set_option linter.unusedVariables false
namespace Go.Proofs.Ytghajjjdfhcljaa.Arc
open Go.RowKit Go.Proofs.Ytghajjjdfhcljaa.P Go.Proofs.YtghajjjdfhcljaaW.PrintWords Go.Proofs.YtghajjjdfhcljaaW.PrintLast Go.Proofs.YtghajjjdfhcljaaW.PrintMore
/-- What a turn asks. -/
def okRun (x z : Int) : Prop := 0 ≤ x ∧ x ≤ 144115188075855872 ∧ -72057594037927936 ≤ z ∧ z ≤ 72057594037927936
instance (x z : Int) : Decidable (okRun x z) := by unfold okRun; infer_instance
theorem run_ok {x z : Int} (h : okRun x z) : gain_Run.f x z = some ((runTo x z 45).1, (runTo x z 45).2.1, (runTo x z 45).2.2, 0) := by
  obtain ⟨h1, h2, h3, h4⟩ := h
  exact (if_neg (by omega)).trans ((if_neg (by omega)).trans ((if_neg (by omega)).trans (if_neg (by omega))))
theorem run_no {x z : Int} (h : ¬ okRun x z) : gain_Run.f x z = some (0, 0, 0, 2) := by
  unfold gain_Run.f
  by_cases h1 : x < 0
  · exact if_pos h1
  by_cases h2 : x > 144115188075855872
  · exact (if_neg h1).trans (if_pos h2)
  by_cases h3 : z < -72057594037927936
  · exact (if_neg h1).trans ((if_neg h2).trans (if_pos h3))
  by_cases h4 : z > 72057594037927936
  · exact (if_neg h1).trans ((if_neg h2).trans ((if_neg h3).trans (if_pos h4)))
  · exact absurd ⟨by omega, by omega, by omega, by omega⟩ h
end Go.Proofs.Ytghajjjdfhcljaa.Arc
