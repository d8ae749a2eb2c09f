/- Whole numbers of 64 bits. -/
import Derived.Test.YtghajjjdfhcljaaP0
set_option linter.unusedSimpArgs false
set_option linter.unusedVariables false
namespace Go.Proofs.Ytghajjjdfhcljaa.Arc
open Go.RowKit Go.Proofs.Ytghajjjdfhcljaa.P Go.Proofs.YtghajjjdfhcljaaW.PrintWords Go.Proofs.YtghajjjdfhcljaaW.PrintLast Go.Proofs.YtghajjjdfhcljaaW.PrintMore
def I64 (x : Int) : Prop := -9223372036854775808 ≤ x ∧ x ≤ 9223372036854775807
theorem wrap_id {x : Int} (h : I64 x) : wrap64 x = x := by unfold wrap64; unfold I64 at h; omega
theorem wrap_range (x : Int) : I64 (wrap64 x) := by unfold I64 wrap64; omega
end Go.Proofs.Ytghajjjdfhcljaa.Arc
