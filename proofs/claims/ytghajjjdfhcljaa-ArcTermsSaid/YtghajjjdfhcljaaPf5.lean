-- Printed for this claim by drive.py (a program of this session's) through the kit's print program; not trusted: Lean checks it.
import Derived.Test.YtghajjjdfhcljaaP0
import Derived.Test.YtghajjjdfhcljaaT8
namespace Go.Proofs.Ytghajjjdfhcljaa.P
open Go.RowKit Go.Proofs.YtghajjjdfhcljaaW.PrintWords Go.Proofs.YtghajjjdfhcljaaW.PrintLast Go.Proofs.YtghajjjdfhcljaaW.PrintMore
attribute [local go_sem] max2_int min2_int max_two min_two max_three min_three max_four min_four   -- for this text's walks alone
set_option linter.unusedVariables false
set_option linter.unusedSimpArgs false

/-! ### headroomlaw04_ArcTerms: function 5 -/
-- IMPORT Derived.Test.YtghajjjdfhcljaaT8
def headroomlaw04_ArcTerms.f (a0 : Int) : Option Bool := some true
theorem headroomlaw04_ArcTerms.calls (a0 : Int) (r : Bool) (w : World) (h : headroomlaw04_ArcTerms.f a0 = some r) :
    Calls Try.prog 5 #[.int .i64 a0] w fun e w' => e = .returned (.bool r) ∧ Below w.heap.size w w' := by
  obtain rfl := Option.some.inj h
  by_cases hb : 2 ≤ a0 ∧ a0 ≤ 17592186044416
  · exact at_yes a0 w hb.1 hb.2
  · exact at_no a0 w hb

end Go.Proofs.Ytghajjjdfhcljaa.P
