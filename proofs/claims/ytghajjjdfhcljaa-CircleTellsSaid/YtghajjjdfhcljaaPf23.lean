-- Printed for this claim by drive.py (a program of this session's) through the kit's print program; not trusted: Lean checks it.
import Derived.Test.YtghajjjdfhcljaaP0
import Derived.Test.YtghajjjdfhcljaaT4
namespace Go.Proofs.Ytghajjjdfhcljaa.P
open Go.RowKit Go.Proofs.YtghajjjdfhcljaaW.PrintWords Go.Proofs.YtghajjjdfhcljaaW.PrintLast Go.Proofs.YtghajjjdfhcljaaW.PrintMore
attribute [local go_sem] max2_int min2_int max_two min_two max_three min_three max_four min_four   -- for this text's walks alone
set_option linter.unusedVariables false
set_option linter.unusedSimpArgs false

/-! ### gain_Run: function 23 -/
-- IMPORT Derived.Test.YtghajjjdfhcljaaT4
theorem gain_Run.calls (a0 : Int) (a1 : Int) (r1 : Int) (r2 : Int) (r3 : Int) (r4 : Int) (w : World) (h : gain_Run.f a0 a1 = some (r1, r2, r3, r4)) :
    Calls Try.prog 23 #[.int .i64 a0, .int .i64 a1] w fun e w' => e = .returned (.tuple #[.agg #[.int .i64 r1, .int .i64 r2], .int .i64 r3, .int .i64 r4]) ∧ Below w.heap.size w w' := Run_calls a0 a1 r1 r2 r3 r4 w h

end Go.Proofs.Ytghajjjdfhcljaa.P
