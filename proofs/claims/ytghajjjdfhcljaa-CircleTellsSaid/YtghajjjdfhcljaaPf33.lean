-- Printed for this claim by drive.py (a program of this session's) through the kit's print program; not trusted: Lean checks it.
import Derived.Test.YtghajjjdfhcljaaP0
import Derived.Test.YtghajjjdfhcljaaT6
namespace Go.Proofs.Ytghajjjdfhcljaa.P
open Go.RowKit Go.Proofs.YtghajjjdfhcljaaW.PrintWords Go.Proofs.YtghajjjdfhcljaaW.PrintLast Go.Proofs.YtghajjjdfhcljaaW.PrintMore
attribute [local go_sem] max2_int min2_int max_two min_two max_three min_three max_four min_four   -- for this text's walks alone
set_option linter.unusedVariables false
set_option linter.unusedSimpArgs false

/-! ### circle_Point: function 33 -/
-- IMPORT Derived.Test.YtghajjjdfhcljaaT6
def circle_Point.f (a0 : Int) : Option (Int × Int × Int) := (gain_Run.f 43757185469210200 a0).bind fun r => some (r.1, r.2.1, r.2.2.2)
theorem circle_Point.calls (a0 : Int) (r1 : Int) (r2 : Int) (r3 : Int) (w : World) (h : circle_Point.f a0 = some (r1, r2, r3)) :
    Calls Try.prog 33 #[.int .i64 a0] w fun e w' => e = .returned (.tuple #[.agg #[.int .i64 r1, .int .i64 r2], .int .i64 r3]) ∧ Below w.heap.size w w' := by
  obtain ⟨⟨x1, x2, x3, x4⟩, hx, hr⟩ := Option.bind_eq_some_iff.mp h
  simp only [Option.some.injEq, Prod.mk.injEq] at hr
  obtain ⟨rfl, rfl, rfl⟩ := hr
  exact Point_calls a0 x1 x2 x3 x4 w hx

end Go.Proofs.Ytghajjjdfhcljaa.P
