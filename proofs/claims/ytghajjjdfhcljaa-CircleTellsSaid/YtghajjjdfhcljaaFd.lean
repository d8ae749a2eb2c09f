/- Fields of structs that are values: laws for the walks. -/
import Derived.Test.YtghajjjdfhcljaaP0
namespace Go.Proofs.Ytghajjjdfhcljaa.P
open Go.RowKit Go.Proofs.YtghajjjdfhcljaaW.PrintWords Go.Proofs.YtghajjjdfhcljaaW.PrintLast Go.Proofs.YtghajjjdfhcljaaW.PrintMore
/-- A struct's field that is a struct. -/
theorem field43_0 (a b c : Value) (w : World) : (Instr.field 43 (.agg #[a, b, c]) 0).run Try.prog w = .ok (.agg #[a, b]) w := by kernel_rfl
/-- A field of one cell. -/
theorem field37_0 (k : IntKind) (a b : Int) (w : World) : (Instr.field 37 (.agg #[.int k a, .int k b]) 0).run Try.prog w = .ok (.int k a) w := by kernel_rfl
theorem field37_1 (k : IntKind) (a b : Int) (w : World) : (Instr.field 37 (.agg #[.int k a, .int k b]) 1).run Try.prog w = .ok (.int k b) w := by kernel_rfl
end Go.Proofs.Ytghajjjdfhcljaa.P
