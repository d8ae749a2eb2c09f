import Derived.Test.YtghajjjdfhcljaaPf5
namespace Go.Proofs.Ytghajjjdfhcljaa.Pure
open Go.RowKit Go.Proofs.Ytghajjjdfhcljaa.P Go.Proofs.YtghajjjdfhcljaaW.PrintWords Go.Proofs.YtghajjjdfhcljaaW.PrintLast

theorem ArcTerms : ∀ (a0 : Int), (Lit.int .i64 a0).wf = true → headroomlaw04_ArcTerms.f a0 = some true := by
  intro a0 _
  rfl

end Go.Proofs.Ytghajjjdfhcljaa.Pure
