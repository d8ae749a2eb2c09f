import Derived.Test.YtghajjjdfhcljaaPf4
import Derived.Test.YtghajjjdfhcljaaArc
namespace Go.Proofs.Ytghajjjdfhcljaa.Pure
open Go.RowKit Go.Proofs.Ytghajjjdfhcljaa.P Go.Proofs.Ytghajjjdfhcljaa.Arc Go.Proofs.YtghajjjdfhcljaaW.PrintWords Go.Proofs.YtghajjjdfhcljaaW.PrintLast

theorem j0_true (a0 : Int) : headroomlaw04_ArcTells.j0 301 a0 (if 2 ≤ a0 ∧ a0 ≤ 17592186044416 then (sumT (termsL a0), (0 : Int)) else (0, 1)).1 (if 2 ≤ a0 ∧ a0 ≤ 17592186044416 then (sumT (termsL a0), (0 : Int)) else (0, 1)).2
    (if 2 ≤ a0 ∧ a0 ≤ 17592186044416 then termsL a0 else []) (if 2 ≤ a0 ∧ a0 ≤ 17592186044416 then 0 else 1) false = some true := by
  rw [headroomlaw04_ArcTells.j0, may_f a0 300 (by decide)]
  by_cases h : 2 ≤ a0 ∧ a0 ≤ 17592186044416
  · simp only [if_pos h, decide_eq_true h, Option.bind_some]
    rw [arc_f h 300 (by decide), terms_f h 300 (by decide)]
    simp only [Option.bind_some, if_true]
    rw [same_refl (termsL a0) (termsL_length a0) 300 (by decide)]
    rfl
  · simp only [if_neg h, decide_eq_false h, Option.bind_some]
    rfl
theorem ArcTells : ∀ (a0 : Int), (Lit.int .i64 a0).wf = true → ∃ k, headroomlaw04_ArcTells.f k a0 = some true := by
  intro a0 _
  refine ⟨301, ?_⟩
  unfold headroomlaw04_ArcTells.f
  rw [prog_Arc, prog_Quarter, ref_Quarter 301 (by decide), alive]
  unfold arc_Terms.f
  simp only [Option.bind_some, if_true, Bool.not_true]
  exact j0_true a0

end Go.Proofs.Ytghajjjdfhcljaa.Pure
