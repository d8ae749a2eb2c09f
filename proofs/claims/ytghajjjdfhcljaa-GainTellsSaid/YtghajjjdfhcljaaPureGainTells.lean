import Derived.Test.YtghajjjdfhcljaaPf7
import Derived.Test.YtghajjjdfhcljaaGain
namespace Go.Proofs.Ytghajjjdfhcljaa.Pure
open Go.RowKit Go.Proofs.Ytghajjjdfhcljaa.P Go.Proofs.Ytghajjjdfhcljaa.Arc Go.Proofs.YtghajjjdfhcljaaW.PrintWords Go.Proofs.YtghajjjdfhcljaaW.PrintLast

theorem gt_yes (x z : Int) (h : okRun x z) : headroomlaw05_GainTells.j0 501 x z (runTo x z 45).2.2 0 false (runTo x z 45).1 (runTo x z 45).2.1 = some true := by
  have h' := h
  obtain ⟨h1, h2, h3, h4⟩ := h'
  have hm : headroomref05_May.f 500 x z = some true := by rw [ref_May x z 500 (by decide)]; exact congrArg some (decide_eq_true h)
  rw [headroomlaw05_GainTells.j0, if_neg (by decide), hm, ref_Run x z (by unfold I64; omega) (by unfold I64; omega) 500 (by decide)]
  generalize runTo x z 45 = s
  simp
theorem gt_no (x z : Int) (h : ¬ okRun x z) : headroomlaw05_GainTells.j0 501 x z 0 2 false 0 0 = some true := by
  have hm : headroomref05_May.f 500 x z = some false := by rw [ref_May x z 500 (by decide)]; exact congrArg some (decide_eq_false h)
  rw [headroomlaw05_GainTells.j0, if_neg (by decide), hm]
  simp
theorem GainTells : ∀ (a0 : Int) (a1 : Int), (Lit.int .i64 a0).wf = true → (Lit.int .i64 a1).wf = true → ∃ k, headroomlaw05_GainTells.f k a0 a1 = some true := by
  intro a0 a1 _ _
  refine ⟨501, ?_⟩
  have key : ∀ x1 x2 x3 x4, gain_Run.f a0 a1 = some (x1, x2, x3, x4) → headroomlaw05_GainTells.f 501 a0 a1 = headroomlaw05_GainTells.j0 501 a0 a1 x3 x4 false x1 x2 := by
    intro x1 x2 x3 x4 hr
    unfold headroomlaw05_GainTells.f
    rw [hr, show gain_Angles.f = some angsL from rfl, ref_Angles 501 (by decide)]
    simp only [Option.bind_some]
    rw [same_refl angsL (by decide) 501 (by decide)]
    rw [show gain_Gain.f = some 118661582157481174 from rfl, ref_Gain 501 (by decide), show gain_Inverse.f = some 43757185469210200 from rfl, ref_Inverse 501 (by decide), alive05]
    simp only [Option.bind_some, if_true, Bool.not_true]
  by_cases h : okRun a0 a1
  · rw [key _ _ _ _ (run_ok h)]
    exact gt_yes a0 a1 h
  · rw [key _ _ _ _ (run_no h)]
    exact gt_no a0 a1 h

end Go.Proofs.Ytghajjjdfhcljaa.Pure
