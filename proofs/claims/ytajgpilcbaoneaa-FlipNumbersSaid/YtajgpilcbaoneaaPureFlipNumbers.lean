/- The statement FlipNumbers over numbers and lists alone. -/
import Derived.Test.YtajgpilcbaoneaaPf4
import Derived.Test.YtajgpilcbaoneaaTurn
set_option linter.unusedVariables false
set_option linter.unusedSimpArgs false
namespace Go.Proofs.Ytajgpilcbaoneaa.Pure
open Go.RowKit Go.Proofs.Ytajgpilcbaoneaa.P Go.Proofs.YtajgpilcbaoneaaW.PrintWords Go.Proofs.YtajgpilcbaoneaaW.PrintLast Go.Proofs.YtajgpilcbaoneaaW.PrintMore
open Go.Proofs.Ytajgpilcbaoneaa.Flip

theorem FlipNumbers : ∀ (l0 : List S45), l0.length ≤ maxLen → l0.length * 16 ≤ 140737488351232 → (∀ x ∈ l0, (Lit.int .i64 x.f0).wf = true ∧ (Lit.int .i64 x.f1).wf = true) → ∃ k, headroomlaw08_FlipNumbers.f k l0 = some true := by
  intro l0 _ _ _
  refine ⟨200, ?_⟩
  unfold headroomlaw08_FlipNumbers.f
  have m0 : 0 ≤ mn (l0.length : Int) 70 := by unfold mn; split <;> omega
  have m1 : mn (l0.length : Int) 70 ≤ (l0.length : Int) := by unfold mn; split <;> omega
  rw [if_pos m0, if_pos m1]
  generalize l0.take (mn (l0.length : Int) 70).toNat = X
  simp only [Option.bind_some]
  have ha : headroomlaw08_alive.f 200 = some true := at_rounds (fun k => headroomlaw08_alive.mono k) (by decide) alive80
  by_cases h : (X.length : Int) ≠ 4 ∧ (X.length : Int) ≠ 8 ∧ (X.length : Int) ≠ 16 ∧ (X.length : Int) ≠ 32 ∧ (X.length : Int) ≠ 64
  · rw [flip_no h (by decide), at_rounds (fun k => headroomref08_Log.mono _ k) (show 80 ≤ 200 from by decide) (len_no h).2, ha]
    simp
  · obtain ⟨l, hl, hn, hlog, href⟩ := len_is h
    obtain ⟨R, hrow, hRl, hR64, hR, hs, hb⟩ := row_is hl
    have hRX : R.length = X.length := by omega
    have hF := refFlip_l0 X l href R hRX (by omega) hR (fun i h0 h1 => (hb i h0 h1).1) X.length 200 0 (by omega) (by omega) (by omega)
    have hF' : headroomref08_Flip.f 200 X = some (R.map (rd_T45 X)) := by
      unfold headroomref08_Flip.f
      exact hF
    rw [flip_yes hlog hrow hRX hR64 hR hs (by decide), href 200 (by decide), ha]
    simp only [Option.bind_some]
    rw [if_neg (by omega), if_pos trivial, if_pos trivial, hF']
    simp only [Option.bind_some]
    rw [same_refl _ (by simp; omega) 200 (by decide)]
    simp

end Go.Proofs.Ytajgpilcbaoneaa.Pure
