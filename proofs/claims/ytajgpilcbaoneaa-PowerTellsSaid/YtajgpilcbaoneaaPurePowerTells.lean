/- The statement PowerTells over numbers and lists alone. -/
import Derived.Test.YtajgpilcbaoneaaPf7
import Derived.Test.YtajgpilcbaoneaaPow
set_option linter.unusedVariables false
set_option linter.unusedSimpArgs false
namespace Go.Proofs.Ytajgpilcbaoneaa.Pure
open Go.RowKit Go.Proofs.Ytajgpilcbaoneaa.P Go.Proofs.YtajgpilcbaoneaaW.PrintWords Go.Proofs.YtajgpilcbaoneaaW.PrintLast Go.Proofs.YtajgpilcbaoneaaW.PrintMore
open Go.Proofs.Ytajgpilcbaoneaa.Pow

theorem PowerTells : ∀ (l0 : List S45), l0.length ≤ maxLen → l0.length * 16 ≤ 140737488351232 → (∀ x ∈ l0, (Lit.int .i64 x.f0).wf = true ∧ (Lit.int .i64 x.f1).wf = true) → ∃ k, headroomlaw20_PowerTells.f k l0 = some true := by
  intro l0 _ hl _
  refine ⟨200, ?_⟩
  unfold headroomlaw20_PowerTells.f
  obtain ⟨n, hn, h70, hle⟩ : ∃ n : Nat, mn (l0.length : Int) 70 = n ∧ n < 71 ∧ n ≤ l0.length := ⟨(mn (l0.length : Int) 70).toNat, by unfold mn; split <;> omega, by unfold mn; split <;> omega, by unfold mn; split <;> omega⟩
  rw [hn, if_pos (by omega), if_pos (by omega), Int.toNat_natCast]
  generalize hX : l0.take n = X
  have hXl : X.length ≤ 70 := by rw [← hX, List.length_take]; omega
  simp only [Option.bind_some]
  have hal : headroomlaw20_alive.f 200 = some true := at_rounds (fun k => headroomlaw20_alive.mono k) (by decide) alive20
  rw [narrow_is 200 X (by decide) hXl]
  cases ha : X.all narrowB with
  | false =>
    have e1 : power_Spectrum.f X = some ([], 2) := by
      unfold power_Spectrum.f
      rw [if_neg (by rw [mayE_no ha]; decide)]
    have e2 : power_Total.f X = some (0, 0, 2) := by
      unfold power_Total.f
      rw [if_neg (by rw [mayE_no ha]; decide)]
    have e3 : power_Peak.f 200 X = some (0, 2) := by
      unfold power_Peak.f
      rw [e1]
      rfl
    rw [e1, e2, e3, hal]
    rfl
  | true =>
    have e0 : ∃ p : Int × Int, power_Peak.f 200 X = some p ∧ headroomlaw20_PowerTells.j0 200 X p.1 p.2 false = some true := by
      rcases Nat.eq_zero_or_pos X.length with h0 | h0
      · refine ⟨(0, 6), ?_, ?_⟩
        · have : X = [] := List.eq_nil_of_length_eq_zero h0
          subst this
          rfl
        · rw [show (200 : Nat) = 199 + 1 from rfl, headroomlaw20_PowerTells.j0, if_neg (by decide), if_pos (by omega), if_pos rfl]
          rfl
      · obtain ⟨P, p1, _⟩ := peak_is 200 X (by decide) hXl h0 ha
        obtain ⟨P', q1, p2⟩ := peak_is 199 X (by decide) hXl h0 ha
        have m := at_rounds (fun k => power_Peak.mono _ k) (show 199 ≤ 200 by decide) q1
        rw [p1] at m
        have e : (P : Int) = (P' : Int) := by
          have := Option.some.inj m
          exact congrArg Prod.fst this
        refine ⟨((P : Int), 0), p1, ?_⟩
        rw [show (200 : Nat) = 199 + 1 from rfl, headroomlaw20_PowerTells.j0, if_neg (by decide), if_neg (by omega), if_pos rfl, p2]
        simp [e]
    obtain ⟨p, e3, hj⟩ := e0
    rw [specf_yes ha hXl, totf_yes ha, e3, total_is 200 X (by decide) hXl ha, spec_is 200 X (by decide) hXl ha, hal]
    simp only [Option.bind_some]
    rw [if_pos trivial, if_pos trivial, if_pos trivial, same_is 200 (sqL X) (by decide) (by simp [sqL]; omega)]
    simp only [Option.bind_some]
    rw [if_pos trivial, if_pos trivial, if_pos trivial]
    exact hj
end Go.Proofs.Ytajgpilcbaoneaa.Pure
