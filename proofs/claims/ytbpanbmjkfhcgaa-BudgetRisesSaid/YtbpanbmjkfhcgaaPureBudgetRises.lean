/- The statement BudgetRises over numbers alone. -/
import Derived.Test.YtbpanbmjkfhcgaaPf7
import Derived.Test.YtbpanbmjkfhcgaaBudget
set_option linter.unusedVariables false
namespace Go.Proofs.Ytbpanbmjkfhcgaa.Pure
open Go.RowKit Go.Proofs.Ytbpanbmjkfhcgaa.P Go.Proofs.YtbpanbmjkfhcgaaW.PrintWords Go.Proofs.YtbpanbmjkfhcgaaW.PrintLast
open Go.Proofs.Ytbpanbmjkfhcgaa.Plan Go.Proofs.Ytbpanbmjkfhcgaa.Budget Go.Proofs.Ytbpanbmjkfhcgaa.Num

theorem and39 (n : Int) : Go.bits .and .i64 n 549755813887 = n % 549755813888 := by
  have hm : (BitVec.ofInt 64 549755813887).toNat = 2 ^ 39 - 1 := by decide
  have key : (BitVec.ofInt 64 n &&& BitVec.ofInt 64 549755813887).toNat = (n % ((2 ^ 64 : Nat) : Int)).toNat % 2 ^ 39 := by
    rw [BitVec.toNat_and, BitVec.toNat_ofInt, hm, Nat.and_two_pow_sub_one_eq_mod]
  show IntKind.i64.wrap ((BitVec.ofInt 64 n &&& BitVec.ofInt 64 549755813887).toNat : Nat) = n % 549755813888
  rw [key, IntKind.wrap_i64]
  omega

theorem step_mono {e m k sc s : Int} (he : 0 ≤ e) (hm : 0 ≤ m) (hk : k = 2 ∨ k = 4) (hs : 0 ≤ s ∧ s ≤ 3) : stepV e k sc s ≤ stepV (e + m) k sc s ∧ stepV e k sc s > e / 8 := by
  unfold stepV
  have h' : s = 0 ∨ s = 1 ∨ s = 2 ∨ s = 3 := by omega
  by_cases h2 : sc = 2
  · rw [if_pos h2, if_pos h2]
    rcases hk with rfl | rfl <;> simp <;> omega
  · rw [if_neg h2, if_neg h2]
    rcases hk with rfl | rfl <;> rcases h' with rfl | rfl | rfl | rfl <;> simp <;> omega
theorem step_less {e k sc s : Int} (he : 0 ≤ e) (hk : k = 2 ∨ k = 4) (hs : 0 ≤ s ∧ s + 1 ≤ 3) : stepV e k sc (s + 1) ≤ stepV e k sc s := by
  unfold stepV
  have h' : s = 0 ∨ s = 1 ∨ s = 2 := by omega
  by_cases h2 : sc = 2
  · rw [if_pos h2, if_pos h2]
    exact Int.le_refl _
  · rw [if_neg h2, if_neg h2]
    rcases hk with rfl | rfl <;> rcases h' with rfl | rfl | rfl <;> simp <;> omega

theorem BudgetRises : ∀ (a0 : Int) (a1 : Int) (a2 : Int) (a3 : Int) (a4 : Int), (Lit.int .i64 a0).wf = true → (Lit.int .i64 a1).wf = true → (Lit.int .i64 a2).wf = true → (Lit.int .i64 a3).wf = true → (Lit.int .i64 a4).wf = true → ∃ k, headroomlaw14_BudgetRises.f k a0 a1 a2 a3 a4 = some true := by
  intro x y k sc s _ _ _ _ _
  refine ⟨50, ?_⟩
  have al : headroomlaw14_alive.f 50 = some true := at_rounds headroomlaw14_alive.mono (by omega) alive40
  unfold headroomlaw14_BudgetRises.f
  rw [and39, and39, al]
  obtain ⟨e, he⟩ : ∃ e, x % 549755813888 = e := ⟨_, rfl⟩
  obtain ⟨m, hm⟩ : ∃ m, y % 549755813888 = m := ⟨_, rfl⟩
  have e0 : 0 ≤ e ∧ e < 549755813888 := by omega
  have m0 : 0 ≤ m ∧ m < 549755813888 := by omega
  rw [he, hm, wrap_id (x := e + m) (by unfold I64; omega), Step_eq, Step_eq, Step_eq]
  simp only [Option.bind_some]
  by_cases h : May e k sc s
  · have h' : May (e + m) k sc s := by obtain ⟨_, h2, h3, h4⟩ := id h; exact ⟨by omega, h2, h3, h4⟩
    obtain ⟨g1, g2⟩ := step_mono (sc := sc) e0.1 m0.1 h.2.1 h.2.2.2
    rw [if_pos h, if_pos h']
    simp only
    rw [if_pos trivial, if_pos trivial, if_pos trivial, if_pos g1, if_pos g2]
    by_cases h3 : May e k sc (wrap64 (s + 1))
    · have hs : wrap64 (s + 1) = s + 1 := wrap_id (by have := h.2.2.2; unfold I64; omega)
      rw [hs] at h3 ⊢
      rw [if_pos h3]
      simp only
      rw [if_pos trivial]
      simp only [Option.some.injEq, decide_eq_true_eq]
      exact step_less e0.1 h.2.1 ⟨h.2.2.2.1, h3.2.2.2.2⟩
    · rw [if_neg h3]
      simp
  · have h' : ¬ May (e + m) k sc s := by
      intro z
      apply h
      obtain ⟨_, h2, h3, h4⟩ := z
      exact ⟨by omega, h2, h3, h4⟩
    rw [if_neg h, if_neg h']
    simp

end Go.Proofs.Ytbpanbmjkfhcgaa.Pure
