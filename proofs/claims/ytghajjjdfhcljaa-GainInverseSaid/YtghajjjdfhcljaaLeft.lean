/- Plain facts on turns: what is left of an angle, and how great the parts get; nothing wraps. -/
import Derived.Test.YtghajjjdfhcljaaOk
set_option linter.unusedSimpArgs false
set_option linter.unusedVariables false
namespace Go.Proofs.Ytghajjjdfhcljaa.Arc
open Go.RowKit Go.Proofs.Ytghajjjdfhcljaa.P Go.Proofs.YtghajjjdfhcljaaW.PrintWords Go.Proofs.YtghajjjdfhcljaaW.PrintLast Go.Proofs.YtghajjjdfhcljaaW.PrintMore
/-- All angles from a step on, and 4096. -/
def restA (k : Nat) : Int := 4096 + (angsL.drop k).foldl (· + ·) 0
/-- How great a part is at most. -/
def mB : Nat → Int
  | 0 => 144115188075855872
  | k + 1 => mB k + mB k / 2 ^ k + 2
theorem rest_facts (k : Nat) (hk : k < 45) : restA k = angsL.getD k 0 + restA (k + 1) ∧ angsL.getD k 0 ≤ restA (k + 1) ∧ 0 ≤ angsL.getD k 0 ∧ angsL.getD k 0 ≤ 56593902016227522 ∧ restA k ≤ 288230376151711744 := by
  have := allB_at (p := fun k => decide (restA k = angsL.getD k 0 + restA (k + 1) ∧ angsL.getD k 0 ≤ restA (k + 1) ∧ 0 ≤ angsL.getD k 0 ∧ angsL.getD k 0 ≤ 56593902016227522 ∧ restA k ≤ 288230376151711744)) (K := 45) (by decide +kernel) hk
  exact of_decide_eq_true this
theorem mB_facts (k : Nat) (hk : k < 46) : 0 ≤ mB k ∧ mB k ≤ 1152921504606846976 := by
  have := allB_at (p := fun k => decide (0 ≤ mB k ∧ mB k ≤ 1152921504606846976)) (K := 46) (by decide +kernel) hk
  exact of_decide_eq_true this
theorem rest_ends : 72057594037927936 ≤ restA 0 ∧ restA 45 = 4096 := by decide +kernel
/-- A step, without wraps. -/
def stepZ (i : Nat) (y : Int) (s : Int × Int × Int) : Int × Int × Int :=
  if s.2.2 ≥ 0 then (s.1 - s.2.1 / 2 ^ i, s.2.1 + s.1 / 2 ^ i, s.2.2 - y) else (s.1 + s.2.1 / 2 ^ i, s.2.1 - s.1 / 2 ^ i, s.2.2 + y)
def runZ (x z : Int) : Nat → Int × Int × Int
  | 0 => (x, 0, z)
  | k + 1 => stepZ k (angsL.getD k 0) (runZ x z k)
theorem two_pow_pos (k : Nat) : (0 : Int) < 2 ^ k := Int.pow_pos (by decide)
theorem div_abs {a M : Int} (k : Nat) (h1 : -M ≤ a) (h2 : a ≤ M) (hM : 0 ≤ M) : -(M / 2 ^ k) - 1 ≤ a / 2 ^ k ∧ a / 2 ^ k ≤ M / 2 ^ k := by
  have hp := two_pow_pos k
  generalize (2 : Int) ^ k = p at *
  refine ⟨?_, Int.ediv_le_ediv hp h2⟩
  have e : (-M) / p ≤ a / p := Int.ediv_le_ediv hp h1
  have f : -(M / p) - 1 ≤ (-M) / p := by
    refine (Int.le_ediv_iff_mul_le hp).2 ?_
    have := Int.lt_mul_ediv_self_add (x := M) hp
    have e2 : (-(M / p) - 1) * p = -(p * (M / p) + p) := by grind
    rw [e2]
    omega
  omega
theorem run_nowrap (x z : Int) (h : okRun x z) : ∀ k, k ≤ 45 → runTo x z k = runZ x z k ∧ (-mB k ≤ (runZ x z k).1 ∧ (runZ x z k).1 ≤ mB k) ∧ (-mB k ≤ (runZ x z k).2.1 ∧ (runZ x z k).2.1 ≤ mB k) ∧ (-restA k ≤ (runZ x z k).2.2 ∧ (runZ x z k).2.2 ≤ restA k) := by
  intro k
  induction k with
  | zero =>
    intro _
    obtain ⟨h1, h2, h3, h4⟩ := h
    have := rest_ends.1
    refine ⟨rfl, ?_, ?_, ?_⟩
    · show -144115188075855872 ≤ x ∧ x ≤ 144115188075855872
      omega
    · show -144115188075855872 ≤ (0 : Int) ∧ (0 : Int) ≤ 144115188075855872
      decide
    · show -restA 0 ≤ z ∧ z ≤ restA 0
      omega
  | succ k ih =>
    intro hk
    obtain ⟨e, hA, hB, hC⟩ := ih (by omega)
    have hm := mB_facts k (by omega)
    have hm1 := mB_facts (k + 1) (by omega)
    obtain ⟨r1, r2, r3, r4, r5⟩ := rest_facts k (by omega)
    have d0 : 0 ≤ mB k / 2 ^ k := Int.ediv_nonneg hm.1 (Int.le_of_lt (two_pow_pos k))
    have da := div_abs k hA.1 hA.2 hm.1
    have db := div_abs k hB.1 hB.2 hm.1
    have em : mB (k + 1) = mB k + mB k / 2 ^ k + 2 := rfl
    have e1 : runTo x z (k + 1) = runStep k (angsL.getD k 0) (runZ x z k) := by rw [← e]; rfl
    have e2 : runZ x z (k + 1) = stepZ k (angsL.getD k 0) (runZ x z k) := rfl
    rw [e1, e2]
    generalize runZ x z k = s at *
    obtain ⟨a, b, c⟩ := s
    simp only at hA hB hC da db
    unfold runStep stepZ
    simp only
    generalize angsL.getD k 0 = y at *
    generalize a / 2 ^ k = u at *
    generalize b / 2 ^ k = v at *
    generalize mB k / 2 ^ k = w at *
    rw [em] at hm1 ⊢
    by_cases hc : c ≥ 0
    · rw [if_pos hc, if_pos hc]
      refine ⟨?_, ?_, ?_, ?_⟩
      · rw [wrap_id (by unfold I64; omega), wrap_id (by unfold I64; omega), wrap_id (by unfold I64; omega)]
      · simp only; omega
      · simp only; omega
      · simp only; omega
    · rw [if_neg hc, if_neg hc]
      refine ⟨?_, ?_, ?_, ?_⟩
      · rw [wrap_id (by unfold I64; omega), wrap_id (by unfold I64; omega), wrap_id (by unfold I64; omega)]
      · simp only; omega
      · simp only; omega
      · simp only; omega
theorem left_small (x z : Int) (h : okRun x z) : -4096 ≤ (runTo x z 45).2.2 ∧ (runTo x z 45).2.2 ≤ 4096 := by
  obtain ⟨e, _, _, hc⟩ := run_nowrap x z h 45 (by decide)
  rw [e]
  rw [rest_ends.2] at hc
  exact hc
end Go.Proofs.Ytghajjjdfhcljaa.Arc
