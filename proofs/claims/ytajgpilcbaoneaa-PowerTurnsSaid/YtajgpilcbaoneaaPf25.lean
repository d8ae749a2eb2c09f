-- Printed for this claim by drive.py (a program of this session's) through the kit's print program; not trusted: Lean checks it.
import Derived.Test.YtajgpilcbaoneaaP0
import Derived.Test.YtajgpilcbaoneaaT3
namespace Go.Proofs.Ytajgpilcbaoneaa.P
open Go.RowKit Go.Proofs.YtajgpilcbaoneaaW.PrintWords Go.Proofs.YtajgpilcbaoneaaW.PrintLast Go.Proofs.YtajgpilcbaoneaaW.PrintMore
attribute [local go_sem] max2_int min2_int max_two min_two max_three min_three max_four min_four   -- for this text's walks alone
set_option linter.unusedVariables false
set_option linter.unusedSimpArgs false

/-! ### power_Spectrum: function 25 -/
-- IMPORT Derived.Test.YtajgpilcbaoneaaT3
def power_Spectrum.f (l0 : List (S45)) : Option (List Int × Int) :=
  if mayE l0 = 0 then (if l0.length * 16 ≤ 140737488351232 then some (sqL l0, 0) else none) else some ([], 2)
theorem power_Spectrum.calls (A0 : Option Addr) (c0 : Nat) (l0 : List (S45)) (r1 : List Int) (r2 : Int) (w : World) (hr0 : Kd.C k45 w A0 l0.length l0) (hc0 : l0.length ≤ c0) (h : power_Spectrum.f l0 = some (r1, r2)) :
    Calls Try.prog 25 #[.slice A0 l0.length c0] w fun e w' => ∃ v0_ : Value, e = .returned (.tuple #[v0_, .int .i64 r2]) ∧ Kd.R (Kd.int .u64) 43 w' w.heap.size (fun _ => True) v0_ r1 ∧ Below w.heap.size w w' := by
  unfold power_Spectrum.f at h
  by_cases hm : mayE l0 = 0
  · rw [if_pos hm] at h
    by_cases hl : l0.length * 16 ≤ 140737488351232
    · rw [if_pos hl] at h
      simp only [Option.some.injEq, Prod.mk.injEq] at h
      obtain ⟨rfl, rfl⟩ := h
      refine (callsIn_wide.1 (Spectrum_yes 5 (by decide) A0 c0 l0 w hr0 hc0 hl hm)).mono ?_
      rintro e w' ⟨v, rfl, ho, hb⟩
      exact ⟨v, rfl, Kd.R_of_own ho (fun _ _ => trivial), hb⟩
    · rw [if_neg hl] at h
      cases h
  · rw [if_neg hm] at h
    simp only [Option.some.injEq, Prod.mk.injEq] at h
    obtain ⟨rfl, rfl⟩ := h
    have h2 : mayE l0 = 2 := by unfold mayE at hm ⊢; split <;> simp_all
    refine (Spectrum_no A0 c0 l0 w hr0 hc0 h2).mono ?_
    rintro e w' ⟨rfl, hb⟩
    exact ⟨_, rfl, Kd.R_nil _ _ _ _ _, hb⟩

end Go.Proofs.Ytajgpilcbaoneaa.P
