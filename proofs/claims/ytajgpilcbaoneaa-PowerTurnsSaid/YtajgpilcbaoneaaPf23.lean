-- Printed for this claim by drive.py (a program of this session's) through the kit's print program; not trusted: Lean checks it.
import Derived.Test.YtajgpilcbaoneaaP0
import Derived.Test.YtajgpilcbaoneaaT5
namespace Go.Proofs.Ytajgpilcbaoneaa.P
open Go.RowKit Go.Proofs.YtajgpilcbaoneaaW.PrintWords Go.Proofs.YtajgpilcbaoneaaW.PrintLast Go.Proofs.YtajgpilcbaoneaaW.PrintMore
attribute [local go_sem] max2_int min2_int max_two min_two max_three min_three max_four min_four   -- for this text's walks alone
set_option linter.unusedVariables false
set_option linter.unusedSimpArgs false

/-! ### power_Total: function 23 -/
-- IMPORT Derived.Test.YtajgpilcbaoneaaT5
def power_Total.f (l0 : List (S45)) : Option (Int × Int × Int) :=
  if mayE l0 = 0 then some ((totL l0).1, (totL l0).2, 0) else some (0, 0, 2)
theorem power_Total.calls (A0 : Option Addr) (c0 : Nat) (l0 : List (S45)) (r1 : Int) (r2 : Int) (r3 : Int) (w : World) (hr0 : Kd.C k45 w A0 l0.length l0) (hc0 : l0.length ≤ c0) (h : power_Total.f l0 = some (r1, r2, r3)) :
    Calls Try.prog 23 #[.slice A0 l0.length c0] w fun e w' => e = .returned (.tuple #[.int .u64 r1, .int .u64 r2, .int .i64 r3]) ∧ Below w.heap.size w w' := by
  unfold power_Total.f at h
  by_cases hm : mayE l0 = 0
  · rw [if_pos hm] at h
    simp only [Option.some.injEq, Prod.mk.injEq] at h
    obtain ⟨rfl, rfl, rfl⟩ := h
    exact callsIn_wide.1 (Total_yes 4 (by decide) A0 c0 l0 w hr0 hc0 hm)
  · rw [if_neg hm] at h
    simp only [Option.some.injEq, Prod.mk.injEq] at h
    obtain ⟨rfl, rfl, rfl⟩ := h
    have h2 : mayE l0 = 2 := by unfold mayE at hm ⊢; split <;> simp_all
    exact Total_no A0 c0 l0 w hr0 hc0 h2

end Go.Proofs.Ytajgpilcbaoneaa.P
