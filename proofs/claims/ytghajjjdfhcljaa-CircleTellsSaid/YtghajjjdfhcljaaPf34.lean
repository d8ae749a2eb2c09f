-- Printed for this claim by drive.py (a program of this session's) through the kit's print program; not trusted: Lean checks it.
import Derived.Test.YtghajjjdfhcljaaP0
import Derived.Test.YtghajjjdfhcljaaT6
namespace Go.Proofs.Ytghajjjdfhcljaa.P
open Go.RowKit Go.Proofs.YtghajjjdfhcljaaW.PrintWords Go.Proofs.YtghajjjdfhcljaaW.PrintLast Go.Proofs.YtghajjjdfhcljaaW.PrintMore
attribute [local go_sem] max2_int min2_int max_two min_two max_three min_three max_four min_four   -- for this text's walks alone
set_option linter.unusedVariables false
set_option linter.unusedSimpArgs false

/-! ### circle_Eighth: function 34 -/
-- IMPORT Derived.Test.YtghajjjdfhcljaaT6
def circle_Eighth.f (a0 : Int) (a1 : Int) : Option (Int × Int × Int) :=
  if a1 < 0 ∨ a1 > 6 ∨ a0 < 0 ∨ a0 > 2 ^ a1.toNat then some (0, 0, 1) else (gain_Run.f 43757185469210200 (wrap64 (56593902016227522 * a0) / 2 ^ a1.toNat)).bind fun r => some (r.1, r.2.1, r.2.2.2)
theorem circle_Eighth.calls (a0 : Int) (a1 : Int) (r1 : Int) (r2 : Int) (r3 : Int) (w : World) (h : circle_Eighth.f a0 a1 = some (r1, r2, r3)) :
    Calls Try.prog 34 #[.int .i64 a0, .int .i64 a1] w fun e w' => e = .returned (.tuple #[.agg #[.int .i64 r1, .int .i64 r2], .int .i64 r3]) ∧ Below w.heap.size w w' := by
  unfold circle_Eighth.f at h
  by_cases hb : a1 < 0 ∨ a1 > 6 ∨ a0 < 0 ∨ a0 > 2 ^ a1.toNat
  · rw [if_pos hb] at h
    simp only [Option.some.injEq, Prod.mk.injEq] at h
    obtain ⟨rfl, rfl, rfl⟩ := h
    exact Eighth_no a0 a1 w hb
  · rw [if_neg hb] at h
    have n1 : ¬ a1 < 0 := fun x => hb (.inl x)
    have n2 : ¬ a1 > 6 := fun x => hb (.inr (.inl x))
    have n3 : ¬ a0 < 0 := fun x => hb (.inr (.inr (.inl x)))
    have n4 : ¬ a0 > 2 ^ a1.toNat := fun x => hb (.inr (.inr (.inr x)))
    clear hb
    obtain ⟨⟨x1, x2, x3, x4⟩, hx, hr⟩ := Option.bind_eq_some_iff.mp h
    clear h
    simp only [Option.some.injEq, Prod.mk.injEq] at hr
    obtain ⟨rfl, rfl, rfl⟩ := hr
    exact Eighth_yes a0 a1 x1 x2 x3 x4 w (Int.not_lt.1 n1) (Int.not_lt.1 n2) (Int.not_lt.1 n3) (Int.not_lt.1 n4) hx

end Go.Proofs.Ytghajjjdfhcljaa.P
