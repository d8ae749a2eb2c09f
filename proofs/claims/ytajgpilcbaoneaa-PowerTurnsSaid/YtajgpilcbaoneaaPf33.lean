-- Printed for this claim by drive.py (a program of this session's) through the kit's print program; not trusted: Lean checks it.
import Derived.Test.YtajgpilcbaoneaaP0
import Derived.Test.YtajgpilcbaoneaaT4
namespace Go.Proofs.Ytajgpilcbaoneaa.P
open Go.RowKit Go.Proofs.YtajgpilcbaoneaaW.PrintWords Go.Proofs.YtajgpilcbaoneaaW.PrintLast Go.Proofs.YtajgpilcbaoneaaW.PrintMore
attribute [local go_sem] max2_int min2_int max_two min_two max_three min_three max_four min_four   -- for this text's walks alone
set_option linter.unusedVariables false
set_option linter.unusedSimpArgs false

/-! ### cx_Conj: function 33 -/
-- IMPORT Derived.Test.YtajgpilcbaoneaaT4
def cx_Conj.f (a0 : Int) (a1 : Int) : Option (Int × Int × Int) :=
  if wideB ⟨a0, a1⟩ = true then some (a0, wrap64 (-a1), 0) else some (0, 0, 2)
theorem cx_Conj.calls (a0 : Int) (a1 : Int) (r1 : Int) (r2 : Int) (r3 : Int) (w : World) (h : cx_Conj.f a0 a1 = some (r1, r2, r3)) :
    Calls Try.prog 33 #[.agg #[.int .i64 a0, .int .i64 a1]] w fun e w' => e = .returned (.tuple #[.agg #[.int .i64 r1, .int .i64 r2], .int .i64 r3]) ∧ Below w.heap.size w w' := by
  unfold cx_Conj.f at h
  by_cases hm : wideB ⟨a0, a1⟩ = true
  · rw [if_pos hm] at h
    simp only [Option.some.injEq, Prod.mk.injEq] at h
    obtain ⟨rfl, rfl, rfl⟩ := h
    exact Conj_yes ⟨a0, a1⟩ hm w
  · rw [if_neg hm] at h
    simp only [Option.some.injEq, Prod.mk.injEq] at h
    obtain ⟨rfl, rfl, rfl⟩ := h
    exact Conj_no ⟨a0, a1⟩ (by simpa using hm) w

end Go.Proofs.Ytajgpilcbaoneaa.P
