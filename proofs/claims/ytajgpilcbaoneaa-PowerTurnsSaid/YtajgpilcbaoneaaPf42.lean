-- Printed for this claim by drive.py (a program of this session's) through the kit's print program; not trusted: Lean checks it.
import Derived.Test.YtajgpilcbaoneaaP0
import Derived.Test.YtajgpilcbaoneaaT4
namespace Go.Proofs.Ytajgpilcbaoneaa.P
open Go.RowKit Go.Proofs.YtajgpilcbaoneaaW.PrintWords Go.Proofs.YtajgpilcbaoneaaW.PrintLast Go.Proofs.YtajgpilcbaoneaaW.PrintMore
attribute [local go_sem] max2_int min2_int max_two min_two max_three min_three max_four min_four   -- for this text's walks alone
set_option linter.unusedVariables false
set_option linter.unusedSimpArgs false

/-! ### slices_Max_uint64_uint64: function 42 -/
-- IMPORT Derived.Test.YtajgpilcbaoneaaT4
def slices_Max_uint64_uint64.f (l0 : List Int) : Option Int := if 0 < l0.length then some (maxTo l0 l0.length) else none
theorem slices_Max_uint64_uint64.calls (A0 : Option Addr) (c0 : Nat) (l0 : List Int) (r : Int) (w : World) (hr0 : Kd.C (Kd.int .u64) w A0 l0.length l0) (hc0 : l0.length ≤ c0) (h : slices_Max_uint64_uint64.f l0 = some r) :
    Calls Try.prog 42 #[.slice A0 l0.length c0] w fun e w' => e = .returned (.int .u64 r) ∧ Drawn0 w w' := by
  unfold slices_Max_uint64_uint64.f at h
  by_cases hl : 0 < l0.length
  · rw [if_pos hl] at h
    obtain rfl := Option.some.inj h
    refine (Max_any A0 c0 l0 w hr0 hc0 hl).mono ?_
    rintro e w' ⟨rfl, rfl⟩
    exact ⟨rfl, ⟨0, rfl⟩⟩
  · rw [if_neg hl] at h
    cases h

end Go.Proofs.Ytajgpilcbaoneaa.P
