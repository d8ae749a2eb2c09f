/- text.Print of a plan that may not be: refused. -/
import Derived.Test.YtajgpilcbaoneaaDoorPf18
import Derived.Great.BuildSlice
import Derived.Deep.QuietTactic
import Derived.BigQuiet
import Derived.Outline
import Derived.Lib.Hide
namespace Go.Proofs.YtajgpilcbaoneaaDoor.P
open Go.RowKit Go.Proofs.YtajgpilcbaoneaaDoorW.PrintWords Go.Proofs.YtajgpilcbaoneaaDoorW.PrintLast Go.Proofs.YtajgpilcbaoneaaDoorW.PrintMore
set_option linter.unusedVariables false
set_option maxRecDepth 100000 in
set_option maxHeartbeats 4000000 in
theorem Print_no (x0 x1 x2 x3 x4 r : Int) (b : Bool) (w : World) (h : plan_Check.f x0 x1 x2 x3 x4 b = some r) (hr : r ≠ 0) :
    Calls Tryd.prog 9 #[.agg #[.int .i64 x0, .int .i64 x1, .int .i64 x2, .int .i64 x3, .int .i64 x4, .bool b]] w fun e w' => e = .returned (.tuple #[.string ⟨#[]⟩, .int .i64 r]) ∧ Below w.heap.size w w' := by
  have HP := Lib.hid h
  have hr0 : (r == 0) = false := beq_eq_false_iff_ne.mpr hr
  have hr1 : (r != 0) = true := bne_iff_ne.mpr hr
  clear h
  go_enter Tryd.func9, Tryd.ntmps9
  go_wp2_with (go_at_call 18; refine (plan_Check.calls x0 x1 x2 x3 x4 b r _ HP.out).mono ?_; rintro e w1 ⟨rfl, hb⟩; have HB1 := Lib.hid hb; clear hb)
  go_ret2
  exact ⟨rfl, below_step (below_alloc (Below.refl _ _) _) HB1.out⟩
end Go.Proofs.YtajgpilcbaoneaaDoor.P
