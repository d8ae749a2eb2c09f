import Derived.Test.YtajgpilcbaoneaaT3
namespace Go.Proofs.Ytajgpilcbaoneaa.P
open Go.RowKit Go.Proofs.YtajgpilcbaoneaaW.PrintWords Go.Proofs.YtajgpilcbaoneaaW.PrintLast Go.Proofs.YtajgpilcbaoneaaW.PrintMore
set_option linter.unusedVariables false
set_option linter.unusedSimpArgs false
set_option maxRecDepth 100000 in
set_option maxHeartbeats 4000000 in
theorem Total_no (A : Option Addr) (c : Nat) (l : List S45) (w : World) (hC : Kd.C k45 w A l.length l) (hc : l.length ≤ c) (hm : mayE l = 2) :
    Calls Try.prog 23 #[.slice A l.length c] w fun e W' => e = .returned (.tuple #[.int .u64 0, .int .u64 0, .int .i64 2]) ∧ Below w.heap.size w W' := by
  have HC := Lib.hid hC
  have HM := Lib.hid hm
  clear hC hm
  go_enter Try.func23, Try.ntmps23
  go_wp2_with (go_at_call 38; refine (may_any A c l _ HC.out hc).mono ?_; rw [HM.out]; rintro e W1 ⟨rfl, hb⟩; have HB1 := Lib.hid hb; clear hb)
  refine bodyPost_ret (results_tmp3 rfl _ _ _) rfl ?_
  exact ⟨rfl, HB1.out⟩
end Go.Proofs.Ytajgpilcbaoneaa.P
