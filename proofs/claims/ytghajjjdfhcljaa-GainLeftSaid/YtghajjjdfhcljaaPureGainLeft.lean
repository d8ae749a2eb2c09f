import Derived.Test.YtghajjjdfhcljaaPf6
import Derived.Test.YtghajjjdfhcljaaLeft
namespace Go.Proofs.Ytghajjjdfhcljaa.Pure
open Go.RowKit Go.Proofs.Ytghajjjdfhcljaa.P Go.Proofs.Ytghajjjdfhcljaa.Arc Go.Proofs.YtghajjjdfhcljaaW.PrintWords Go.Proofs.YtghajjjdfhcljaaW.PrintLast

theorem gl_loop (q : Int) : headroomlaw05_GainLeft.l0 46 q 0 8192 angsL 44 = headroomlaw05_GainLeft.l0 1 q 0 (8192 + angsL.foldl (· + ·) 0) angsL (-1) := by kernel_rfl
theorem gl_end (q R : Int) (h1 : -8192 ≤ q) (h2 : q ≤ 8192) : headroomlaw05_GainLeft.l0 1 q 0 R angsL (-1) = some true := by
  rw [headroomlaw05_GainLeft.l0, if_neg (by decide), alive05]
  simp only [Option.bind_some, if_true]
  rw [if_pos h2]
  exact congrArg some (decide_eq_true h1)
theorem wf_range {a : Int} (h : (Lit.int .i64 a).wf = true) : -9223372036854775808 ≤ a ∧ a ≤ 9223372036854775807 := by
  simp only [Lit.wf, Bool.and_eq_true, decide_eq_true_eq] at h
  exact h
theorem and_range (a : Int) : 0 ≤ Go.bits .and .i64 a 144115188075855871 ∧ Go.bits .and .i64 a 144115188075855871 ≤ 144115188075855871 := by
  have e : Go.bits .and .i64 a 144115188075855871 = IntKind.i64.wrap (((BitVec.ofInt 64 a).toNat &&& 144115188075855871 : Nat) : Int) := rfl
  have h := Nat.and_le_right (n := (BitVec.ofInt 64 a).toNat) (m := 144115188075855871)
  rw [e, IntKind.wrap_i64]
  generalize (BitVec.ofInt 64 a).toNat &&& 144115188075855871 = q at *
  omega
theorem GainLeft : ∀ (a0 : Int) (a1 : Int), (Lit.int .i64 a0).wf = true → (Lit.int .i64 a1).wf = true → ∃ k, headroomlaw05_GainLeft.f k a0 a1 = some true := by
  intro a0 a1 w0 w1
  refine ⟨46, ?_⟩
  have h1 : -9223372036854775808 ≤ a1 ∧ a1 ≤ 9223372036854775807 := wf_range w1
  have hr := and_range (a0 / 64)
  have ok : okRun (Go.bits .and .i64 (a0 / 64) 144115188075855871) (a1 / 128) := ⟨hr.1, by omega, by omega, by omega⟩
  have hl := left_small _ _ ok
  unfold headroomlaw05_GainLeft.f
  rw [run_ok ok, show gain_Angles.f = some angsL from rfl]
  simp only [Option.bind_some]
  generalize (runTo (Go.bits .and .i64 (a0 / 64) 144115188075855871) (a1 / 128) 45).2.2 = q at *
  rw [show wrap64 ((angsL.length : Int) - 1) = 44 from by decide +kernel, gl_loop]
  exact gl_end q _ (by omega) (by omega)

end Go.Proofs.Ytghajjjdfhcljaa.Pure
