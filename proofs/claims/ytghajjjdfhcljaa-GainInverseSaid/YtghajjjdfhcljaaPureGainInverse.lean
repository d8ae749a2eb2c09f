import Derived.Test.YtghajjjdfhcljaaPf11
import Derived.Test.YtghajjjdfhcljaaPoint
import Derived.Test.YtghajjjdfhcljaaMul
namespace Go.Proofs.Ytghajjjdfhcljaa.Pure
open Go.RowKit Go.Proofs.Ytghajjjdfhcljaa.P Go.Proofs.Ytghajjjdfhcljaa.Arc Go.Proofs.YtghajjjdfhcljaaW.PrintWords Go.Proofs.YtghajjjdfhcljaaW.PrintLast Go.Proofs.YtghajjjdfhcljaaW.PrintMore
theorem wf_range {a : Int} (h : (Lit.int .i64 a).wf = true) : -9223372036854775808 ≤ a ∧ a ≤ 9223372036854775807 := by
  simp only [Lit.wf, Bool.and_eq_true, decide_eq_true_eq] at h
  exact h
theorem alive05 : headroomlaw05_alive.f = some true := by decide +kernel
theorem abs_sq (a : Int) : (if a < 0 then -a else a) * (if a < 0 then -a else a) = a * a := by
  by_cases h : a < 0 <;> simp [h] <;> grind
theorem square_true (a b : Int) (ha : -72057594037932136 ≤ a ∧ a ≤ 72057594037932136) (hb : -72057594037932136 ≤ b ∧ b ≤ 72057594037932136)
    (h1 : 72057594037923735 * 72057594037923735 ≤ a * a + b * b) (h2 : a * a + b * b ≤ 72057594037932136 * 72057594037932136) : headroomlaw05_square.f a b 256 = some true := by
  have qa : 0 ≤ (if a < 0 then -a else a) ∧ (if a < 0 then -a else a) ≤ 72057594037932136 := by split <;> omega
  have qb : 0 ≤ (if b < 0 then -b else b) ∧ (if b < 0 then -b else b) ≤ 72057594037932136 := by split <;> omega
  have ea := abs_sq a
  have eb := abs_sq b
  unfold headroomlaw05_square.f
  rw [mx_abs a (by omega), mx_abs b (by omega)]
  generalize (if a < 0 then -a else a) = A at *
  generalize (if b < 0 then -b else b) = B at *
  rw [wraps_u64 A (by omega) (by omega), wraps_u64 B (by omega) (by omega), mul64_f (by omega) (by omega) (by omega) (by omega), mul64_f (by omega) (by omega) (by omega) (by omega)]
  have pa : 0 ≤ A * A := Int.mul_nonneg qa.1 qa.1
  have pb : 0 ≤ B * B := Int.mul_nonneg qb.1 qb.1
  rw [← ea, ← eb] at h1 h2
  generalize A * A = P at *
  generalize B * B = Q at *
  clear ea eb
  simp only [Option.bind_some]
  unfold bits_Add64.f
  rw [if_pos (by omega)]
  simp only [Option.bind_some]
  rw [wraps_u64 (P / 18446744073709551616 + Q / 18446744073709551616) (by omega) (by omega)]
  rw [wraps_u64 (P / 18446744073709551616 + Q / 18446744073709551616 + (P % 18446744073709551616 + Q % 18446744073709551616 + 0) / 18446744073709551616) (by omega) (by omega)]
  rw [wraps_u64 (281474976710656 - 256) (by decide) (by decide), wraps_u64 (281474976710656 + 256) (by decide) (by decide)]
  rw [if_pos (by omega), decide_eq_true (by omega)]
theorem inv_consts (k : Nat) (x : Int) : headroomlaw05_GainInverse.f k x = headroomlaw05_GainInverse.j0 k (x / 128) 43757185469210200 false := by
  have e1 : bits_Mul64.f (IntKind.u64.wrap 118661582157481174) (IntKind.u64.wrap 43757185469210200) = some (281474976710655, 18379376940529106320) := by decide +kernel
  have e2 : bits_Add64.f 18379376940529106320 (IntKind.u64.wrap 118661582157481174) 0 = some (51294448977035878, 1) := by decide +kernel
  have e3 : IntKind.u64.wrap (281474976710655 + 1) = 281474976710656 := by decide +kernel
  have e4 : IntKind.u64.wrap 43757185469210200 = 43757185469210200 := by decide +kernel
  unfold headroomlaw05_GainInverse.f
  rw [show gain_Gain.f = some 118661582157481174 from rfl, show gain_Inverse.f = some 43757185469210200 from rfl]
  simp only [Option.bind_some]
  rw [e1]
  simp only [Option.bind_some]
  rw [e2]
  simp only [Option.bind_some]
  rw [alive05, e3, e4]
  simp only [Option.bind_some, Bool.not_true]
  rw [if_neg (by decide), if_neg (by decide), if_neg (by decide), if_pos trivial, if_neg (by decide)]
theorem GainInverse : ∀ (a0 : Int), (Lit.int .i64 a0).wf = true → ∃ k, headroomlaw05_GainInverse.f k a0 = some true := by
  intro a0 w0
  have r0 := wf_range w0
  have hz : okA (a0 / 128) := ⟨by omega, by omega⟩
  refine ⟨1, ?_⟩
  rw [inv_consts, headroomlaw05_GainInverse.j0, if_neg (by decide), wrap_id (by unfold I64; decide), run_ok ⟨by decide, by decide, hz.1, hz.2⟩]
  have hs := pt_sq _ hz
  have hb := pt_bd _ hz
  unfold ptA ptB at *
  generalize runTo 43757185469210200 (a0 / 128) 45 = s at *
  simp only [Option.bind_some]
  rw [if_pos trivial, square_true _ _ hb.1 hb.2 hs.1 hs.2]
  rfl
end Go.Proofs.Ytghajjjdfhcljaa.Pure
