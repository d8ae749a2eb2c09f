import Derived.Test.YtghajjjdfhcljaaPf10
import Derived.Test.YtghajjjdfhcljaaPoint
import Derived.Test.YtghajjjdfhcljaaMul
namespace Go.Proofs.Ytghajjjdfhcljaa.Pure
open Go.RowKit Go.Proofs.Ytghajjjdfhcljaa.P Go.Proofs.Ytghajjjdfhcljaa.Arc Go.Proofs.YtghajjjdfhcljaaW.PrintWords Go.Proofs.YtghajjjdfhcljaaW.PrintLast
theorem wf_range {a : Int} (h : (Lit.int .i64 a).wf = true) : -9223372036854775808 ≤ a ∧ a ≤ 9223372036854775807 := by
  simp only [Lit.wf, Bool.and_eq_true, decide_eq_true_eq] at h
  exact h
theorem near6 {a b m : Int} (ha : -1000000000000000000 ≤ a ∧ a ≤ 1000000000000000000) (hb : -1000000000000000000 ≤ b ∧ b ≤ 1000000000000000000) (h : a - b ≤ m) (k : b - a ≤ m) : headroomlaw06_near.f a b m = some true := by
  unfold headroomlaw06_near.f
  rw [wrap_id (x := a - b) (by unfold I64; omega), wrap_id (x := b - a) (by unfold I64; omega), if_pos h]
  simp [k]
theorem alive06 : headroomlaw06_alive.f = some true := by decide +kernel
theorem CircleSum : ∀ (a0 : Int) (a1 : Int), (Lit.int .i64 a0).wf = true → (Lit.int .i64 a1).wf = true → headroomlaw06_CircleSum.f a0 a1 = some true := by
  intro a0 a1 w0 w1
  have r0 := wf_range w0
  have r1 := wf_range w1
  have hy : okA (a0 / 256) := ⟨by omega, by omega⟩
  have hz : okA (a1 / 256) := ⟨by omega, by omega⟩
  have hs : okA (a0 / 256 + a1 / 256) := ⟨by omega, by omega⟩
  unfold headroomlaw06_CircleSum.f
  rw [wrap_id (x := a0 / 256 + a1 / 256) (by unfold I64; omega), point_f _ hy, point_f _ hz, point_f _ hs, alive06]
  simp only [Option.bind_some, if_true]
  obtain ⟨b1, b2⟩ := pt_bd _ hy
  obtain ⟨c1, c2⟩ := pt_bd _ hz
  obtain ⟨d1, d2⟩ := pt_bd _ hs
  obtain ⟨g1, g2⟩ := pt_sum _ _ hy hz hs
  generalize ptA (a0 / 256 + a1 / 256) = s at *
  generalize ptB (a0 / 256 + a1 / 256) = t at *
  generalize ptA (a0 / 256) = a at *
  generalize ptB (a0 / 256) = b at *
  generalize ptA (a1 / 256) = c at *
  generalize ptB (a1 / 256) = d at *
  clear hy hz hs
  obtain ⟨m1, e1, u1, v1⟩ := mul06 a c (by omega) (by omega)
  obtain ⟨m2, e2, u2, v2⟩ := mul06 b d (by omega) (by omega)
  obtain ⟨m3, e3, u3, v3⟩ := mul06 a d (by omega) (by omega)
  obtain ⟨m4, e4, u4, v4⟩ := mul06 b c (by omega) (by omega)
  rw [e1, e2, e3, e4]
  simp only [Option.bind_some]
  generalize a * c = A at *
  generalize b * d = B at *
  generalize a * d = C at *
  generalize b * c = D at *
  have f1 : s - (m1 - m2) ≤ 20000 ∧ (m1 - m2) - s ≤ 20000 := by omega
  have f2 : t - (m3 + m4) ≤ 20000 ∧ (m3 + m4) - t ≤ 20000 := by omega
  rw [wrap_id (x := m1 - m2) (by unfold I64; omega), wrap_id (x := m3 + m4) (by unfold I64; omega)]
  rw [near6 (by omega) (by omega) (by omega) (by omega), near6 (by omega) (by omega) (by omega) (by omega)]
  rfl
end Go.Proofs.Ytghajjjdfhcljaa.Pure
