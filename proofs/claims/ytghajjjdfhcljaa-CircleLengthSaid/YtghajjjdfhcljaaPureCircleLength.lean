import Derived.Test.YtghajjjdfhcljaaPf9
import Derived.Test.YtghajjjdfhcljaaPoint
import Derived.Test.YtghajjjdfhcljaaMul
namespace Go.Proofs.Ytghajjjdfhcljaa.Pure
open Go.RowKit Go.Proofs.Ytghajjjdfhcljaa.P Go.Proofs.Ytghajjjdfhcljaa.Arc Go.Proofs.YtghajjjdfhcljaaW.PrintWords Go.Proofs.YtghajjjdfhcljaaW.PrintLast
theorem wf_range {a : Int} (h : (Lit.int .i64 a).wf = true) : -9223372036854775808 ≤ a ∧ a ≤ 9223372036854775807 := by
  simp only [Lit.wf, Bool.and_eq_true, decide_eq_true_eq] at h
  exact h
theorem near6 {a b m : Int} (ha : -1000000000000000000 ≤ a ∧ a ≤ 1000000000000000000) (hb : -1000000000000000000 ≤ b ∧ b ≤ 1000000000000000000) (h : a - b ≤ m) (k : b - a ≤ m) : headroomlaw06_near.f a b m = some true := by
  unfold headroomlaw06_near.f
  rw [wrap_id (x := a - b) (by unfold I64; omega), wrap_id (x := b - a) (by unfold I64; omega), if_pos h]
  simp [k]
theorem alive06 : headroomlaw06_alive.f = some true := by decide +kernel
theorem CircleLength : ∀ (a0 : Int), (Lit.int .i64 a0).wf = true → headroomlaw06_CircleLength.f a0 = some true := by
  intro a0 w0
  have r0 := wf_range w0
  have hz : okA (a0 / 128) := ⟨by omega, by omega⟩
  have hm : okA (-(a0 / 128)) := ⟨by have := hz.2; omega, by have := hz.1; omega⟩
  unfold headroomlaw06_CircleLength.f
  rw [wrap_id (x := -(a0 / 128)) (by unfold I64; omega), point_f _ hz, point_f _ hm, alive06]
  simp only [Option.bind_some, if_true]
  obtain ⟨s1, s2⟩ := pt_sq _ hz
  obtain ⟨b1, b2⟩ := pt_bd _ hz
  obtain ⟨c1, c2⟩ := pt_bd _ hm
  obtain ⟨g1, g2⟩ := pt_conj _ hz
  generalize ptA (a0 / 128) = a at *
  generalize ptB (a0 / 128) = b at *
  generalize ptA (-(a0 / 128)) = c at *
  generalize ptB (-(a0 / 128)) = d at *
  obtain ⟨m1, e1, u1, v1⟩ := mul06 a a (by omega) (by omega)
  obtain ⟨m2, e2, u2, v2⟩ := mul06 b b (by omega) (by omega)
  rw [e1, e2]
  simp only [Option.bind_some]
  generalize a * a = A at *
  generalize b * b = B at *
  rw [wrap_id (x := m1 + m2) (by unfold I64; omega), wrap_id (x := -d) (by unfold I64; omega)]
  rw [near6 (by omega) (by decide) (by omega) (by omega), near6 (by omega) (by omega) (by omega) (by omega), near6 (by omega) (by omega) (by omega) (by omega)]
  rfl
end Go.Proofs.Ytghajjjdfhcljaa.Pure
