import Derived.Test.YtghajjjdfhcljaaPf3
import Derived.Test.YtghajjjdfhcljaaSplit
namespace Go.Proofs.Ytghajjjdfhcljaa.Pure
open Go.RowKit Go.Proofs.Ytghajjjdfhcljaa.P Go.Proofs.Ytghajjjdfhcljaa.Arc Go.Proofs.YtghajjjdfhcljaaW.PrintWords Go.Proofs.YtghajjjdfhcljaaW.PrintLast

theorem facts (n : Int) (h0 : 2 ≤ n) (h1 : n ≤ 524289) : arcI (n + 1) ≤ arcI n ∧ arcI n - (arcI (n + 1) + arcI (n * n + n + 1)) ≤ 400 ∧ arcI (n + 1) + arcI (n * n + n + 1) - arcI n ≤ 400 ∧
    (0 ≤ arcI n ∧ arcI n ≤ 72057594037927936) ∧ (0 ≤ arcI (n + 1) ∧ arcI (n + 1) ≤ 72057594037927936) ∧ (0 ≤ arcI (n * n + n + 1) ∧ arcI (n * n + n + 1) ≤ 72057594037927936) := by
  by_cases h : 4096 ≤ n
  · obtain ⟨a, b, c, d, e, f⟩ := great n h h1
    exact ⟨a, b, c, ⟨d.1, by omega⟩, ⟨e.1, by omega⟩, ⟨f.1, by omega⟩⟩
  · have := allSmall_at 4094 (n - 2).toNat small_all (by omega)
    rw [show (((n - 2).toNat : Nat) : Int) + 2 = n from by omega] at this
    simp only [okSmall, Bool.and_eq_true, decide_eq_true_eq] at this
    obtain ⟨⟨⟨⟨⟨⟨⟨⟨a, b⟩, c⟩, d⟩, e⟩, f⟩, g⟩, i⟩, j⟩ := this
    exact ⟨a, b, c, ⟨d, e⟩, ⟨f, g⟩, ⟨i, j⟩⟩
theorem near_true {a b m : Int} (ha : -1000000000000000000 ≤ a ∧ a ≤ 1000000000000000000) (hb : -1000000000000000000 ≤ b ∧ b ≤ 1000000000000000000) (h : a - b ≤ m) (k : b - a ≤ m) : headroomlaw04_near.f a b m = some true := by
  unfold headroomlaw04_near.f
  rw [wrap_id (x := a - b) (by unfold I64; omega), wrap_id (x := b - a) (by unfold I64; omega), if_pos h]
  simp [k]
theorem arg_range (a : Int) : 0 ≤ Int.tmod (wrap64 (Int.tmod a 524288 + 524288)) 524288 ∧ Int.tmod (wrap64 (Int.tmod a 524288 + 524288)) 524288 ≤ 524287 := by
  have h1 : -524288 < Int.tmod a 524288 := Int.lt_tmod_of_pos a (by decide)
  have h2 : Int.tmod a 524288 < 524288 := Int.tmod_lt_of_pos _ (by decide)
  rw [wrap_id (by unfold I64; omega), Int.tmod_eq_emod_of_nonneg (by omega)]
  omega
theorem rest_ok : headroomlaw04_near.f 56593902016227522 (wrap64 ((wrap64 (4 * arcI 5)) - arcI 239)) 400 = some true := by decide +kernel
theorem ArcSplits : ∀ (a0 : Int), (Lit.int .i64 a0).wf = true → headroomlaw04_ArcSplits.f a0 = some true := by
  intro a0 _
  unfold headroomlaw04_ArcSplits.f
  obtain ⟨h0, h1⟩ := arg_range a0
  generalize Int.tmod (wrap64 (Int.tmod a0 524288 + 524288)) 524288 = q at *
  rw [wrap_id (x := q + 2) (by unfold I64; omega)]
  generalize hn : q + 2 = n at *
  have hv : n * n ≤ 524289 * 524289 := Int.mul_le_mul (by omega) (by omega) (by omega) (by omega)
  have hv0 : 0 ≤ n * n := Int.mul_nonneg (by omega) (by omega)
  rw [wrap_id (x := n + 1) (by unfold I64; omega), wrap_id (x := n * n) (by unfold I64; omega), wrap_id (x := n * n + n) (by unfold I64; omega), wrap_id (x := n * n + n + 1) (by unfold I64; omega)]
  obtain ⟨f1, f2, f3, f4, f5, f6⟩ := facts n (by omega) (by omega)
  have r := rest_ok
  unfold arcI at *
  simp only [prog_Arc]
  rw [if_pos (show 2 ≤ n ∧ n ≤ 17592186044416 from by omega), if_pos (show 2 ≤ n + 1 ∧ n + 1 ≤ 17592186044416 from by omega), if_pos (show 2 ≤ n * n + n + 1 ∧ n * n + n + 1 ≤ 17592186044416 from by omega), if_pos (show (2 : Int) ≤ 5 ∧ (5 : Int) ≤ 17592186044416 from by decide), if_pos (show (2 : Int) ≤ 239 ∧ (239 : Int) ≤ 17592186044416 from by decide)]
  rw [alive, prog_Quarter]
  simp only [Option.bind_some, if_true, if_pos f1]
  rw [wrap_id (x := sumT (termsL (n + 1)) + sumT (termsL (n * n + n + 1))) (by unfold I64; omega), near_true (by omega) (by omega) (by omega) (by omega)]
  simp only [Option.bind_some, if_true]
  rw [r]
  rfl

end Go.Proofs.Ytghajjjdfhcljaa.Pure
