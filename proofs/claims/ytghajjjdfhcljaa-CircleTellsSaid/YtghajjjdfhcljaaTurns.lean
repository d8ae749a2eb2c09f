/- The reference's turns are the program's. -/
import Derived.Test.YtghajjjdfhcljaaBase
import Derived.Test.YtghajjjdfhcljaaPf54
import Derived.Test.YtghajjjdfhcljaaT4
set_option linter.unusedSimpArgs false
set_option linter.unusedVariables false
namespace Go.Proofs.Ytghajjjdfhcljaa.Arc
open Go.RowKit Go.Proofs.Ytghajjjdfhcljaa.P Go.Proofs.YtghajjjdfhcljaaW.PrintWords Go.Proofs.YtghajjjdfhcljaaW.PrintLast Go.Proofs.YtghajjjdfhcljaaW.PrintMore
theorem half_f {a : Int} (ha : I64 a) : headroomref01_half.f a = some (a / 2) := by
  unfold I64 at ha
  unfold headroomref01_half.f
  by_cases h0 : 0 ≤ a
  · have e1 : Int.tmod a 2 = a % 2 := Int.tmod_eq_emod_of_nonneg h0
    have e2 : Int.tdiv a 2 = a / 2 := Int.tdiv_eq_ediv_of_nonneg h0
    rw [e1, e2, wrap_id (by unfold I64; omega)]
    by_cases h1 : a % 2 = 0
    · rw [if_pos h1]
    · rw [if_neg h1, if_pos (by omega)]
  · have e2 : Int.tdiv a 2 = -((-a) / 2) := by
      have : Int.tdiv (-(-a)) 2 = -(Int.tdiv (-a) 2) := Int.neg_tdiv _ _
      rw [Int.neg_neg] at this
      rw [this, Int.tdiv_eq_ediv_of_nonneg (by omega)]
    have e1 : Int.tmod a 2 = -((-a) % 2) := by
      have : Int.tmod (-(-a)) 2 = -(Int.tmod (-a) 2) := Int.neg_tmod _ _
      rw [Int.neg_neg] at this
      rw [this, Int.tmod_eq_emod_of_nonneg (by omega)]
    rw [e1, e2, wrap_id (x := -((-a) / 2)) (by unfold I64; omega)]
    by_cases h1 : -((-a) % 2) = 0
    · rw [if_pos h1]
      congr 1
      omega
    · rw [if_neg h1, if_neg (by omega), wrap_id (by unfold I64; omega)]
      congr 1
      omega
theorem floor_l0 (I : Nat) (hI : I ≤ 60) : ∀ (d k i : Nat) (a : Int), I64 a → i + d = I → d < k → headroomref01_Floor.l0 k a (I : Int) (i : Int) = some (a / 2 ^ d) := by
  intro d
  induction d with
  | zero =>
    intro k i a ha hi hk
    obtain ⟨k, rfl⟩ : ∃ m, k = m + 1 := ⟨k - 1, by omega⟩
    simp only [headroomref01_Floor.l0]
    rw [if_neg (by omega), Int.pow_zero, Int.ediv_one]
  | succ d ih =>
    intro k i a ha hi hk
    obtain ⟨k, rfl⟩ : ∃ m, k = m + 1 := ⟨k - 1, by omega⟩
    have ha2 : I64 (a / 2) := by unfold I64 at *; omega
    simp only [headroomref01_Floor.l0]
    rw [if_pos (by omega), half_f ha]
    simp only [Option.bind_some]
    rw [wrap_id (by unfold I64; omega)]
    have := ih k (i + 1) (a / 2) ha2 (by omega) (by omega)
    rw [Int.natCast_succ] at this
    rw [this, Int.ediv_ediv_of_nonneg (by omega), Int.pow_succ, Int.mul_comm]
theorem floor_f {a : Int} (ha : I64 a) (i k : Nat) (hi : i ≤ 60) (hk : 61 ≤ k) : headroomref01_Floor.f k a (i : Int) = some (a / 2 ^ i) :=
  floor_l0 i hi i k 0 a ha (by omega) (by omega)
theorem step_f {a b c : Int} (ha : I64 a) (hb : I64 b) (i k : Nat) (y : Int) (hi : i ≤ 60) (hk : 61 ≤ k) : headroomref05_step.f k a b c (i : Int) y = some (runStep i y (a, b, c)) := by
  unfold headroomref05_step.f runStep
  rw [floor_f ha i k hi hk, floor_f hb i k hi hk]
  simp only [Option.bind_some]
  by_cases h : c ≥ 0
  · rw [if_pos h, if_pos h]
  · rw [if_neg h, if_neg h]
theorem runStep_range (i : Nat) (y : Int) (s : Int × Int × Int) : I64 (runStep i y s).1 ∧ I64 (runStep i y s).2.1 ∧ I64 (runStep i y s).2.2 := by
  unfold runStep
  split
  · exact ⟨wrap_range _, wrap_range _, wrap_range _⟩
  · exact ⟨wrap_range _, wrap_range _, wrap_range _⟩
theorem runTo_range (x z : Int) (hx : I64 x) (hz : I64 z) (k : Nat) : I64 (runTo x z k).1 ∧ I64 (runTo x z k).2.1 ∧ I64 (runTo x z k).2.2 := by
  cases k with
  | zero => exact ⟨hx, (show I64 0 by unfold I64; decide), hz⟩
  | succ k => exact runStep_range _ _ _
theorem angs_len : angsL.length = 45 := by decide
theorem runOf_l0 (x z : Int) (hx : I64 x) (hz : I64 z) : ∀ (d k i : Nat), i + d = 45 → d + 100 < k → headroomref05_RunOf.l0 k angsL 45 (i : Int) (runTo x z i).1 (runTo x z i).2.1 (runTo x z i).2.2 = some (runTo x z 45) := by
  intro d
  induction d with
  | zero =>
    intro k i hi hk
    obtain ⟨k, rfl⟩ : ∃ m, k = m + 1 := ⟨k - 1, by omega⟩
    obtain rfl : i = 45 := by omega
    rw [headroomref05_RunOf.l0, if_neg (by omega)]
  | succ d ih =>
    intro k i hi hk
    obtain ⟨k, rfl⟩ : ∃ m, k = m + 1 := ⟨k - 1, by omega⟩
    obtain ⟨ra, rb, _⟩ := runTo_range x z hx hz i
    have hrd : rd angsL (i : Int) = angsL.getD i 0 := rfl
    have := ih k (i + 1) (by omega) (by omega)
    rw [headroomref05_RunOf.l0, if_pos (by omega), if_pos (by omega), if_pos (by rw [angs_len]; omega), step_f ra rb i k _ (by omega) (by omega)]
    simp only [Option.bind_some]
    rw [wrap_id (by unfold I64; omega), hrd]
    rw [Int.natCast_succ] at this
    exact this
theorem runOf_f (x z : Int) (hx : I64 x) (hz : I64 z) (k : Nat) (hk : 200 ≤ k) : headroomref05_RunOf.f k angsL x z = some (runTo x z 45) := by
  unfold headroomref05_RunOf.f
  rw [angs_len]
  exact runOf_l0 x z hx hz 45 k 0 (by omega) (by omega)
end Go.Proofs.Ytghajjjdfhcljaa.Arc
