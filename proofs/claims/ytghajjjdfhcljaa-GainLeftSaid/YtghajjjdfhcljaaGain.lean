/- Plain facts on turns by shifts: the reference's are the program's. -/
import Derived.Test.YtghajjjdfhcljaaArc
import Derived.Test.YtghajjjdfhcljaaPg10
import Derived.Test.YtghajjjdfhcljaaPf23
import Derived.Test.YtghajjjdfhcljaaPf24
import Derived.Test.YtghajjjdfhcljaaPf27
import Derived.Test.YtghajjjdfhcljaaPf29
import Derived.Test.YtghajjjdfhcljaaPf25
set_option linter.unusedSimpArgs false
set_option linter.unusedVariables false
namespace Go.Proofs.Ytghajjjdfhcljaa.Arc
open Go.RowKit Go.Proofs.Ytghajjjdfhcljaa.P Go.Proofs.YtghajjjdfhcljaaW.PrintWords Go.Proofs.YtghajjjdfhcljaaW.PrintLast Go.Proofs.YtghajjjdfhcljaaW.PrintMore
theorem wrap_range (x : Int) : I64 (wrap64 x) := by unfold I64 wrap64; omega
theorem half_f {a : Int} (ha : I64 a) : headroomref01_half.f a = some (a / 2) := by
  unfold I64 at ha
  unfold headroomref01_half.f
  by_cases h0 : 0 ≤ a
  · have e1 : Int.tmod a 2 = a % 2 := Int.tmod_eq_emod_of_nonneg h0
    have e2 : Int.tdiv a 2 = a / 2 := Int.tdiv_eq_ediv_of_nonneg h0
    rw [e1, e2, wrap_id (by unfold I64; omega)]
    by_cases h1 : a % 2 = 0
    · rw [if_pos h1]
    · rw [if_neg h1, if_pos (by omega)]
  · have e2 : Int.tdiv a 2 = -((-a) / 2) := by
      have : Int.tdiv (-(-a)) 2 = -(Int.tdiv (-a) 2) := Int.neg_tdiv _ _
      rw [Int.neg_neg] at this
      rw [this, Int.tdiv_eq_ediv_of_nonneg (by omega)]
    have e1 : Int.tmod a 2 = -((-a) % 2) := by
      have : Int.tmod (-(-a)) 2 = -(Int.tmod (-a) 2) := Int.neg_tmod _ _
      rw [Int.neg_neg] at this
      rw [this, Int.tmod_eq_emod_of_nonneg (by omega)]
    rw [e1, e2, wrap_id (x := -((-a) / 2)) (by unfold I64; omega)]
    by_cases h1 : -((-a) % 2) = 0
    · rw [if_pos h1]
      congr 1
      omega
    · rw [if_neg h1, if_neg (by omega), wrap_id (by unfold I64; omega)]
      congr 1
      omega
theorem floor_l0 (I : Nat) (hI : I ≤ 60) : ∀ (d k i : Nat) (a : Int), I64 a → i + d = I → d < k → headroomref01_Floor.l0 k a (I : Int) (i : Int) = some (a / 2 ^ d) := by
  intro d
  induction d with
  | zero =>
    intro k i a ha hi hk
    obtain ⟨k, rfl⟩ : ∃ m, k = m + 1 := ⟨k - 1, by omega⟩
    simp only [headroomref01_Floor.l0]
    rw [if_neg (by omega), Int.pow_zero, Int.ediv_one]
  | succ d ih =>
    intro k i a ha hi hk
    obtain ⟨k, rfl⟩ : ∃ m, k = m + 1 := ⟨k - 1, by omega⟩
    have ha2 : I64 (a / 2) := by unfold I64 at *; omega
    simp only [headroomref01_Floor.l0]
    rw [if_pos (by omega), half_f ha]
    simp only [Option.bind_some]
    rw [wrap_id (by unfold I64; omega)]
    have := ih k (i + 1) (a / 2) ha2 (by omega) (by omega)
    rw [Int.natCast_succ] at this
    rw [this, Int.ediv_ediv_of_nonneg (by omega), Int.pow_succ, Int.mul_comm]
theorem floor_f {a : Int} (ha : I64 a) (i k : Nat) (hi : i ≤ 60) (hk : 61 ≤ k) : headroomref01_Floor.f k a (i : Int) = some (a / 2 ^ i) :=
  floor_l0 i hi i k 0 a ha (by omega) (by omega)
theorem step_f {a b c : Int} (ha : I64 a) (hb : I64 b) (i k : Nat) (y : Int) (hi : i ≤ 60) (hk : 61 ≤ k) : headroomref05_step.f k a b c (i : Int) y = some (runStep i y (a, b, c)) := by
  unfold headroomref05_step.f runStep
  rw [floor_f ha i k hi hk, floor_f hb i k hi hk]
  simp only [Option.bind_some]
  by_cases h : c ≥ 0
  · rw [if_pos h, if_pos h]
  · rw [if_neg h, if_neg h]
theorem runStep_range (i : Nat) (y : Int) (s : Int × Int × Int) : I64 (runStep i y s).1 ∧ I64 (runStep i y s).2.1 ∧ I64 (runStep i y s).2.2 := by
  unfold runStep
  split
  · exact ⟨wrap_range _, wrap_range _, wrap_range _⟩
  · exact ⟨wrap_range _, wrap_range _, wrap_range _⟩
theorem runTo_range (x z : Int) (hx : I64 x) (hz : I64 z) (k : Nat) : I64 (runTo x z k).1 ∧ I64 (runTo x z k).2.1 ∧ I64 (runTo x z k).2.2 := by
  cases k with
  | zero => exact ⟨hx, (show I64 0 by unfold I64; decide), hz⟩
  | succ k => exact runStep_range _ _ _
theorem angs_len : angsL.length = 45 := by decide
theorem runOf_l0 (x z : Int) (hx : I64 x) (hz : I64 z) : ∀ (d k i : Nat), i + d = 45 → d + 100 < k → headroomref05_RunOf.l0 k angsL 45 (i : Int) (runTo x z i).1 (runTo x z i).2.1 (runTo x z i).2.2 = some (runTo x z 45) := by
  intro d
  induction d with
  | zero =>
    intro k i hi hk
    obtain ⟨k, rfl⟩ : ∃ m, k = m + 1 := ⟨k - 1, by omega⟩
    obtain rfl : i = 45 := by omega
    rw [headroomref05_RunOf.l0, if_neg (by omega)]
  | succ d ih =>
    intro k i hi hk
    obtain ⟨k, rfl⟩ : ∃ m, k = m + 1 := ⟨k - 1, by omega⟩
    obtain ⟨ra, rb, _⟩ := runTo_range x z hx hz i
    have hrd : rd angsL (i : Int) = angsL.getD i 0 := rfl
    have := ih k (i + 1) (by omega) (by omega)
    rw [headroomref05_RunOf.l0, if_pos (by omega), if_pos (by omega), if_pos (by rw [angs_len]; omega), step_f ra rb i k _ (by omega) (by omega)]
    simp only [Option.bind_some]
    rw [wrap_id (by unfold I64; omega), hrd]
    rw [Int.natCast_succ] at this
    exact this
theorem runOf_f (x z : Int) (hx : I64 x) (hz : I64 z) (k : Nat) (hk : 200 ≤ k) : headroomref05_RunOf.f k angsL x z = some (runTo x z 45) := by
  unfold headroomref05_RunOf.f
  rw [angs_len]
  exact runOf_l0 x z hx hz 45 k 0 (by omega) (by omega)
theorem ref_Angles (k : Nat) (hk : 300 ≤ k) : headroomref05_Angles.f k = some angsL := at_rounds (fun k => headroomref05_Angles.mono k) hk (by decide +kernel)
theorem ref_Run (x z : Int) (hx : I64 x) (hz : I64 z) (k : Nat) (hk : 300 ≤ k) : headroomref05_Run.f k x z = some (runTo x z 45) := by
  unfold headroomref05_Run.f
  rw [ref_Angles k hk]
  simp only [Option.bind_some]
  rw [runOf_f x z hx hz k (by omega)]
  generalize runTo x z 45 = s
  rfl
theorem ref_Gain (k : Nat) (hk : 300 ≤ k) : headroomref05_Gain.f k = some 118661582157481174 := at_rounds (fun k => headroomref05_Gain.mono k) hk (by decide +kernel)
theorem ref_Inverse (k : Nat) (hk : 400 ≤ k) : headroomref05_Inverse.f k = some 43757185469210200 := at_rounds (fun k => headroomref05_Inverse.mono k) hk (by decide +kernel)
theorem alive05 : headroomlaw05_alive.f = some true := by decide +kernel
theorem ref_May (x z : Int) (k : Nat) (hk : 60 ≤ k) : headroomref05_May.f k x z = some (decide (0 ≤ x ∧ x ≤ 144115188075855872 ∧ -72057594037927936 ≤ z ∧ z ≤ 72057594037927936)) := by
  unfold headroomref05_May.f
  rw [at_rounds (fun k => headroomref01_Pow.mono _ k) hk pow56.1]
  simp only [Option.bind_some]
  rw [wrap_id (x := 2 * 72057594037927936) (by unfold I64; decide), wrap_id (x := -72057594037927936) (by unfold I64; decide)]
  by_cases h1 : 0 ≤ x
  · rw [if_pos h1]
    by_cases h2 : x ≤ 2 * 72057594037927936
    · rw [if_pos h2]
      by_cases h3 : z ≥ -72057594037927936
      · rw [if_pos h3]
        congr 1
        exact decide_eq_decide.2 ⟨fun h4 => ⟨h1, by omega, h3, h4⟩, fun h => h.2.2.2⟩
      · rw [if_neg h3, decide_eq_false (fun h => h3 h.2.2.1)]
    · rw [if_neg h2, decide_eq_false (fun h => h2 (by omega))]
  · rw [if_neg h1, decide_eq_false (fun h => h1 h.1)]
/-- What a turn asks. -/
def okRun (x z : Int) : Prop := 0 ≤ x ∧ x ≤ 144115188075855872 ∧ -72057594037927936 ≤ z ∧ z ≤ 72057594037927936
instance (x z : Int) : Decidable (okRun x z) := by unfold okRun; infer_instance
theorem run_ok {x z : Int} (h : okRun x z) : gain_Run.f x z = some ((runTo x z 45).1, (runTo x z 45).2.1, (runTo x z 45).2.2, 0) := by
  obtain ⟨h1, h2, h3, h4⟩ := h
  exact (if_neg (by omega)).trans ((if_neg (by omega)).trans ((if_neg (by omega)).trans (if_neg (by omega))))
theorem run_no {x z : Int} (h : ¬ okRun x z) : gain_Run.f x z = some (0, 0, 0, 2) := by
  unfold gain_Run.f
  by_cases h1 : x < 0
  · exact if_pos h1
  by_cases h2 : x > 144115188075855872
  · exact (if_neg h1).trans (if_pos h2)
  by_cases h3 : z < -72057594037927936
  · exact (if_neg h1).trans ((if_neg h2).trans (if_pos h3))
  by_cases h4 : z > 72057594037927936
  · exact (if_neg h1).trans ((if_neg h2).trans ((if_neg h3).trans (if_pos h4)))
  · exact absurd ⟨by omega, by omega, by omega, by omega⟩ h
end Go.Proofs.Ytghajjjdfhcljaa.Arc
