/- Plain facts on numbers: halving rounds down; a power of 2; a Floor. -/
import Derived.Test.YtbpanbmjkfhcgaaPg2
import Derived.Test.YtbpanbmjkfhcgaaPg1
set_option linter.unusedSimpArgs false
set_option linter.unusedVariables false
namespace Go.Proofs.Ytbpanbmjkfhcgaa.Num
open Go.RowKit Go.Proofs.Ytbpanbmjkfhcgaa.P Go.Proofs.YtbpanbmjkfhcgaaW.PrintWords Go.Proofs.YtbpanbmjkfhcgaaW.PrintLast Go.Proofs.YtbpanbmjkfhcgaaW.PrintMore

/-- An int's bounds. -/
def I64 (x : Int) : Prop := -9223372036854775808 ≤ x ∧ x ≤ 9223372036854775807
theorem wrap_id {x : Int} (h : I64 x) : wrap64 x = x := by unfold wrap64; unfold I64 at h; omega
theorem tdiv2 (x : Int) : (Int.tmod x 2 = 0 → x.tdiv 2 = x / 2) ∧ (Int.tmod x 2 ≠ 0 → 0 < x → x.tdiv 2 = x / 2) ∧ (Int.tmod x 2 ≠ 0 → ¬ 0 < x → x.tdiv 2 = x / 2 + 1) ∧ (x.tdiv 2 = x / 2 ∨ x.tdiv 2 = x / 2 + 1) := by
  rcases Int.le_total 0 x with h | h
  · have e : x.tdiv 2 = x / 2 := Int.tdiv_eq_ediv_of_nonneg h
    refine ⟨fun _ => e, fun _ _ => e, fun hm hx => ?_, .inl e⟩
    have : x = 0 := by omega
    subst this
    exact absurd rfl hm
  · obtain ⟨y, rfl⟩ : ∃ y, x = -y := ⟨-x, by omega⟩
    have hy : 0 ≤ y := by omega
    have e : (-y).tdiv 2 = -(y / 2) := by rw [Int.neg_tdiv, Int.tdiv_eq_ediv_of_nonneg hy]
    have m : Int.tmod (-y) 2 = -(y % 2) := by rw [Int.neg_tmod, Int.tmod_eq_emod_of_nonneg hy]
    rw [e, m]
    refine ⟨fun hm => by omega, fun hm hx => by omega, fun hm hx => by omega, by omega⟩
theorem half_eq {x : Int} (h : I64 x) : headroomref01_half.f x = some (x / 2) := by
  obtain ⟨h0, h1, h2, h3⟩ := tdiv2 x
  unfold I64 at h
  have w : wrap64 (x.tdiv 2) = x.tdiv 2 := wrap_id (by unfold I64; omega)
  unfold headroomref01_half.f
  rw [w]
  by_cases c : Int.tmod x 2 = 0
  · rw [if_pos c, h0 c]
  · rw [if_neg c]
    by_cases p : x > 0
    · rw [if_pos p, h1 c p]
    · rw [if_neg p, h2 c p, show x / 2 + 1 - 1 = x / 2 from by omega, wrap_id (by unfold I64; omega)]
theorem div_pow_succ (x : Int) (d : Nat) : x / 2 / 2 ^ d = x / 2 ^ (d + 1) := by
  rw [Int.ediv_ediv_of_nonneg (by decide), Int.pow_succ, Int.mul_comm]
theorem half_i64 {x : Int} (h : I64 x) : I64 (x / 2) := by unfold I64 at *; omega
theorem floor_l0 : ∀ (d k : Nat) (x s i : Int), I64 x → 0 ≤ i → i + d = s → s ≤ 1000 → d < k → headroomref01_Floor.l0 k x s i = some (x / 2 ^ d) := by
  intro d
  induction d with
  | zero =>
    intro k x s i hx h0 hs _ hk
    obtain ⟨k, rfl⟩ : ∃ m, k = m + 1 := ⟨k - 1, by omega⟩
    simp only [headroomref01_Floor.l0]
    rw [if_neg (by omega)]
    simp
  | succ d ih =>
    intro k x s i hx h0 hs hb hk
    obtain ⟨k, rfl⟩ : ∃ m, k = m + 1 := ⟨k - 1, by omega⟩
    simp only [headroomref01_Floor.l0]
    rw [if_pos (by omega), half_eq hx]
    simp only [Option.bind_some]
    rw [wrap_id (by unfold I64; omega), ih k (x / 2) s (i + 1) (half_i64 hx) (by omega) (by omega) hb (by omega), div_pow_succ]
/-- Floor is a division by a power of 2, rounded down. -/
theorem floor_eq {k : Nat} {x s : Int} (hx : I64 x) (h0 : 0 ≤ s) (hs : s ≤ 1000) (hk : s.toNat < k) : headroomref01_Floor.f k x s = some (x / 2 ^ s.toNat) := by
  unfold headroomref01_Floor.f
  exact floor_l0 s.toNat k x s 0 hx (by omega) (by omega) hs hk
theorem pow_l0 : ∀ (d k : Nat) (s p i : Int), 0 ≤ i → i + d = s → s ≤ 62 → p = 2 ^ i.toNat → d < k → headroomref01_Pow.l0 k s p i = some (2 ^ s.toNat) := by
  intro d
  induction d with
  | zero =>
    intro k s p i h0 hs _ hp hk
    obtain ⟨k, rfl⟩ : ∃ m, k = m + 1 := ⟨k - 1, by omega⟩
    simp only [headroomref01_Pow.l0]
    rw [if_neg (by omega), hp, show i = s from by omega]
  | succ d ih =>
    intro k s p i h0 hs hb hp hk
    obtain ⟨k, rfl⟩ : ∃ m, k = m + 1 := ⟨k - 1, by omega⟩
    obtain ⟨n, rfl⟩ := Int.eq_ofNat_of_zero_le h0
    have hn : n ≤ 61 := by omega
    have hle : (2 : Int) ^ n ≤ 2 ^ 61 := by
      have h' : (2 : Nat) ^ n ≤ 2 ^ 61 := Nat.pow_le_pow_right (by decide) hn
      exact_mod_cast h'
    have hpos : (0 : Int) < 2 ^ n := Int.pow_pos (by decide)
    have hp' : p = 2 ^ n := by simpa using hp
    simp only [headroomref01_Pow.l0]
    have w2 : wrap64 (2 * p) = 2 * p := wrap_id (by unfold I64; rw [hp']; have : (2 : Int) ^ 61 = 2305843009213693952 := by decide
                                                    omega)
    rw [if_pos (by omega), wrap_id (x := (n : Int) + 1) (by unfold I64; omega), w2]
    refine ih k s (2 * p) (n + 1) (by omega) (by omega) hb ?_ (by omega)
    rw [show ((n : Int) + 1).toNat = n + 1 from by omega, hp', Int.pow_succ, Int.mul_comm]
theorem pow_eq {k : Nat} {s : Int} (h0 : 0 ≤ s) (hs : s ≤ 62) (hk : s.toNat < k) : headroomref01_Pow.f k s = some (2 ^ s.toNat) := by
  unfold headroomref01_Pow.f
  exact pow_l0 s.toNat k s 1 0 (by omega) (by omega) hs (by simp) hk
end Go.Proofs.Ytbpanbmjkfhcgaa.Num
