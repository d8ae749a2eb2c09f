/- Plain facts on products of 128 bits, and on products of numbers of 2^56 a one. -/
import Derived.Test.YtghajjjdfhcljaaBase
import Derived.Test.YtghajjjdfhcljaaPg2
import Derived.Laws.BitsLemmas
import Derived.Laws.Bits64
set_option linter.unusedSimpArgs false
set_option linter.unusedVariables false
namespace Go.Proofs.Ytghajjjdfhcljaa.Arc
open Go.RowKit Go.Proofs.Ytghajjjdfhcljaa.P Go.Proofs.YtghajjjdfhcljaaW.PrintWords Go.Proofs.YtghajjjdfhcljaaW.PrintLast Go.Proofs.YtghajjjdfhcljaaW.PrintMore
theorem wraps_u64 (n : Int) (h0 : 0 ≤ n) (h1 : n < 2 ^ 64) : IntKind.u64.wrap n = n := by rw [IntKind.wrap_u64]; omega
theorem mask32 (x : Int) (h0 : 0 ≤ x) (h1 : x < 18446744073709551616) : Go.bits .and .u64 x 4294967295 = x % 4294967296 :=
  bits_mask .u64 64 (by decide) wraps_u64 32 (by decide) x h0 h1
theorem mul64_f {x y : Int} (hx0 : 0 ≤ x) (hx1 : x < 18446744073709551616) (hy0 : 0 ≤ y) (hy1 : y < 18446744073709551616) :
    bits_Mul64.f x y = some (x * y / 18446744073709551616, x * y % 18446744073709551616) := by
  unfold bits_Mul64.f
  rw [mask32 x hx0 hx1, mask32 y hy0 hy1]
  have ex : x = 4294967296 * (x / 4294967296) + x % 4294967296 := by omega
  have ey : y = 4294967296 * (y / 4294967296) + y % 4294967296 := by omega
  have bx : 0 ≤ x / 4294967296 ∧ x / 4294967296 ≤ 4294967295 := by omega
  have by_ : 0 ≤ y / 4294967296 ∧ y / 4294967296 ≤ 4294967295 := by omega
  have cx : 0 ≤ x % 4294967296 ∧ x % 4294967296 ≤ 4294967295 := by omega
  have cy : 0 ≤ y % 4294967296 ∧ y % 4294967296 ≤ 4294967295 := by omega
  generalize x / 4294967296 = x1 at *
  generalize y / 4294967296 = y1 at *
  generalize x % 4294967296 = x0 at *
  generalize y % 4294967296 = y0 at *
  have pr : ∀ {a b : Int}, 0 ≤ a ∧ a ≤ 4294967295 → 0 ≤ b ∧ b ≤ 4294967295 → 0 ≤ a * b ∧ a * b ≤ 18446744065119617025 := by
    intro a b ha hb
    exact ⟨Int.mul_nonneg ha.1 hb.1, Int.mul_le_mul ha.2 hb.2 hb.1 (by decide)⟩
  have exy : x * y = 18446744073709551616 * (x1 * y1) + 4294967296 * (x1 * y0 + x0 * y1) + x0 * y0 := by rw [ex, ey]; grind
  rw [exy]
  have hA := pr bx by_
  have hB := pr bx cy
  have hC := pr cx by_
  have hD := pr cx cy
  generalize x1 * y1 = A at *
  generalize x1 * y0 = B at *
  generalize x0 * y1 = C at *
  generalize x0 * y0 = D at *
  clear ex ey bx by_ cx cy pr exy
  rw [wraps_u64 A (by omega) (by omega), wraps_u64 B (by omega) (by omega), wraps_u64 C (by omega) (by omega), wraps_u64 D (by omega) (by omega)]
  rw [wraps_u64 (B + D / 4294967296) (by omega) (by omega)]
  rw [mask32 (B + D / 4294967296) (by omega) (by omega)]
  rw [wraps_u64 ((B + D / 4294967296) % 4294967296 + C) (by omega) (by omega)]
  rw [wraps_u64 (A + (B + D / 4294967296) / 4294967296) (by omega) (by omega)]
  rw [wraps_u64 (A + (B + D / 4294967296) / 4294967296 + ((B + D / 4294967296) % 4294967296 + C) / 4294967296) (by omega) (by omega)]
  rw [IntKind.wrap_u64]
  congr 2
  omega
theorem mx_abs (a : Int) (h : -144115188075855872 ≤ a ∧ a ≤ 144115188075855872) : mx a (wrap64 (-a)) = if a < 0 then -a else a := by
  rw [wrap_id (by unfold I64; omega)]
  unfold mx
  by_cases h1 : a < 0
  · rw [if_pos h1, if_pos (by omega)]
  · rw [if_neg h1, if_neg (by omega)]
theorem or_join (x y : Int) (hx0 : 0 ≤ x) (hx1 : x < 72057594037927936) (hy0 : 0 ≤ y) (hy1 : y < 256) : Go.bits .or .u64 (x * 256) y = x * 256 + y :=
  bits_join .u64 64 (by decide) wraps_u64 8 (x * 256) y (by omega) (by omega) (by omega) hy0 (by omega) (by omega)
theorem mul06 (a b : Int) (ha : -144115188075855872 ≤ a ∧ a ≤ 144115188075855872) (hb : -144115188075855872 ≤ b ∧ b ≤ 144115188075855872) :
    ∃ m, headroomlaw06_mul.f a b = some m ∧ m * 72057594037927936 - a * b < 72057594037927936 ∧ a * b - m * 72057594037927936 < 72057594037927936 := by
  have h0 : ∀ c : Int, -144115188075855872 ≤ c ∧ c ≤ 144115188075855872 → 0 ≤ (if c < 0 then -c else c) ∧ (if c < 0 then -c else c) ≤ 144115188075855872 := by
    intro c hc
    split <;> omega
  have hA := h0 a ha
  have hB := h0 b hb
  have hP : (if a < 0 then -a else a) * (if b < 0 then -b else b) = if (decide (a < 0) != decide (b < 0)) = true then -(a * b) else a * b := by
    by_cases h1 : a < 0 <;> by_cases h2 : b < 0 <;> simp [h1, h2] <;> grind
  unfold headroomlaw06_mul.f
  rw [mx_abs a ha, mx_abs b hb]
  generalize (if a < 0 then -a else a) = A at *
  generalize (if b < 0 then -b else b) = B at *
  have p0 : 0 ≤ A * B := Int.mul_nonneg hA.1 hB.1
  have p1 : A * B ≤ 144115188075855872 * 144115188075855872 := Int.mul_le_mul hA.2 hB.2 hB.1 (by decide)
  rw [wraps_u64 A (by omega) (by omega), wraps_u64 B (by omega) (by omega), mul64_f (by omega) (by omega) (by omega) (by omega)]
  simp only [Option.bind_some]
  generalize A * B = Q at *
  rw [wraps_u64 (Q / 18446744073709551616 * 256) (by omega) (by omega), or_join _ _ (by omega) (by omega) (by omega) (by omega)]
  have e : Q / 18446744073709551616 * 256 + Q % 18446744073709551616 / 72057594037927936 = Q / 72057594037927936 := by omega
  rw [e, wrap_id (x := Q / 72057594037927936) (by unfold I64; omega)]
  by_cases hs : (decide (a < 0) != decide (b < 0)) = true
  · rw [if_pos hs] at hP ⊢
    rw [wrap_id (by unfold I64; omega)]
    refine ⟨_, rfl, ?_, ?_⟩ <;> omega
  · rw [if_neg hs] at hP ⊢
    refine ⟨_, rfl, ?_, ?_⟩ <;> omega
end Go.Proofs.Ytghajjjdfhcljaa.Arc
