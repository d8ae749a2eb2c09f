/- Points of the circle, in whole numbers: their lengths, conjugates and products. -/
import Derived.Test.YtghajjjdfhcljaaTurn
import Derived.Test.YtghajjjdfhcljaaPf33
set_option linter.unusedSimpArgs false
set_option linter.unusedVariables false
namespace Go.Proofs.Ytghajjjdfhcljaa.Arc
open Go.RowKit Go.Proofs.Ytghajjjdfhcljaa.P Go.Proofs.Ytghajjjdfhcljaa.Ang
/-- May an angle be? -/
def okA (z : Int) : Prop := -72057594037927936 ≤ z ∧ z ≤ 72057594037927936
def ptA (z : Int) : Int := (runTo 43757185469210200 z 45).1
def ptB (z : Int) : Int := (runTo 43757185469210200 z 45).2.1
def gI (a b : Int) : G := ⟨(a : Rat), (b : Rat)⟩
theorem pt_N (z : Int) (h : okA z) : N (gI (ptA z) (ptB z)) (mul (re 72057594037927936) (E z)) 4200 := point_near z h.1 h.2
theorem XE_len (z : Int) : n2 (mul (re 72057594037927936) (E z)) = 72057594037927936 * 72057594037927936 := by
  rw [n2_mul, E_unit]
  decide +kernel
theorem XE_L (z : Int) : L (mul (re 72057594037927936) (E z)) 72057594037927936 := ⟨by decide +kernel, by rw [XE_len]; decide +kernel⟩
theorem n2_gI (a b : Int) : n2 (gI a b) = ((a * a + b * b : Int) : Rat) := by
  simp only [n2, gI]
  rw [Rat.intCast_add, Rat.intCast_mul, Rat.intCast_mul]
theorem int_le {a b : Int} (h : (a : Rat) ≤ (b : Rat)) : a ≤ b := Rat.intCast_le_intCast.1 h
theorem pt_sq (z : Int) (h : okA z) : 72057594037923735 * 72057594037923735 ≤ ptA z * ptA z + ptB z * ptB z ∧ ptA z * ptA z + ptB z * ptB z ≤ 72057594037932136 * 72057594037932136 := by
  have k := pt_N z h
  constructor
  · false_or_by_contra
    rename_i hc
    have k2 : L (gI (ptA z) (ptB z)) 72057594037923735 := by
      refine ⟨by decide +kernel, ?_⟩
      rw [n2_gI]
      have : ((ptA z * ptA z + ptB z * ptB z : Int) : Rat) ≤ ((72057594037923735 * 72057594037923735 : Int) : Rat) := Rat.intCast_le_intCast.2 (by omega)
      refine Rat.le_trans this ?_
      decide +kernel
    have k3 := L_of_N (N_symm k) k2
    have k4 := k3.2
    rw [XE_len] at k4
    exact absurd k4 (by decide +kernel)
  · have k2 := L_of_N k (XE_L z)
    have k3 := k2.2
    rw [n2_gI] at k3
    apply int_le
    refine Rat.le_trans k3 ?_
    decide +kernel
theorem abs_of_sq {a b M : Int} (hM : 0 ≤ M) (h : a * a + b * b ≤ M * M) : -M ≤ a ∧ a ≤ M := by
  have hb : 0 ≤ b * b := by
    rcases Int.le_total 0 b with q | q
    · exact Int.mul_nonneg q q
    · exact Int.mul_nonneg_of_nonpos_of_nonpos q q
  constructor
  · false_or_by_contra
    have : (M + 1) * (M + 1) ≤ (-a) * (-a) := Int.mul_le_mul (by omega) (by omega) (by omega) (by omega)
    grind
  · false_or_by_contra
    have : (M + 1) * (M + 1) ≤ a * a := Int.mul_le_mul (by omega) (by omega) (by omega) (by omega)
    grind
theorem pt_bd (z : Int) (h : okA z) : (-72057594037932136 ≤ ptA z ∧ ptA z ≤ 72057594037932136) ∧ (-72057594037932136 ≤ ptB z ∧ ptB z ≤ 72057594037932136) := by
  have k := (pt_sq z h).2
  exact ⟨abs_of_sq (by decide) k, abs_of_sq (by decide) (by rw [Int.add_comm]; exact k)⟩
theorem gap {a b c d m : Int} (h : N (gI a b) (gI c d) (m : Rat)) : (a - c ≤ m ∧ c - a ≤ m) ∧ (b - d ≤ m ∧ d - b ≤ m) := by
  have h1 := L_re h
  have h2 := L_im h
  simp only [sub, gI] at h1 h2
  refine ⟨⟨?_, ?_⟩, ?_, ?_⟩ <;> apply int_le <;> rw [Rat.intCast_sub] <;> grind
theorem pt_conj (z : Int) (h : okA z) : (ptA z - ptA (-z) ≤ 8400 ∧ ptA (-z) - ptA z ≤ 8400) ∧ (ptB z - -ptB (-z) ≤ 8400 ∧ -ptB (-z) - ptB z ≤ 8400) := by
  have k1 := pt_N z h
  have k2 := N_cj (pt_N (-z) ⟨by have := h.2; omega, by have := h.1; omega⟩)
  rw [cj_mul, E_neg] at k2
  have e1 : cj (cj (E z)) = E z := by apply G.ext' <;> simp only [cj] <;> grind
  have e2 : cj (re 72057594037927936) = re 72057594037927936 := by apply G.ext' <;> simp only [cj, re] <;> grind
  have e3 : cj (gI (ptA (-z)) (ptB (-z))) = gI (ptA (-z)) (-ptB (-z)) := by
    apply G.ext'
    · rfl
    · simp only [cj, gI]; rw [Rat.intCast_neg]
  rw [e1, e2, e3] at k2
  have k3 := N_trans k1 (N_symm k2)
  refine gap (N_mono k3 ?_)
  decide +kernel
theorem pt_sum (y z : Int) (hy : okA y) (hz : okA z) (hs : okA (y + z)) :
    (ptA y * ptA z - ptB y * ptB z - 72057594037927936 * ptA (y + z) ≤ 907997742471930100000 ∧ 72057594037927936 * ptA (y + z) - (ptA y * ptA z - ptB y * ptB z) ≤ 907997742471930100000) ∧
    (ptA y * ptB z + ptB y * ptA z - 72057594037927936 * ptB (y + z) ≤ 907997742471930100000 ∧ 72057594037927936 * ptB (y + z) - (ptA y * ptB z + ptB y * ptA z) ≤ 907997742471930100000) := by
  have k1 := N_mul (L_of_N (pt_N z hz) (XE_L z)) (XE_L y) (pt_N y hy) (pt_N z hz)
  have k2 := N_mul_left (re 72057594037927936) (L_re' (by decide +kernel)) (pt_N (y + z) hs)
  have e1 : mul (mul (re 72057594037927936) (E y)) (mul (re 72057594037927936) (E z)) = mul (re 72057594037927936) (mul (re 72057594037927936) (E (y + z))) := by
    rw [E_add, mul_assoc, ← mul_assoc (E y), mul_comm (E y), mul_assoc (re 72057594037927936) (E y)]
  rw [e1] at k1
  have k3 := N_trans k1 (N_symm k2)
  have e2 : mul (gI (ptA y) (ptB y)) (gI (ptA z) (ptB z)) = gI (ptA y * ptA z - ptB y * ptB z) (ptA y * ptB z + ptB y * ptA z) := by
    apply G.ext'
    · simp only [mul, gI]; rw [Rat.intCast_sub, Rat.intCast_mul, Rat.intCast_mul]
    · simp only [mul, gI]; rw [Rat.intCast_add, Rat.intCast_mul, Rat.intCast_mul]
  have e3 : mul (re 72057594037927936) (gI (ptA (y + z)) (ptB (y + z))) = gI (72057594037927936 * ptA (y + z)) (72057594037927936 * ptB (y + z)) := by
    apply G.ext'
    · simp only [mul, gI, re]; rw [Rat.intCast_mul]; grind
    · simp only [mul, gI, re]; rw [Rat.intCast_mul]; grind
  rw [e2, e3] at k3
  refine gap (N_mono k3 ?_)
  decide +kernel
theorem point_f (z : Int) (h : okA z) : circle_Point.f z = some (ptA z, ptB z, 0) := by
  unfold circle_Point.f
  rw [run_ok ⟨by decide, by decide, h.1, h.2⟩]
  unfold ptA ptB
  generalize runTo 43757185469210200 z 45 = s
  rfl
end Go.Proofs.Ytghajjjdfhcljaa.Arc
