/- Turns by shifts against powers of a unit number. -/
import Derived.Test.YtghajjjdfhcljaaLeft
import Derived.Test.YtghajjjdfhcljaaAng
set_option linter.unusedSimpArgs false
set_option linter.unusedVariables false
namespace Go.Proofs.Ytghajjjdfhcljaa.Arc
open Go.RowKit Go.Proofs.Ytghajjjdfhcljaa.P Go.Proofs.Ytghajjjdfhcljaa.Ang
/-- How much longer each step makes, in parts of 2^64, and how far off its angle is at most. -/
def rL : List Int := [26087635650665564424, 20624086856177974293, 19014468566160273242, 18590300667393148081, 18482737754908588740, 18455749075014123967, 18448995736101058048, 18447307015073300470, 18446884810661040127, 18446779258048086079, 18446752869800476672, 18446746272732676096, 18446744623465357312, 18446744211148504576, 18446744108069289952, 18446744082299486206, 18446744075857035263, 18446744074246422527, 18446744073843769343, 18446744073743106047, 18446744073717940223, 18446744073711648767, 18446744073710075903, 18446744073709682687, 18446744073709584383, 18446744073709559807, 18446744073709553663, 18446744073709552127, 18446744073709551743, 18446744073709551647, 18446744073709551623, 18446744073709551617, 18446744073709551616, 18446744073709551616, 18446744073709551616, 18446744073709551616, 18446744073709551616, 18446744073709551616, 18446744073709551616, 18446744073709551616, 18446744073709551616, 18446744073709551616, 18446744073709551616, 18446744073709551616, 18446744073709551616]
def epsL : List Int := [77, 184, 470, 61, 31, 45, 89, 144, 73, 20, 122, 71, 85, 173, 88, 173, 88, 173, 88, 45, 8, 3, 3, 3, 3, 3, 3, 3, 3, 3, 3, 3, 3, 3, 3, 3, 3, 3, 3, 3, 3, 3, 3, 3, 3]
def tG (j : Nat) : G := ⟨1, 1 / ((2 ^ j : Int) : Rat)⟩
def rQ (j : Nat) : Rat := ((rL.getD j 0 : Int) : Rat) / 18446744073709551616
def eQ (j : Nat) : Rat := ((epsL.getD j 0 : Int) : Rat) / 18446744073709551616
def re (a : Rat) : G := ⟨a, 0⟩
def chkT (j : Nat) : Bool :=
  let l := (angsL.getD j 0).toNat
  let p := apx 57 l
  decide (n2 (sub (mul (tG j) (cj (fr p.1 p.2))) (re (rQ j))) ≤ (eQ j - 1 / 18446744073709551616) * (eQ j - 1 / 18446744073709551616)) && decide (l < 2 ^ 57) && decide (0 ≤ angsL.getD j 0) && decide (0 ≤ eQ j - 1 / 18446744073709551616) && decide (n2 (tG j) ≤ 4) && decide (0 ≤ rQ j)
theorem chkT_all : allB chkT 45 = true := by decide +kernel
theorem turn_fact (j : Nat) (hj : j < 45) : N (mul (tG j) (E (-(angsL.getD j 0)))) (re (rQ j)) (eQ j) ∧ 0 ≤ rQ j := by
  have h := allB_at chkT_all hj
  simp only [chkT, Bool.and_eq_true, decide_eq_true_eq] at h
  obtain ⟨⟨⟨⟨⟨h1, h2⟩, h3⟩, h4⟩, h5⟩, h6⟩ := h
  refine ⟨?_, h6⟩
  have k1 := apx_near 57 (by decide) (angsL.getD j 0).toNat h2
  rw [show (((angsL.getD j 0).toNat : Nat) : Int) = angsL.getD j 0 from by omega] at k1
  have k2 := N_cj k1
  rw [← E_neg] at k2
  have k3 := N_mul_left (tG j) (M := 2) ⟨by decide +kernel, by grind⟩ k2
  have k4 : N (mul (tG j) (cj (fr (apx 57 (angsL.getD j 0).toNat).1 (apx 57 (angsL.getD j 0).toNat).2))) (re (rQ j)) (eQ j - 1 / 18446744073709551616) := ⟨h4, h1⟩
  refine N_mono (N_trans k3 k4) ?_
  have : 2 * (eF 57 / (SS : Rat)) ≤ 1 / 18446744073709551616 := by decide +kernel
  grind
def RR : Nat → Rat
  | 0 => 1
  | k + 1 => RR k * rQ k
def etaQ (x : Rat) : Nat → Rat
  | 0 => 0
  | k + 1 => (1 + 1 / (((2 ^ k : Int) : Rat) * ((2 ^ k : Int) : Rat))) * etaQ x k + x * RR k * eQ k + 3 / 2
theorem RR_nn : ∀ k, k ≤ 45 → 0 ≤ RR k := by
  intro k
  induction k with
  | zero => intro _; decide +kernel
  | succ k ih => intro hk; exact Rat.mul_nonneg (ih (by omega)) (turn_fact k (by omega)).2
def pG (s : Int × Int × Int) : G := ⟨(s.1 : Rat), (s.2.1 : Rat)⟩
theorem two_cast_pos (k : Nat) : (0 : Rat) < ((2 ^ k : Int) : Rat) := by
  have := (Rat.intCast_lt_intCast (a := 0) (b := 2 ^ k)).2 (two_pow_pos k)
  simpa using this
theorem L_t (k : Nat) : L (tG k) (1 + 1 / (((2 ^ k : Int) : Rat) * ((2 ^ k : Int) : Rat))) := by
  have hp := two_cast_pos k
  unfold tG
  generalize ((2 ^ k : Int) : Rat) = d at *
  have hq : 0 < 1 / d := by rw [Rat.lt_div_iff hp]; grind
  have e : 1 / (d * d) = (1 / d) * (1 / d) := by grind
  rw [e]
  generalize 1 / d = q at *
  have := sq_nn q
  have h2 := Rat.mul_nonneg this this
  refine ⟨by grind, ?_⟩
  simp only [n2]
  grind
theorem L_re' {a : Rat} (h : 0 ≤ a) : L (re a) a := ⟨h, by simp only [n2, re]; grind⟩
theorem step_G (Z l : Int) (t : G) (g xR r ε η : Rat) (p p' : G) (ht : L t g) (h1 : N (mul t (E (-l))) (re r) ε) (hx : 0 ≤ xR) (hp : N p (mul (E Z) (re xR)) η) (hr : N p' (mul p t) (3 / 2)) :
    N p' (mul (E (Z + l)) (re (xR * r))) (g * η + xR * ε + 3 / 2) := by
  have a1 := N_mul_left t ht hp
  have a2 : N t (mul (re r) (E l)) ε := by
    have := N_mul_left (E l) (L_unit (E_unit l)) h1
    have e1 : mul (E l) (mul t (E (-l))) = t := by rw [mul_comm t, ← mul_assoc, ← E_add, show l + -l = 0 from by omega, E_zero, one_mul]
    rw [e1, mul_comm (E l), Rat.one_mul] at this
    exact this
  have a3 : L (mul (E Z) (re xR)) xR := by
    have := L_mul (L_unit (E_unit Z)) (L_re' hx)
    rwa [Rat.one_mul] at this
  have a4 := N_mul_left _ a3 a2
  have e2 : mul (mul (E Z) (re xR)) (mul (re r) (E l)) = mul (E (Z + l)) (re (xR * r)) := by
    have e3 : mul (re xR) (re r) = re (xR * r) := by apply G.ext' <;> simp only [mul, re] <;> grind
    rw [E_add, mul_assoc, ← mul_assoc (re xR), e3, mul_comm (re (xR * r)), ← mul_assoc]
  rw [e2] at a4
  rw [mul_comm t p, mul_comm t (mul (E Z) (re xR))] at a1
  refine N_mono (N_trans hr (N_trans a1 a4)) ?_
  grind
theorem sq_le_one {a : Rat} (h0 : -1 ≤ a) (h1 : a ≤ 1) : a * a ≤ 1 := by
  have h2 : 0 ≤ (1 - a) * (1 + a) := Rat.mul_nonneg (by grind) (by grind)
  grind
theorem round_pos (a b : Int) (k : Nat) : N ⟨((a - b / 2 ^ k : Int) : Rat), ((b + a / 2 ^ k : Int) : Rat)⟩ (mul ⟨(a : Rat), (b : Rat)⟩ (tG k)) (3 / 2) := by
  have fa := floor_ratG a (2 ^ k) (two_pow_pos k)
  have fb := floor_ratG b (2 ^ k) (two_pow_pos k)
  have hp := two_cast_pos k
  have ea : (a : Rat) / ((2 ^ k : Int) : Rat) = (a : Rat) * (1 / ((2 ^ k : Int) : Rat)) := by grind
  have eb : (b : Rat) / ((2 ^ k : Int) : Rat) = (b : Rat) * (1 / ((2 ^ k : Int) : Rat)) := by grind
  rw [ea] at fa
  rw [eb] at fb
  unfold tG
  rw [Rat.intCast_sub, Rat.intCast_add]
  generalize ((a / 2 ^ k : Int) : Rat) = u at *
  generalize ((b / 2 ^ k : Int) : Rat) = v at *
  generalize 1 / ((2 ^ k : Int) : Rat) = q at *
  refine ⟨by decide +kernel, ?_⟩
  simp only [n2, sub, mul]
  have e1 := sq_le_one (a := (a : Rat) - v - ((a : Rat) * 1 - (b : Rat) * q)) (by grind) (by grind)
  have e2 := sq_le_one (a := (b : Rat) + u - ((a : Rat) * q + (b : Rat) * 1)) (by grind) (by grind)
  grind
theorem round_neg (a b : Int) (k : Nat) : N ⟨((a + b / 2 ^ k : Int) : Rat), ((b - a / 2 ^ k : Int) : Rat)⟩ (mul ⟨(a : Rat), (b : Rat)⟩ (cj (tG k))) (3 / 2) := by
  have fa := floor_ratG a (2 ^ k) (two_pow_pos k)
  have fb := floor_ratG b (2 ^ k) (two_pow_pos k)
  have hp := two_cast_pos k
  have ea : (a : Rat) / ((2 ^ k : Int) : Rat) = (a : Rat) * (1 / ((2 ^ k : Int) : Rat)) := by grind
  have eb : (b : Rat) / ((2 ^ k : Int) : Rat) = (b : Rat) * (1 / ((2 ^ k : Int) : Rat)) := by grind
  rw [ea] at fa
  rw [eb] at fb
  unfold tG cj
  rw [Rat.intCast_sub, Rat.intCast_add]
  generalize ((a / 2 ^ k : Int) : Rat) = u at *
  generalize ((b / 2 ^ k : Int) : Rat) = v at *
  generalize 1 / ((2 ^ k : Int) : Rat) = q at *
  refine ⟨by decide +kernel, ?_⟩
  simp only [n2, sub, mul]
  have e1 := sq_le_one (a := (a : Rat) + v - ((a : Rat) * 1 - (b : Rat) * -q)) (by grind) (by grind)
  have e2 := sq_le_one (a := (b : Rat) - u - ((a : Rat) * -q + (b : Rat) * 1)) (by grind) (by grind)
  grind
theorem turn_near (x z : Int) (hx : 0 ≤ x) : ∀ k, k ≤ 45 → N (pG (runZ x z k)) (mul (E (z - (runZ x z k).2.2)) (re ((x : Rat) * RR k))) (etaQ (x : Rat) k) := by
  have hxQ : (0 : Rat) ≤ (x : Rat) := by
    have := (Rat.intCast_le_intCast (a := 0) (b := x)).2 hx
    simpa using this
  intro k
  induction k with
  | zero =>
    intro _
    have e : mul (E (z - (runZ x z 0).2.2)) (re ((x : Rat) * RR 0)) = pG (runZ x z 0) := by
      show mul (E (z - z)) (re ((x : Rat) * 1)) = ⟨(x : Rat), ((0 : Int) : Rat)⟩
      rw [Int.sub_self, E_zero, one_mul, Rat.mul_one]
      rfl
    rw [e]
    exact N_refl _
  | succ k ih =>
    intro hk
    have h := ih (by omega)
    obtain ⟨tf, rp⟩ := turn_fact k (by omega)
    have hxR : 0 ≤ (x : Rat) * RR k := Rat.mul_nonneg hxQ (RR_nn k (by omega))
    have e2 : runZ x z (k + 1) = stepZ k (angsL.getD k 0) (runZ x z k) := rfl
    rw [e2]
    have eR : (x : Rat) * RR (k + 1) = (x : Rat) * RR k * rQ k := by rw [RR, Rat.mul_assoc]
    rw [eR, etaQ]
    generalize runZ x z k = s at *
    obtain ⟨a, b, c⟩ := s
    generalize angsL.getD k 0 = l at *
    unfold stepZ
    by_cases hc : c ≥ 0
    · simp only
      rw [if_pos hc]
      have := step_G (z - c) l (tG k) _ _ _ _ _ _ _ (L_t k) tf hxR h (round_pos a b k)
      rw [show z - c + l = z - (c - l) from by omega] at this
      exact this
    · simp only
      rw [if_neg hc]
      have tc := N_cj tf
      have e3 : cj (re (rQ k)) = re (rQ k) := by apply G.ext' <;> simp only [cj, re] <;> grind
      rw [cj_mul, ← E_neg, e3] at tc
      have lc := L_cj (L_t k)
      have := step_G (z - c) (-l) (cj (tG k)) _ _ _ _ _ _ _ lc tc hxR h (round_neg a b k)
      rw [show z - c + -l = z - (c + l) from by omega] at this
      exact this
/-- The point of an angle is near the unit number's. -/
theorem point_near (z : Int) (h0 : -72057594037927936 ≤ z) (h1 : z ≤ 72057594037927936) : N (pG (runTo 43757185469210200 z 45)) (mul (re 72057594037927936) (E z)) 4200 := by
  have ok : okRun 43757185469210200 z := ⟨by decide, by decide, h0, h1⟩
  obtain ⟨e, _, _, hc⟩ := run_nowrap _ z ok 45 (by decide)
  have k1 := turn_near 43757185469210200 z (by decide) 45 (by decide)
  rw [rest_ends.2] at hc
  rw [e]
  generalize runZ 43757185469210200 z 45 = s at *
  obtain ⟨a, b, c⟩ := s
  simp only at hc k1
  have c1 : etaQ ((43757185469210200 : Int) : Rat) 45 ≤ 80 := by decide +kernel
  have c2 : N (re (((43757185469210200 : Int) : Rat) * RR 45)) (re 72057594037927936) 5 := ⟨by decide +kernel, by decide +kernel⟩
  have k2 := N_mul_left (E (z - c)) (L_unit (E_unit _)) c2
  have k3 := E_near (-c) 4096 (by omega) (by omega)
  have k4 := N_mul_left (mul (re 72057594037927936) (E z)) (M := 72057594037927936) (by
    have := L_mul (L_re' (a := 72057594037927936) (by decide +kernel)) (L_unit (E_unit z))
    rwa [Rat.mul_one] at this) k3
  have e1 : mul (mul (re 72057594037927936) (E z)) (E (-c)) = mul (E (z - c)) (re 72057594037927936) := by
    rw [show z - c = z + -c from by omega, E_add, mul_assoc, mul_comm (re _)]
  rw [e1, mul_one] at k4
  refine N_mono (N_trans k1 (N_trans k2 k4)) ?_
  have c3 : (72057594037927936 : Rat) * (((4096 : Nat) : Rat) * (1 / 72057594037927936)) = 4096 := by decide +kernel
  grind
end Go.Proofs.Ytghajjjdfhcljaa.Arc
