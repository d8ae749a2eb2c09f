/- Plain facts on unit numbers: their powers, nearness, approximations. -/
set_option linter.unusedVariables false
namespace Go.Proofs.Ytghajjjdfhcljaa.Ang
structure G where
  re : Rat
  im : Rat
theorem G.ext' {x y : G} (h : x.re = y.re) (k : x.im = y.im) : x = y := by cases x; cases y; simp_all
def mul (x y : G) : G := ⟨x.re * y.re - x.im * y.im, x.re * y.im + x.im * y.re⟩
def add (x y : G) : G := ⟨x.re + y.re, x.im + y.im⟩
def sub (x y : G) : G := ⟨x.re - y.re, x.im - y.im⟩
def cj (x : G) : G := ⟨x.re, -x.im⟩
def sc (a : Rat) (x : G) : G := ⟨a * x.re, a * x.im⟩
def one : G := ⟨1, 0⟩
def n2 (x : G) : Rat := x.re * x.re + x.im * x.im
/-- Not longer than e. -/
def L (x : G) (e : Rat) : Prop := 0 ≤ e ∧ n2 x ≤ e * e
theorem mul_assoc (x y z : G) : mul (mul x y) z = mul x (mul y z) := by apply G.ext' <;> simp only [mul] <;> grind
theorem mul_comm (x y : G) : mul x y = mul y x := by apply G.ext' <;> simp only [mul] <;> grind
theorem one_mul (x : G) : mul one x = x := by apply G.ext' <;> simp only [mul, one] <;> grind
theorem mul_one (x : G) : mul x one = x := by apply G.ext' <;> simp only [mul, one] <;> grind
theorem n2_mul (x y : G) : n2 (mul x y) = n2 x * n2 y := by simp only [n2, mul]; grind
theorem n2_cj (x : G) : n2 (cj x) = n2 x := by simp only [n2, cj]; grind
theorem cj_mul (x y : G) : cj (mul x y) = mul (cj x) (cj y) := by apply G.ext' <;> simp only [mul, cj] <;> grind
theorem sq_nn (a : Rat) : 0 ≤ a * a := by
  rcases Rat.le_total (a := 0) (b := a) with h | h
  · exact Rat.mul_nonneg h h
  · have := Rat.mul_nonneg (a := -a) (b := -a) (by grind) (by grind)
    grind
theorem le_of_sq {a b : Rat} (hb : 0 ≤ b) (h : a * a ≤ b * b) : a ≤ b := by
  false_or_by_contra
  have : b < a := by grind
  have h1 : b * b < a * a := by
    have h2 : b * b ≤ a * b := Rat.mul_le_mul_of_nonneg_right (by grind) hb
    have h3 : a * b < a * a := Rat.mul_lt_mul_of_pos_left this (by grind)
    grind
  grind
theorem n2_nn (x : G) : 0 ≤ n2 x := by have := sq_nn x.re; have := sq_nn x.im; unfold n2; grind
theorem L_mul {x y : G} {e f : Rat} (h : L x e) (k : L y f) : L (mul x y) (e * f) := by
  refine ⟨Rat.mul_nonneg h.1 k.1, ?_⟩
  rw [n2_mul]
  have h1 : n2 x * n2 y ≤ (e * e) * n2 y := Rat.mul_le_mul_of_nonneg_right h.2 (n2_nn y)
  have h2 : (e * e) * n2 y ≤ (e * e) * (f * f) := Rat.mul_le_mul_of_nonneg_left k.2 (sq_nn e)
  grind
theorem dot_le {x y : G} {e f : Rat} (h : L x e) (k : L y f) : x.re * y.re + x.im * y.im ≤ e * f := by
  apply le_of_sq (Rat.mul_nonneg h.1 k.1)
  have h1 : n2 x * n2 y ≤ (e * e) * n2 y := Rat.mul_le_mul_of_nonneg_right h.2 (n2_nn y)
  have h2 : (e * e) * n2 y ≤ (e * e) * (f * f) := Rat.mul_le_mul_of_nonneg_left k.2 (sq_nn e)
  have h3 : 0 ≤ (x.re * y.im - x.im * y.re) * (x.re * y.im - x.im * y.re) := sq_nn _
  have h4 : n2 x * n2 y = (x.re * y.re + x.im * y.im) * (x.re * y.re + x.im * y.im) + (x.re * y.im - x.im * y.re) * (x.re * y.im - x.im * y.re) := by unfold n2; grind
  grind
theorem L_add {x y : G} {e f : Rat} (h : L x e) (k : L y f) : L (add x y) (e + f) := by
  have he := h.1
  have hf := k.1
  refine ⟨by grind, ?_⟩
  have key := dot_le h k
  have h5 := h.2
  have h6 := k.2
  unfold n2 at *
  simp only [add]
  grind
theorem L_cj {x : G} {e : Rat} (h : L x e) : L (cj x) e := ⟨h.1, by rw [n2_cj]; exact h.2⟩
theorem L_mono {x : G} {e f : Rat} (h : L x e) (hf : e ≤ f) : L x f := by
  have he := h.1
  refine ⟨by grind, ?_⟩
  have h1 : e * e ≤ f * e := Rat.mul_le_mul_of_nonneg_right hf he
  have h2 : f * e ≤ f * f := Rat.mul_le_mul_of_nonneg_left hf (by grind)
  have := h.2
  grind
theorem L_re {x : G} {e : Rat} (h : L x e) : x.re ≤ e ∧ -e ≤ x.re := by
  have he := h.1
  have h2 := h.2
  have := sq_nn x.im
  unfold n2 at h2
  have a : x.re ≤ e := le_of_sq he (by grind)
  have b : -x.re ≤ e := le_of_sq he (by grind)
  exact ⟨a, by grind⟩
theorem L_im {x : G} {e : Rat} (h : L x e) : x.im ≤ e ∧ -e ≤ x.im := by
  have he := h.1
  have h2 := h.2
  have := sq_nn x.re
  unfold n2 at h2
  have a : x.im ≤ e := le_of_sq he (by grind)
  have b : -x.im ≤ e := le_of_sq he (by grind)
  exact ⟨a, by grind⟩
/-- Nearness. -/
def N (x y : G) (e : Rat) : Prop := L (sub x y) e
theorem N_refl (x : G) : N x x 0 := by
  refine ⟨by grind, ?_⟩
  simp only [n2, sub]
  grind
theorem N_trans {x y z : G} {e f : Rat} (h : N x y e) (k : N y z f) : N x z (e + f) := by
  have := L_add h k
  have e1 : add (sub x y) (sub y z) = sub x z := by apply G.ext' <;> simp only [add, sub] <;> grind
  rw [e1] at this
  exact this
theorem N_symm {x y : G} {e : Rat} (h : N x y e) : N y x e := by
  refine ⟨h.1, ?_⟩
  have := h.2
  simp only [n2, sub] at *
  grind
theorem N_mono {x y : G} {e f : Rat} (h : N x y e) (hf : e ≤ f) : N x y f := L_mono h hf
theorem N_cj {x y : G} {e : Rat} (h : N x y e) : N (cj x) (cj y) e := by
  have := L_cj h
  have e1 : cj (sub x y) = sub (cj x) (cj y) := by apply G.ext' <;> simp only [cj, sub] <;> grind
  rw [e1] at this
  exact this
theorem N_mul_left {x y : G} {e M : Rat} (z : G) (hz : L z M) (h : N x y e) : N (mul z x) (mul z y) (M * e) := by
  have := L_mul hz h
  have e1 : mul z (sub x y) = sub (mul z x) (mul z y) := by apply G.ext' <;> simp only [mul, sub] <;> grind
  rw [e1] at this
  exact this
theorem N_mul {x y u v : G} {e f M K : Rat} (hu : L u M) (hy : L y K) (h : N x y e) (k : N u v f) : N (mul x u) (mul y v) (M * e + K * f) := by
  have a := N_mul_left u hu h
  have b := N_mul_left y hy k
  rw [mul_comm u x, mul_comm u y] at a
  exact N_trans a b
theorem L_of_N {x y : G} {e M : Rat} (h : N x y e) (hy : L y M) : L x (e + M) := by
  have := L_add h hy
  have e1 : add (sub x y) y = x := by apply G.ext' <;> simp only [add, sub] <;> grind
  rw [e1] at this
  exact this
theorem N_add {x y u v : G} {e f : Rat} (h : N x y e) (k : N u v f) : N (add x u) (add y v) (e + f) := by
  have := L_add h k
  have e1 : add (sub x y) (sub u v) = sub (add x u) (add y v) := by apply G.ext' <;> simp only [add, sub] <;> grind
  rw [e1] at this
  exact this
/-- The unit: a turn of one part of 2^56, but for 2^-100. -/
def tD : Rat := 20769187434139310514121985316880385   -- 2^114 + 1
def rho : G := ⟨20769187434139310514121985316880383 / 20769187434139310514121985316880385, 288230376151711744 / 20769187434139310514121985316880385⟩
theorem rho_unit : n2 rho = 1 := by decide +kernel
def npow (x : G) : Nat → G
  | 0 => one
  | k + 1 => mul (npow x k) x
def E (z : Int) : G := if 0 ≤ z then npow rho z.toNat else npow (cj rho) (-z).toNat
theorem one_unit : n2 one = 1 := by decide +kernel
theorem npow_unit {x : G} (h : n2 x = 1) (k : Nat) : n2 (npow x k) = 1 := by
  induction k with
  | zero => exact one_unit
  | succ k ih => rw [npow, n2_mul, ih, h]; grind
theorem E_unit (z : Int) : n2 (E z) = 1 := by
  unfold E
  split
  · exact npow_unit rho_unit _
  · exact npow_unit (by rw [n2_cj]; exact rho_unit) _
theorem mul_cj {x : G} (h : n2 x = 1) : mul x (cj x) = one := by
  apply G.ext'
  · simp only [mul, cj, one]; unfold n2 at h; grind
  · simp only [mul, cj, one]; grind
theorem E_succ (z : Int) : E (z + 1) = mul (E z) rho := by
  by_cases h : 0 ≤ z
  · unfold E
    rw [if_pos h, if_pos (by omega), show (z + 1).toNat = z.toNat + 1 from by omega, npow]
  · unfold E
    rw [if_neg h]
    by_cases h1 : z = -1
    · subst h1
      rw [if_pos (by decide), show (-1 + 1 : Int).toNat = 0 from rfl, show (-(-1) : Int).toNat = 1 from rfl]
      simp only [npow]
      rw [one_mul, mul_comm, mul_cj rho_unit]
    · rw [if_neg (by omega), show (-z).toNat = (-(z + 1)).toNat + 1 from by omega, npow, mul_assoc, mul_comm (cj rho) rho, mul_cj rho_unit, mul_one]
theorem E_zero : E 0 = one := rfl
theorem E_add_nat (z : Int) (n : Nat) : E (z + n) = mul (E z) (E n) := by
  induction n with
  | zero => rw [show z + ((0 : Nat) : Int) = z from by omega, show ((0 : Nat) : Int) = 0 from rfl, E_zero, mul_one]
  | succ n ih => rw [show z + ((n + 1 : Nat) : Int) = (z + n) + 1 from by omega, E_succ, ih, show ((n + 1 : Nat) : Int) = (n : Int) + 1 from by omega, E_succ, mul_assoc]
theorem E_neg (z : Int) : E (-z) = cj (E z) := by
  have key : ∀ n : Nat, E (-(n : Int)) = cj (E n) := by
    intro n
    have h := E_add_nat (-(n : Int)) n
    rw [show -(n : Int) + n = 0 from by omega, E_zero] at h
    have h2 : mul (mul (E (-(n : Int))) (E n)) (cj (E n)) = cj (E n) := by rw [← h, one_mul]
    rw [mul_assoc, mul_cj (E_unit _), mul_one] at h2
    exact h2
  by_cases h : 0 ≤ z
  · have := key z.toNat
    rwa [show ((z.toNat : Nat) : Int) = z from by omega] at this
  · have := key (-z).toNat
    rw [show (((-z).toNat : Nat) : Int) = -z from by omega] at this
    rw [Int.neg_neg] at this
    rw [this]
    apply G.ext' <;> simp only [cj] <;> grind
theorem E_add (y z : Int) : E (y + z) = mul (E y) (E z) := by
  by_cases h : 0 ≤ z
  · have := E_add_nat y z.toNat
    rwa [show ((z.toNat : Nat) : Int) = z from by omega] at this
  · have := E_add_nat (y + z) (-z).toNat
    rw [show (((-z).toNat : Nat) : Int) = -z from by omega, show y + z + -z = y from by omega, E_neg] at this
    rw [this, mul_assoc, mul_comm (cj (E z)), mul_cj (E_unit z), mul_one]
theorem L_unit {x : G} (h : n2 x = 1) : L x 1 := ⟨by decide +kernel, by rw [h]; decide +kernel⟩
theorem rho_near : N rho one (1 / 72057594037927936) := by
  refine ⟨by decide +kernel, by decide +kernel⟩
theorem E_near_nat (n : Nat) : N (E n) one ((n : Rat) * (1 / 72057594037927936)) := by
  induction n with
  | zero =>
    rw [show ((0 : Nat) : Int) = 0 from rfl, E_zero]
    exact N_mono (N_refl one) (by grind)
  | succ n ih =>
    rw [show ((n + 1 : Nat) : Int) = (n : Int) + 1 from by omega, E_succ]
    have h1 := N_mul_left (E n) (L_unit (E_unit _)) rho_near
    rw [mul_one] at h1
    refine N_mono (N_trans h1 ih) ?_
    have e : ((n + 1 : Nat) : Rat) = (n : Rat) + 1 := by simp
    rw [e]
    grind
theorem E_near (z : Int) (n : Nat) (h1 : -(n : Int) ≤ z) (h2 : z ≤ n) : N (E z) one ((n : Rat) * (1 / 72057594037927936)) := by
  have key : ∀ m : Nat, m ≤ n → N (E m) one ((n : Rat) * (1 / 72057594037927936)) := by
    intro m hm
    refine N_mono (E_near_nat m) ?_
    have : (m : Rat) ≤ (n : Rat) := by exact_mod_cast hm
    grind
  by_cases h : 0 ≤ z
  · have := key z.toNat (by omega)
    rwa [show ((z.toNat : Nat) : Int) = z from by omega] at this
  · have := N_cj (key (-z).toNat (by omega))
    rw [show (((-z).toNat : Nat) : Int) = -z from by omega, E_neg] at this
    have e1 : cj (cj (E z)) = E z := by apply G.ext' <;> simp only [cj] <;> grind
    have e2 : cj one = one := by apply G.ext' <;> simp only [cj, one] <;> grind
    rwa [e1, e2] at this
/-- Approximations of turns, in parts of 2^128, and how far they are at most. -/
def SS : Int := 340282366920938463463374607431768211456
def rhoA : Int := 340282366920938463463374607431768178688
def rhoB : Int := 4722366482869645213695
def apx : Nat → Nat → Int × Int
  | 0, _ => (SS, 0)
  | f + 1, z =>
    let p := apx f (z / 2)
    let a := (p.1 * p.1 - p.2 * p.2) / SS
    let b := 2 * p.1 * p.2 / SS
    if z % 2 = 1 then ((a * rhoA - b * rhoB) / SS, (a * rhoB + b * rhoA) / SS) else (a, b)
def fr (a b : Int) : G := ⟨(a : Rat) / (SS : Rat), (b : Rat) / (SS : Rat)⟩
theorem SS_pos : (0 : Rat) < (SS : Rat) := by decide +kernel
theorem le_div {a b t : Rat} (ht : 0 < t) (h : a * t ≤ b) : a ≤ b / t := by
  false_or_by_contra
  have h1 : b / t < a := by grind
  have h2 : b / t * t < a * t := Rat.mul_lt_mul_of_pos_right h1 ht
  have h3 : b / t * t = b := by grind
  grind
theorem div_le {a b t : Rat} (ht : 0 < t) (h : b ≤ a * t) : b / t ≤ a := by
  false_or_by_contra
  have h1 : a < b / t := by grind
  have h2 : a * t < b / t * t := Rat.mul_lt_mul_of_pos_right h1 ht
  have h3 : b / t * t = b := by grind
  grind
theorem floor_ratG (x d : Int) (hp : 0 < d) : ((x / d : Int) : Rat) ≤ (x : Rat) / (d : Rat) ∧ (x : Rat) / (d : Rat) ≤ ((x / d : Int) : Rat) + 1 := by
  have h1 : d * (x / d) ≤ x := Int.mul_ediv_self_le (by omega)
  have h2 : x < d * (x / d) + d := Int.lt_mul_ediv_self_add hp
  have h3 : x ≤ d * (x / d + 1) := by rw [Int.mul_add]; omega
  have sp : (0 : Rat) < (d : Rat) := by
    have := (Rat.intCast_lt_intCast (a := 0) (b := d)).2 hp
    simpa using this
  generalize x / d = q at *
  have c1 : ((d * q : Int) : Rat) ≤ (x : Rat) := Rat.intCast_le_intCast.2 h1
  have c2 : (x : Rat) ≤ ((d * (q + 1) : Int) : Rat) := Rat.intCast_le_intCast.2 h3
  rw [Rat.intCast_mul] at c1 c2
  rw [Rat.intCast_add] at c2
  generalize (d : Rat) = t at *
  constructor
  · exact le_div sp (by grind)
  · exact div_le sp (by grind)
theorem floor_rat (x : Int) : ((x / SS : Int) : Rat) ≤ (x : Rat) / (SS : Rat) ∧ (x : Rat) / (SS : Rat) ≤ ((x / SS : Int) : Rat) + 1 := floor_ratG x SS (by decide)
theorem round_near (X Y : Int) : N ⟨(X : Rat) / ((SS : Rat) * (SS : Rat)), (Y : Rat) / ((SS : Rat) * (SS : Rat))⟩ (fr (X / SS) (Y / SS)) (2 / (SS : Rat)) := by
  have hx := floor_rat X
  have hy := floor_rat Y
  have sp := SS_pos
  have ex : (X : Rat) / ((SS : Rat) * (SS : Rat)) = (X : Rat) / (SS : Rat) * (1 / (SS : Rat)) := by grind
  have ey : (Y : Rat) / ((SS : Rat) * (SS : Rat)) = (Y : Rat) / (SS : Rat) * (1 / (SS : Rat)) := by grind
  unfold fr
  rw [ex, ey]
  generalize (X : Rat) / (SS : Rat) = x at *
  generalize (Y : Rat) / (SS : Rat) = y at *
  generalize ((X / SS : Int) : Rat) = u at *
  generalize ((Y / SS : Int) : Rat) = v at *
  generalize (SS : Rat) = t at *
  have ht : 0 < 1 / t := by rw [Rat.lt_div_iff sp]; grind
  have e1 : u / t = u * (1 / t) := by grind
  have e2 : v / t = v * (1 / t) := by grind
  have e3 : 2 / t = 2 * (1 / t) := by grind
  rw [e1, e2, e3]
  generalize 1 / t = d at *
  refine ⟨by grind, ?_⟩
  simp only [n2, sub]
  have a1 : (x - u) * (x - u) ≤ 1 := by
    have h1 : (x - u) * (x - u) ≤ 1 * (x - u) := Rat.mul_le_mul_of_nonneg_right (by grind) (by grind)
    grind
  have a2 : (y - v) * (y - v) ≤ 1 := by
    have h1 : (y - v) * (y - v) ≤ 1 * (y - v) := Rat.mul_le_mul_of_nonneg_right (by grind) (by grind)
    grind
  have a3 : ((x - u) * (x - u) + (y - v) * (y - v)) * (d * d) ≤ 2 * (d * d) := Rat.mul_le_mul_of_nonneg_right (by grind) (sq_nn d)
  have := sq_nn d
  grind
theorem mul_fr (a b c d : Int) : mul (fr a b) (fr c d) = ⟨((a * c - b * d : Int) : Rat) / ((SS : Rat) * (SS : Rat)), ((a * d + b * c : Int) : Rat) / ((SS : Rat) * (SS : Rat))⟩ := by
  have sp := SS_pos
  apply G.ext'
  · simp only [mul, fr]
    rw [Rat.intCast_sub, Rat.intCast_mul, Rat.intCast_mul]
    grind
  · simp only [mul, fr]
    rw [Rat.intCast_add, Rat.intCast_mul, Rat.intCast_mul]
    grind
theorem rho_fr : N rho (fr rhoA rhoB) (2 / (SS : Rat)) := ⟨by decide +kernel, by decide +kernel⟩
/-- How far an approximation is, in parts of 2^128. -/
def eF : Nat → Rat
  | 0 => 0
  | k + 1 => 2 * eF k + 8
theorem eF_bd : ∀ k, k ≤ 60 → 0 ≤ eF k ∧ eF k ≤ 9223372036854775808 := by
  have h : ∀ k, 0 ≤ eF k ∧ eF k = 8 * (2 ^ k - 1 : Rat) := by
    intro k
    induction k with
    | zero => exact ⟨by decide +kernel, by decide +kernel⟩
    | succ k ih =>
      rw [eF]
      refine ⟨by grind, ?_⟩
      rw [ih.2, Rat.pow_succ]
      grind
  intro k hk
  refine ⟨(h k).1, ?_⟩
  rw [(h k).2]
  have : (2 : Rat) ^ k ≤ 2 ^ 60 := by
    have h1 : (2 : Nat) ^ k ≤ 2 ^ 60 := Nat.pow_le_pow_right (by decide) hk
    exact_mod_cast h1
  have e : (2 : Rat) ^ 60 = 1152921504606846976 := by decide +kernel
  grind
theorem double_near {z : Int} {a b : Int} {e : Rat} (h : N (E z) (fr a b) (e / (SS : Rat))) (h0 : 0 ≤ e) (h1 : e ≤ 9223372036854775808) :
    N (E (z + z)) (fr ((a * a - b * b) / SS) (2 * a * b / SS)) ((2 * e + 3) / (SS : Rat)) := by
  have sp := SS_pos
  have k1 := N_mul (L_unit (E_unit z)) (L_of_N (N_symm h) (L_unit (E_unit z))) h h
  rw [← E_add, mul_fr] at k1
  have k2 := round_near (a * a - b * b) (a * b + b * a)
  have e1 : a * b + b * a = 2 * a * b := by grind
  rw [e1] at k1 k2
  refine N_mono (N_trans k1 k2) ?_
  have h2 : e * e ≤ (SS : Rat) := by
    have q1 : e * e ≤ 9223372036854775808 * e := Rat.mul_le_mul_of_nonneg_right h1 h0
    have q2 : (9223372036854775808 : Rat) * 9223372036854775808 ≤ (SS : Rat) := by decide +kernel
    grind
  generalize (SS : Rat) = t at *
  have d1 : e / t * (e / t) ≤ 1 / t := by
    have : e / t * (e / t) = (e * e) / (t * t) := by grind
    rw [this]
    refine div_le (Rat.mul_pos sp sp) ?_
    have : 1 / t * (t * t) = t := by grind
    rw [this]
    exact h2
  have d2 : (2 * e + 3) / t = 2 * (e / t) + 3 * (1 / t) := by grind
  have d3 : 2 / t = 2 * (1 / t) := by grind
  rw [d2, d3]
  grind
theorem next_near {z : Int} {a b : Int} {e : Rat} (h : N (E z) (fr a b) (e / (SS : Rat))) (h1 : e ≤ 9223372036854775808 * 2 + 3) :
    N (E (z + 1)) (fr ((a * rhoA - b * rhoB) / SS) ((a * rhoB + b * rhoA) / SS)) ((e + 5) / (SS : Rat)) := by
  have sp := SS_pos
  have k1 := N_mul (L_unit rho_unit) (L_of_N (N_symm h) (L_unit (E_unit z))) h rho_fr
  rw [← E_succ, mul_fr] at k1
  have k2 := round_near (a * rhoA - b * rhoB) (a * rhoB + b * rhoA)
  refine N_mono (N_trans k1 k2) ?_
  have h2 : 2 * e ≤ (SS : Rat) := by
    have q2 : (2 : Rat) * (9223372036854775808 * 2 + 3) ≤ (SS : Rat) := by decide +kernel
    grind
  generalize (SS : Rat) = t at *
  have d1 : e / t * (2 / t) ≤ 1 / t := by
    have : e / t * (2 / t) = (2 * e) / (t * t) := by grind
    rw [this]
    refine div_le (Rat.mul_pos sp sp) ?_
    have : 1 / t * (t * t) = t := by grind
    rw [this]
    exact h2
  have d2 : (e + 5) / t = e / t + 5 * (1 / t) := by grind
  have d3 : 2 / t = 2 * (1 / t) := by grind
  rw [d2, d3]
  rw [d3] at d1
  grind
theorem apx_near : ∀ (f : Nat), f ≤ 60 → ∀ z : Nat, z < 2 ^ f → N (E z) (fr (apx f z).1 (apx f z).2) (eF f / (SS : Rat)) := by
  intro f
  induction f with
  | zero =>
    intro _ z hz
    obtain rfl : z = 0 := by simpa using hz
    exact ⟨by decide +kernel, by decide +kernel⟩
  | succ f ih =>
    intro hf z hz
    have hb := eF_bd f (by omega)
    have k1 := double_near (ih (by omega) (z / 2) (by rw [Nat.pow_succ] at hz; omega)) hb.1 hb.2
    simp only [apx]
    by_cases h : z % 2 = 1
    · rw [if_pos h]
      have k2 := next_near k1 (by grind)
      rw [show ((z / 2 : Nat) : Int) + ((z / 2 : Nat) : Int) + 1 = (z : Int) from by omega] at k2
      rw [eF, show 2 * eF f + 8 = 2 * eF f + 3 + 5 from by grind]
      exact k2
    · rw [if_neg h]
      rw [show ((z / 2 : Nat) : Int) + ((z / 2 : Nat) : Int) = (z : Int) from by omega] at k1
      rw [eF]
      refine N_mono k1 ?_
      have sp := SS_pos
      generalize (SS : Rat) = t at *
      refine div_le sp ?_
      have : (2 * eF f + 8) / t * t = 2 * eF f + 8 := by grind
      rw [this]
      grind
end Go.Proofs.Ytghajjjdfhcljaa.Ang
