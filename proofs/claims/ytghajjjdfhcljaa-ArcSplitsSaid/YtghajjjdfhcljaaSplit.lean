/- Plain facts on angles of great numbers. -/
import Derived.Test.YtghajjjdfhcljaaArc
set_option linter.unusedSimpArgs false
set_option linter.unusedVariables false
namespace Go.Proofs.Ytghajjjdfhcljaa.Arc
open Go.RowKit Go.Proofs.Ytghajjjdfhcljaa.P Go.Proofs.YtghajjjdfhcljaaW.PrintWords Go.Proofs.YtghajjjdfhcljaaW.PrintLast Go.Proofs.YtghajjjdfhcljaaW.PrintMore
theorem floor_lo (x d : Int) (hd : 0 < d) : d * (x / d) ≤ x := Int.mul_ediv_self_le (Int.ne_of_gt hd)
theorem floor_hi (x d : Int) (hd : 0 < d) : x < d * (x / d) + d := Int.lt_mul_ediv_self_add (x := x) hd
theorem diff1 (n A B C : Int) (hn : 4096 ≤ n) (a1 : n * A ≤ 72057594037927936) (a2 : 72057594037927936 < n * A + n)
    (b1 : (n + 1) * B ≤ 72057594037927936) (b2 : 72057594037927936 < (n + 1) * B + (n + 1))
    (c1 : (n * n + n + 1) * C ≤ 72057594037927936) (c2 : 72057594037927936 < (n * n + n + 1) * C + (n * n + n + 1)) :
    A - B - C ≤ 258 ∧ 0 ≤ A - B - C := by
  have hu : 16781312 ≤ n * n + n := by
    have := Int.mul_le_mul hn hn (by omega) (by omega : 0 ≤ n)
    omega
  generalize hU : n * n + n = u at *
  -- u (A - B - 1) < X < u (A - B + 1)
  have e1 : u * A = (n + 1) * (n * A) := by rw [← hU]; grind
  have e2 : u * B = n * ((n + 1) * B) := by rw [← hU]; grind
  have d1 : u * A ≤ (n + 1) * 72057594037927936 := by rw [e1]; exact Int.mul_le_mul_of_nonneg_left a1 (by omega)
  have d2 : n * 72057594037927936 < u * B + u := by
    have : n * 72057594037927936 < n * ((n + 1) * B + (n + 1)) := Int.mul_lt_mul_of_pos_left b2 (by omega)
    rw [← hU] at *; grind
  have d3 : (n + 1) * 72057594037927936 < u * A + u := by
    have : (n + 1) * 72057594037927936 < (n + 1) * (n * A + n) := Int.mul_lt_mul_of_pos_left a2 (by omega)
    rw [← hU] at *; grind
  have d4 : u * B ≤ n * 72057594037927936 := by rw [e2]; exact Int.mul_le_mul_of_nonneg_left b1 (by omega)
  have hC0 : 0 ≤ C := by
    false_or_by_contra
    have : (u + 1) * C ≤ (u + 1) * (-1) := Int.mul_le_mul_of_nonneg_left (by omega) (by omega)
    omega
  have hC1 : C ≤ 4294967296 := by
    false_or_by_contra
    have : (u + 1) * 4294967297 ≤ (u + 1) * C := Int.mul_le_mul_of_nonneg_left (by omega) (by omega)
    omega
  constructor
  · false_or_by_contra
    have h : u * 257 ≤ u * (A - B - C - 2) := Int.mul_le_mul_of_nonneg_left (by omega) (by omega)
    have : u * (A - B - C - 2) = u * A - u * B - u * C - 2 * u := by grind
    have : (u + 1) * C = u * C + C := by grind
    omega
  · false_or_by_contra
    have h : u * (A - B - C) ≤ u * (-1) := Int.mul_le_mul_of_nonneg_left (by omega) (by omega)
    have : u * (A - B - C) = u * A - u * B - u * C := by grind
    have : (u + 1) * C = u * C + C := by grind
    omega

theorem diff3 (n P Q : Int) (hn : 4096 ≤ n) (a1 : n * (n * (n * P)) ≤ 72057594037927936) 
    (b2 : 72057594037927936 < (n + 1) * ((n + 1) * ((n + 1) * Q)) + (n + 1) * ((n + 1) * (n + 1))) (hP : 0 ≤ P) (hQ : 0 ≤ Q) (b1 : (n + 1) * ((n + 1) * ((n + 1) * Q)) ≤ 72057594037927936) :
    P - Q ≤ 1027 := by
  have hu : 16777216 ≤ n * n := Int.mul_le_mul hn hn (by omega) (by omega : 0 ≤ n)
  have hv : 68719476736 ≤ n * (n * n) := Int.mul_le_mul hn hu (by omega) (by omega : 0 ≤ n)
  have hw : 4096 * (n * n) ≤ n * (n * n) := Int.mul_le_mul_of_nonneg_right hn (by omega)
  have hw2 : 4096 * n ≤ n * n := Int.mul_le_mul_of_nonneg_right hn (by omega)
  have hQ1 : Q ≤ 1048576 := by
    false_or_by_contra
    have h1 : n * (n * n) * 1048577 ≤ n * (n * n) * Q := Int.mul_le_mul_of_nonneg_left (by omega) (by omega)
    have h2 : (n + 1) * ((n + 1) * ((n + 1) * Q)) = n * (n * n) * Q + (3 * (n * n) * Q + 3 * (n * Q) + Q) := by grind
    have h3 : 0 ≤ n * n * Q := Int.mul_nonneg (by omega) hQ
    have h4 : 0 ≤ n * Q := Int.mul_nonneg (by omega) hQ
    have h5 : 3 * (n * n) * Q = 3 * (n * n * Q) := by grind
    omega
  false_or_by_contra
  have h1 : n * (n * n) * (Q + 1028) ≤ n * (n * n) * P := Int.mul_le_mul_of_nonneg_left (by omega) (by omega)
  have e1 : n * (n * (n * P)) = n * (n * n) * P := by grind
  have e2 : (n + 1) * ((n + 1) * ((n + 1) * Q)) + (n + 1) * ((n + 1) * (n + 1)) = n * (n * n) * (Q + 1) + (3 * (n * n) + 3 * n + 1) * (Q + 1) := by grind
  have e3 : n * (n * n) * (Q + 1028) = n * (n * n) * (Q + 1) + 1027 * (n * (n * n)) := by grind
  have h2 : (3 * (n * n) + 3 * n + 1) * (Q + 1) ≤ (3 * (n * n) + 3 * n + 1) * 1048577 := Int.mul_le_mul_of_nonneg_left (by omega) (by omega)
  omega

/-- The sum of a number's terms. -/
def arcI (n : Int) : Int := sumT (termsL n)
theorem termsFrom_zero (n : Int) (f : Nat) (s o : Int) : termsFrom n f 0 s o = [] := by cases f <;> simp [termsFrom]
theorem termsFrom_pos (n : Int) (f : Nat) (p s o : Int) (h : 0 < p) : termsFrom n (f + 1) p s o = s * (p / o) :: termsFrom n f (p / n / n) (-s) (o + 2) := by rw [termsFrom, if_pos h]
theorem div_small {p n : Int} (h0 : 0 ≤ p) (h : p < n) : p / n = 0 := Int.ediv_eq_zero_of_lt h0 h
/-- Angles of numbers from 4096 on: two terms. -/
theorem arc_two (n : Int) (h0 : 4096 ≤ n) (h1 : n ≤ 17592186044416) : arcI n = 72057594037927936 / n - 72057594037927936 / n / n / n / 3 := by
  have a0 := floor_lo 72057594037927936 n (by omega)
  have a1 := floor_hi 72057594037927936 n (by omega)
  have p0 : 4096 ≤ 72057594037927936 / n := by
    refine (Int.le_ediv_iff_mul_le (by omega)).2 ?_
    omega
  have p1 : 72057594037927936 / n ≤ 17592186044416 := by
    refine Int.le_of_lt_add_one ((Int.ediv_lt_iff_lt_mul (by omega)).2 ?_)
    omega
  generalize hA : 72057594037927936 / n = A at *
  have q0 : 0 ≤ A / n := Int.ediv_nonneg (by omega) (by omega)
  have q1 : A / n ≤ 4294967296 := Int.le_of_lt_add_one ((Int.ediv_lt_iff_lt_mul (by omega)).2 (by omega))
  have r0 : 0 ≤ A / n / n := Int.ediv_nonneg q0 (by omega)
  have r1 : A / n / n ≤ 1048576 := Int.le_of_lt_add_one ((Int.ediv_lt_iff_lt_mul (by omega)).2 (by omega))
  generalize hP : A / n / n = P at *
  have s0 : 0 ≤ P / n := Int.ediv_nonneg r0 (by omega)
  have s1 : P / n ≤ 256 := Int.le_of_lt_add_one ((Int.ediv_lt_iff_lt_mul (by omega)).2 (by omega))
  have s2 : P / n / n = 0 := div_small s0 (by omega)
  have t0 : 0 ≤ P / 3 ∧ P / 3 ≤ P := ⟨Int.ediv_nonneg r0 (by decide), Int.ediv_le_self _ r0⟩
  unfold arcI termsL
  rw [hA, termsFrom_pos n 59 A 1 1 (by omega), hP]
  rw [Int.ediv_one]
  by_cases h : 0 < P
  · rw [termsFrom_pos n 58 P _ _ h, s2, termsFrom_zero]
    unfold sumT
    simp only [List.foldl_cons, List.foldl_nil]
    rw [wrap_id (x := 0 + 1 * A) (by unfold I64; omega), wrap_id (by unfold I64; omega)]
    omega
  · obtain rfl : P = 0 := by omega
    rw [termsFrom_zero]
    unfold sumT
    simp only [List.foldl_cons, List.foldl_nil]
    rw [wrap_id (x := 0 + 1 * A) (by unfold I64; omega)]
    omega
theorem div3 (X n : Int) (hn : 0 < n) (hX : 0 ≤ X) : n * (n * (n * (X / n / n / n))) ≤ X ∧ X < n * (n * (n * (X / n / n / n))) + n * (n * n) ∧ 0 ≤ X / n / n / n := by
  have e : X / n / n / n = X / (n * (n * n)) := by rw [Int.ediv_ediv_of_nonneg (by omega), Int.ediv_ediv_of_nonneg (by omega)]
  have hp : 0 < n * (n * n) := Int.mul_pos hn (Int.mul_pos hn hn)
  rw [e]
  refine ⟨?_, ?_, Int.ediv_nonneg hX (by omega)⟩
  · have := floor_lo X _ hp
    grind
  · have := floor_hi X _ hp
    grind
theorem great (n : Int) (h0 : 4096 ≤ n) (h1 : n ≤ 524289) : arcI (n + 1) ≤ arcI n ∧ arcI n - (arcI (n + 1) + arcI (n * n + n + 1)) ≤ 400 ∧ arcI (n + 1) + arcI (n * n + n + 1) - arcI n ≤ 400 ∧
    (0 ≤ arcI n ∧ arcI n ≤ 17592186044416) ∧ (0 ≤ arcI (n + 1) ∧ arcI (n + 1) ≤ 17592186044416) ∧ (0 ≤ arcI (n * n + n + 1) ∧ arcI (n * n + n + 1) ≤ 17592186044416) := by
  have hu : 16777216 ≤ n * n := Int.mul_le_mul h0 h0 (by omega) (by omega : 0 ≤ n)
  have hv : n * n ≤ 524289 * 524289 := Int.mul_le_mul h1 h1 (by omega) (by omega)
  have eC : arcI (n * n + n + 1) = 72057594037927936 / (n * n + n + 1) := by
    rw [arc_two _ (by omega) (by omega)]
    generalize hm : n * n + n + 1 = m at *
    have q0 : 0 ≤ 72057594037927936 / m := Int.ediv_nonneg (by decide) (by omega)
    have q1 : 72057594037927936 / m ≤ 4294967296 := Int.le_of_lt_add_one ((Int.ediv_lt_iff_lt_mul (by omega)).2 (by omega))
    have r0 : 0 ≤ 72057594037927936 / m / m := Int.ediv_nonneg q0 (by omega)
    have r1 : 72057594037927936 / m / m ≤ 256 := Int.le_of_lt_add_one ((Int.ediv_lt_iff_lt_mul (by omega)).2 (by omega))
    have s1 : 72057594037927936 / m / m / m = 0 := div_small r0 (by omega)
    rw [s1]
    simp
  have hm0 : 0 < n * n + n + 1 := by omega
  have c1 := floor_lo 72057594037927936 _ hm0
  have c2 := floor_hi 72057594037927936 _ hm0
  have a1 := floor_lo 72057594037927936 n (by omega)
  have a2 := floor_hi 72057594037927936 n (by omega)
  have b1 := floor_lo 72057594037927936 (n + 1) (by omega)
  have b2 := floor_hi 72057594037927936 (n + 1) (by omega)
  have d1 := diff1 n _ _ _ h0 a1 a2 b1 b2 c1 c2
  obtain ⟨P1, P2, P3⟩ := div3 72057594037927936 n (by omega) (by decide)
  obtain ⟨Q1, Q2, Q3⟩ := div3 72057594037927936 (n + 1) (by omega) (by decide)
  have d3 := diff3 n _ _ h0 P1 Q2 P3 Q3 Q1
  have mono : 72057594037927936 / (n + 1) / (n + 1) / (n + 1) ≤ 72057594037927936 / n / n / n := by
    generalize 72057594037927936 / (n + 1) / (n + 1) / (n + 1) = Q at *
    generalize 72057594037927936 / n / n / n = P at *
    false_or_by_contra
    have h2 : n * (n * n) * (P + 1) ≤ n * (n * n) * Q := Int.mul_le_mul_of_nonneg_left (by omega) (Int.mul_nonneg (by omega) (by omega))
    have h3 : (n + 1) * ((n + 1) * ((n + 1) * Q)) = n * (n * n) * Q + (3 * (n * n * Q) + 3 * (n * Q) + Q) := by grind
    have h4 : 0 ≤ n * n * Q := Int.mul_nonneg (by omega) Q3
    have h5 : 0 ≤ n * Q := Int.mul_nonneg (by omega) Q3
    have h6 : n * (n * (n * P)) + n * (n * n) = n * (n * n) * (P + 1) := by grind
    omega
  have C0 : 131072 ≤ 72057594037927936 / (n * n + n + 1) := (Int.le_ediv_iff_mul_le hm0).2 (by omega)
  have C1 : 72057594037927936 / (n * n + n + 1) ≤ 4294967296 := Int.le_of_lt_add_one ((Int.ediv_lt_iff_lt_mul hm0).2 (by omega))
  have A1 : 72057594037927936 / n ≤ 17592186044416 := Int.le_of_lt_add_one ((Int.ediv_lt_iff_lt_mul (by omega)).2 (by omega))
  have B0 : 137438000000 ≤ 72057594037927936 / (n + 1) := (Int.le_ediv_iff_mul_le (by omega)).2 (by omega)
  have Qb : 72057594037927936 / (n + 1) / (n + 1) / (n + 1) ≤ 1048576 := by
    generalize 72057594037927936 / (n + 1) / (n + 1) / (n + 1) = Q at *
    false_or_by_contra
    have hw : 68719476736 ≤ n * (n * n) := Int.mul_le_mul h0 hu (by omega) (by omega : 0 ≤ n)
    have h2 : n * (n * n) * 1048577 ≤ n * (n * n) * Q := Int.mul_le_mul_of_nonneg_left (by omega) (Int.mul_nonneg (by omega) (by omega))
    have h3 : (n + 1) * ((n + 1) * ((n + 1) * Q)) = n * (n * n) * Q + (3 * (n * n * Q) + 3 * (n * Q) + Q) := by grind
    have h4 : 0 ≤ n * n * Q := Int.mul_nonneg (by omega) Q3
    have h5 : 0 ≤ n * Q := Int.mul_nonneg (by omega) Q3
    omega
  rw [eC, arc_two n h0 (by omega), arc_two (n + 1) (by omega) (by omega)]
  generalize 72057594037927936 / (n + 1) / (n + 1) / (n + 1) = Q at *
  generalize 72057594037927936 / n / n / n = P at *
  generalize 72057594037927936 / (n * n + n + 1) = C at *
  generalize 72057594037927936 / n = A at *
  generalize 72057594037927936 / (n + 1) = B at *
  clear a1 a2 b1 b2 c1 c2 P1 P2 Q1 Q2 hu hv eC hm0
  omega
/-- The statement's checks, at a small number. -/
def okSmall (n : Int) : Bool := arcI (n + 1) ≤ arcI n && arcI n - (arcI (n + 1) + arcI (n * n + n + 1)) ≤ 400 && arcI (n + 1) + arcI (n * n + n + 1) - arcI n ≤ 400 && 0 ≤ arcI n && arcI n ≤ 72057594037927936 && 0 ≤ arcI (n + 1) && arcI (n + 1) ≤ 72057594037927936 && 0 ≤ arcI (n * n + n + 1) && arcI (n * n + n + 1) ≤ 72057594037927936
def allSmall : Nat → Bool
  | 0 => true
  | k + 1 => okSmall ((k : Int) + 2) && allSmall k
theorem allSmall_at : ∀ (K k : Nat), allSmall K = true → k < K → okSmall ((k : Int) + 2) = true
  | 0, _, _, h => by omega
  | K + 1, k, h, hk => by
    simp only [allSmall, Bool.and_eq_true] at h
    by_cases e : k = K
    · subst e; exact h.1
    · exact allSmall_at K k h.2 (by omega)
theorem small_all : allSmall 4094 = true := by decide +kernel
end Go.Proofs.Ytghajjjdfhcljaa.Arc
