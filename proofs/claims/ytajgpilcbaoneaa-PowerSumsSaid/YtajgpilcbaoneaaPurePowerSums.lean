/- The statement PowerSums over numbers and lists alone. -/
import Derived.Test.YtajgpilcbaoneaaPf6
set_option linter.unusedVariables false
set_option linter.unusedSimpArgs false
namespace Go.Proofs.Ytajgpilcbaoneaa.Pure
open Go.RowKit Go.Proofs.Ytajgpilcbaoneaa.P Go.Proofs.YtajgpilcbaoneaaW.PrintWords Go.Proofs.YtajgpilcbaoneaaW.PrintLast Go.Proofs.YtajgpilcbaoneaaW.PrintMore
theorem bits1 : ∀ n : Nat, n < 71 → Go.bits .andNot .i64 (n : Int) 1 = 2 * ((n / 2 : Nat) : Int) := by decide +kernel
theorem alive20 : headroomlaw20_alive.f 20 = some true := by decide +kernel
def sumN : List S45 → Int
  | [] => 0
  | x :: xs => normU x + sumN xs
theorem sumN_nn : ∀ l, 0 ≤ sumN l
  | [] => Int.le_refl 0
  | x :: xs => Int.add_nonneg (normU_nn x) (sumN_nn xs)
theorem sumN_app : ∀ a b, sumN (a ++ b) = sumN a + sumN b
  | [], b => by simp [sumN]
  | x :: xs, b => by rw [List.cons_append, sumN, sumN, sumN_app xs b]; omega
/-- Both parts are under M. -/
def Under (M : Int) (x : S45) : Prop := -M < x.f0 ∧ x.f0 < M ∧ -M < x.f1 ∧ x.f1 < M
theorem normU_of {x : S45} (h : Under 134217728 x) : normU x = x.f0 * x.f0 + x.f1 * x.f1 := by
  obtain ⟨h1, h2, h3, h4⟩ := h
  unfold normU narrowB
  rw [if_pos (decide_eq_true (by omega))]
theorem sq_le {a : Int} (h1 : -134217728 < a) (h2 : a < 134217728) : a * a ≤ 18014398509481984 := by
  have := Int.mul_nonneg (show 0 ≤ 134217728 - a by omega) (show 0 ≤ 134217728 + a by omega)
  grind
theorem normU_le {x : S45} (h : Under 134217728 x) : normU x ≤ 36028797018963968 := by
  rw [normU_of h]
  obtain ⟨h1, h2, h3, h4⟩ := h
  have := sq_le h1 h2
  have := sq_le h3 h4
  omega
theorem sumN_le : ∀ l : List S45, (∀ x ∈ l, Under 134217728 x) → sumN l ≤ 36028797018963968 * l.length
  | [], _ => by simp [sumN]
  | x :: xs, h => by
    have a := normU_le (h x (List.mem_cons_self ..))
    have b := sumN_le xs (fun y hy => h y (List.mem_cons_of_mem _ hy))
    rw [sumN, List.length_cons]
    omega
theorem fold_tot : ∀ (l : List S45) (s : Int), 0 ≤ s → s + sumN l < 18446744073709551616 → l.foldl totStep (0, s) = (0, s + sumN l)
  | [], s, _, _ => by simp [sumN]
  | x :: xs, s, h0, h1 => by
    have a := normU_nn x
    have b := sumN_nn xs
    rw [sumN] at h1
    have e : totStep (0, s) x = (0, s + normU x) := by
      unfold totStep
      simp only
      rw [show (s + normU x) / 18446744073709551616 = 0 by omega, show (s + normU x) % 18446744073709551616 = s + normU x by omega]
      rfl
    rw [List.foldl_cons, e, fold_tot xs (s + normU x) (by omega) (by omega), sumN]
    congr 1
    omega
theorem may_ok (l : List S45) (h : ∀ x ∈ l, Under 134217728 x) : mayE l = 0 := by
  unfold mayE
  rw [if_neg]
  simp only [List.any_eq_true, not_exists, not_and]
  intro x hx
  obtain ⟨h1, h2, h3, h4⟩ := h x hx
  unfold narrowB
  rw [decide_eq_true (by omega)]
  decide
theorem total_ok (l : List S45) (h : ∀ x ∈ l, Under 134217728 x) (hl : l.length ≤ 70) : power_Total.f l = some (0, sumN l, 0) := by
  unfold power_Total.f
  have := sumN_le l h
  have := sumN_nn l
  rw [if_pos (may_ok l h)]
  unfold totL
  rw [fold_tot l 0 (by decide) (by omega)]
  simp
theorem rd_mem {l : List S45} {i : Nat} (h : i < l.length) : rd_T45 l (i : Int) ∈ l := by
  unfold rd_T45
  rw [Int.toNat_natCast, List.getD_eq_getElem?_getD, List.getElem?_eq_getElem h]
  exact List.getElem_mem h
theorem take_rd {l : List S45} {k : Nat} (hk : k < l.length) : l.take (k + 1) = l.take k ++ [rd_T45 l k] := by
  unfold rd_T45
  rw [List.take_succ_eq_append_getElem hk, Int.toNat_natCast, List.getD_eq_getElem?_getD, List.getElem?_eq_getElem hk]
  rfl
theorem pair_step {x : List S45} {i : Nat} (h : i + 1 < x.length) (hs : ∀ z ∈ x, Under 67108864 z) (hi : i < 71) :
    let p : S45 := ⟨wrap64 ((rd_T45 x i).f0 + (rd_T45 x (wrap64 ((i : Int) + 1))).f0), wrap64 ((rd_T45 x i).f1 + (rd_T45 x (wrap64 ((i : Int) + 1))).f1)⟩
    let q : S45 := ⟨wrap64 ((rd_T45 x i).f0 - (rd_T45 x (wrap64 ((i : Int) + 1))).f0), wrap64 ((rd_T45 x i).f1 - (rd_T45 x (wrap64 ((i : Int) + 1))).f1)⟩
    Under 134217728 p ∧ Under 134217728 q ∧ sumN (x.take (i + 2)) * 2 = sumN (x.take i) * 2 + normU p + normU q := by
  have hw : wrap64 ((i : Int) + 1) = ((i + 1 : Nat) : Int) := by unfold wrap64; omega
  rw [hw, take_rd (k := i + 1) h, take_rd (k := i) (by omega), sumN_app, sumN_app]
  obtain ⟨a1, a2, a3, a4⟩ := hs _ (rd_mem (i := i) (by omega))
  obtain ⟨b1, b2, b3, b4⟩ := hs _ (rd_mem (i := i + 1) h)
  generalize rd_T45 x (i : Int) = a at *
  generalize rd_T45 x ((i + 1 : Nat) : Int) = b at *
  obtain ⟨a0, a'⟩ := a
  obtain ⟨b0, b'⟩ := b
  simp only at *
  rw [show wrap64 (a0 + b0) = a0 + b0 by unfold wrap64; omega, show wrap64 (a' + b') = a' + b' by unfold wrap64; omega, show wrap64 (a0 - b0) = a0 - b0 by unfold wrap64; omega, show wrap64 (a' - b') = a' - b' by unfold wrap64; omega]
  have u1 : Under 134217728 ⟨a0 + b0, a' + b'⟩ := ⟨by simp only; omega, by simp only; omega, by simp only; omega, by simp only; omega⟩
  have u2 : Under 134217728 ⟨a0 - b0, a' - b'⟩ := ⟨by simp only; omega, by simp only; omega, by simp only; omega, by simp only; omega⟩
  refine ⟨u1, u2, ?_⟩
  simp only [sumN]
  rw [normU_of u1, normU_of u2, normU_of (x := ⟨a0, a'⟩) ⟨by simp only; omega, by simp only; omega, by simp only; omega, by simp only; omega⟩, normU_of (x := ⟨b0, b'⟩) ⟨by simp only; omega, by simp only; omega, by simp only; omega, by simp only; omega⟩]
  simp only
  grind
theorem l1_ok : ∀ (d k : Nat) (x y : List S45) (i : Nat), 20 ≤ k → x.length = i + 2 * d → x.length ≤ 70 → (∀ z ∈ x, Under 67108864 z) → y.length = i → (∀ z ∈ y, Under 134217728 z) → sumN y = sumN (x.take i) * 2 →
    headroomlaw20_PowerSums.l1 (d + 1 + k) x y (i : Int) = some true
  | 0, k, x, y, i, hk, hl, h70, hs, hy, hu, hsum => by
    rw [show 0 + 1 + k = k + 1 by omega, headroomlaw20_PowerSums.l1, if_neg (by omega), total_ok x (fun z hz => by obtain ⟨a, b, c, d⟩ := hs z hz; exact ⟨by omega, by omega, by omega, by omega⟩) h70, total_ok y hu (by omega), at_rounds (fun k => headroomlaw20_alive.mono k) hk alive20]
    have e : x.take i = x := List.take_of_length_le (by omega)
    rw [e] at hsum
    have h1 := sumN_nn x
    have h2 := sumN_le x (fun z hz => by obtain ⟨a, b, c, d⟩ := hs z hz; exact ⟨by omega, by omega, by omega, by omega⟩)
    have hw : IntKind.u64.wrap (2 * sumN x) = sumN y := by
      rw [show IntKind.u64.wrap (2 * sumN x) = (2 * sumN x) % 18446744073709551616 from rfl]
      omega
    simp [hw]
  | d + 1, k, x, y, i, hk, hl, h70, hs, hy, hu, hsum => by
    have hw : wrap64 ((i : Int) + 1) = ((i + 1 : Nat) : Int) := by unfold wrap64; omega
    have hw2 : wrap64 ((i : Int) + 2) = ((i + 2 : Nat) : Int) := by unfold wrap64; omega
    obtain ⟨u1, u2, hp⟩ := pair_step (x := x) (i := i) (by omega) hs (by omega)
    rw [show d + 1 + 1 + k = (d + 1 + k) + 1 by omega, headroomlaw20_PowerSums.l1, if_pos (by omega), if_pos (by omega), if_pos (by rw [hw]; omega), if_pos (by rw [hw]; omega), hw2]
    simp only [Option.bind_some]
    rw [if_pos (by simp; omega)]
    refine l1_ok d k x _ (i + 2) hk (by omega) h70 hs (by simp; omega) ?_ ?_
    · intro z hz
      rcases List.mem_append.1 hz with q | q
      · exact hu z q
      · simp only [List.mem_cons, List.not_mem_nil, or_false] at q
        rcases q with rfl | rfl
        · exact u1
        · exact u2
    · rw [sumN_app, hsum, hp]
      simp only [sumN]
      omega
theorem tmod_under (a : Int) : -67108864 < Int.tmod a 67108864 ∧ Int.tmod a 67108864 < 67108864 := ⟨Int.lt_tmod_of_pos a (by decide), Int.tmod_lt_of_pos a (by decide)⟩
theorem l0_ok : ∀ (d k : Nat) (x : List S45) (i : Nat), 120 ≤ k → x.length = i + d → x.length ≤ 70 → x.length % 2 = 0 → (∀ z ∈ x.take i, Under 67108864 z) →
    headroomlaw20_PowerSums.l0 (d + 1 + k) x (x.length : Int) (i : Int) = some true
  | 0, k, x, i, hk, hl, h70, h2, hs => by
    have e : x.take i = x := List.take_of_length_le (by omega)
    rw [e] at hs
    rw [show 0 + 1 + k = k + 1 by omega, headroomlaw20_PowerSums.l0, if_neg (by omega), show k = x.length / 2 + 1 + (k - 1 - x.length / 2) by omega]
    exact l1_ok (x.length / 2) (k - 1 - x.length / 2) x [] 0 (by omega) (by omega) h70 hs rfl (fun z hz => by cases hz) rfl
  | d + 1, k, x, i, hk, hl, h70, h2, hs => by
    have hw : wrap64 ((i : Int) + 1) = ((i + 1 : Nat) : Int) := by unfold wrap64; omega
    rw [show d + 1 + 1 + k = (d + 1 + k) + 1 by omega, headroomlaw20_PowerSums.l0, if_pos (by omega), if_pos (by omega), if_pos (by omega), hw, Int.toNat_natCast]
    generalize hy : (⟨Int.tmod (rd_T45 x (i : Int)).f0 67108864, Int.tmod (rd_T45 x (i : Int)).f1 67108864⟩ : S45) = y
    have uy : Under 67108864 y := by
      obtain rfl := hy
      obtain ⟨a, b⟩ := tmod_under (rd_T45 x (i : Int)).f0
      obtain ⟨c, d⟩ := tmod_under (rd_T45 x (i : Int)).f1
      exact ⟨a, b, c, d⟩
    have h := l0_ok d k (x.set i y) (i + 1) hk (by simp; omega) (by simp; omega) (by simpa using h2) (by
      intro z hz
      rw [List.take_succ_eq_append_getElem (by simp; omega), List.take_set_of_le (Nat.le_refl i)] at hz
      rcases List.mem_append.1 hz with q | q
      · exact hs z q
      · simp only [List.getElem_set_self, List.mem_cons, List.not_mem_nil, or_false] at q
        subst q
        exact uy)
    rw [List.length_set] at h
    exact h
theorem PowerSums : ∀ (l0 : List S45), l0.length ≤ maxLen → l0.length * 16 ≤ 140737488351232 → (∀ x ∈ l0, (Lit.int .i64 x.f0).wf = true ∧ (Lit.int .i64 x.f1).wf = true) → ∃ k, headroomlaw20_PowerSums.f k l0 = some true := by
  intro l0 _ hl _
  refine ⟨200, ?_⟩
  unfold headroomlaw20_PowerSums.f
  obtain ⟨n, hn, h70, hle⟩ : ∃ n : Nat, mn (l0.length : Int) 70 = n ∧ n < 71 ∧ n ≤ l0.length := ⟨(mn (l0.length : Int) 70).toNat, by unfold mn; split <;> omega, by unfold mn; split <;> omega, by unfold mn; split <;> omega⟩
  rw [hn, bits1 n h70, if_pos (by omega), if_pos (by omega), show ((2 * ((n / 2 : Nat) : Int)) : Int).toNat = 2 * (n / 2) by omega]
  generalize hX : l0.take (2 * (n / 2)) = X
  have hXl : X.length = 2 * (n / 2) := by rw [← hX, List.length_take]; omega
  have hc : api_Cx.f X = some X := by
    unfold api_Cx.f api_Cx0.f
    simp only [Option.bind_some]
    rw [if_pos (by simp; omega)]
    simp
  rw [hc, Option.bind_some]
  have h := l0_ok X.length (199 - X.length) X 0 (by omega) (by omega) (by omega) (by omega) (fun z hz => by simp at hz)
  rw [show X.length + 1 + (199 - X.length) = 200 by omega] at h
  exact h
end Go.Proofs.Ytajgpilcbaoneaa.Pure
