/- Plain facts of layer power: the reference's answers and the program's, over lists of numbers. -/
import Derived.Test.YtajgpilcbaoneaaPf24
import Derived.Test.YtajgpilcbaoneaaPf23
import Derived.Test.YtajgpilcbaoneaaPf27
import Derived.Test.YtajgpilcbaoneaaPf28
import Derived.Test.YtajgpilcbaoneaaPg3
set_option linter.unusedVariables false
set_option linter.unusedSimpArgs false
namespace Go.Proofs.Ytajgpilcbaoneaa.Pow
open Go.RowKit Go.Proofs.Ytajgpilcbaoneaa.P Go.Proofs.YtajgpilcbaoneaaW.PrintWords Go.Proofs.YtajgpilcbaoneaaW.PrintLast Go.Proofs.YtajgpilcbaoneaaW.PrintMore
theorem alive20 : headroomlaw20_alive.f 20 = some true := by decide +kernel
theorem u64_w (x : Int) : IntKind.u64.wrap x = x % 18446744073709551616 := rfl
theorem sq_le {a : Int} (h1 : -2147483648 ≤ a) (h2 : a ≤ 2147483648) : a * a ≤ 4611686018427387904 := by
  have := Int.mul_nonneg (show 0 ≤ 2147483648 - a by omega) (show 0 ≤ 2147483648 + a by omega)
  grind
theorem sq_nn (a : Int) : 0 ≤ a * a := by
  rcases Int.le_total 0 a with q | q
  · exact Int.mul_nonneg q q
  · exact Int.mul_nonneg_of_nonpos_of_nonpos q q
theorem normU_le (x : S45) : normU x ≤ 9223372036854775808 := by
  unfold normU narrowB
  split
  · rename_i h
    obtain ⟨h1, h2, h3, h4⟩ := of_decide_eq_true h
    have := sq_le h3 h1
    have := sq_le h4 h2
    omega
  · decide
theorem norm_is {x : S45} (h : narrowB x = true) : headroomref03_Norm.f x.f0 x.f1 = some (normU x) := by
  unfold headroomref03_Norm.f
  have h' := h
  unfold narrowB at h'
  obtain ⟨h1, h2, h3, h4⟩ := of_decide_eq_true h'
  have a := sq_le h3 h1
  have b := sq_le h4 h2
  have c := sq_nn x.f0
  have d := sq_nn x.f1
  unfold normU
  rw [if_pos h]
  generalize x.f0 * x.f0 = p at *
  generalize x.f1 * x.f1 = q at *
  rw [show wrap64 p = p by unfold wrap64; omega, show wrap64 q = q by unfold wrap64; omega, u64_w, u64_w, u64_w]
  congr 1
  omega
theorem within_is (a b : Int) : headroomref03_Within.f a b 2147483648 = some (narrowB ⟨a, b⟩) := by
  unfold headroomref03_Within.f narrowB
  have hm : wrap64 (-2147483648) = -2147483648 := by decide +kernel
  rw [hm]
  simp only
  by_cases h1 : a ≤ 2147483648 <;> by_cases h2 : a ≥ -2147483648 <;> by_cases h3 : b ≤ 2147483648 <;> simp [h1, h2, h3, ge_iff_le] <;> omega
theorem pow31 : headroomref01_Pow.f 40 31 = some 2147483648 := by decide +kernel
theorem drop_rd {x : List S45} {i : Nat} (h : i < x.length) : x.drop i = rd_T45 x i :: x.drop (i + 1) := by
  rw [List.drop_eq_getElem_cons h]
  unfold rd_T45
  rw [Int.toNat_natCast, List.getD_eq_getElem?_getD, List.getElem?_eq_getElem h]
  rfl
theorem take_rd {l : List S45} {k : Nat} (hk : k < l.length) : l.take (k + 1) = l.take k ++ [rd_T45 l k] := by
  unfold rd_T45
  rw [List.take_succ_eq_append_getElem hk, Int.toNat_natCast, List.getD_eq_getElem?_getD, List.getElem?_eq_getElem hk]
  rfl
theorem narrow_at : ∀ (d k : Nat) (x : List S45) (i : Nat), 40 ≤ k → x.length = i + d → x.length ≤ 70 → headroomref09_Narrow.l0 (d + 1 + k) x (x.length : Int) (i : Int) = some ((x.drop i).all narrowB)
  | 0, k, x, i, hk, hl, h70 => by
    rw [show 0 + 1 + k = k + 1 by omega, headroomref09_Narrow.l0, if_neg (by omega), List.drop_of_length_le (by omega)]
    rfl
  | d + 1, k, x, i, hk, hl, h70 => by
    have hw : wrap64 ((i : Int) + 1) = ((i + 1 : Nat) : Int) := by unfold wrap64; omega
    rw [show d + 1 + 1 + k = (d + 1 + k) + 1 by omega, headroomref09_Narrow.l0, if_pos (by omega), if_pos (by omega), if_pos (by omega), at_rounds (fun k => headroomref01_Pow.mono _ k) (show 40 ≤ d + 1 + k by omega) pow31]
    simp only [Option.bind_some]
    rw [within_is, drop_rd (x := x) (i := i) (by omega), hw, narrow_at d k x (i + 1) hk (by omega) h70]
    simp only [Option.bind_some, List.all_cons]
    cases narrowB (rd_T45 x (i : Int)) <;> simp
theorem narrow_is (k : Nat) (x : List S45) (hk : 120 ≤ k) (h : x.length ≤ 70) : headroomref09_Narrow.f k x = some (x.all narrowB) := by
  unfold headroomref09_Narrow.f
  rw [show k = x.length + 1 + (k - 1 - x.length) by omega]
  exact narrow_at x.length _ x 0 (by omega) (by omega) h
theorem mayE_no {x : List S45} (h : x.all narrowB = false) : mayE x = 2 := by
  unfold mayE
  rw [if_pos]
  simp only [List.any_eq_true, Bool.not_eq_true']
  simpa using h
theorem mayE_yes {x : List S45} (h : x.all narrowB = true) : mayE x = 0 := by
  unfold mayE
  rw [if_neg]
  simp only [List.any_eq_true, Bool.not_eq_true']
  rintro ⟨z, hz, hn⟩
  have := List.all_eq_true.1 h z hz
  simp [hn] at this
theorem rd_mem {l : List S45} {i : Nat} (h : i < l.length) : rd_T45 l (i : Int) ∈ l := by
  unfold rd_T45
  rw [Int.toNat_natCast, List.getD_eq_getElem?_getD, List.getElem?_eq_getElem h]
  exact List.getElem_mem h
theorem spec_at : ∀ (d k : Nat) (acc : List Int) (x : List S45) (i : Nat), x.all narrowB = true → x.length = i + d → x.length ≤ 70 → acc.length = i → headroomref20_Spectrum.l0 (d + 1 + k) acc x (x.length : Int) (i : Int) = some (acc ++ sqL (x.drop i))
  | 0, k, acc, x, i, ha, hl, h70, hacc => by
    rw [show 0 + 1 + k = k + 1 by omega, headroomref20_Spectrum.l0, if_neg (by omega), List.drop_of_length_le (by omega)]
    simp [sqL]
  | d + 1, k, acc, x, i, ha, hl, h70, hacc => by
    have hw : wrap64 ((i : Int) + 1) = ((i + 1 : Nat) : Int) := by unfold wrap64; omega
    have hn : narrowB (rd_T45 x (i : Int)) = true := List.all_eq_true.1 ha _ (rd_mem (by omega))
    rw [show d + 1 + 1 + k = (d + 1 + k) + 1 by omega, headroomref20_Spectrum.l0, if_pos (by omega), if_pos (by omega), if_pos (by omega), norm_is hn]
    simp only [Option.bind_some]
    rw [if_pos (by omega), hw, spec_at d k _ x (i + 1) ha (by omega) h70 (by simp; omega), drop_rd (x := x) (i := i) (by omega)]
    simp [sqL]
theorem spec_is (k : Nat) (x : List S45) (hk : 80 ≤ k) (h : x.length ≤ 70) (ha : x.all narrowB = true) : headroomref20_Spectrum.f k x = some (sqL x) := by
  unfold headroomref20_Spectrum.f
  rw [show k = x.length + 1 + (k - 1 - x.length) by omega]
  exact spec_at x.length _ [] x 0 ha (by omega) h rfl
theorem rd_sq {x : List S45} {i : Nat} (h : i < x.length) : rd (sqL x) (i : Int) = normU (rd_T45 x (i : Int)) := by
  unfold rd rd_T45 sqL
  rw [Int.toNat_natCast, List.getD_eq_getElem?_getD, List.getD_eq_getElem?_getD, List.getElem?_map, List.getElem?_eq_getElem h]
  rfl
theorem totL_rng (l : List S45) : 0 ≤ (totL l).1 ∧ (totL l).1 < 18446744073709551616 ∧ 0 ≤ (totL l).2 ∧ (totL l).2 < 18446744073709551616 := by
  have key : ∀ (l : List S45) (s : Int × Int), (0 ≤ s.1 ∧ s.1 < 18446744073709551616 ∧ 0 ≤ s.2 ∧ s.2 < 18446744073709551616) → (0 ≤ (l.foldl totStep s).1 ∧ (l.foldl totStep s).1 < 18446744073709551616 ∧ 0 ≤ (l.foldl totStep s).2 ∧ (l.foldl totStep s).2 < 18446744073709551616) := by
    intro l
    induction l with
    | nil => intro s h; exact h
    | cons x l ih =>
      intro s h
      refine ih _ ?_
      unfold totStep
      simp only [u64_w]
      omega
  exact key l (0, 0) (by decide)
theorem total_at : ∀ (d k : Nat) (x : List S45) (i : Nat), x.length = i + d → x.length ≤ 70 → headroomref20_Total.l0 (d + 1 + k) (sqL x) (x.length : Int) (i : Int) (totL (x.take i)).1 (totL (x.take i)).2 = some (totL x)
  | 0, k, x, i, hl, h70 => by
    rw [show 0 + 1 + k = k + 1 by omega, headroomref20_Total.l0, if_neg (by omega), List.take_of_length_le (by omega)]
  | d + 1, k, x, i, hl, h70 => by
    have hw : wrap64 ((i : Int) + 1) = ((i + 1 : Nat) : Int) := by unfold wrap64; omega
    have hlen : (sqL x).length = x.length := by simp [sqL]
    have ih := total_at d k x (i + 1) (by omega) h70
    rw [take_rd (by omega), totL_snoc] at ih
    obtain ⟨a1, a2, a3, a4⟩ := totL_rng (x.take i)
    rw [show d + 1 + 1 + k = (d + 1 + k) + 1 by omega, headroomref20_Total.l0, if_pos (by omega), if_pos (by omega), if_pos (by omega), hw, rd_sq (by omega)]
    have n1 := normU_nn (rd_T45 x (i : Int))
    have n2 := normU_le (rd_T45 x (i : Int))
    unfold totStep at ih
    generalize normU (rd_T45 x (i : Int)) = n at *
    generalize totL (x.take i) = s at *
    by_cases hc : IntKind.u64.wrap (s.2 + n) < s.2
    · rw [if_pos hc]
      simp only [u64_w] at hc ih ⊢
      rw [show (s.2 + n) / 18446744073709551616 = 1 by omega] at ih
      exact ih
    · rw [if_neg hc]
      simp only [u64_w] at hc ih ⊢
      rw [show (s.2 + n) / 18446744073709551616 = 0 by omega, show (s.1 + 0) % 18446744073709551616 = s.1 by omega] at ih
      exact ih
theorem total_is (k : Nat) (x : List S45) (hk : 80 ≤ k) (h : x.length ≤ 70) (ha : x.all narrowB = true) : headroomref20_Total.f k x = some (totL x) := by
  unfold headroomref20_Total.f
  have hlen : (sqL x).length = x.length := by simp [sqL]
  rw [spec_is k x hk h ha, Option.bind_some, hlen, show k = x.length + 1 + (k - 1 - x.length) by omega]
  exact total_at x.length _ x 0 (by omega) h
theorem same_at : ∀ (d k : Nat) (s : List Int) (i : Nat), s.length = i + d → s.length ≤ 70 → headroomref20_Same.l0 (d + 1 + k) s s (s.length : Int) (i : Int) = some true
  | 0, k, s, i, hl, h70 => by
    rw [show 0 + 1 + k = k + 1 by omega, headroomref20_Same.l0, if_neg (by omega)]
  | d + 1, k, s, i, hl, h70 => by
    have hw : wrap64 ((i : Int) + 1) = ((i + 1 : Nat) : Int) := by unfold wrap64; omega
    rw [show d + 1 + 1 + k = (d + 1 + k) + 1 by omega, headroomref20_Same.l0, if_pos (by omega), if_pos (by omega), if_pos (by omega), if_pos (by omega), if_pos rfl, hw]
    exact same_at d k s (i + 1) (by omega) h70
theorem same_is (k : Nat) (s : List Int) (hk : 80 ≤ k) (h : s.length ≤ 70) : headroomref20_Same.f k s s = some true := by
  unfold headroomref20_Same.f
  rw [if_pos rfl, show k = s.length + 1 + (k - 1 - s.length) by omega]
  exact same_at s.length _ s 0 (by omega) h
theorem index_at : ∀ (d k : Nat) (s : List Int) (M : Int) (i P : Nat), s.length = i + d → s.length ≤ 70 → i ≤ P → P < s.length → rd s (P : Int) = M → (∀ j : Nat, i ≤ j → j < P → rd s (j : Int) ≠ M) → slices_Index_uint64_uint64.l0 (d + 1 + k) s M (s.length : Int) (i : Int) = some (P : Int)
  | 0, k, s, M, i, P, hl, h70, h1, h2, h3, h4 => by omega
  | d + 1, k, s, M, i, P, hl, h70, h1, h2, h3, h4 => by
    have hw : wrap64 ((i : Int) + 1) = ((i + 1 : Nat) : Int) := by unfold wrap64; omega
    rw [show d + 1 + 1 + k = (d + 1 + k) + 1 by omega, slices_Index_uint64_uint64.l0, if_pos (by omega), if_pos (by omega), if_pos (by omega)]
    by_cases he : M = rd s (i : Int)
    · rw [if_pos he]
      rcases Nat.lt_or_ge i P with q | q
      · exact absurd he.symm (h4 i (Nat.le_refl _) q)
      · rw [show i = P by omega]
    · rw [if_neg he, hw]
      have : i ≠ P := fun e => he (by rw [e]; exact h3.symm)
      exact index_at d k s M (i + 1) P (by omega) h70 (by omega) h2 h3 (fun j a b => h4 j (by omega) b)
theorem peak_at : ∀ (d k : Nat) (x : List S45) (p i : Nat), x.all narrowB = true → x.length = i + d → x.length ≤ 70 → p < x.length →
    (∀ j : Nat, j < i → rd (sqL x) (j : Int) ≤ rd (sqL x) (p : Int)) → (∀ j : Nat, j < p → rd (sqL x) (j : Int) < rd (sqL x) (p : Int)) →
    ∃ P : Nat, headroomref20_Peak.l0 (d + 1 + k) x (p : Int) (sqL x) (x.length : Int) (i : Int) = some (P : Int) ∧ P < x.length ∧ (∀ j : Nat, j < x.length → rd (sqL x) (j : Int) ≤ rd (sqL x) (P : Int)) ∧ (∀ j : Nat, j < P → rd (sqL x) (j : Int) < rd (sqL x) (P : Int))
  | 0, k, x, p, i, ha, hl, h70, hp, h1, h2 => by
    refine ⟨p, ?_, hp, fun j hj => h1 j (by omega), h2⟩
    rw [show 0 + 1 + k = k + 1 by omega, headroomref20_Peak.l0, if_neg (by omega)]
  | d + 1, k, x, p, i, ha, hl, h70, hp, h1, h2 => by
    have hw : wrap64 ((i : Int) + 1) = ((i + 1 : Nat) : Int) := by unfold wrap64; omega
    have hlen : (sqL x).length = x.length := by simp [sqL]
    have hn : narrowB (rd_T45 x (p : Int)) = true := List.all_eq_true.1 ha _ (rd_mem hp)
    rw [show d + 1 + 1 + k = (d + 1 + k) + 1 by omega, headroomref20_Peak.l0, if_pos (by omega), if_pos (by omega), if_pos (by omega), if_pos (by omega), if_pos (by omega), norm_is hn, ← rd_sq hp]
    simp only [Option.bind_some]
    by_cases hc : rd (sqL x) (i : Int) > rd (sqL x) (p : Int)
    · rw [if_pos hc, hw]
      refine peak_at d k x i (i + 1) ha (by omega) h70 (by omega) (fun j hj => ?_) (fun j hj => ?_)
      · rcases Nat.lt_or_ge j i with q | q
        · have := h1 j q; omega
        · rw [show j = i by omega]; exact Int.le_refl _
      · have := h1 j hj; omega
    · rw [if_neg hc, hw]
      refine peak_at d k x p (i + 1) ha (by omega) h70 hp (fun j hj => ?_) h2
      rcases Nat.lt_or_ge j i with q | q
      · exact h1 j q
      · rw [show j = i by omega]; omega
theorem maxTo_is (s : List Int) : ∀ k : Nat, k + 1 ≤ s.length → (∀ j : Nat, j < k + 1 → rd s (j : Int) ≤ maxTo s (k + 1)) ∧ ∃ j : Nat, j < k + 1 ∧ maxTo s (k + 1) = rd s (j : Int)
  | 0, h => by
    have e : maxTo s 1 = rd s ((0 : Nat) : Int) := by
      rw [maxTo_succ s 0 h]
      unfold maxTo mx rd
      simp
    refine ⟨fun j hj => ?_, 0, by omega, e⟩
    rw [show j = 0 by omega, e]
    exact Int.le_refl _
  | k + 1, h => by
    obtain ⟨h1, j, hj, h2⟩ := maxTo_is s k (by omega)
    have e : maxTo s (k + 1 + 1) = mx (maxTo s (k + 1)) (rd s ((k + 1 : Nat) : Int)) := by
      rw [maxTo_succ s (k + 1) (by omega)]
      unfold rd
      rw [Int.toNat_natCast]
    rw [e]
    unfold mx
    by_cases hc : maxTo s (k + 1) < rd s ((k + 1 : Nat) : Int)
    · rw [if_pos hc]
      refine ⟨fun i hi => ?_, k + 1, by omega, rfl⟩
      rcases Nat.lt_or_ge i (k + 1) with q | q
      · have := h1 i q; omega
      · rw [show i = k + 1 by omega]; exact Int.le_refl _
    · rw [if_neg hc]
      refine ⟨fun i hi => ?_, j, by omega, h2⟩
      rcases Nat.lt_or_ge i (k + 1) with q | q
      · exact h1 i q
      · rw [show i = k + 1 by omega]; omega
theorem specf_yes {x : List S45} (ha : x.all narrowB = true) (h : x.length ≤ 70) : power_Spectrum.f x = some (sqL x, 0) := by
  unfold power_Spectrum.f
  rw [if_pos (mayE_yes ha), if_pos (by omega)]
theorem totf_yes {x : List S45} (ha : x.all narrowB = true) : power_Total.f x = some ((totL x).1, (totL x).2, 0) := by
  unfold power_Total.f
  rw [if_pos (mayE_yes ha)]
/-- The program's peak and the reference's are one. -/
theorem peak_is (k : Nat) (x : List S45) (hk : 80 ≤ k) (h : x.length ≤ 70) (h0 : 0 < x.length) (ha : x.all narrowB = true) : ∃ P : Nat, power_Peak.f k x = some ((P : Int), 0) ∧ headroomref20_Peak.f k x = some (P : Int) := by
  have hlen : (sqL x).length = x.length := by simp [sqL]
  obtain ⟨P, e, hP, h1, h2⟩ := peak_at x.length (k - 1 - x.length) x 0 0 ha (by omega) h h0 (fun j hj => by omega) (fun j hj => by omega)
  rw [show x.length + 1 + (k - 1 - x.length) = k by omega] at e
  refine ⟨P, ?_, ?_⟩
  · unfold power_Peak.f
    rw [specf_yes ha h]
    simp only [Option.bind_some]
    rw [if_pos trivial, if_neg (by omega)]
    have hM : maxTo (sqL x) (sqL x).length = rd (sqL x) (P : Int) := by
      obtain ⟨m1, j, hj, m2⟩ := maxTo_is (sqL x) ((sqL x).length - 1) (by omega)
      rw [show (sqL x).length - 1 + 1 = (sqL x).length by omega] at m1 m2 hj
      have a := m1 P (by omega)
      have b := h1 j (by omega)
      omega
    unfold slices_Max_uint64_uint64.f
    rw [if_pos (by omega), Option.bind_some, hM]
    have hi := index_at (sqL x).length (k - 1 - (sqL x).length) (sqL x) (rd (sqL x) (P : Int)) 0 P (by omega) (by omega) (by omega) (by omega) rfl (fun j _ hj => by have := h2 j hj; omega)
    rw [show (sqL x).length + 1 + (k - 1 - (sqL x).length) = k by omega] at hi
    unfold slices_Index_uint64_uint64.f
    rw [show ((0 : Nat) : Int) = 0 from rfl] at hi
    rw [hi]
    rfl
  · unfold headroomref20_Peak.f
    rw [spec_is k x hk h ha, Option.bind_some, hlen]
    exact e
end Go.Proofs.Ytajgpilcbaoneaa.Pow
