/- Plain facts on angles by series: the reference's terms are the program's. -/
import Derived.Test.YtghajjjdfhcljaaPf4
set_option linter.unusedSimpArgs false
set_option linter.unusedVariables false
namespace Go.Proofs.Ytghajjjdfhcljaa.Arc
open Go.RowKit Go.Proofs.Ytghajjjdfhcljaa.P Go.Proofs.YtghajjjdfhcljaaW.PrintWords Go.Proofs.YtghajjjdfhcljaaW.PrintLast Go.Proofs.YtghajjjdfhcljaaW.PrintMore

def I64 (x : Int) : Prop := -9223372036854775808 ≤ x ∧ x ≤ 9223372036854775807
theorem wrap_id {x : Int} (h : I64 x) : wrap64 x = x := by unfold wrap64; unfold I64 at h; omega
/-- The part at a place. -/
def pj (n : Int) : Nat → Int
  | 0 => 72057594037927936 / n
  | j + 1 => pj n j / n / n
theorem div_le {x n : Int} (hx : 0 ≤ x) (hn : 2 ≤ n) : 0 ≤ x / n ∧ x / n ≤ x := ⟨Int.ediv_nonneg hx (by omega), Int.ediv_le_self _ hx⟩
theorem pj_bounds {n : Int} (hn : 2 ≤ n) : ∀ j, 0 ≤ pj n j ∧ pj n j ≤ 36028797018963968 := by
  intro j
  induction j with
  | zero =>
    have h0 : 0 ≤ 72057594037927936 / n := Int.ediv_nonneg (by decide) (by omega)
    have := Int.ediv_mul_le 72057594037927936 (show n ≠ 0 by omega)
    have h2 : 72057594037927936 / n * 2 ≤ 72057594037927936 / n * n := Int.mul_le_mul_of_nonneg_left hn h0
    simp only [pj]
    omega
  | succ j ih =>
    have a := div_le ih.1 hn
    have b := div_le a.1 hn
    simp only [pj]
    omega
theorem div_f {x d : Int} (hx : 0 ≤ x ∧ x ≤ 9223372036854775807) (hd : 1 ≤ d) : headroomref01_Div.f x d = some (x / d) := by
  have h0 : 0 ≤ x / d := Int.ediv_nonneg hx.1 (by omega)
  have h1 : x / d ≤ x := Int.ediv_le_self _ hx.1
  unfold headroomref01_Div.f
  rw [if_neg (by omega), if_neg (by omega), Int.tdiv_eq_ediv_of_nonneg hx.1, wrap_id (by unfold I64; omega)]
theorem pow56 : headroomref01_Pow.f 60 56 = some 72057594037927936 ∧ headroomref01_Pow.f 60 44 = some 17592186044416 := by decide +kernel
theorem p_l0 {n : Int} (hn : 2 ≤ n) (J : Nat) (hJ : J ≤ 100) : ∀ (d k i : Nat), i + d = J → d < k → headroomref04_P.l0 k n (J : Int) (pj n i) (i : Int) = some (pj n J) := by
  intro d
  induction d with
  | zero =>
    intro k i hi hk
    obtain ⟨k, rfl⟩ : ∃ m, k = m + 1 := ⟨k - 1, by omega⟩
    simp only [headroomref04_P.l0]
    rw [if_neg (by omega), show i = J from by omega]
  | succ d ih =>
    intro k i hi hk
    obtain ⟨k, rfl⟩ : ∃ m, k = m + 1 := ⟨k - 1, by omega⟩
    have hb := pj_bounds hn i
    have ha := div_le hb.1 hn
    simp only [headroomref04_P.l0]
    rw [if_pos (by omega), div_f (by omega) (by omega)]
    simp only [Option.bind_some]
    rw [div_f (by omega) (by omega)]
    simp only [Option.bind_some]
    rw [wrap_id (by unfold I64; omega)]
    exact ih k (i + 1) (by omega) (by omega)
theorem p_f {n : Int} (hn : 2 ≤ n ∧ n ≤ 17592186044416) (J k : Nat) (hJ : J ≤ 100) (hk : 101 ≤ k) : headroomref04_P.f k n (J : Int) = some (pj n J) := by
  unfold headroomref04_P.f
  rw [at_rounds (fun k => headroomref01_Pow.mono _ k) (show 60 ≤ k from by omega) pow56.1]
  simp only [Option.bind_some]
  rw [div_f (by decide) (by omega)]
  simp only [Option.bind_some]
  exact p_l0 hn.1 J hJ J k 0 (by omega) (by omega)
theorem terms_stop (k : Nat) (n x4 q : Int) (x3 : List Int) (h : headroomref04_P.f k n x4 = some q) (hq : ¬ q > 0) : headroomref04_Terms.l0 (k + 1) n x3 x4 = some x3 := by
  simp only [headroomref04_Terms.l0]
  rw [h]
  exact if_neg hq
theorem terms_step (k : Nat) (n x4 q t : Int) (x3 : List Int) (h : headroomref04_P.f k n x4 = some q) (hq : q > 0) (hd : headroomref01_Div.f q (wrap64 ((wrap64 (2 * x4)) + 1)) = some t) (hl : x3.length < 17592186044416) :
    headroomref04_Terms.l0 (k + 1) n x3 x4 = headroomref04_Terms.l0 k n (x3 ++ [if Int.tmod x4 2 = 1 then wrap64 (-t) else t]) (wrap64 (x4 + 1)) := by
  simp only [headroomref04_Terms.l0]
  rw [h]
  refine (if_pos hq).trans ?_
  show (headroomref01_Div.f q (wrap64 ((wrap64 (2 * x4)) + 1))).bind _ = _
  rw [hd]
  by_cases c : Int.tmod x4 2 = 1
  · rw [if_pos c]
    refine (if_pos c).trans ?_
    exact if_pos hl
  · rw [if_neg c]
    refine (if_neg c).trans ?_
    exact if_pos hl
theorem mod_two (j : Nat) : Int.tmod (j : Int) 2 = ((j % 2 : Nat) : Int) := by rw [Int.tmod_eq_emod_of_nonneg (by omega)]; omega
theorem sign_next {j : Nat} {s : Int} (hs : (j % 2 = 1 ∧ s = -1) ∨ (j % 2 = 0 ∧ s = 1)) : ((j + 1) % 2 = 1 ∧ -s = -1) ∨ ((j + 1) % 2 = 0 ∧ -s = 1) := by
  rcases hs with ⟨a, b⟩ | ⟨a, b⟩
  · exact .inr ⟨by omega, by omega⟩
  · exact .inl ⟨by omega, by omega⟩
theorem odd_vals (j : Nat) (hj : j ≤ 100) : wrap64 ((wrap64 (2 * (j : Int))) + 1) = 2 * (j : Int) + 1 ∧ wrap64 ((j : Int) + 1) = ((j + 1 : Nat) : Int) := by
  rw [wrap_id (x := 2 * (j : Int)) (by unfold I64; omega), wrap_id (by unfold I64; omega), wrap_id (by unfold I64; omega)]
  exact ⟨rfl, by omega⟩
theorem term_sign {j : Nat} {s t : Int} (hs : (j % 2 = 1 ∧ s = -1) ∨ (j % 2 = 0 ∧ s = 1)) (ht : 0 ≤ t ∧ t ≤ 36028797018963968) : (if Int.tmod (j : Int) 2 = 1 then wrap64 (-t) else t) = s * t := by
  rw [mod_two]
  rcases hs with ⟨a, rfl⟩ | ⟨a, rfl⟩
  · rw [if_pos (by omega), wrap_id (by unfold I64; omega)]
    omega
  · rw [if_neg (by omega)]
    omega
theorem quo_at {n : Int} (hn : 2 ≤ n) (j : Nat) : 0 ≤ pj n j / (2 * (j : Int) + 1) ∧ pj n j / (2 * (j : Int) + 1) ≤ 36028797018963968 := by
  have hb := pj_bounds hn j
  have h0 : 0 ≤ pj n j / (2 * (j : Int) + 1) := Int.ediv_nonneg hb.1 (by omega)
  have h1 : pj n j / (2 * (j : Int) + 1) ≤ pj n j := Int.ediv_le_self _ hb.1
  exact ⟨h0, Int.le_trans h1 hb.2⟩
theorem div_at {n : Int} (hn : 2 ≤ n) (j : Nat) (hj : j ≤ 100) : headroomref01_Div.f (pj n j) (wrap64 ((wrap64 (2 * (j : Int))) + 1)) = some (pj n j / (2 * (j : Int) + 1)) := by
  have hb := pj_bounds hn j
  rw [(odd_vals j hj).1]
  exact div_f ⟨hb.1, by omega⟩ (by omega)
theorem terms_l0 {n : Int} (hn : 2 ≤ n ∧ n ≤ 17592186044416) : ∀ (f k j : Nat) (s : Int) (out : List Int), j + f = 60 → f + 110 < k → pj n j < 4 ^ f → out.length ≤ j → ((j % 2 = 1 ∧ s = -1) ∨ (j % 2 = 0 ∧ s = 1)) →
    headroomref04_Terms.l0 k n out (j : Int) = some (out ++ termsFrom n f (pj n j) s (2 * (j : Int) + 1)) := by
  intro f
  induction f with
  | zero =>
    intro k j s out hj hk hp ho hs
    have hp1 : pj n j < 1 := by rw [Int.pow_zero] at hp; exact hp
    clear hp
    obtain ⟨k, rfl⟩ : ∃ m, k = m + 1 := ⟨k - 1, by omega⟩
    rw [terms_stop k n j (pj n j) out (p_f hn j k (by omega) (by omega)) (by omega), termsFrom, List.append_nil]
  | succ f ih =>
    intro k j s out hj hk hp ho hs
    obtain ⟨k, rfl⟩ : ∃ m, k = m + 1 := ⟨k - 1, by omega⟩
    have hj1 : j ≤ 100 := by clear hp; omega
    have hk1 : 101 ≤ k := by clear hp; omega
    have hP := p_f hn j k hj1 hk1
    by_cases hpos : pj n j > 0
    · have hq := (quo_bounds (f := f) hn.1 hpos hp).2.1
      clear hp
      rw [terms_step k n j (pj n j) _ out hP hpos (div_at hn.1 j hj1) (by omega), term_sign hs (quo_at hn.1 j), (odd_vals j hj1).2]
      rw [ih k (j + 1) (-s) _ (by omega) (by omega) hq (by simp; omega) (sign_next hs), termsFrom, if_pos hpos, List.append_assoc]
      rw [show 2 * ((j + 1 : Nat) : Int) + 1 = 2 * (j : Int) + 1 + 2 from by omega]
      rfl
    · rw [terms_stop k n j (pj n j) out hP hpos, termsFrom, if_neg hpos, List.append_nil]
theorem terms_f {n : Int} (hn : 2 ≤ n ∧ n ≤ 17592186044416) (k : Nat) (hk : 200 ≤ k) : headroomref04_Terms.f k n = some (termsL n) := by
  have hb := pj_bounds hn.1 0
  have hp : pj n 0 < 4 ^ 60 := by omega
  have := terms_l0 hn 60 k 0 1 [] (by omega) (by omega) hp (by simp) (.inr ⟨rfl, rfl⟩)
  unfold headroomref04_Terms.f termsL
  rw [List.nil_append, pj] at this
  exact this
theorem arc_l0 (L : List Int) (hL : L.length ≤ 60) : ∀ (rest : List Int) (k : Nat) (i acc : Int), 0 ≤ i → L.drop i.toNat = rest → i + rest.length = L.length → rest.length < k →
    headroomref04_Arc.l0 k acc L (L.length : Int) i = some (rest.foldl (fun s v => wrap64 (s + v)) acc) := by
  intro rest
  induction rest with
  | nil =>
    intro k i acc h0 hd hi hk
    obtain ⟨k, rfl⟩ : ∃ m, k = m + 1 := ⟨k - 1, by omega⟩
    simp only [headroomref04_Arc.l0]
    rw [if_neg (by simp at hi; omega)]
    rfl
  | cons x rest ih =>
    intro k i acc h0 hd hi hk
    simp only [List.length_cons] at hi hk
    obtain ⟨k, rfl⟩ : ∃ m, k = m + 1 := ⟨k - 1, by omega⟩
    have hlt : i < (L.length : Int) := by omega
    have hx : rd L i = x := by
      unfold rd
      have : L[i.toNat]? = some x := by
        have := congrArg (fun l => l[0]?) hd
        simpa using this
      rw [List.getD_eq_getElem?_getD, this]
      rfl
    have hd' : L.drop (i + 1).toNat = rest := by
      rw [show (i + 1).toNat = i.toNat + 1 from by omega, ← List.drop_drop, hd]
      rfl
    simp only [headroomref04_Arc.l0]
    rw [if_pos hlt, if_pos h0, if_pos hlt, hx, wrap_id (x := i + 1) (by unfold I64; omega)]
    exact ih k (i + 1) _ (by omega) hd' (by omega) (by omega)
theorem arc_f {n : Int} (hn : 2 ≤ n ∧ n ≤ 17592186044416) (k : Nat) (hk : 200 ≤ k) : headroomref04_Arc.f k n = some (sumT (termsL n)) := by
  have hl := termsL_length n
  unfold headroomref04_Arc.f sumT
  rw [terms_f hn k hk]
  simp only [Option.bind_some]
  generalize termsL n = L at *
  exact arc_l0 L hl L k 0 0 (by omega) List.drop_zero (by omega) (by omega)
theorem same_l0 (X : List Int) (hn : X.length ≤ 60) : ∀ (d k : Nat) (i : Int), 0 ≤ i → i + d = X.length → d < k → headroomref04_Same.l0 k X X (X.length : Int) i = some true := by
  intro d
  induction d with
  | zero =>
    intro k i h0 hi hk
    obtain ⟨k, rfl⟩ : ∃ m, k = m + 1 := ⟨k - 1, by omega⟩
    simp only [headroomref04_Same.l0]
    rw [if_neg (by omega)]
  | succ d ih =>
    intro k i h0 hi hk
    obtain ⟨k, rfl⟩ : ∃ m, k = m + 1 := ⟨k - 1, by omega⟩
    have hlt : i < (X.length : Int) := by omega
    simp only [headroomref04_Same.l0]
    rw [if_pos hlt, if_pos h0, if_pos hlt, if_pos hlt, if_pos trivial, wrap_id (by unfold I64; omega)]
    exact ih k (i + 1) (by omega) (by omega) (by omega)
theorem same_refl (X : List Int) (hn : X.length ≤ 60) (k : Nat) (hk : 80 ≤ k) : headroomref04_Same.f k X X = some true := by
  unfold headroomref04_Same.f
  rw [if_pos rfl]
  exact same_l0 X hn X.length k 0 (by omega) (by omega) (by omega)
theorem may_f (n : Int) (k : Nat) (hk : 60 ≤ k) : headroomref04_May.f k n = some (decide (2 ≤ n ∧ n ≤ 17592186044416)) := by
  unfold headroomref04_May.f
  by_cases h : n ≥ 2
  · rw [if_pos h, at_rounds (fun k => headroomref01_Pow.mono _ k) hk pow56.2]
    simp [show 2 ≤ n from h]
  · rw [if_neg h]
    simp [show ¬ 2 ≤ n from h]
theorem alive : headroomlaw04_alive.f = some true := by decide +kernel
theorem prog_Arc (n : Int) : arc_Arc.f n = some (if 2 ≤ n ∧ n ≤ 17592186044416 then (sumT (termsL n), 0) else (0, 1)) := by
  unfold arc_Arc.f arc_sum.f
  by_cases h : 2 ≤ n ∧ n ≤ 17592186044416
  · rw [if_neg (by omega), if_neg (by omega), if_pos h, if_pos h]
    rfl
  · rw [if_neg h]
    by_cases h2 : n < 2
    · rw [if_pos h2, if_neg h]
    · rw [if_neg h2, if_pos (by omega), if_neg h]
theorem prog_Quarter : arc_Quarter.f = some 56593902016227522 := by decide +kernel
theorem ref_Quarter (k : Nat) (hk : 200 ≤ k) : headroomref04_Quarter.f k = some 56593902016227522 := by
  unfold headroomref04_Quarter.f
  rw [arc_f ⟨by decide, by decide⟩ k hk, arc_f ⟨by decide, by decide⟩ k hk]
  exact prog_Quarter
end Go.Proofs.Ytghajjjdfhcljaa.Arc
