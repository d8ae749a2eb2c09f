/- The statement BudgetLeast over numbers and lists alone. -/
import Derived.Test.YtbpanbmjkfhcgaaPf8
import Derived.Test.YtbpanbmjkfhcgaaGo
set_option linter.unusedVariables false
set_option linter.unusedSimpArgs false
namespace Go.Proofs.Ytbpanbmjkfhcgaa.Pure
open Go.RowKit Go.Proofs.Ytbpanbmjkfhcgaa.P Go.Proofs.YtbpanbmjkfhcgaaW.PrintWords Go.Proofs.YtbpanbmjkfhcgaaW.PrintLast
open Go.Proofs.Ytbpanbmjkfhcgaa.Plan Go.Proofs.Ytbpanbmjkfhcgaa.Num Go.Proofs.Ytbpanbmjkfhcgaa.Budget Go.Proofs.Ytbpanbmjkfhcgaa.Goes

theorem least_alive : headroomlaw14_alive.f 61 = some true := by decide +kernel
/-- Passes do not hang on the mode and the way, nor on how many steps are given. -/
def stillB (f l k s m : Int) (i : Bool) : Bool := match plan_Passes.f 61 f l k s m i, plan_Passes.f 60 f l k s m i, plan_Passes.f 61 f l k s 0 false with
  | some (a, e), some (b, e'), some (c, e'') => decide (e = 0) && decide (e' = 0) && decide (e'' = 0) && sameB a b && sameB a c && decide (288 * (a.length : Int) ≤ 384 * l + 165)
  | _, _, _ => false
set_option maxRecDepth 100000 in
theorem still_all : ∀ f ∈ ([0, 1] : List Int), ∀ l ∈ logs, ∀ k ∈ threes, ∀ s ∈ threes, ∀ m ∈ threes, (k = 2 → s = 0) → ∀ i : Bool, stillB f l k s m i = true := by decide +kernel
theorem still_ok {f l k s m : Int} {i : Bool} (ok : Ok f l k s m) : ∃ L, plan_Passes.f 61 f l k s m i = some (L, 0) ∧ plan_Passes.f 60 f l k s m i = some (L, 0) ∧ plan_Passes.f 61 f l k s 0 false = some (L, 0) ∧ 288 * (L.length : Int) ≤ 384 * l + 165 := by
  have h := each (Q := fun f l k s m i => stillB f l k s m i = true) still_all i ok
  unfold stillB at h
  split at h
  · rename_i a e b e' c e'' e1 e2 e3
    simp only [Bool.and_eq_true, decide_eq_true_eq] at h
    obtain ⟨⟨⟨⟨⟨rfl, rfl⟩, rfl⟩, h1⟩, h2⟩, h3⟩ := h
    obtain rfl := sameB_eq h1
    obtain rfl := sameB_eq h2
    exact ⟨a, e1, e2, e3, h3⟩
  · cases h

theorem stepV_mono {e e' a s x x' : Int} (he' : 0 ≤ e') (he : e' ≤ e) (ha : a = 2 ∨ a = 4) (h0 : 0 ≤ x) (h1 : x ≤ x') (h3 : x' ≤ 3) : stepV e' a s x' ≤ stepV e a s x := by
  unfold stepV
  have hx : x = 0 ∨ x = 1 ∨ x = 2 ∨ x = 3 := by omega
  have hx' : x' = 0 ∨ x' = 1 ∨ x' = 2 ∨ x' = 3 := by omega
  rcases ha with rfl | rfl <;> rcases hx with rfl | rfl | rfl | rfl <;> rcases hx' with rfl | rfl | rfl | rfl <;> simp at h1 ⊢ <;> split <;> omega

theorem go_mono (L : List S34) (X X' : List Int) (hK : Kern L) {s : Int} (hs : 0 ≤ s ∧ s ≤ 2) (hX : ∀ i : Int, 0 ≤ i → i < L.length → rd X i ≤ rd X' i ∨ ¬ Goes.Good s (rd_T34 L i).f0 (rd X i)) :
    ∀ (d : Nat) (i e e' r r' : Int), 0 ≤ i → i + d = L.length → 0 ≤ e' → e' ≤ e → go s L X d i e = some r → go s L X' d i e' = some r' → r' ≤ r := by
  intro d
  induction d with
  | zero =>
    intro i e e' r r' h0 hi he' he hr hr'
    simp only [go, Option.some.injEq] at hr hr'
    omega
  | succ d ih =>
    intro i e e' r r' h0 hi he' he hr hr'
    simp only [go] at hr hr'
    have ha := hK i h0 (by omega)
    have hx := hX i h0 (by omega)
    have hb := top_bounds hs ha
    by_cases g : Goes.Good s (rd_T34 L i).f0 (rd X i)
    · by_cases g' : Goes.Good s (rd_T34 L i).f0 (rd X' i)
      · rw [if_pos g] at hr
        rw [if_pos g'] at hr'
        have hle : rd X i ≤ rd X' i := hx.resolve_right (fun n => n g)
        have hsm := stepV_mono (s := s) he' he ha g.1 hle (by have := g'.2.1; omega)
        have hsb := stepV_bounds (s := s) he' ha (x := rd X' i) ⟨g'.1, by have := g'.2.1; omega⟩
        exact ih (i + 1) _ _ r r' (by omega) (by omega) hsb.1 hsm hr hr'
      · rw [if_neg g'] at hr'
        cases hr'
    · rw [if_neg g] at hr
      cases hr

theorem go_half (L : List S34) (X : List Int) (hK : Kern L) :
    ∀ (d : Nat) (i e r : Int), 0 ≤ i → i + d = L.length → 0 ≤ e → go 0 L X d i e = some r → r ≤ e + 288 * d := by
  intro d
  induction d with
  | zero =>
    intro i e r h0 hi he hr
    simp only [go, Option.some.injEq] at hr
    omega
  | succ d ih =>
    intro i e r h0 hi he hr
    simp only [go] at hr
    have ha := hK i h0 (by omega)
    by_cases g : Goes.Good 0 (rd_T34 L i).f0 (rd X i)
    · rw [if_pos g] at hr
      have hx : rd X i = top 0 (rd_T34 L i).f0 := by
        rcases g.2.2 with h | h
        · exact absurd h (by decide)
        · exact h
      have hst : stepV e (rd_T34 L i).f0 0 (rd X i) ≤ e + 288 ∧ 0 ≤ stepV e (rd_T34 L i).f0 0 (rd X i) := by
        rw [hx]
        rcases ha with h | h <;> rw [h] <;> simp [stepV, top] <;> omega
      have := ih (i + 1) _ r (by omega) (by omega) hst.2 hr
      omega
    · rw [if_neg g] at hr
      cases hr

theorem go_nonneg (L : List S34) (X : List Int) (hK : Kern L) {s : Int} (hs : 0 ≤ s ∧ s ≤ 2) :
    ∀ (d : Nat) (i e r : Int), 0 ≤ i → i + d = L.length → 0 ≤ e → go s L X d i e = some r → 0 ≤ r := by
  intro d
  induction d with
  | zero =>
    intro i e r h0 hi he hr
    simp only [go, Option.some.injEq] at hr
    omega
  | succ d ih =>
    intro i e r h0 hi he hr
    simp only [go] at hr
    have ha := hK i h0 (by omega)
    have hb := top_bounds hs ha
    by_cases g : Goes.Good s (rd_T34 L i).f0 (rd X i)
    · rw [if_pos g] at hr
      exact ih (i + 1) _ r (by omega) (by omega) (stepV_bounds (s := s) he ha ⟨g.1, by have := g.2.1; omega⟩).1 hr
    · rw [if_neg g] at hr
      cases hr

/-- The rest of any number, made 0 or more. -/
theorem rest_bounds (x n : Int) (hn : 0 < n ∧ n ≤ 1000000) : 0 ≤ Int.tmod (wrap64 (Int.tmod x n + n)) n ∧ Int.tmod (wrap64 (Int.tmod x n + n)) n < n := by
  have h1 : Int.tmod x n < n := Int.tmod_lt_of_pos x hn.1
  have h2 : -n < Int.tmod x n := Int.lt_tmod_of_pos x hn.1
  rw [wrap_id (by unfold I64; omega), Int.tmod_eq_emod_of_nonneg (by omega)]
  exact ⟨Int.emod_nonneg _ (by omega), Int.emod_lt_of_pos _ hn.1⟩

theorem out_some (r : Int) : out (some r) = (r, 0) := rfl
theorem out_none : out none = (0, 1) := rfl
theorem rd_set_self (X : List Int) (j v : Int) (h : j.toNat < X.length) : rd (X.set j.toNat v) j = v := by
  unfold rd
  rw [List.getD_eq_getElem?_getD, List.getElem?_set_self h, Option.getD_some]
theorem rd_set_ne (X : List Int) (j x v : Int) (h : j.toNat ≠ x.toNat) : rd (X.set j.toNat v) x = rd X x := by
  unfold rd
  rw [List.getD_eq_getElem?_getD, List.getD_eq_getElem?_getD, List.getElem?_set_ne h]
theorem BudgetLeast : ∀ (a0_0 : Int) (a0_1 : Int) (a0_2 : Int) (a0_3 : Int) (a0_4 : Int) (a0_5 : Bool) (l1 : List Int) (a2 : Int) (a3 : Int), (Lit.int .i64 a0_0).wf = true → (Lit.int .i64 a0_1).wf = true → (Lit.int .i64 a0_2).wf = true → (Lit.int .i64 a0_3).wf = true → (Lit.int .i64 a0_4).wf = true → l1.length ≤ maxLen → l1.length * 8 ≤ 140737488351232 → (∀ x ∈ l1, (Lit.int .i64 x).wf = true) → (Lit.int .i64 a2).wf = true → (Lit.int .i64 a3).wf = true → ∃ k, headroomlaw14_BudgetLeast.f k a0_0 a0_1 a0_2 a0_3 a0_4 a0_5 l1 a2 a3 = some true := by
  intro f l k s m i l1 a2 a3 _ _ _ _ _ _ _ _ _ _
  refine ⟨61, ?_⟩
  unfold headroomlaw14_BudgetLeast.f
  have m0 : 0 ≤ mn (l1.length : Int) 10 := by unfold mn; split <;> omega
  have m1 : mn (l1.length : Int) 10 ≤ (l1.length : Int) := by unfold mn; split <;> omega
  rw [if_pos m0, if_pos m1]
  generalize l1.take (mn (l1.length : Int) 10).toNat = X
  rw [least_alive]
  by_cases h : Ok f l k s m
  · obtain ⟨o1, o2, o3, o4, o5, o6⟩ := id h
    obtain ⟨L, e1, hK, hL, h2⟩ := passes_ok (i := i) h
    obtain ⟨L', e1', e6, e0, hlen⟩ := still_ok (i := i) h
    obtain rfl : L' = L := by
      rw [e1] at e1'
      simp at e1'
      exact e1'.symm
    have hq := rest_bounds a3 3 (by decide)
    have ho : Ok f l k s (Int.tmod (wrap64 (Int.tmod a3 3 + 3)) 3) := ⟨o1, o2, o3, o4, by omega, o6⟩
    obtain ⟨M, q1, _, q0, _⟩ := still_ok (i := !i) ho
    obtain rfl : M = L' := by
      rw [e0] at q0
      simp at q0
      exact q0.symm
    rw [of_ok (by decide) h e1 hK hL X, of_ok (by decide) ho q1 hK hL X]
    simp only [Option.bind_some]
    unfold ofV
    by_cases hX : X.length = M.length
    · rw [if_pos hX]
      by_cases hk : k = 2
      · obtain rfl := o6 hk
        have hz : (X.length : Int) = 0 := by rw [hX, h2 hk]; rfl
        rw [if_pos hk]
        simp only [if_true]
        rw [wrap_id (x := 6 * l) (by unfold I64; omega), wrap_id (x := 6 * l + 4) (by unfold I64; omega), wrap_id (by unfold I64; omega), if_neg (by omega), if_neg (by omega)]
        simp [headroomlaw14_BudgetLeast.j0, hz]
      · rw [if_neg hk]
        cases hg : go s M X M.length 0 (if s = 0 then 91 else 0) with
        | none => simp [out]
        | some r =>
          have hr0 := go_nonneg M X hK o4 M.length 0 _ r (by omega) (by omega) (by split <;> omega) hg
          rw [out_some]
          simp only [if_true]
          have hj : headroomlaw14_BudgetLeast.j0 61 X a2 r (!true) f l k s m i = some true := by
            simp only [headroomlaw14_BudgetLeast.j0, Bool.not_true]
            rw [if_neg (by simp)]
            by_cases hz : (X.length : Int) = 0
            · rw [if_pos hz]
            · rw [if_neg hz]
              have hidx := rest_bounds a2 (X.length : Int) (by omega)
              generalize Int.tmod (wrap64 (Int.tmod a2 (X.length : Int) + (X.length : Int))) (X.length : Int) = j at *
              have hc : slices_Clone_int_int.f X = some X := by
                unfold slices_Clone_int_int.f slices_Clone_int_int0.f
                simp
                omega
              rw [hc]
              simp only [Option.bind_some]
              have hv : ofV f l k s m i M (X.set j.toNat (wrap64 (rd X j + 1))) = out (go s M (X.set j.toNat (wrap64 (rd X j + 1))) M.length 0 (if s = 0 then 91 else 0)) := by
                unfold ofV
                rw [if_pos (by rw [List.length_set]; exact hX), if_neg hk]
              rw [if_pos hidx.1, if_pos hidx.2, of_ok (by decide) h e6 hK hL, hv]
              simp only [Option.bind_some]
              cases hg' : go s M (X.set j.toNat (wrap64 (rd X j + 1))) M.length 0 (if s = 0 then 91 else 0) with
              | none => simp [out]
              | some r' =>
                have hm := go_mono M X (X.set j.toNat (wrap64 (rd X j + 1))) hK o4 (fun x hx0 hx1 => by
                  by_cases hg : Goes.Good s (rd_T34 M x).f0 (rd X x)
                  · left
                    have hb := top_bounds o4 (hK x hx0 hx1)
                    have g0 := hg.1
                    have g1 := hg.2.1
                    by_cases hxj : x = j
                    · subst hxj
                      rw [rd_set_self _ _ _ (by omega), wrap_id (by unfold I64; omega)]
                      omega
                    · rw [rd_set_ne _ _ _ _ (by omega)]
                      exact Int.le_refl _
                  · exact .inr hg) M.length 0 _ _ r r' (by omega) (by omega) (by split <;> omega) (Int.le_refl _) hg hg'
                simp [out, hm]
          by_cases hs0 : s = 0
          · have hh := go_half M X hK M.length 0 91 r (by omega) (by omega) (by omega) (by rw [hs0] at hg; simpa using hg)
            rw [if_pos hs0, wrap_id (x := 6 * l) (by unfold I64; omega), wrap_id (x := 6 * l + 4) (by unfold I64; omega), wrap_id (by unfold I64; omega), if_neg (by omega), if_neg (by omega)]
            exact hj
          · rw [if_neg hs0, if_neg (by omega)]
            exact hj
    · rw [if_neg hX]
      simp
  · rw [of_no h]
    simp

end Go.Proofs.Ytbpanbmjkfhcgaa.Pure
