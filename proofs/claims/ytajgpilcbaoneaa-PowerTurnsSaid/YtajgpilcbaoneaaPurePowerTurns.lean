/- The statement PowerTurns over numbers and lists alone. -/
import Derived.Test.YtajgpilcbaoneaaPf8
import Derived.Test.YtajgpilcbaoneaaPow
set_option linter.unusedVariables false
set_option linter.unusedSimpArgs false
namespace Go.Proofs.Ytajgpilcbaoneaa.Pure
open Go.RowKit Go.Proofs.Ytajgpilcbaoneaa.P Go.Proofs.YtajgpilcbaoneaaW.PrintWords Go.Proofs.YtajgpilcbaoneaaW.PrintLast Go.Proofs.YtajgpilcbaoneaaW.PrintMore
open Go.Proofs.Ytajgpilcbaoneaa.Pow
theorem fold_add : ∀ (b : List S45) (s : Int × Int), 0 ≤ s.1 → s.1 < 18446744073709551616 → 0 ≤ s.2 → s.2 < 18446744073709551616 →
    b.foldl totStep s = ((s.1 + (totL b).1 + (s.2 + (totL b).2) / 18446744073709551616) % 18446744073709551616, (s.2 + (totL b).2) % 18446744073709551616)
  | [], (s1, s2), h1, h2, h3, h4 => by
    simp only at h1 h2 h3 h4
    have e : totL [] = (0, 0) := rfl
    rw [e, List.foldl_nil]
    simp only [Prod.mk.injEq]
    omega
  | x :: xs, (s1, s2), h1, h2, h3, h4 => by
    simp only at h1 h2 h3 h4
    have n0 := normU_nn x
    have n1 := normU_le x
    have ht : totL (x :: xs) = xs.foldl totStep (totStep (0, 0) x) := rfl
    rw [List.foldl_cons, ht]
    unfold totStep
    simp only [u64_w]
    obtain ⟨p0, p1, q0, q1⟩ := totL_rng xs
    have i1 := fold_add xs ((s1 + (s2 + normU x) / 18446744073709551616) % 18446744073709551616, (s2 + normU x) % 18446744073709551616) (by simp only; omega) (by simp only; omega) (by simp only; omega) (by simp only; omega)
    have i2 := fold_add xs ((0 + (0 + normU x) / 18446744073709551616) % 18446744073709551616, (0 + normU x) % 18446744073709551616) (by simp only; omega) (by simp only; omega) (by simp only; omega) (by simp only; omega)
    unfold totStep at i1 i2
    simp only [u64_w] at i1 i2
    rw [i1, i2]
    simp only [Prod.mk.injEq]
    generalize normU x = n at *
    generalize (totL xs).1 = p at *
    generalize (totL xs).2 = q at *
    omega
theorem tot_app (a b : List S45) : totL (a ++ b) = (((totL a).1 + (totL b).1 + ((totL a).2 + (totL b).2) / 18446744073709551616) % 18446744073709551616, ((totL a).2 + (totL b).2) % 18446744073709551616) := by
  obtain ⟨h1, h2, h3, h4⟩ := totL_rng a
  have := fold_add b (totL a) h1 h2 h3 h4
  rw [← this]
  unfold totL
  rw [List.foldl_append]
def Good (g : S45 → S45) : Prop := ∀ x, narrowB x = true → narrowB (g x) = true ∧ normU (g x) = normU x
theorem good_all {g : S45 → S45} (hg : Good g) {X : List S45} (h : X.all narrowB = true) : (X.map g).all narrowB = true := by
  rw [List.all_eq_true] at h ⊢
  intro z hz
  obtain ⟨x, hx, rfl⟩ := List.mem_map.1 hz
  exact (hg x (h x hx)).1
theorem good_sq {g : S45 → S45} (hg : Good g) {X : List S45} (h : X.all narrowB = true) : sqL (X.map g) = sqL X := by
  rw [List.all_eq_true] at h
  unfold sqL
  rw [List.map_map]
  apply List.map_congr_left
  intro x hx
  exact (hg x (h x hx)).2
theorem narrow_iff (x : S45) : narrowB x = true ↔ (x.f0 ≤ 2147483648 ∧ x.f1 ≤ 2147483648 ∧ -2147483648 ≤ x.f0 ∧ -2147483648 ≤ x.f1) := by
  unfold narrowB
  exact decide_eq_true_iff
theorem norm_of {x : S45} (h : narrowB x = true) : normU x = x.f0 * x.f0 + x.f1 * x.f1 := by
  unfold normU
  rw [if_pos h]
def tn (n : Nat) (x : S45) : S45 := ⟨(turnTo x.f0 x.f1 n).1, (turnTo x.f0 x.f1 n).2⟩
def cj (x : S45) : S45 := ⟨x.f0, wrap64 (-x.f1)⟩
theorem cj_good : Good cj := by
  intro x h
  have h' := (narrow_iff x).1 h
  have hw : wrap64 (-x.f1) = -x.f1 := by unfold wrap64; omega
  have hn : narrowB (cj x) = true := by
    rw [narrow_iff]
    unfold cj
    simp only
    rw [hw]
    omega
  refine ⟨hn, ?_⟩
  rw [norm_of hn, norm_of h]
  unfold cj
  simp only
  rw [hw]
  grind
theorem tn_good : ∀ n, Good (tn n)
  | 0 => fun x h => ⟨h, rfl⟩
  | n + 1 => by
    intro x h
    obtain ⟨h1, h2⟩ := tn_good n x h
    have h' := (narrow_iff _).1 h1
    have e : tn (n + 1) x = ⟨wrap64 (-(tn n x).f1), (tn n x).f0⟩ := rfl
    generalize tn n x = y at *
    have hw : wrap64 (-y.f1) = -y.f1 := by unfold wrap64; omega
    have hn : narrowB (tn (n + 1) x) = true := by
      rw [e, narrow_iff]
      simp only
      rw [hw]
      omega
    refine ⟨hn, ?_⟩
    rw [norm_of hn, ← h2, norm_of h1, e]
    simp only
    rw [hw]
    grind
theorem wide_of {x : S45} (h : narrowB x = true) : wideB ⟨x.f0, x.f1⟩ = true := by
  have h' := (narrow_iff x).1 h
  unfold wideB
  exact decide_eq_true (by simp only; omega)
theorem turns_end (k : Nat) (X : List S45) (a1 a2 : Int) (hk : 100 ≤ k) (ha : X.all narrowB = true) (h70 : X.length ≤ 70) (i : Int) (hi : ¬ i < (X.length : Int)) (n : Nat) :
    headroomlaw20_PowerTurns.l0 (k + 1) X a1 a2 (totL X).1 (totL X).2 (X.map (tn n)) (X.map cj) X (X.length : Int) i = some true := by
  have e1 := specf_yes ha h70
  have e2 : power_Spectrum.f (X.map (tn n)) = some (sqL X, 0) := by
    rw [specf_yes (good_all (tn_good n) ha) (by simpa using h70), good_sq (tn_good n) ha]
  have e3 : power_Spectrum.f (X.map cj) = some (sqL X, 0) := by
    rw [specf_yes (good_all cj_good ha) (by simpa using h70), good_sq cj_good ha]
  have e5 : power_Peak.f k (X.map (tn n)) = power_Peak.f k X := by unfold power_Peak.f; rw [e1, e2]
  have e4 : ∃ p, power_Peak.f k X = some p := by
    rcases Nat.eq_zero_or_pos X.length with h0 | h0
    · have : X = [] := List.eq_nil_of_length_eq_zero h0
      subst this
      exact ⟨(0, 6), rfl⟩
    · obtain ⟨P, hP, _⟩ := peak_is k X (by omega) h70 h0 ha
      exact ⟨_, hP⟩
  obtain ⟨p, e4⟩ := e4
  rw [e4] at e5
  have hw1 : wrap64 ((X.length : Int) + 1) = (X.length : Int) + 1 := by unfold wrap64; omega
  obtain ⟨q, hq, hq2⟩ : ∃ q : Nat, Int.tmod (wrap64 ((wrap64 ((Int.tmod a2 ((X.length : Int) + 1)) + (X.length : Int))) + 1)) ((X.length : Int) + 1) = (q : Int) ∧ q ≤ X.length := by
    have t1 := Int.lt_tmod_of_pos a2 (show (0 : Int) < (X.length : Int) + 1 by omega)
    have t2 := Int.tmod_lt_of_pos a2 (show (0 : Int) < (X.length : Int) + 1 by omega)
    generalize Int.tmod a2 ((X.length : Int) + 1) = t at *
    have w1 : wrap64 (t + (X.length : Int)) = t + X.length := by unfold wrap64; omega
    have w2 : wrap64 (t + (X.length : Int) + 1) = t + X.length + 1 := by unfold wrap64; omega
    rw [w1, w2]
    have u1 := Int.tmod_lt_of_pos (t + (X.length : Int) + 1) (show (0 : Int) < (X.length : Int) + 1 by omega)
    have u2 := Int.tmod_nonneg (a := t + (X.length : Int) + 1) ((X.length : Int) + 1) (by omega)
    generalize Int.tmod (t + (X.length : Int) + 1) ((X.length : Int) + 1) = u at *
    exact ⟨u.toNat, by omega, by omega⟩
  have ht : (X.take q).all narrowB = true := by
    rw [List.all_eq_true] at ha ⊢
    exact fun z hz => ha z (List.mem_of_mem_take hz)
  have hd : (X.drop q).all narrowB = true := by
    rw [List.all_eq_true] at ha ⊢
    exact fun z hz => ha z (List.mem_of_mem_drop hz)
  obtain ⟨a1', a2', a3, a4⟩ := totL_rng (X.take q)
  obtain ⟨b1, b2, b3, b4⟩ := totL_rng (X.drop q)
  have hsum := tot_app (X.take q) (X.drop q)
  rw [List.take_append_drop] at hsum
  have e6 : bits_Add64.f (totL (X.take q)).2 (totL (X.drop q)).2 0 = some (((totL (X.take q)).2 + (totL (X.drop q)).2 + 0) % 18446744073709551616, ((totL (X.take q)).2 + (totL (X.drop q)).2 + 0) / 18446744073709551616) := by
    unfold bits_Add64.f
    rw [if_pos ⟨a3, b3, by decide, by decide⟩]
  have hal : headroomlaw20_alive.f k = some true := at_rounds (fun k => headroomlaw20_alive.mono k) (by omega) alive20
  have hsame := same_is k (sqL X) (by omega) (by simp [sqL]; omega)
  have hT1 : (totL X).1 = ((totL (X.take q)).1 + (totL (X.drop q)).1 + ((totL (X.take q)).2 + (totL (X.drop q)).2) / 18446744073709551616) % 18446744073709551616 := congrArg Prod.fst hsum
  have hT2 : (totL X).2 = ((totL (X.take q)).2 + (totL (X.drop q)).2) % 18446744073709551616 := congrArg Prod.snd hsum
  have fin : IntKind.u64.wrap (IntKind.u64.wrap ((totL (X.take q)).1 + (totL (X.drop q)).1) + ((totL (X.take q)).2 + (totL (X.drop q)).2 + 0) / 18446744073709551616) = (totL X).1 := by
    rw [hT1, u64_w, u64_w]
    omega
  have f2 : ((totL (X.take q)).2 + (totL (X.drop q)).2 + 0) % 18446744073709551616 = (totL X).2 := by rw [hT2, Int.add_zero]
  rw [headroomlaw20_PowerTurns.l0, if_neg hi, hw1, hq, e1, Option.bind_some, e2, Option.bind_some, e3, Option.bind_some, e4, Option.bind_some, e5, Option.bind_some, if_neg (by omega), if_pos (by omega), if_pos (by omega), Int.toNat_natCast, totf_yes ht, Option.bind_some, totf_yes hd, Option.bind_some, e6, Option.bind_some, hal, Option.bind_some]
  rw [if_pos rfl, if_pos rfl, if_pos rfl, if_pos rfl, if_pos rfl, if_pos rfl, if_pos rfl, if_pos rfl, hsame, Option.bind_some, if_pos rfl, Option.bind_some, if_pos rfl, if_pos f2]
  exact congrArg some (beq_iff_eq.mpr fin)
theorem turns_at : ∀ (d k : Nat) (X : List S45) (a1 a2 : Int) (i : Nat), 100 ≤ k → X.all narrowB = true → X.length = i + d → X.length ≤ 70 →
    headroomlaw20_PowerTurns.l0 (d + 1 + k) X a1 a2 (totL X).1 (totL X).2 ((X.take i).map (tn (turnsN a1))) ((X.take i).map cj) X (X.length : Int) (i : Int) = some true
  | 0, k, X, a1, a2, i, hk, ha, hl, h70 => by
    rw [show 0 + 1 + k = k + 1 by omega, List.take_of_length_le (by omega)]
    exact turns_end k X a1 a2 hk ha h70 i (by omega) _
  | d + 1, k, X, a1, a2, i, hk, ha, hl, h70 => by
    have hw : wrap64 ((i : Int) + 1) = ((i + 1 : Nat) : Int) := by unfold wrap64; omega
    have hn : narrowB (rd_T45 X (i : Int)) = true := List.all_eq_true.1 ha _ (rd_mem (by omega))
    have ih := turns_at d k X a1 a2 (i + 1) hk ha (by omega) h70
    rw [take_rd (by omega), List.map_append, List.map_append] at ih
    have et : cx_Turn.f (rd_T45 X (i : Int)).f0 (rd_T45 X (i : Int)).f1 a1 = some ((tn (turnsN a1) (rd_T45 X (i : Int))).f0, (tn (turnsN a1) (rd_T45 X (i : Int))).f1, 0) := by
      unfold cx_Turn.f
      rw [if_pos (wide_of hn)]
      rfl
    have ec : cx_Conj.f (rd_T45 X (i : Int)).f0 (rd_T45 X (i : Int)).f1 = some ((cj (rd_T45 X (i : Int))).f0, (cj (rd_T45 X (i : Int))).f1, 0) := by
      unfold cx_Conj.f
      rw [if_pos (wide_of hn)]
      rfl
    rw [show d + 1 + 1 + k = (d + 1 + k) + 1 by omega, headroomlaw20_PowerTurns.l0, if_pos (by omega), if_pos (by omega), if_pos (by omega), et, ec]
    simp only [Option.bind_some]
    rw [if_pos trivial, if_pos trivial, if_pos (by simp; omega), if_pos (by simp; omega), hw]
    exact ih
theorem PowerTurns : ∀ (l0 : List S45) (a1 : Int) (a2 : Int), l0.length ≤ maxLen → l0.length * 16 ≤ 140737488351232 → (∀ x ∈ l0, (Lit.int .i64 x.f0).wf = true ∧ (Lit.int .i64 x.f1).wf = true) → (Lit.int .i64 a1).wf = true → (Lit.int .i64 a2).wf = true → ∃ k, headroomlaw20_PowerTurns.f k l0 a1 a2 = some true := by
  intro l0 a1 a2 _ hl _ _ _
  refine ⟨200, ?_⟩
  unfold headroomlaw20_PowerTurns.f
  obtain ⟨n, hn, h70, hle⟩ : ∃ n : Nat, mn (l0.length : Int) 70 = n ∧ n < 71 ∧ n ≤ l0.length := ⟨(mn (l0.length : Int) 70).toNat, by unfold mn; split <;> omega, by unfold mn; split <;> omega, by unfold mn; split <;> omega⟩
  rw [hn, if_pos (by omega), if_pos (by omega), Int.toNat_natCast]
  generalize hX : l0.take n = X
  have hXl : X.length ≤ 70 := by rw [← hX, List.length_take]; omega
  simp only [Option.bind_some]
  have hal : headroomlaw20_alive.f 200 = some true := at_rounds (fun k => headroomlaw20_alive.mono k) (by decide) alive20
  cases ha : X.all narrowB with
  | false =>
    have e2 : power_Total.f X = some (0, 0, 2) := by
      unfold power_Total.f
      rw [if_neg (by rw [mayE_no ha]; decide)]
    rw [e2, hal]
    rfl
  | true =>
    rw [totf_yes ha]
    simp only [Option.bind_some]
    rw [if_pos trivial]
    have h := turns_at X.length (199 - X.length) X a1 a2 0 (by omega) ha (by omega) hXl
    rw [show X.length + 1 + (199 - X.length) = 200 by omega] at h
    exact h
end Go.Proofs.Ytajgpilcbaoneaa.Pure
