/- The statement BudgetPlans over numbers and lists alone. -/
import Derived.Test.YtbpanbmjkfhcgaaPf9
import Derived.Test.YtbpanbmjkfhcgaaGo
set_option linter.unusedVariables false
set_option linter.unusedSimpArgs false
namespace Go.Proofs.Ytbpanbmjkfhcgaa.Pure
open Go.RowKit Go.Proofs.Ytbpanbmjkfhcgaa.P Go.Proofs.YtbpanbmjkfhcgaaW.PrintWords Go.Proofs.YtbpanbmjkfhcgaaW.PrintLast
open Go.Proofs.Ytbpanbmjkfhcgaa.Plan Go.Proofs.Ytbpanbmjkfhcgaa.Num Go.Proofs.Ytbpanbmjkfhcgaa.Budget Go.Proofs.Ytbpanbmjkfhcgaa.Goes

theorem alive61 : headroomlaw14_alive.f 61 = some true := by decide +kernel
/-- A plan that may be: the reference's shifts and loss. -/
theorem refShifts_ok {f l k s m : Int} {i : Bool} (ok : Ok f l k s m) {L : List S34} (hp : headroomref13_Passes.f 60 f l k s m i = some L) (hK : Kern L) (hL : L.length ≤ 6) (X : List Int) :
    headroomref14_Shifts.f 60 f l k s m i X = some (if X.length = L.length then (go s L X L.length 0 (if s = 0 then 91 else 0)).isSome else false) := by
  obtain ⟨o1, o2, o3, o4, o5, o6⟩ := id ok
  unfold headroomref14_Shifts.f
  rw [hp]
  simp only [Option.bind_some]
  by_cases hX : X.length = L.length
  · rw [if_pos (by omega), if_pos hX]
    exact shifts_l0 L X hL hX hK f l k m i o4 L.length 60 0 _ (by omega) (by omega) (by omega)
  · rw [if_neg (by omega), if_neg hX]
theorem refOf_nil (n : Nat) (X : List Int) (e f l s m : Int) (i : Bool) : headroomref14_Of.l0 (n + 1) X e [] (([] : List S34).length : Int) 0 f l 2 s m i = some (wrap64 (e + wrap64 (224 * l))) := by
  simp [headroomref14_Of.l0]
theorem refOf_ok {f l k s m : Int} {i : Bool} (ok : Ok f l k s m) {L : List S34} (hp : headroomref13_Passes.f 60 f l k s m i = some L) (hK : Kern L) (hL : L.length ≤ 6) (h2 : k = 2 → L.length = 0) (X : List Int) (hX : X.length = L.length) {r : Int}
    (hr : go s L X L.length 0 (if s = 0 then 91 else 0) = some r) : headroomref14_Of.f 60 f l k s m i X = some (if k = 2 then 91 + 224 * l else r) := by
  obtain ⟨o1, o2, o3, o4, o5, o6⟩ := id ok
  have c0 := cap_ge (i := 0) (by decide)
  unfold headroomref14_Of.f
  rw [hp, Budget.refStart_eq]
  simp only [Option.bind_some]
  by_cases hk : k = 2
  · have hz := h2 hk
    obtain rfl := o6 hk
    rw [if_pos hk]
    have hL0 : L = [] := List.length_eq_zero_iff.1 hz
    subst hL0
    subst hk
    rw [refOf_nil 59, wrap_id (x := 224 * l) (by unfold I64; omega)]
    simp only [if_true]
    rw [wrap_id (by unfold I64; omega)]
  · rw [if_neg hk]
    exact refOf_l0 L X hL hX hK f l k m i hk o4 L.length 60 0 _ r (by omega) (by omega) (by omega) (by split <;> omega) hr

theorem BudgetPlans : ∀ (a0_0 : Int) (a0_1 : Int) (a0_2 : Int) (a0_3 : Int) (a0_4 : Int) (a0_5 : Bool) (l1 : List Int), (Lit.int .i64 a0_0).wf = true → (Lit.int .i64 a0_1).wf = true → (Lit.int .i64 a0_2).wf = true → (Lit.int .i64 a0_3).wf = true → (Lit.int .i64 a0_4).wf = true → l1.length ≤ maxLen → l1.length * 8 ≤ 140737488351232 → (∀ x ∈ l1, (Lit.int .i64 x).wf = true) → ∃ k, headroomlaw14_BudgetPlans.f k a0_0 a0_1 a0_2 a0_3 a0_4 a0_5 l1 = some true := by
  intro f l k s m i l1 _ _ _ _ _ _ _ _
  refine ⟨61, ?_⟩
  unfold headroomlaw14_BudgetPlans.f
  have m0 : 0 ≤ mn (l1.length : Int) 10 := by unfold mn; split <;> omega
  have m1 : mn (l1.length : Int) 10 ≤ (l1.length : Int) := by unfold mn; split <;> omega
  rw [if_pos m0, if_pos m1]
  generalize l1.take (mn (l1.length : Int) 10).toNat = X
  rw [refCheck_eq 60]
  by_cases h : Ok f l k s m
  · obtain ⟨L, e1, e2, hK, hL, h2⟩ := passes_ok (i := i) h
    obtain ⟨a, b, e3, e4, e5⟩ := fixed_ok (i := i) h
    rw [of_ok h e1 hK hL X, e3, e4, decide_eq_true h]
    simp only [Option.bind_some]
    rw [if_pos trivial, if_pos trivial, e5]
    simp only [Option.bind_some]
    rw [if_pos trivial, alive61]
    simp only [Option.bind_some, headroomlaw14_BudgetPlans.j0, Bool.not_true]
    rw [if_neg (by simp)]
    rw [refShifts_ok h (i := i) e2 hK hL X]
    simp only [Option.bind_some]
    unfold ofV
    by_cases hX : X.length = L.length
    · rw [if_pos hX, if_pos hX]
      cases hg : go s L X L.length 0 (if s = 0 then 91 else 0) with
      | none =>
        have hk : k ≠ 2 := by
          intro hk
          rw [h2 hk] at hg
          cases hg
        rw [if_neg hk]
        simp [out]
      | some r =>
        have hr := refOf_ok h (i := i) e2 hK hL h2 X hX hg
        by_cases hk : k = 2
        · rw [if_pos hk] at hr ⊢
          simp [hr]
        · rw [if_neg hk] at hr ⊢
          simp [out, hr]
    · rw [if_neg hX, if_neg hX]
      simp
  · rw [of_no h, fixed_no h, decide_eq_false h]
    simp only [Option.bind_some]
    rw [if_neg (by simp), alive61]
    simp

end Go.Proofs.Ytbpanbmjkfhcgaa.Pure
