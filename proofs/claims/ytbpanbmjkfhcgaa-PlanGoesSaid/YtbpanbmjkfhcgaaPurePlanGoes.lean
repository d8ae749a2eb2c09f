/- The statement PlanGoes over numbers and lists alone. -/
import Derived.Test.YtbpanbmjkfhcgaaPf4
import Derived.Test.YtbpanbmjkfhcgaaPlan
set_option linter.unusedVariables false
namespace Go.Proofs.Ytbpanbmjkfhcgaa.Pure
open Go.RowKit Go.Proofs.Ytbpanbmjkfhcgaa.P Go.Proofs.YtbpanbmjkfhcgaaW.PrintWords Go.Proofs.YtbpanbmjkfhcgaaW.PrintLast
open Go.Proofs.Ytbpanbmjkfhcgaa.Plan

theorem goes_alive : headroomlaw13_alive.f 30 = some true := by decide +kernel

/-- The other plan's scale and mode are asked of nothing but its passes. -/
theorem goes_same {f l k : Int} {i : Bool} {x1 x2 y1 y2 : Int} (h : ∀ n, plan_Passes.f n f l k x1 x2 (!i) = plan_Passes.f n f l k y1 y2 (!i)) (s m : Int) :
    ∀ (n : Nat) (x7 : List S34) (x9 : Int) (x28 : List S34) (x29 x30 : Int), headroomlaw13_PlanGoes.l0 n x1 x2 x7 x9 x28 x29 x30 f l k s m i = headroomlaw13_PlanGoes.l0 n y1 y2 x7 x9 x28 x29 x30 f l k s m i := by
  intro n
  induction n with
  | zero => intros; rfl
  | succ n ih =>
    intro x7 x9 x28 x29 x30
    simp only [headroomlaw13_PlanGoes.l0, ih, h]

set_option maxRecDepth 100000 in
theorem goes_ok : ∀ f ∈ ([0, 1] : List Int), ∀ l ∈ logs, ∀ k ∈ threes, ∀ s ∈ threes, ∀ m ∈ threes, (k = 2 → s = 0) → ∀ i : Bool,
    (∀ s' ∈ threes, ∀ m' ∈ threes, headroomlaw13_PlanGoes.f 40 f l k s m i s' m' = some true) ∧ headroomlaw13_PlanGoes.f 40 f l k s m i 3 0 = some true := by decide +kernel

theorem PlanGoes : ∀ (a0_0 : Int) (a0_1 : Int) (a0_2 : Int) (a0_3 : Int) (a0_4 : Int) (a0_5 : Bool) (a1 : Int) (a2 : Int), (Lit.int .i64 a0_0).wf = true → (Lit.int .i64 a0_1).wf = true → (Lit.int .i64 a0_2).wf = true → (Lit.int .i64 a0_3).wf = true → (Lit.int .i64 a0_4).wf = true → (Lit.int .i64 a1).wf = true → (Lit.int .i64 a2).wf = true → ∃ k, headroomlaw13_PlanGoes.f k a0_0 a0_1 a0_2 a0_3 a0_4 a0_5 a1 a2 = some true := by
  intro f l k s m i a1 a2 _ _ _ _ _ _ _
  refine ⟨40, ?_⟩
  by_cases h : Ok f l k s m
  · obtain ⟨h1, h2⟩ := each (Q := fun f l k s m i => (∀ s' ∈ threes, ∀ m' ∈ threes, headroomlaw13_PlanGoes.f 40 f l k s m i s' m' = some true) ∧ headroomlaw13_PlanGoes.f 40 f l k s m i 3 0 = some true) goes_ok i h
    by_cases h' : Ok f l k a1 a2
    · obtain ⟨_, _, _, h4, h5, _⟩ := h'
      have m3 : ∀ x : Int, 0 ≤ x ∧ x ≤ 2 → x ∈ threes := fun x hx => by
        have : x = 0 ∨ x = 1 ∨ x = 2 := by omega
        rcases this with rfl | rfl | rfl <;> decide
      exact h1 a1 (m3 a1 h4) a2 (m3 a2 h5)
    · have h3 : ¬ Ok f l k 3 0 := by unfold Ok; omega
      rw [← h2]
      unfold headroomlaw13_PlanGoes.f
      congr 1
      funext bt
      congr 1
      exact goes_same (fun n => (passes_no (!i) h' n).trans (passes_no (!i) h3 n).symm) s m ..
  · unfold headroomlaw13_PlanGoes.f
    rw [passes_no i h]
    simp only [Option.bind_some]
    rw [if_neg (by decide), at_rounds headroomlaw13_alive.mono (by omega : 30 ≤ 40) goes_alive]
    rfl

end Go.Proofs.Ytbpanbmjkfhcgaa.Pure
