/- Plain facts on plans: which may be, as both the program and the reference tell it. -/
import Derived.Test.YtbpanbmjkfhcgaaPf16
import Derived.Test.YtbpanbmjkfhcgaaPf14
import Derived.Test.YtbpanbmjkfhcgaaPf13
set_option linter.unusedSimpArgs false
set_option linter.unusedVariables false
namespace Go.Proofs.Ytbpanbmjkfhcgaa.Plan
open Go.RowKit Go.Proofs.Ytbpanbmjkfhcgaa.P Go.Proofs.YtbpanbmjkfhcgaaW.PrintWords Go.Proofs.YtbpanbmjkfhcgaaW.PrintLast

/-- A plan that may be. -/
def Ok (f l k s m : Int) : Prop := (0 ≤ f ∧ f ≤ 1) ∧ (2 ≤ l ∧ l ≤ 6) ∧ (0 ≤ k ∧ k ≤ 2) ∧ (0 ≤ s ∧ s ≤ 2) ∧ (0 ≤ m ∧ m ≤ 2) ∧ (k = 2 → s = 0)
instance (f l k s m : Int) : Decidable (Ok f l k s m) := by unfold Ok; infer_instance

theorem in_eq (a b c : Int) : plan_in.f a b c = some (decide (b ≤ a ∧ a ≤ c)) := by
  unfold plan_in.f
  by_cases h : a ≥ b
  · rw [if_pos h]; simp [show b ≤ a from h]
  · rw [if_neg h]; simp [show ¬ b ≤ a from h]

theorem check_eq (f l k s m : Int) (i : Bool) : plan_Check.f f l k s m i = some (if Ok f l k s m then 0 else 4) := by
  unfold plan_Check.f
  simp only [in_eq, Option.bind_some, decide_eq_true_eq]
  unfold Ok
  by_cases h1 : 0 ≤ f ∧ f ≤ 1
  · by_cases h2 : 2 ≤ l ∧ l ≤ 6
    · by_cases h3 : 0 ≤ k ∧ k ≤ 2
      · by_cases h4 : 0 ≤ s ∧ s ≤ 2
        · by_cases h5 : 0 ≤ m ∧ m ≤ 2
          · by_cases h6 : k = 2
            · by_cases h7 : s = 0
              · simp [h1, h2, h3, h4, h5, h6, h7]
              · simp [h1, h2, h3, h4, h5, h6, h7]
            · simp [h1, h2, h3, h4, h5, h6]
          · simp [h1, h2, h3, h4, h5]
        · simp [h1, h2, h3, h4]
      · simp [h1, h2, h3]
    · simp [h1, h2]
  · simp [h1]

theorem one_eq (a c : Int) : headroomref13_one.f a c = some (decide (0 ≤ a ∧ a ≤ c)) := by
  unfold headroomref13_one.f
  by_cases h : a ≥ 0
  · rw [if_pos h]; simp [show 0 ≤ a from h]
  · rw [if_neg h]; simp [show ¬ 0 ≤ a from h]

theorem refCheck_eq (n : Nat) (f l k s m : Int) (i : Bool) : headroomref13_Check.f (n + 1) f l k s m i = some (decide (Ok f l k s m)) := by
  unfold headroomref13_Check.f headroomref13_Check.j0
  simp only [one_eq, Option.bind_some, decide_eq_true_eq]
  unfold Ok
  by_cases h6 : k = 2
  · by_cases h7 : s = 0
    · by_cases h1 : 0 ≤ f ∧ f ≤ 1
      · by_cases h2 : 2 ≤ l
        · by_cases h3 : l ≤ 6
          · by_cases h4 : 0 ≤ m ∧ m ≤ 2
            · simp [h1, h2, h3, h4, h6, h7]
            · simp [h1, h2, h3, h4, h6, h7]
          · simp [h1, h2, h3, h6, h7]
        · simp [h1, h2, h6, h7]
      · simp [h1, h6, h7]
    · simp [h6, h7]
  · by_cases h1 : 0 ≤ f ∧ f ≤ 1
    · by_cases h2 : 2 ≤ l
      · by_cases h3 : l ≤ 6
        · by_cases h5 : 0 ≤ k ∧ k ≤ 2
          · by_cases h8 : 0 ≤ s ∧ s ≤ 2
            · by_cases h4 : 0 ≤ m ∧ m ≤ 2
              · simp [h1, h2, h3, h4, h5, h6, h8]
              · simp [h1, h2, h3, h4, h5, h6, h8]
            · simp [h1, h2, h3, h5, h6, h8]
          · simp [h1, h2, h3, h5, h6]
        · simp [h1, h2, h3, h6]
      · simp [h1, h2, h6]
    · simp [h1, h6]

theorem passes_no {f l k s m : Int} (i : Bool) (h : ¬ Ok f l k s m) (n : Nat) : plan_Passes.f n f l k s m i = some ([], 4) := by
  unfold plan_Passes.f
  rw [check_eq, if_neg h]
  rfl

/-- Whatever holds of each plan of these values holds of each that may be. -/
def logs : List Int := [2, 3, 4, 5, 6]
def threes : List Int := [0, 1, 2]
theorem each {Q : Int → Int → Int → Int → Int → Bool → Prop}
    (h : ∀ f ∈ ([0, 1] : List Int), ∀ l ∈ logs, ∀ k ∈ threes, ∀ s ∈ threes, ∀ m ∈ threes, (k = 2 → s = 0) → ∀ i : Bool, Q f l k s m i)
    {f l k s m : Int} (i : Bool) (ok : Ok f l k s m) : Q f l k s m i := by
  obtain ⟨h1, h2, h3, h4, h5, h6⟩ := ok
  have m3 : ∀ x : Int, 0 ≤ x ∧ x ≤ 2 → x ∈ threes := fun x hx => by
    have : x = 0 ∨ x = 1 ∨ x = 2 := by omega
    rcases this with rfl | rfl | rfl <;> decide
  refine h f ?_ l ?_ k (m3 k h3) s (m3 s h4) m (m3 m h5) h6 i
  · have : f = 0 ∨ f = 1 := by omega
    rcases this with rfl | rfl <;> decide
  · have : l = 2 ∨ l = 3 ∨ l = 4 ∨ l = 5 ∨ l = 6 := by omega
    rcases this with rfl | rfl | rfl | rfl | rfl <;> decide

end Go.Proofs.Ytbpanbmjkfhcgaa.Plan
