/- The statement ChoosePlans over numbers and lists alone. -/
import Derived.Test.YtbpanbmjkfhcgaaPf11
import Derived.Test.YtbpanbmjkfhcgaaPlan
set_option linter.unusedVariables false
set_option linter.unusedSimpArgs false
namespace Go.Proofs.Ytbpanbmjkfhcgaa.Pure
open Go.RowKit Go.Proofs.Ytbpanbmjkfhcgaa.P Go.Proofs.YtbpanbmjkfhcgaaW.PrintWords Go.Proofs.YtbpanbmjkfhcgaaW.PrintLast
open Go.Proofs.Ytbpanbmjkfhcgaa.Plan

theorem plans_alive : headroomlaw22_alive.f 60 = some true := by decide +kernel
/-- The plan that loses least, and its loss. -/
def planCore (f l m : Int) (i : Bool) : Option ((Int × Int × Int × Int × Int × Bool) × Int) :=
  (choose_three.f 60 f l 0 0 m i).bind fun t => (api_Plan_int.f 60 t).bind fun b => (choose_loss.f 60 b.1 b.2.1 b.2.2.1 b.2.2.2.1 b.2.2.2.2.1 b.2.2.2.2.2).bind fun v => some (b, v)
def coreOk (f l m : Int) (i : Bool) : Bool := match planCore f l m i, headroomref22_Kernel.f 60 l, headroomref22_Losses.f 60 l with
  | some (b, v), some k, some L => decide (b = (f, l, k, 0, m, i)) && decide (rd L k = v) && decide (0 ≤ k) && decide (k < (L.length : Int))
  | _, _, _ => false
set_option maxRecDepth 100000 in
theorem core_ok : ∀ f ∈ ([0, 1] : List Int), ∀ l ∈ logs, ∀ m ∈ threes, ∀ i : Bool, coreOk f l m i = true := by decide +kernel

theorem ChoosePlans : ∀ (a0 : Int) (a1 : Int) (a2 : Int) (a3 : Int) (a4 : Bool), (Lit.int .i64 a0).wf = true → (Lit.int .i64 a1).wf = true → (Lit.int .i64 a2).wf = true → (Lit.int .i64 a3).wf = true → ∃ k, headroomlaw22_ChoosePlans.f k a0 a1 a2 a3 a4 = some true := by
  intro f l m most i _ _ _ _
  refine ⟨60, ?_⟩
  unfold headroomlaw22_ChoosePlans.f choose_Plan.f
  rw [check_eq, refCheck_eq 59, plans_alive]
  by_cases h : Ok f l 0 0 m
  · obtain ⟨h1, h2, _, _, h5, _⟩ := id h
    have hl : l ∈ logs := by
      have : l = 2 ∨ l = 3 ∨ l = 4 ∨ l = 5 ∨ l = 6 := by omega
      rcases this with rfl | rfl | rfl | rfl | rfl <;> decide
    have hf : f ∈ ([0, 1] : List Int) := by
      have : f = 0 ∨ f = 1 := by omega
      rcases this with rfl | rfl <;> decide
    have hm : m ∈ threes := by
      have : m = 0 ∨ m = 1 ∨ m = 2 := by omega
      rcases this with rfl | rfl | rfl <;> decide
    have hc := core_ok f hf l hl m hm i
    unfold coreOk at hc
    split at hc
    · rename_i b v k L e1 e2 e3
      simp only [Bool.and_eq_true, decide_eq_true_eq] at hc
      obtain ⟨⟨⟨rfl, hv⟩, hk0⟩, hk1⟩ := hc
      unfold planCore at e1
      obtain ⟨t, ht, e1⟩ := Option.bind_eq_some_iff.1 e1
      obtain ⟨b, hb, e1⟩ := Option.bind_eq_some_iff.1 e1
      obtain ⟨v', hv', e1⟩ := Option.bind_eq_some_iff.1 e1
      simp only [Option.some.injEq, Prod.mk.injEq] at e1
      obtain ⟨rfl, rfl⟩ := e1
      simp only [Option.bind_some]
      rw [if_pos h, if_pos rfl, ht]
      simp only [Option.bind_some]
      rw [hb]
      simp only [Option.bind_some]
      simp only at hv'
      rw [hv', e2, e3, decide_eq_true h]
      simp only [Option.bind_some]
      by_cases hgt : v' > most
      · simp [hgt, hk0, hk1, hv]
      · simp [hgt, hk0, hk1, hv]
    · cases hc
  · simp only [Option.bind_some]
    rw [if_neg h, decide_eq_false h]
    simp

end Go.Proofs.Ytbpanbmjkfhcgaa.Pure
