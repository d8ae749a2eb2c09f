/- The statement ChooseLosses over numbers and lists alone. -/
import Derived.Test.YtbpanbmjkfhcgaaPf10
import Derived.Test.YtbpanbmjkfhcgaaPlan
set_option linter.unusedVariables false
set_option linter.unusedSimpArgs false
namespace Go.Proofs.Ytbpanbmjkfhcgaa.Pure
open Go.RowKit Go.Proofs.Ytbpanbmjkfhcgaa.P Go.Proofs.YtbpanbmjkfhcgaaW.PrintWords Go.Proofs.YtbpanbmjkfhcgaaW.PrintLast
open Go.Proofs.Ytbpanbmjkfhcgaa.Plan

theorem loss_alive : headroomlaw22_alive.f 60 = some true := by decide +kernel
set_option maxRecDepth 100000 in
theorem loss_same : ∀ f ∈ ([0, 1] : List Int), ∀ l ∈ logs, ∀ k ∈ threes, ∀ s ∈ threes, ∀ m ∈ threes, (k = 2 → s = 0) → ∀ i : Bool, (choose_loss.f 60 f l k s m i).isSome = true ∧ headroomref22_Loss.f 60 f l k s m i = choose_loss.f 60 f l k s m i := by decide +kernel
def sameLosses (o : Option (List Int × Int)) (p : Option (List Int)) : Bool := match o, p with
  | some (l, e), some c => decide (e = 0) && decide (headroomref04_Same.f 60 l c = some true)
  | _, _ => false
theorem losses_same : ∀ l ∈ logs, sameLosses (choose_Losses.f 60 l) (headroomref22_Losses.f 60 l) = true := by decide +kernel

theorem losses_no {l : Int} (h : ¬ (2 ≤ l ∧ l ≤ 6)) (k : Nat) : choose_Losses.f k l = some ([], 4) := by
  unfold choose_Losses.f
  rw [check_eq, if_neg (by unfold Ok; omega)]
  rfl

/-- What stands last: whether the plan meets what is asked. -/
theorem losses_last (f l k s m : Int) (i : Bool) (most : Int) : ∃ b e, choose_Meets.f 80 f l k s m i most = some (b, e) ∧ ∀ n, 70 ≤ n → headroomlaw22_ChooseLosses.j1 n most b e false f l k s m i = some true := by
  unfold choose_Meets.f
  rw [check_eq]
  by_cases h : Ok f l k s m
  · obtain ⟨h1, h2⟩ := each loss_same i h
    obtain ⟨v, hv⟩ := Option.isSome_iff_exists.1 h1
    refine ⟨decide (v ≤ most), 0, ?_, fun n hn => ?_⟩
    · simp only [Option.bind_some]
      rw [if_pos h, if_pos rfl, at_rounds (fun k => choose_loss.mono _ _ _ _ _ _ k) (by omega : 60 ≤ 80) hv]
      rfl
    · obtain ⟨n, rfl⟩ : ∃ m, n = m + 1 := ⟨n - 1, by omega⟩
      obtain ⟨n, rfl⟩ : ∃ m, n = m + 1 := ⟨n - 1, by omega⟩
      simp only [headroomlaw22_ChooseLosses.j1]
      rw [if_neg (by decide), refCheck_eq n, at_rounds (fun k => headroomref22_Loss.mono _ _ _ _ _ _ k) (by omega : 60 ≤ n + 1) (h2.trans hv)]
      simp [h]
  · refine ⟨false, 4, ?_, fun n hn => ?_⟩
    · simp only [Option.bind_some]
      rw [if_neg h]
      rfl
    · obtain ⟨n, rfl⟩ : ∃ m, n = m + 1 := ⟨n - 1, by omega⟩
      obtain ⟨n, rfl⟩ : ∃ m, n = m + 1 := ⟨n - 1, by omega⟩
      simp only [headroomlaw22_ChooseLosses.j1]
      rw [if_neg (by decide), refCheck_eq n]
      simp [h]

theorem ChooseLosses : ∀ (a0 : Int) (a1_0 : Int) (a1_1 : Int) (a1_2 : Int) (a1_3 : Int) (a1_4 : Int) (a1_5 : Bool) (a2 : Int), (Lit.int .i64 a0).wf = true → (Lit.int .i64 a1_0).wf = true → (Lit.int .i64 a1_1).wf = true → (Lit.int .i64 a1_2).wf = true → (Lit.int .i64 a1_3).wf = true → (Lit.int .i64 a1_4).wf = true → (Lit.int .i64 a2).wf = true → ∃ k, headroomlaw22_ChooseLosses.f k a0 a1_0 a1_1 a1_2 a1_3 a1_4 a1_5 a2 = some true := by
  intro lg f l k s m i most _ _ _ _ _ _ _
  obtain ⟨b, e, hm, hj⟩ := losses_last f l k s m i most
  refine ⟨80, ?_⟩
  have al : headroomlaw22_alive.f 79 = some true := at_rounds headroomlaw22_alive.mono (by omega) loss_alive
  unfold headroomlaw22_ChooseLosses.f
  by_cases h : 2 ≤ lg ∧ lg ≤ 6
  · have hl : lg ∈ logs := by
      have : lg = 2 ∨ lg = 3 ∨ lg = 4 ∨ lg = 5 ∨ lg = 6 := by omega
      rcases this with rfl | rfl | rfl | rfl | rfl <;> decide
    have hs := losses_same lg hl
    unfold sameLosses at hs
    split at hs
    · rename_i x y c e1 e2
      simp only [Bool.and_eq_true, decide_eq_true_eq] at hs
      obtain ⟨rfl, hp⟩ := hs
      rw [at_rounds (fun k => choose_Losses.mono _ k) (by omega : 60 ≤ 80) e1, hm]
      simp only [Option.bind_some]
      rw [if_pos h.1, decide_eq_true h.2]
      simp only [headroomlaw22_ChooseLosses.j0]
      rw [if_pos trivial, if_pos trivial, at_rounds (fun k => headroomref22_Losses.mono _ k) (by omega : 60 ≤ 79) e2]
      simp only [Option.bind_some]
      rw [at_rounds (fun k => headroomref04_Same.mono _ _ k) (by omega : 60 ≤ 79) hp, al]
      exact hj 79 (by omega)
    · cases hs
  · rw [losses_no h, hm]
    have key : headroomlaw22_ChooseLosses.j0 80 lg most [] 4 b e false f l k s m i = some true := by
      simp only [headroomlaw22_ChooseLosses.j0]
      rw [if_neg (by decide), if_pos trivial, if_neg (by simp), al]
      exact hj 79 (by omega)
    simp only [Option.bind_some]
    by_cases h2 : lg ≥ 2
    · rw [if_pos h2, decide_eq_false (by omega)]
      exact key
    · rw [if_neg h2]
      exact key

end Go.Proofs.Ytbpanbmjkfhcgaa.Pure
