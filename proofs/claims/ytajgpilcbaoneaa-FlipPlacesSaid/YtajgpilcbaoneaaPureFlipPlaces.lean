/- The statement FlipPlaces over numbers and lists alone. -/
import Derived.Test.YtajgpilcbaoneaaPf3
import Derived.Test.YtajgpilcbaoneaaFlip
set_option linter.unusedVariables false
namespace Go.Proofs.Ytajgpilcbaoneaa.Pure
open Go.RowKit Go.Proofs.Ytajgpilcbaoneaa.P Go.Proofs.YtajgpilcbaoneaaW.PrintWords Go.Proofs.YtajgpilcbaoneaaW.PrintLast
open Go.Proofs.Ytajgpilcbaoneaa.Flip

/-- What stands last: a length's log. -/
theorem places_len (n : Int) : ∃ a b, flip_Log.f 90 n = some (a, b) ∧ ∀ k, 81 ≤ k → headroomlaw08_FlipPlaces.j1 k n a b false = some true := by
  by_cases h : n ≠ 4 ∧ n ≠ 8 ∧ n ≠ 16 ∧ n ≠ 32 ∧ n ≠ 64
  · obtain ⟨h1, h2⟩ := len_no h
    refine ⟨0, 3, at_rounds (fun k => flip_Log.mono _ k) (by omega) h1, fun k hk => ?_⟩
    obtain ⟨m, rfl⟩ : ∃ m, k = m + 1 := ⟨k - 1, by omega⟩
    simp only [headroomlaw08_FlipPlaces.j1, at_rounds (fun k => headroomref08_Log.mono _ k) (by omega : 80 ≤ m) h2]
    rfl
  · obtain ⟨l, hl, hn, h1, h2⟩ := len_is h
    refine ⟨l, 0, h1 90 (by omega), fun k hk => ?_⟩
    obtain ⟨m, rfl⟩ : ∃ m, k = m + 1 := ⟨k - 1, by omega⟩
    simp only [headroomlaw08_FlipPlaces.j1, h2 m (by omega), Option.bind_some]
    rw [if_neg (by decide), if_neg (by omega), if_pos trivial]
    simp

/-- Ahead of it: all places of a length. -/
theorem places_row (l n : Int) {a b : Int} (hn : ∀ k, 81 ≤ k → headroomlaw08_FlipPlaces.j1 k n a b false = some true) :
    ∃ r e, flip_Row.f 90 l = some (r, e) ∧ headroomlaw08_FlipPlaces.j0 90 l n r e a b false = some true := by
  by_cases h : 2 ≤ l ∧ l ≤ 6
  · obtain ⟨r, q, h1, h2, h3⟩ := row_ok h
    refine ⟨r, 0, h1 90 (by omega), ?_⟩
    simp only [headroomlaw08_FlipPlaces.j0, log_eq, decide_eq_true h, Option.bind_some]
    rw [if_neg (by decide), if_pos trivial, if_pos trivial, h2 89 (by omega)]
    simp only [Option.bind_some]
    rw [h3 89 (by omega)]
    exact hn 89 (by omega)
  · refine ⟨[], 1, row_no h 90, ?_⟩
    simp only [headroomlaw08_FlipPlaces.j0, log_eq, decide_eq_false h, Option.bind_some]
    rw [if_neg (by decide), if_neg (by decide), if_pos trivial]
    exact hn 89 (by omega)

theorem FlipPlaces : ∀ (a0 : Int) (a1 : Int) (a2 : Int), (Lit.int .i64 a0).wf = true → (Lit.int .i64 a1).wf = true → (Lit.int .i64 a2).wf = true → ∃ k, headroomlaw08_FlipPlaces.f k a0 a1 a2 = some true := by
  intro i l n _ _ _
  obtain ⟨a, b, hg, hj1⟩ := places_len n
  obtain ⟨r, e, hf, hj0⟩ := places_row l n hj1
  refine ⟨90, ?_⟩
  have al : headroomlaw08_alive.f 90 = some true := at_rounds headroomlaw08_alive.mono (by omega) alive80
  unfold headroomlaw08_FlipPlaces.f
  rw [hf, hg]
  by_cases h : Ok i l
  · obtain ⟨⟨c, _, h1, h2⟩, h3⟩ := front_ok h
    rw [h1 90 (by omega), h2 90 (by omega), h3 90 (by omega), al]
    simp only [Option.bind_some]
    rw [if_pos trivial, if_pos trivial, if_pos trivial]
    exact hj0
  · obtain ⟨h1, h2⟩ := front_no h
    rw [h1 90 (by omega), h2 90 (by omega), al]
    simp only [Option.bind_some]
    rw [if_neg (by decide), if_pos trivial, if_pos trivial]
    exact hj0

end Go.Proofs.Ytajgpilcbaoneaa.Pure
