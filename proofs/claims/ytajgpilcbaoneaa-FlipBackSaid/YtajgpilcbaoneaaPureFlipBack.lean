/- The statement FlipBack over numbers and lists alone. -/
import Derived.Test.YtajgpilcbaoneaaPf5
import Derived.Test.YtajgpilcbaoneaaTurn
set_option linter.unusedVariables false
set_option linter.unusedSimpArgs false
namespace Go.Proofs.Ytajgpilcbaoneaa.Pure
open Go.RowKit Go.Proofs.Ytajgpilcbaoneaa.P Go.Proofs.YtajgpilcbaoneaaW.PrintWords Go.Proofs.YtajgpilcbaoneaaW.PrintLast Go.Proofs.YtajgpilcbaoneaaW.PrintMore
open Go.Proofs.Ytajgpilcbaoneaa.Flip

/-- What is asked of a log's row, and of the half's, with no number in sight. -/
def backB (l : Int) : Bool := match flip_Row.f 200 l, flip_Row.f 200 (wrap64 (l - 1)) with
  | some (R, _), some (H, e) => headroomlaw08_FlipBack.j0 200 l R H e (!true) == some true
  | _, _ => false
set_option maxRecDepth 100000 in
theorem back_all : ∀ l ∈ logs, backB l = true := by decide +kernel
theorem FlipBack : ∀ (l0 : List S45), l0.length ≤ maxLen → l0.length * 16 ≤ 140737488351232 → (∀ x ∈ l0, (Lit.int .i64 x.f0).wf = true ∧ (Lit.int .i64 x.f1).wf = true) → ∃ k, headroomlaw08_FlipBack.f k l0 = some true := by
  intro l0 _ _ _
  refine ⟨200, ?_⟩
  unfold headroomlaw08_FlipBack.f
  have m0 : 0 ≤ mn (l0.length : Int) 70 := by unfold mn; split <;> omega
  have m1 : mn (l0.length : Int) 70 ≤ (l0.length : Int) := by unfold mn; split <;> omega
  rw [if_pos m0, if_pos m1]
  generalize l0.take (mn (l0.length : Int) 70).toNat = X
  simp only [Option.bind_some]
  have ha : headroomlaw08_alive.f 200 = some true := at_rounds (fun k => headroomlaw08_alive.mono k) (by decide) alive80
  by_cases h : (X.length : Int) ≠ 4 ∧ (X.length : Int) ≠ 8 ∧ (X.length : Int) ≠ 16 ∧ (X.length : Int) ≠ 32 ∧ (X.length : Int) ≠ 64
  · rw [flip_no h (by decide), ha]
    simp only [Option.bind_some]
    rw [flip_no (X := []) (by simp) (by decide)]
    simp
  · obtain ⟨l, hl, hn, hlog, href⟩ := len_is h
    obtain ⟨R, hrow, hRl, hR64, hR, hs, hb⟩ := row_is hl
    have hRX : R.length = X.length := by omega
    have hYX : (R.map (rd_T45 X)).length = X.length := by simp [hRX]
    have hback : R.map (rd_T45 (R.map (rd_T45 X))) = X := by
      have h2 := map_rd X
      rw [← hRX] at h2
      refine Eq.trans ?_ h2
      apply List.ext_getElem?
      intro j
      unfold iota
      by_cases hj : j < R.length
      · have hj0 : (0 : Int) ≤ (j : Int) := by omega
        have hin := hR (j : Int) hj0 (by omega)
        have hinv := (hb (j : Int) hj0 (by omega)).2
        have hrj : R[j]? = some (rd R (j : Int)) := by simp [rd, List.getD_eq_getElem?_getD, hj]
        rw [List.getElem?_map, List.getElem?_map, List.getElem?_map, hrj, List.getElem?_range hj]
        simp only [Option.map_some, Option.some.injEq]
        rw [rd_map (rd_T45 X) R _ hin.1 hin.2, hinv]
        rfl
      · rw [List.getElem?_eq_none (by simp; omega), List.getElem?_eq_none (by simp; omega)]
    have hc := back_all l (mem_logs hl)
    unfold backB at hc
    rw [hrow 200 (by decide)] at hc
    split at hc
    · rename_i R' e0 H e1 q1 q2
      simp only [Option.some.injEq, Prod.mk.injEq] at q1
      obtain ⟨rfl, _⟩ := q1
      rw [flip_yes hlog hrow hRX hR64 hR hs (by decide)]
      simp only [Option.bind_some]
      rw [flip_yes (X := R.map (rd_T45 X)) (by rw [hYX]; exact hlog) hrow (by rw [hYX, hRX]) hR64 hR hs (by decide), hback]
      simp only [Option.bind_some]
      rw [if_pos trivial, hlog 200 (by decide)]
      simp only [Option.bind_some]
      rw [hrow 200 (by decide), q2]
      simp only [Option.bind_some]
      rw [if_pos trivial, if_pos trivial, if_pos trivial, if_pos (by omega), same_refl X (by omega) 200 (by decide), ha]
      simp only [Option.bind_some, if_true]
      exact eq_of_beq hc
    · cases hc

end Go.Proofs.Ytajgpilcbaoneaa.Pure
