/- Plain facts on what passes lose: the program's step and the reference's are one number. -/
import Derived.Test.YtbpanbmjkfhcgaaPg3
import Derived.Test.YtbpanbmjkfhcgaaPg1
import Derived.Test.YtbpanbmjkfhcgaaPg5
import Derived.Test.YtbpanbmjkfhcgaaPg2
import Derived.Test.YtbpanbmjkfhcgaaPg4
import Derived.Test.YtbpanbmjkfhcgaaPlan
import Derived.Test.YtbpanbmjkfhcgaaNum
set_option linter.unusedSimpArgs false
set_option linter.unusedVariables false
namespace Go.Proofs.Ytbpanbmjkfhcgaa.Budget
open Go.RowKit Go.Proofs.Ytbpanbmjkfhcgaa.P Go.Proofs.YtbpanbmjkfhcgaaW.PrintWords Go.Proofs.YtbpanbmjkfhcgaaW.PrintLast Go.Proofs.YtbpanbmjkfhcgaaW.PrintMore
open Go.Proofs.Ytbpanbmjkfhcgaa.Plan Go.Proofs.Ytbpanbmjkfhcgaa.Num

theorem alive40 : headroomlaw14_alive.f 40 = some true := by decide +kernel

/-- What is lost behind a pass. -/
def stepV (e k sc s : Int) : Int := if sc = 2 then (if k = 2 then 2 * e + 608 else 4 * e + 1632) else if k = 2 then (2 * e + 2 ^ s.toNat - 1) / 2 ^ s.toNat + 224 else (4 * e + 2 ^ s.toNat - 1) / 2 ^ s.toNat + 288
/-- Numbers that a step is of. -/
def May (e k sc s : Int) : Prop := (0 ≤ e ∧ e ≤ 1099511627776) ∧ (k = 2 ∨ k = 4) ∧ (0 ≤ sc ∧ sc ≤ 2) ∧ (0 ≤ s ∧ s ≤ 3)
instance (e k sc s : Int) : Decidable (May e k sc s) := by unfold May; infer_instance

theorem val_0 (e k : Int) (p : Bool) (hk : k = 2 ∨ k = 4) (h : 0 ≤ e ∧ e ≤ 1125899906842624) : stepVal e k p 0 = k * e + lossOf k p := by
  have w1 : wrap64 (2 ^ 0) = 1 := by decide +kernel
  unfold stepVal
  rw [w1]
  rcases hk with rfl | rfl <;> cases p <;> simp only [lossOf] <;> simp <;> unfold wrap64 <;> omega
theorem val_1 (e k : Int) (p : Bool) (hk : k = 2 ∨ k = 4) (h : 0 ≤ e ∧ e ≤ 1125899906842624) : stepVal e k p 1 = (k * e + 1) / 2 + lossOf k p := by
  have w1 : wrap64 (2 ^ 1) = 2 := by decide +kernel
  unfold stepVal
  rw [w1]
  rcases hk with rfl | rfl <;> cases p <;> simp only [lossOf] <;> simp <;> unfold wrap64 <;> omega
theorem val_2 (e k : Int) (p : Bool) (hk : k = 2 ∨ k = 4) (h : 0 ≤ e ∧ e ≤ 1125899906842624) : stepVal e k p 2 = (k * e + 3) / 4 + lossOf k p := by
  have w1 : wrap64 (2 ^ 2) = 4 := by decide +kernel
  unfold stepVal
  rw [w1]
  rcases hk with rfl | rfl <;> cases p <;> simp only [lossOf] <;> simp <;> unfold wrap64 <;> omega
theorem val_3 (e k : Int) (p : Bool) (hk : k = 2 ∨ k = 4) (h : 0 ≤ e ∧ e ≤ 1125899906842624) : stepVal e k p 3 = (k * e + 7) / 8 + lossOf k p := by
  have w1 : wrap64 (2 ^ 3) = 8 := by decide +kernel
  unfold stepVal
  rw [w1]
  rcases hk with rfl | rfl <;> cases p <;> simp only [lossOf] <;> simp <;> unfold wrap64 <;> omega

theorem step_eq {e k sc s : Int} (he : 0 ≤ e ∧ e ≤ 1125899906842624) (hk : k = 2 ∨ k = 4) (hs : 0 ≤ s ∧ s ≤ 3) : budget_step.f e k sc s = some (stepV e k sc s) := by
  unfold budget_step.f stepV
  by_cases h2 : sc = 2
  · rw [if_pos h2, if_pos h2, val_0 e k true hk he]
    rcases hk with rfl | rfl <;> simp [lossOf]
  · rw [if_neg h2, if_neg h2]
    have h' : s = 0 ∨ s = 1 ∨ s = 2 ∨ s = 3 := by omega
    rcases h' with rfl | rfl | rfl | rfl
    · rw [if_pos rfl, val_0 e k false hk he]
      rcases hk with rfl | rfl <;> simp [lossOf] <;> omega
    · rw [if_neg (by decide), if_pos rfl, val_1 e k false hk he]
      rcases hk with rfl | rfl <;> simp [lossOf] <;> omega
    · rw [if_neg (by decide), if_neg (by decide), if_pos rfl, val_2 e k false hk he]
      rcases hk with rfl | rfl <;> simp [lossOf] <;> omega
    · rw [if_neg (by decide), if_neg (by decide), if_neg (by decide), if_pos rfl, val_3 e k false hk he]
      rcases hk with rfl | rfl <;> simp [lossOf] <;> omega

theorem up_eq {n s : Int} {k : Nat} (hn : 0 ≤ n ∧ n ≤ 4611686018427387904) (hs : 0 ≤ s ∧ s ≤ 3) (hk : 4 ≤ k) : headroomref14_up.f k n s = some ((n + 2 ^ s.toNat - 1) / 2 ^ s.toNat) := by
  unfold headroomref14_up.f
  rw [wrap_id (x := -n) (by unfold I64; omega), floor_eq (by unfold I64; omega) hs.1 (by omega) (by omega)]
  simp only [Option.bind_some]
  have h' : s = 0 ∨ s = 1 ∨ s = 2 ∨ s = 3 := by omega
  rcases h' with rfl | rfl | rfl | rfl <;> simp <;> rw [wrap_id (by unfold I64; omega)] <;> omega

theorem refStep_eq {e k sc s : Int} {n : Nat} (he : 0 ≤ e ∧ e ≤ 1125899906842624) (hk : k = 2 ∨ k = 4) (hs : 0 ≤ s ∧ s ≤ 3) (hn : 4 ≤ n) : headroomref14_Step.f n e k sc s = some (stepV e k sc s) := by
  have w2 : wrap64 (2 * e) = 2 * e := wrap_id (by unfold I64; omega)
  have w4 : wrap64 (4 * e) = 4 * e := wrap_id (by unfold I64; omega)
  unfold headroomref14_Step.f stepV
  rw [w2, w4]
  have h' : s = 0 ∨ s = 1 ∨ s = 2 ∨ s = 3 := by omega
  by_cases h2 : sc = 2
  · rw [if_pos h2, if_pos h2]
    rcases hk with rfl | rfl
    · rw [if_pos rfl, if_pos rfl, wrap_id (by unfold I64; omega)]
    · rw [if_neg (by decide), if_neg (by decide), wrap_id (by unfold I64; omega)]
  · rw [if_neg h2, if_neg h2]
    rcases hk with rfl | rfl
    · rw [if_pos rfl, if_pos rfl, up_eq (by omega) hs hn]
      simp only [Option.bind_some]
      rcases h' with rfl | rfl | rfl | rfl <;> simp <;> exact wrap_id (by unfold I64; omega)
    · rw [if_neg (by decide), if_neg (by decide), up_eq (by omega) hs hn]
      simp only [Option.bind_some]
      rcases h' with rfl | rfl | rfl | rfl <;> simp <;> exact wrap_id (by unfold I64; omega)

theorem Step_eq (e k sc s : Int) : budget_Step.f e k sc s = some (if May e k sc s then (stepV e k sc s, 0) else (0, 1)) := by
  unfold budget_Step.f
  by_cases h : May e k sc s
  · obtain ⟨he, hk, hsc, hs⟩ := id h
    rw [if_neg (fun z => z hk), if_neg (by omega), if_neg (by omega), if_neg (by omega), if_neg (by omega), if_neg (by omega), if_neg (by omega), step_eq (by omega) hk hs, if_pos h]
    rfl
  · rw [if_neg h]
    unfold May at h
    by_cases c0 : ¬ (k = 2 ∨ k = 4)
    · rw [if_pos c0]
    rw [if_neg c0]
    by_cases c1 : e < 0
    · rw [if_pos c1]
    rw [if_neg c1]
    by_cases c2 : 1099511627776 < e
    · rw [if_pos c2]
    rw [if_neg c2]
    by_cases c3 : sc < 0
    · rw [if_pos c3]
    rw [if_neg c3]
    by_cases c4 : 2 < sc
    · rw [if_pos c4]
    rw [if_neg c4]
    by_cases c5 : s < 0
    · rw [if_pos c5]
    rw [if_neg c5]
    by_cases c6 : 3 < s
    · rw [if_pos c6]
    exfalso
    apply h
    refine ⟨by omega, ?_, by omega, by omega⟩
    exact Decidable.not_not.1 c0

theorem may_eq (e k sc s : Int) {n : Nat} (hn : 41 ≤ n) : headroomref14_MaySteps.f n e k sc s = some (decide (May e k sc s)) := by
  unfold headroomref14_MaySteps.f
  rw [pow_eq (by decide) (by decide) (show (40 : Int).toNat < n from by omega)]
  simp only [Option.bind_some]
  have p40 : (2 : Int) ^ (40 : Int).toNat = 1099511627776 := by decide
  rw [p40]
  unfold May
  by_cases c1 : e ≥ 0
  · by_cases c2 : e ≤ 1099511627776
    · by_cases c3 : sc ≥ 0
      · by_cases c4 : sc ≤ 2
        · by_cases c5 : s ≥ 0
          · by_cases k2 : k = 2
            · simp [c1, c2, c3, c4, c5, k2]
            · by_cases k4 : k = 4
              · simp [c1, c2, c3, c4, c5, k2, k4]
              · simp [c1, c2, c3, c4, c5, k2, k4]
          · by_cases k2 : k = 2
            · simp [c1, c2, c3, c4, c5, k2]
            · by_cases k4 : k = 4
              · simp [c1, c2, c3, c4, c5, k2, k4]
              · simp [c1, c2, c3, c4, c5, k2, k4]
        · by_cases k2 : k = 2
          · simp [c1, c2, c3, c4, k2]
          · by_cases k4 : k = 4
            · simp [c1, c2, c3, c4, k2, k4]
            · simp [c1, c2, c3, c4, k2, k4]
      · by_cases k2 : k = 2
        · simp [c1, c2, c3, k2]
        · by_cases k4 : k = 4
          · simp [c1, c2, c3, k2, k4]
          · simp [c1, c2, c3, k2, k4]
    · simp [c1, c2]
  · simp [c1]

theorem start_eq (f l k s m : Int) (i : Bool) : budget_Start.f f l k s m i = some (if Ok f l k s m then (if s = 0 then 91 else 0, 0) else (0, 4)) := by
  unfold budget_Start.f
  rw [check_eq]
  by_cases h : Ok f l k s m
  · rw [if_pos h, if_pos h]
    by_cases hs : s = 0 <;> simp [hs]
  · rw [if_neg h, if_neg h]
    simp
theorem refStart_eq (f l k s m : Int) (i : Bool) : headroomref14_Start.f f l k s m i = some (if s = 0 then 91 else 0) := by
  unfold headroomref14_Start.f
  by_cases hs : s = 0 <;> simp [hs]
end Go.Proofs.Ytbpanbmjkfhcgaa.Budget
