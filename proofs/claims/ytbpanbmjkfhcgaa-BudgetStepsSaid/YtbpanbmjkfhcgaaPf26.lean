-- Printed for this claim by drive.py (a program of this session's) through the kit's print program; not trusted: Lean checks it.
import Derived.Test.YtbpanbmjkfhcgaaP0
import Derived.Test.YtbpanbmjkfhcgaaPf44
namespace Go.Proofs.Ytbpanbmjkfhcgaa.P
open Go.RowKit Go.Proofs.YtbpanbmjkfhcgaaW.PrintWords Go.Proofs.YtbpanbmjkfhcgaaW.PrintLast Go.Proofs.YtbpanbmjkfhcgaaW.PrintMore
attribute [local go_sem] max2_int min2_int max_two min_two max_three min_three max_four min_four   -- for this text's walks alone
set_option linter.unusedVariables false
set_option linter.unusedSimpArgs false

/-! ### headroomref14_MaySteps: function 26 -/
def headroomref14_MaySteps.f (k : Nat) (a0 : Int) (a1 : Int) (a2 : Int) (a3 : Int) : Option (Bool) := if a0 ≥ 0 then ((headroomref01_Pow.f k 40).bind fun t212 => (if a0 ≤ t212 then (if a1 = 2 then (if a2 ≥ 0 then (if a2 ≤ 2 then (if a3 ≥ 0 then (some (decide (a3 ≤ 3))) else (some false)) else (some false)) else (some false)) else (if a1 = 4 then (if a2 ≥ 0 then (if a2 ≤ 2 then (if a3 ≥ 0 then (some (decide (a3 ≤ 3))) else (some false)) else (some false)) else (some false)) else (some false))) else (some false))) else (some false)
theorem headroomref14_MaySteps.mono : ∀ a0 a1 a2 a3 k, LeO (headroomref14_MaySteps.f k a0 a1 a2 a3) (headroomref14_MaySteps.f (k + 1) a0 a1 a2 a3) := by
  intro a0 a1 a2 a3 k
  unfold headroomref14_MaySteps.f
  repeat' first
      | (with_reducible exact headroomref01_Pow.mono _ _)
      | (with_reducible exact LeO.refl _)
      | (with_reducible exact LeO.none _)
      | (with_reducible refine LeO.ite ?_ ?_)
      | (with_reducible refine LeO.bind ?_ (fun _ => ?_))
      | exact headroomref01_Pow.mono _ _
      | exact LeO.none _
      | refine LeO.ite ?_ ?_
      | refine LeO.bind ?_ (fun _ => ?_)
set_option maxHeartbeats 8000000 in
set_option maxRecDepth 100000 in
theorem headroomref14_MaySteps.calls (k : Nat) (a0 : Int) (a1 : Int) (a2 : Int) (a3 : Int) (r : Bool) (w : World) (h : headroomref14_MaySteps.f k a0 a1 a2 a3 = some r) :
    Calls Try.prog 26 #[.int .i64 a0, .int .i64 a1, .int .i64 a2, .int .i64 a3] w fun e w' => e = .returned (.bool r) ∧ Drawn0 w w' := by
  have H : (if a0 ≥ 0 then ((headroomref01_Pow.f k 40).bind fun t212 => (if a0 ≤ t212 then (if a1 = 2 then (if a2 ≥ 0 then (if a2 ≤ 2 then (if a3 ≥ 0 then (some (decide (a3 ≤ 3))) else (some false)) else (some false)) else (some false)) else (if a1 = 4 then (if a2 ≥ 0 then (if a2 ≤ 2 then (if a3 ≥ 0 then (some (decide (a3 ≤ 3))) else (some false)) else (some false)) else (some false)) else (some false))) else (some false))) else (some false)) = some r := h
  clear h
  by_cases c5 : a0 ≥ 0
  · rw [if_pos c5] at H
    have c5b0 : decide (0 ≤ a0) = true := decide_eq_true c5
    clear c5
    replace H := Option.bind_eq_some_iff.mp H
    obtain ⟨t212, A60, H⟩ := H
    replace H : (if a0 ≤ t212 then (if a1 = 2 then (if a2 ≥ 0 then (if a2 ≤ 2 then (if a3 ≥ 0 then (some (decide (a3 ≤ 3))) else (some false)) else (some false)) else (some false)) else (if a1 = 4 then (if a2 ≥ 0 then (if a2 ≤ 2 then (if a3 ≥ 0 then (some (decide (a3 ≤ 3))) else (some false)) else (some false)) else (some false)) else (some false))) else (some false)) = some r := H
    have A6 := Aside0.mk A60
    clear A60
    by_cases c7 : a0 ≤ t212
    · rw [if_pos c7] at H
      have c7b0 : decide (a0 ≤ t212) = true := decide_eq_true c7
      clear c7
      by_cases c8 : a1 = 2
      · rw [if_pos c8] at H
        have c8b0 : (a1 == 2) = true := beq_iff_eq.mpr c8
        have c8b1 : (a1 != 2) = false := bne_eq_false_iff_eq.mpr c8
        clear c8
        by_cases c9 : a2 ≥ 0
        · rw [if_pos c9] at H
          have c9b0 : decide (0 ≤ a2) = true := decide_eq_true c9
          clear c9
          by_cases c10 : a2 ≤ 2
          · rw [if_pos c10] at H
            have c10b0 : decide (a2 ≤ 2) = true := decide_eq_true c10
            clear c10
            by_cases c11 : a3 ≥ 0
            · rw [if_pos c11] at H
              have c11b0 : decide (0 ≤ a3) = true := decide_eq_true c11
              clear c11
              obtain rfl := Option.some.inj H
              go_enter Try.func26, Try.ntmps26
              go_wp2_with (first | (go_at_call 44; (with_reducible refine (headroomref01_Pow.calls k 40 t212 _ A6.out).mono ?_); rintro e w' ⟨rfl, ⟨nd, rfl⟩⟩))
              go_ret
              exact ⟨by first | rfl | (simp; done) | (simp [*]; done), by repeat (first | exact Drawn0.refl _ | apply Drawn0.step)⟩
            · rw [if_neg c11] at H
              have c11b0 : decide (0 ≤ a3) = false := decide_eq_false c11
              clear c11
              obtain rfl := Option.some.inj H
              go_enter Try.func26, Try.ntmps26
              go_wp2_with (first | (go_at_call 44; (with_reducible refine (headroomref01_Pow.calls k 40 t212 _ A6.out).mono ?_); rintro e w' ⟨rfl, ⟨nd, rfl⟩⟩))
              go_ret
              exact ⟨by first | rfl | (simp; done) | (simp [*]; done), by repeat (first | exact Drawn0.refl _ | apply Drawn0.step)⟩
          · rw [if_neg c10] at H
            have c10b0 : decide (a2 ≤ 2) = false := decide_eq_false c10
            clear c10
            obtain rfl := Option.some.inj H
            go_enter Try.func26, Try.ntmps26
            go_wp2_with (first | (go_at_call 44; (with_reducible refine (headroomref01_Pow.calls k 40 t212 _ A6.out).mono ?_); rintro e w' ⟨rfl, ⟨nd, rfl⟩⟩))
            go_ret
            exact ⟨by first | rfl | (simp; done) | (simp [*]; done), by repeat (first | exact Drawn0.refl _ | apply Drawn0.step)⟩
        · rw [if_neg c9] at H
          have c9b0 : decide (0 ≤ a2) = false := decide_eq_false c9
          clear c9
          obtain rfl := Option.some.inj H
          go_enter Try.func26, Try.ntmps26
          go_wp2_with (first | (go_at_call 44; (with_reducible refine (headroomref01_Pow.calls k 40 t212 _ A6.out).mono ?_); rintro e w' ⟨rfl, ⟨nd, rfl⟩⟩))
          go_ret
          exact ⟨by first | rfl | (simp; done) | (simp [*]; done), by repeat (first | exact Drawn0.refl _ | apply Drawn0.step)⟩
      · rw [if_neg c8] at H
        have c8b0 : (a1 == 2) = false := beq_eq_false_iff_ne.mpr c8
        have c8b1 : (a1 != 2) = true := bne_iff_ne.mpr c8
        by_cases c12 : a1 = 4
        · rw [if_pos c12] at H
          have c12b0 : (a1 == 4) = true := beq_iff_eq.mpr c12
          have c12b1 : (a1 != 4) = false := bne_eq_false_iff_eq.mpr c12
          clear c12
          by_cases c13 : a2 ≥ 0
          · rw [if_pos c13] at H
            have c13b0 : decide (0 ≤ a2) = true := decide_eq_true c13
            clear c13
            by_cases c14 : a2 ≤ 2
            · rw [if_pos c14] at H
              have c14b0 : decide (a2 ≤ 2) = true := decide_eq_true c14
              clear c14
              by_cases c15 : a3 ≥ 0
              · rw [if_pos c15] at H
                have c15b0 : decide (0 ≤ a3) = true := decide_eq_true c15
                clear c15
                obtain rfl := Option.some.inj H
                go_enter Try.func26, Try.ntmps26
                go_wp2_with (first | (go_at_call 44; (with_reducible refine (headroomref01_Pow.calls k 40 t212 _ A6.out).mono ?_); rintro e w' ⟨rfl, ⟨nd, rfl⟩⟩))
                go_ret
                exact ⟨by first | rfl | (simp; done) | (simp [*]; done), by repeat (first | exact Drawn0.refl _ | apply Drawn0.step)⟩
              · rw [if_neg c15] at H
                have c15b0 : decide (0 ≤ a3) = false := decide_eq_false c15
                clear c15
                obtain rfl := Option.some.inj H
                go_enter Try.func26, Try.ntmps26
                go_wp2_with (first | (go_at_call 44; (with_reducible refine (headroomref01_Pow.calls k 40 t212 _ A6.out).mono ?_); rintro e w' ⟨rfl, ⟨nd, rfl⟩⟩))
                go_ret
                exact ⟨by first | rfl | (simp; done) | (simp [*]; done), by repeat (first | exact Drawn0.refl _ | apply Drawn0.step)⟩
            · rw [if_neg c14] at H
              have c14b0 : decide (a2 ≤ 2) = false := decide_eq_false c14
              clear c14
              obtain rfl := Option.some.inj H
              go_enter Try.func26, Try.ntmps26
              go_wp2_with (first | (go_at_call 44; (with_reducible refine (headroomref01_Pow.calls k 40 t212 _ A6.out).mono ?_); rintro e w' ⟨rfl, ⟨nd, rfl⟩⟩))
              go_ret
              exact ⟨by first | rfl | (simp; done) | (simp [*]; done), by repeat (first | exact Drawn0.refl _ | apply Drawn0.step)⟩
          · rw [if_neg c13] at H
            have c13b0 : decide (0 ≤ a2) = false := decide_eq_false c13
            clear c13
            obtain rfl := Option.some.inj H
            go_enter Try.func26, Try.ntmps26
            go_wp2_with (first | (go_at_call 44; (with_reducible refine (headroomref01_Pow.calls k 40 t212 _ A6.out).mono ?_); rintro e w' ⟨rfl, ⟨nd, rfl⟩⟩))
            go_ret
            exact ⟨by first | rfl | (simp; done) | (simp [*]; done), by repeat (first | exact Drawn0.refl _ | apply Drawn0.step)⟩
        · rw [if_neg c12] at H
          have c12b0 : (a1 == 4) = false := beq_eq_false_iff_ne.mpr c12
          have c12b1 : (a1 != 4) = true := bne_iff_ne.mpr c12
          obtain rfl := Option.some.inj H
          go_enter Try.func26, Try.ntmps26
          go_wp2_with (first | (go_at_call 44; (with_reducible refine (headroomref01_Pow.calls k 40 t212 _ A6.out).mono ?_); rintro e w' ⟨rfl, ⟨nd, rfl⟩⟩))
          go_ret
          exact ⟨by first | rfl | (simp; done) | (simp [*]; done), by repeat (first | exact Drawn0.refl _ | apply Drawn0.step)⟩
    · rw [if_neg c7] at H
      have c7b0 : decide (a0 ≤ t212) = false := decide_eq_false c7
      clear c7
      obtain rfl := Option.some.inj H
      go_enter Try.func26, Try.ntmps26
      go_wp2_with (first | (go_at_call 44; (with_reducible refine (headroomref01_Pow.calls k 40 t212 _ A6.out).mono ?_); rintro e w' ⟨rfl, ⟨nd, rfl⟩⟩))
      go_ret
      exact ⟨by first | rfl | (simp; done) | (simp [*]; done), by repeat (first | exact Drawn0.refl _ | apply Drawn0.step)⟩
  · rw [if_neg c5] at H
    have c5b0 : decide (0 ≤ a0) = false := decide_eq_false c5
    clear c5
    obtain rfl := Option.some.inj H
    go_enter Try.func26, Try.ntmps26
    go_wp2
    go_ret
    exact ⟨by first | rfl | (simp; done) | (simp [*]; done), by repeat (first | exact Drawn0.refl _ | apply Drawn0.step)⟩

end Go.Proofs.Ytbpanbmjkfhcgaa.P
