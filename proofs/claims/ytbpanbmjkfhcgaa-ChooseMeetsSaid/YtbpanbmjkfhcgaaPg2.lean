-- Printed for this claim by drive.py (a program of this session's) through the kit's print program; not trusted: Lean checks it.
import Derived.Test.YtbpanbmjkfhcgaaP0
import Derived.Test.YtbpanbmjkfhcgaaPe34
import Derived.Test.YtbpanbmjkfhcgaaPg1
import Derived.BigRegion
import Derived.Deep.RegionWith
import Derived.RegionTactic
namespace Go.Proofs.Ytbpanbmjkfhcgaa.P
open Go.RowKit Go.Proofs.YtbpanbmjkfhcgaaW.PrintWords Go.Proofs.YtbpanbmjkfhcgaaW.PrintLast Go.Proofs.YtbpanbmjkfhcgaaW.PrintMore
attribute [local go_sem] max2_int min2_int max_two min_two max_three min_three max_four min_four   -- for this text's walks alone
set_option linter.unusedVariables false
set_option linter.unusedSimpArgs false

attribute [local go_sem high] eqA34
/-! ### headroomref13_Same: function 17 -/
def headroomref13_Same.l0 : Nat → List (S34) → List (S34) → Int → Int → Option (Bool)
  | 0, _, _, _, _ => none
  | k + 1, x0, x1, x12, x13 => if x13 < x12 then (if 0 ≤ x13 then (if x13 < (x0.length : Int) then (if x13 < (x1.length : Int) then (if (!(((rd_T34 x0 x13).f0) == ((rd_T34 x1 x13).f0)) || (!(((rd_T34 x0 x13).f1) == ((rd_T34 x1 x13).f1)))) = true then (some false) else (headroomref13_Same.l0 k x0 x1 x12 (wrap64 (x13 + 1)))) else (none)) else (none)) else (none)) else (some true)
def headroomref13_Same.f (k : Nat) (l0 : List (S34)) (l1 : List (S34)) : Option (Bool) := if (l0.length : Int) = (l1.length : Int) then (headroomref13_Same.l0 k l0 l1 (l0.length : Int) 0) else (some false)
theorem headroomref13_Same.mono_l : ∀ k, (∀ y0 y1 y2 y3, LeO (headroomref13_Same.l0 k y0 y1 y2 y3) (headroomref13_Same.l0 (k + 1) y0 y1 y2 y3))
  | 0 => fun _ _ _ _ r h => by simp [headroomref13_Same.l0] at h
  | k + 1 => by
    have ih0 := headroomref13_Same.mono_l k
    · intro y0 y1 y2 y3
      unfold headroomref13_Same.l0
      repeat' first
      | (with_reducible exact ih0 _ _ _ _)
      | (with_reducible exact LeO.refl _)
      | (with_reducible exact LeO.none _)
      | (with_reducible refine LeO.ite ?_ ?_)
      | (with_reducible refine LeO.bind ?_ (fun _ => ?_))
      | exact ih0 _ _ _ _
      | exact LeO.none _
      | refine LeO.ite ?_ ?_
      | refine LeO.bind ?_ (fun _ => ?_)
theorem headroomref13_Same.mono : ∀ a0 a1 k, LeO (headroomref13_Same.f k a0 a1) (headroomref13_Same.f (k + 1) a0 a1) := by
  intro a0 a1 k
  have ih0 := headroomref13_Same.mono_l k
  unfold headroomref13_Same.f
  repeat' first
      | (with_reducible exact ih0 _ _ _ _)
      | (with_reducible exact LeO.refl _)
      | (with_reducible exact LeO.none _)
      | (with_reducible refine LeO.ite ?_ ?_)
      | (with_reducible refine LeO.bind ?_ (fun _ => ?_))
      | exact ih0 _ _ _ _
      | exact LeO.none _
      | refine LeO.ite ?_ ?_
      | refine LeO.bind ?_ (fun _ => ?_)
set_option maxHeartbeats 8000000 in
set_option maxRecDepth 100000 in
theorem headroomref13_Same.calls (k : Nat) (A0 : Option Addr) (c0 : Nat) (l0 : List (S34)) (A1 : Option Addr) (c1 : Nat) (l1 : List (S34)) (r : Bool) (w : World) (hr0 : Kd.C k34 w A0 l0.length l0) (hc0 : l0.length ≤ c0) (hr1 : Kd.C k34 w A1 l1.length l1) (hc1 : l1.length ≤ c1) (h : headroomref13_Same.f k l0 l1 = some r) :
    Calls Try.prog 17 #[.slice A0 l0.length c0, .slice A1 l1.length c1] w fun e w' => e = .returned (.bool r) ∧ Drawn0 w w' := by
  have hu34 := Try.underlying34
  have HR0 := Aside0.mk hr0
  have HC0 := Aside0.mk hc0
  clear hr0 hc0
  have HR1 := Aside0.mk hr1
  have HC1 := Aside0.mk hc1
  clear hr1 hc1
  have H : (if (l0.length : Int) = (l1.length : Int) then (headroomref13_Same.l0 k l0 l1 (l0.length : Int) 0) else (some false)) = some r := h
  clear h
  by_cases c3 : (l0.length : Int) = (l1.length : Int)
  · rw [if_pos c3] at H
    have c3b0 : ((l0.length : Int) == (l1.length : Int)) = true := beq_iff_eq.mpr c3
    have c3b1 : ((l0.length : Int) != (l1.length : Int)) = false := bne_eq_false_iff_eq.mpr c3
    have c3b2 : (l0.length == l1.length) = true := by first | simpa using c3 | (simp at c3 ⊢; omega)
    clear c3
    have H' := Aside0.mk H
    clear H
    go_enter Try.func17, Try.ntmps17
    go_wp2
    repeat (go_quiet (fail); try go_wp2)
    go_loopg [13] k (fun kq v13 w' => ∃ (x13_1 : Int), v13 = .int .i64 x13_1 ∧ Aside0 (headroomref13_Same.l0 kq l0 l1 (l0.length : Int) x13_1 = some r) ∧ Aside0 (kq ≤ k) ∧ Drawn0 w w')
    case atStart => exact ⟨(0), (by first | rfl | (simp; done) | (simp [*]; done)), H', ⟨Nat.le_refl _⟩, by repeat (first | exact Drawn0.refl _ | apply Drawn0.step)⟩
    case round =>
      clear H'
      try clear c1
      try clear p2
      try clear c3
      try clear c3b0
      try clear c3b1
      try clear c3b2
      obtain ⟨x13_1, rfl, HA, HK1, ⟨m1, rfl⟩⟩ := hrel
      cases gk with
      | zero => exact absurd HA.out (by simp [headroomref13_Same.l0])
      | succ k1 =>
        have H := HA.out
        clear HA
        simp only [headroomref13_Same.l0] at H
        by_cases c4 : x13_1 < (l0.length : Int)
        · rw [if_pos c4] at H
          have c4b0 : decide (x13_1 < (l0.length : Int)) = true := decide_eq_true c4
          clear c4
          by_cases c5 : 0 ≤ x13_1
          · rw [if_pos c5] at H
            have c5b0 : decide (0 ≤ x13_1) = true := decide_eq_true c5
            clear c5
            by_cases c6 : x13_1 < (l0.length : Int)
            · rw [if_pos c6] at H
              have c6b0 : decide (x13_1 < (l0.length : Int)) = true := decide_eq_true c6
              clear c6
              by_cases c7 : x13_1 < (l1.length : Int)
              · rw [if_pos c7] at H
                have c7b0 : decide (x13_1 < (l1.length : Int)) = true := decide_eq_true c7
                clear c7
                by_cases c8 : (!(((rd_T34 l0 x13_1).f0) == ((rd_T34 l1 x13_1).f0)) || (!(((rd_T34 l0 x13_1).f1) == ((rd_T34 l1 x13_1).f1)))) = true
                · rw [if_pos c8] at H
                  have c8b0 : (!(((rd_T34 l0 x13_1).f0) == ((rd_T34 l1 x13_1).f0)) || (!(((rd_T34 l0 x13_1).f1) == ((rd_T34 l1 x13_1).f1)))) = true := c8
                  clear c8
                  obtain rfl := Option.some.inj H
                  have p126 : 0 ≤ (x13_1 : Int) := of_decide_eq_true (by first | (with_reducible assumption) | assumption)
                  have q126 : x13_1 < (l0.length : Int) := of_decide_eq_true (by first | (with_reducible assumption) | assumption)
                  obtain ⟨ad126, e126, hx126_0, hx126_1⟩ := at_T34 HR0.out x13_1 p126 q126
                  cases e126
                  replace p126 := eq_true p126
                  replace q126 := eq_true q126
                  have p127 : 0 ≤ (x13_1 : Int) := of_decide_eq_true (by first | (with_reducible assumption) | assumption)
                  have q127 : x13_1 < (l1.length : Int) := of_decide_eq_true (by first | (with_reducible assumption) | assumption)
                  obtain ⟨ad127, e127, hx127_0, hx127_1⟩ := at_T34 HR1.out x13_1 p127 q127
                  cases e127
                  replace p127 := eq_true p127
                  replace q127 := eq_true q127
                  go_wp2
                  repeat (go_quiet (fail); try go_wp2)
                  go_ret
                  exact ⟨by first | rfl | (simp; done) | (simp [*]; done), by repeat (first | exact Drawn0.refl _ | apply Drawn0.step)⟩
                · rw [if_neg c8] at H
                  have c8b0 : (!(((rd_T34 l0 x13_1).f0) == ((rd_T34 l1 x13_1).f0)) || (!(((rd_T34 l0 x13_1).f1) == ((rd_T34 l1 x13_1).f1)))) = false := by simpa using c8
                  clear c8
                  have H' := Aside0.mk H
                  clear H
                  have p126 : 0 ≤ (x13_1 : Int) := of_decide_eq_true (by first | (with_reducible assumption) | assumption)
                  have q126 : x13_1 < (l0.length : Int) := of_decide_eq_true (by first | (with_reducible assumption) | assumption)
                  obtain ⟨ad126, e126, hx126_0, hx126_1⟩ := at_T34 HR0.out x13_1 p126 q126
                  cases e126
                  replace p126 := eq_true p126
                  replace q126 := eq_true q126
                  have p127 : 0 ≤ (x13_1 : Int) := of_decide_eq_true (by first | (with_reducible assumption) | assumption)
                  have q127 : x13_1 < (l1.length : Int) := of_decide_eq_true (by first | (with_reducible assumption) | assumption)
                  obtain ⟨ad127, e127, hx127_0, hx127_1⟩ := at_T34 HR1.out x13_1 p127 q127
                  cases e127
                  replace p127 := eq_true p127
                  replace q127 := eq_true q127
                  go_wp2
                  repeat (go_quiet (fail); try go_wp2)
                  go_roundg k1
                  case measure => have := HK1.out; omega
                  case rel => exact ⟨(wrap64 (x13_1 + 1)), (by first | rfl | (simp; done) | (simp [*]; done)), H', ⟨by have := HK1.out; omega⟩, by repeat (first | exact Drawn0.refl _ | apply Drawn0.step)⟩
              · rw [if_neg c7] at H
                exact absurd H (by simp)
            · rw [if_neg c6] at H
              exact absurd H (by simp)
          · rw [if_neg c5] at H
            exact absurd H (by simp)
        · rw [if_neg c4] at H
          have c4b0 : decide (x13_1 < (l0.length : Int)) = false := decide_eq_false c4
          clear c4
          obtain rfl := Option.some.inj H
          go_wp2
          repeat (go_quiet (fail); try go_wp2)
          go_ret
          exact ⟨by first | rfl | (simp; done) | (simp [*]; done), by repeat (first | exact Drawn0.refl _ | apply Drawn0.step)⟩
  · rw [if_neg c3] at H
    have c3b0 : ((l0.length : Int) == (l1.length : Int)) = false := beq_eq_false_iff_ne.mpr c3
    have c3b1 : ((l0.length : Int) != (l1.length : Int)) = true := bne_iff_ne.mpr c3
    have c3b2 : (l0.length == l1.length) = false := by first | simpa using c3 | (simp at c3 ⊢; omega)
    obtain rfl := Option.some.inj H
    go_enter Try.func17, Try.ntmps17
    go_wp2
    repeat (go_quiet (fail); try go_wp2)
    go_ret
    exact ⟨by first | rfl | (simp; done) | (simp [*]; done), by repeat (first | exact Drawn0.refl _ | apply Drawn0.step)⟩

attribute [local go_sem high] eqA34
/-! ### api_Pass: function 19 -/
def api_Pass.l0 : Nat → List (S34) → List (S34) → Int → Int → Option (Bool)
  | 0, _, _, _, _ => none
  | k + 1, x0, x1, x12, x13 => if x13 < x12 then (if 0 ≤ x13 then (if x13 < (x0.length : Int) then (if x13 < (x1.length : Int) then (if (!(((rd_T34 x0 x13).f0) == ((rd_T34 x1 x13).f0)) || (!(((rd_T34 x0 x13).f1) == ((rd_T34 x1 x13).f1)))) = true then (some false) else (api_Pass.l0 k x0 x1 x12 (wrap64 (x13 + 1)))) else (none)) else (none)) else (none)) else (some true)
def api_Pass.f (k : Nat) (l0 : List (S34)) (l1 : List (S34)) : Option (Bool) := if (l0.length : Int) = (l1.length : Int) then (api_Pass.l0 k l0 l1 (l0.length : Int) 0) else (some false)
theorem api_Pass.mono_l : ∀ k, (∀ y0 y1 y2 y3, LeO (api_Pass.l0 k y0 y1 y2 y3) (api_Pass.l0 (k + 1) y0 y1 y2 y3))
  | 0 => fun _ _ _ _ r h => by simp [api_Pass.l0] at h
  | k + 1 => by
    have ih0 := api_Pass.mono_l k
    · intro y0 y1 y2 y3
      unfold api_Pass.l0
      repeat' first
      | (with_reducible exact ih0 _ _ _ _)
      | (with_reducible exact LeO.refl _)
      | (with_reducible exact LeO.none _)
      | (with_reducible refine LeO.ite ?_ ?_)
      | (with_reducible refine LeO.bind ?_ (fun _ => ?_))
      | exact ih0 _ _ _ _
      | exact LeO.none _
      | refine LeO.ite ?_ ?_
      | refine LeO.bind ?_ (fun _ => ?_)
theorem api_Pass.mono : ∀ a0 a1 k, LeO (api_Pass.f k a0 a1) (api_Pass.f (k + 1) a0 a1) := by
  intro a0 a1 k
  have ih0 := api_Pass.mono_l k
  unfold api_Pass.f
  repeat' first
      | (with_reducible exact ih0 _ _ _ _)
      | (with_reducible exact LeO.refl _)
      | (with_reducible exact LeO.none _)
      | (with_reducible refine LeO.ite ?_ ?_)
      | (with_reducible refine LeO.bind ?_ (fun _ => ?_))
      | exact ih0 _ _ _ _
      | exact LeO.none _
      | refine LeO.ite ?_ ?_
      | refine LeO.bind ?_ (fun _ => ?_)
set_option maxHeartbeats 8000000 in
set_option maxRecDepth 100000 in
theorem api_Pass.calls (k : Nat) (A0 : Option Addr) (c0 : Nat) (l0 : List (S34)) (A1 : Option Addr) (c1 : Nat) (l1 : List (S34)) (r : Bool) (w : World) (hr0 : Kd.C k34 w A0 l0.length l0) (hc0 : l0.length ≤ c0) (hr1 : Kd.C k34 w A1 l1.length l1) (hc1 : l1.length ≤ c1) (h : api_Pass.f k l0 l1 = some r) :
    Calls Try.prog 19 #[.slice A0 l0.length c0, .slice A1 l1.length c1] w fun e w' => e = .returned (.bool r) ∧ Drawn0 w w' := by
  have hu34 := Try.underlying34
  have HR0 := Aside0.mk hr0
  have HC0 := Aside0.mk hc0
  clear hr0 hc0
  have HR1 := Aside0.mk hr1
  have HC1 := Aside0.mk hc1
  clear hr1 hc1
  have H : (if (l0.length : Int) = (l1.length : Int) then (api_Pass.l0 k l0 l1 (l0.length : Int) 0) else (some false)) = some r := h
  clear h
  by_cases c3 : (l0.length : Int) = (l1.length : Int)
  · rw [if_pos c3] at H
    have c3b0 : ((l0.length : Int) == (l1.length : Int)) = true := beq_iff_eq.mpr c3
    have c3b1 : ((l0.length : Int) != (l1.length : Int)) = false := bne_eq_false_iff_eq.mpr c3
    have c3b2 : (l0.length == l1.length) = true := by first | simpa using c3 | (simp at c3 ⊢; omega)
    clear c3
    have H' := Aside0.mk H
    clear H
    go_enter Try.func19, Try.ntmps19
    go_wp2
    repeat (go_quiet (fail); try go_wp2)
    go_loopg [13] k (fun kq v13 w' => ∃ (x13_1 : Int), v13 = .int .i64 x13_1 ∧ Aside0 (api_Pass.l0 kq l0 l1 (l0.length : Int) x13_1 = some r) ∧ Aside0 (kq ≤ k) ∧ Drawn0 w w')
    case atStart => exact ⟨(0), (by first | rfl | (simp; done) | (simp [*]; done)), H', ⟨Nat.le_refl _⟩, by repeat (first | exact Drawn0.refl _ | apply Drawn0.step)⟩
    case round =>
      clear H'
      try clear c1
      try clear p2
      try clear c3
      try clear c3b0
      try clear c3b1
      try clear c3b2
      obtain ⟨x13_1, rfl, HA, HK1, ⟨m1, rfl⟩⟩ := hrel
      cases gk with
      | zero => exact absurd HA.out (by simp [api_Pass.l0])
      | succ k1 =>
        have H := HA.out
        clear HA
        simp only [api_Pass.l0] at H
        by_cases c4 : x13_1 < (l0.length : Int)
        · rw [if_pos c4] at H
          have c4b0 : decide (x13_1 < (l0.length : Int)) = true := decide_eq_true c4
          clear c4
          by_cases c5 : 0 ≤ x13_1
          · rw [if_pos c5] at H
            have c5b0 : decide (0 ≤ x13_1) = true := decide_eq_true c5
            clear c5
            by_cases c6 : x13_1 < (l0.length : Int)
            · rw [if_pos c6] at H
              have c6b0 : decide (x13_1 < (l0.length : Int)) = true := decide_eq_true c6
              clear c6
              by_cases c7 : x13_1 < (l1.length : Int)
              · rw [if_pos c7] at H
                have c7b0 : decide (x13_1 < (l1.length : Int)) = true := decide_eq_true c7
                clear c7
                by_cases c8 : (!(((rd_T34 l0 x13_1).f0) == ((rd_T34 l1 x13_1).f0)) || (!(((rd_T34 l0 x13_1).f1) == ((rd_T34 l1 x13_1).f1)))) = true
                · rw [if_pos c8] at H
                  have c8b0 : (!(((rd_T34 l0 x13_1).f0) == ((rd_T34 l1 x13_1).f0)) || (!(((rd_T34 l0 x13_1).f1) == ((rd_T34 l1 x13_1).f1)))) = true := c8
                  clear c8
                  obtain rfl := Option.some.inj H
                  have p164 : 0 ≤ (x13_1 : Int) := of_decide_eq_true (by first | (with_reducible assumption) | assumption)
                  have q164 : x13_1 < (l0.length : Int) := of_decide_eq_true (by first | (with_reducible assumption) | assumption)
                  obtain ⟨ad164, e164, hx164_0, hx164_1⟩ := at_T34 HR0.out x13_1 p164 q164
                  cases e164
                  replace p164 := eq_true p164
                  replace q164 := eq_true q164
                  have p165 : 0 ≤ (x13_1 : Int) := of_decide_eq_true (by first | (with_reducible assumption) | assumption)
                  have q165 : x13_1 < (l1.length : Int) := of_decide_eq_true (by first | (with_reducible assumption) | assumption)
                  obtain ⟨ad165, e165, hx165_0, hx165_1⟩ := at_T34 HR1.out x13_1 p165 q165
                  cases e165
                  replace p165 := eq_true p165
                  replace q165 := eq_true q165
                  go_wp2
                  repeat (go_quiet (fail); try go_wp2)
                  go_ret
                  exact ⟨by first | rfl | (simp; done) | (simp [*]; done), by repeat (first | exact Drawn0.refl _ | apply Drawn0.step)⟩
                · rw [if_neg c8] at H
                  have c8b0 : (!(((rd_T34 l0 x13_1).f0) == ((rd_T34 l1 x13_1).f0)) || (!(((rd_T34 l0 x13_1).f1) == ((rd_T34 l1 x13_1).f1)))) = false := by simpa using c8
                  clear c8
                  have H' := Aside0.mk H
                  clear H
                  have p164 : 0 ≤ (x13_1 : Int) := of_decide_eq_true (by first | (with_reducible assumption) | assumption)
                  have q164 : x13_1 < (l0.length : Int) := of_decide_eq_true (by first | (with_reducible assumption) | assumption)
                  obtain ⟨ad164, e164, hx164_0, hx164_1⟩ := at_T34 HR0.out x13_1 p164 q164
                  cases e164
                  replace p164 := eq_true p164
                  replace q164 := eq_true q164
                  have p165 : 0 ≤ (x13_1 : Int) := of_decide_eq_true (by first | (with_reducible assumption) | assumption)
                  have q165 : x13_1 < (l1.length : Int) := of_decide_eq_true (by first | (with_reducible assumption) | assumption)
                  obtain ⟨ad165, e165, hx165_0, hx165_1⟩ := at_T34 HR1.out x13_1 p165 q165
                  cases e165
                  replace p165 := eq_true p165
                  replace q165 := eq_true q165
                  go_wp2
                  repeat (go_quiet (fail); try go_wp2)
                  go_roundg k1
                  case measure => have := HK1.out; omega
                  case rel => exact ⟨(wrap64 (x13_1 + 1)), (by first | rfl | (simp; done) | (simp [*]; done)), H', ⟨by have := HK1.out; omega⟩, by repeat (first | exact Drawn0.refl _ | apply Drawn0.step)⟩
              · rw [if_neg c7] at H
                exact absurd H (by simp)
            · rw [if_neg c6] at H
              exact absurd H (by simp)
          · rw [if_neg c5] at H
            exact absurd H (by simp)
        · rw [if_neg c4] at H
          have c4b0 : decide (x13_1 < (l0.length : Int)) = false := decide_eq_false c4
          clear c4
          obtain rfl := Option.some.inj H
          go_wp2
          repeat (go_quiet (fail); try go_wp2)
          go_ret
          exact ⟨by first | rfl | (simp; done) | (simp [*]; done), by repeat (first | exact Drawn0.refl _ | apply Drawn0.step)⟩
  · rw [if_neg c3] at H
    have c3b0 : ((l0.length : Int) == (l1.length : Int)) = false := beq_eq_false_iff_ne.mpr c3
    have c3b1 : ((l0.length : Int) != (l1.length : Int)) = true := bne_iff_ne.mpr c3
    have c3b2 : (l0.length == l1.length) = false := by first | simpa using c3 | (simp at c3 ⊢; omega)
    obtain rfl := Option.some.inj H
    go_enter Try.func19, Try.ntmps19
    go_wp2
    repeat (go_quiet (fail); try go_wp2)
    go_ret
    exact ⟨by first | rfl | (simp; done) | (simp [*]; done), by repeat (first | exact Drawn0.refl _ | apply Drawn0.step)⟩

/-! ### budget_step: function 48 -/
-- IMPORT Derived.Deep.RegionWith
-- IMPORT Derived.RegionTactic
-- IMPORT Derived.BigRegion
/-- What a pass loses of its own. -/
def lossOf (k : Int) (p : Bool) : Int := (if k = 2 then some (if p then 608 else 224) else if k = 4 then some (if p then 1632 else 288) else none : Option Int).getD 0
def stepVal (e k : Int) (p : Bool) (s : Nat) : Int := wrap64 ((wrap64 (wrap64 (wrap64 (k * e) + wrap64 (2 ^ s)) - 1)) / 2 ^ s + lossOf k p)
def budget_step.f (a0 : Int) (a1 : Int) (a2 : Int) (a3 : Int) : Option (Int) :=
  if a2 = 2 then some (stepVal a0 a1 true 0) else if a3 = 0 then some (stepVal a0 a1 false 0) else if a3 = 1 then some (stepVal a0 a1 false 1) else if a3 = 2 then some (stepVal a0 a1 false 2) else if a3 = 3 then some (stepVal a0 a1 false 3) else none
theorem ret_i64 {a b : Int} (h : a = b) : Ending.returned (.int .i64 a) = .returned (.int .i64 b) := by rw [h]
theorem look1 (w : World) : ∀ (X : Obj) (l : List (Int × Bool × Int)) (n : Nat) (a : Int) (p : Bool), (Instr.lookup 74 (.map (some (w.heap.size + 1))) (.agg #[.int .i64 a, .bool p]) false).run Try.prog (((w.alloc X).alloc (lmap l)).drewN n) = .ok (.int .i64 ((has l a p).getD 0)) (((w.alloc X).alloc (lmap l)).drewN n) := fun X l n a p => by
  have h := run_lookup_rule (w := ((w.alloc X).alloc (lmap l)).drewN n) (b := (w.alloc X).heap.size) (heap_alloc_new (w.alloc X) (lmap l)) a p false
  rw [World.size_alloc] at h
  exact h
set_option maxHeartbeats 8000000 in
set_option maxRecDepth 100000 in
theorem step_bare (e k s : Int) (w : World) : Calls Try.prog 48 #[.int .i64 e, .int .i64 k, .int .i64 2, .int .i64 s] w fun e_ w' => e_ = .returned (.int .i64 (stepVal e k true 0)) ∧ Below w.heap.size w w' := by
  have hu77 := Try.underlying77
  have hlk := look1 w
  go_enter Try.func48, Try.ntmps48
  go_wp2
  go_region_with (go_at_call 47; refine (loses_calls _).mono ?_; rintro e1 w1 ⟨l, rfl, hs, n, rfl⟩)
  all_goals
    clear hlk
    go_wp2
    go_ret
    refine ⟨ret_i64 ?_, pw_below_drewN (below_alloc (below_alloc (Below.refl _ _) _) _) _⟩
    rw [hs]
    simp only [IntWalk.i64_left]
    first | rfl | (simp [stepVal, lossOf]; done)
set_option maxHeartbeats 8000000 in
set_option maxRecDepth 100000 in
theorem step_0 (e k sc : Int) (w : World) (h : (sc == 2) = false) : Calls Try.prog 48 #[.int .i64 e, .int .i64 k, .int .i64 sc, .int .i64 0] w fun e_ w' => e_ = .returned (.int .i64 (stepVal e k false 0)) ∧ Below w.heap.size w w' := by
  have hu77 := Try.underlying77
  have hlk := look1 w
  go_enter Try.func48, Try.ntmps48
  go_wp2
  go_region_with (go_at_call 47; refine (loses_calls _).mono ?_; rintro e1 w1 ⟨l, rfl, hs, n, rfl⟩)
  all_goals
    clear hlk
    go_wp2
    go_ret
    refine ⟨ret_i64 ?_, pw_below_drewN (below_alloc (below_alloc (Below.refl _ _) _) _) _⟩
    rw [hs]
    simp only [IntWalk.i64_left]
    first | rfl | (simp [stepVal, lossOf]; done)
set_option maxHeartbeats 8000000 in
set_option maxRecDepth 100000 in
theorem step_1 (e k sc : Int) (w : World) (h : (sc == 2) = false) : Calls Try.prog 48 #[.int .i64 e, .int .i64 k, .int .i64 sc, .int .i64 1] w fun e_ w' => e_ = .returned (.int .i64 (stepVal e k false 1)) ∧ Below w.heap.size w w' := by
  have hu77 := Try.underlying77
  have hlk := look1 w
  go_enter Try.func48, Try.ntmps48
  go_wp2
  go_region_with (go_at_call 47; refine (loses_calls _).mono ?_; rintro e1 w1 ⟨l, rfl, hs, n, rfl⟩)
  all_goals
    clear hlk
    go_wp2
    go_ret
    refine ⟨ret_i64 ?_, pw_below_drewN (below_alloc (below_alloc (Below.refl _ _) _) _) _⟩
    rw [hs]
    simp only [IntWalk.i64_left]
    first | rfl | (simp [stepVal, lossOf]; done)
set_option maxHeartbeats 8000000 in
set_option maxRecDepth 100000 in
theorem step_2 (e k sc : Int) (w : World) (h : (sc == 2) = false) : Calls Try.prog 48 #[.int .i64 e, .int .i64 k, .int .i64 sc, .int .i64 2] w fun e_ w' => e_ = .returned (.int .i64 (stepVal e k false 2)) ∧ Below w.heap.size w w' := by
  have hu77 := Try.underlying77
  have hlk := look1 w
  go_enter Try.func48, Try.ntmps48
  go_wp2
  go_region_with (go_at_call 47; refine (loses_calls _).mono ?_; rintro e1 w1 ⟨l, rfl, hs, n, rfl⟩)
  all_goals
    clear hlk
    go_wp2
    go_ret
    refine ⟨ret_i64 ?_, pw_below_drewN (below_alloc (below_alloc (Below.refl _ _) _) _) _⟩
    rw [hs]
    simp only [IntWalk.i64_left]
    first | rfl | (simp [stepVal, lossOf]; done)
set_option maxHeartbeats 8000000 in
set_option maxRecDepth 100000 in
theorem step_3 (e k sc : Int) (w : World) (h : (sc == 2) = false) : Calls Try.prog 48 #[.int .i64 e, .int .i64 k, .int .i64 sc, .int .i64 3] w fun e_ w' => e_ = .returned (.int .i64 (stepVal e k false 3)) ∧ Below w.heap.size w w' := by
  have hu77 := Try.underlying77
  have hlk := look1 w
  go_enter Try.func48, Try.ntmps48
  go_wp2
  go_region_with (go_at_call 47; refine (loses_calls _).mono ?_; rintro e1 w1 ⟨l, rfl, hs, n, rfl⟩)
  all_goals
    clear hlk
    go_wp2
    go_ret
    refine ⟨ret_i64 ?_, pw_below_drewN (below_alloc (below_alloc (Below.refl _ _) _) _) _⟩
    rw [hs]
    simp only [IntWalk.i64_left]
    first | rfl | (simp [stepVal, lossOf]; done)
theorem budget_step.calls (a0 : Int) (a1 : Int) (a2 : Int) (a3 : Int) (r : Int) (w : World) (h : budget_step.f a0 a1 a2 a3 = some r) :
    Calls Try.prog 48 #[.int .i64 a0, .int .i64 a1, .int .i64 a2, .int .i64 a3] w fun e w' => e = .returned (.int .i64 r) ∧ Below w.heap.size w w' := by
  unfold budget_step.f at h
  by_cases h2 : a2 = 2
  · rw [if_pos h2] at h; obtain rfl := Option.some.inj h; subst h2; exact step_bare a0 a1 a3 w
  · rw [if_neg h2] at h
    have hb : (a2 == 2) = false := beq_eq_false_iff_ne.2 h2
    by_cases s0 : a3 = 0
    · rw [if_pos s0] at h; obtain rfl := Option.some.inj h; subst s0; exact step_0 a0 a1 a2 w hb
    · rw [if_neg s0] at h
      by_cases s1 : a3 = 1
      · rw [if_pos s1] at h; obtain rfl := Option.some.inj h; subst s1; exact step_1 a0 a1 a2 w hb
      · rw [if_neg s1] at h
        by_cases s2 : a3 = 2
        · rw [if_pos s2] at h; obtain rfl := Option.some.inj h; subst s2; exact step_2 a0 a1 a2 w hb
        · rw [if_neg s2] at h
          by_cases s3 : a3 = 3
          · rw [if_pos s3] at h; obtain rfl := Option.some.inj h; subst s3; exact step_3 a0 a1 a2 w hb
          · rw [if_neg s3] at h; cases h

/-! ### headroomref14_MaySteps: function 26 -/
def headroomref14_MaySteps.f (k : Nat) (a0 : Int) (a1 : Int) (a2 : Int) (a3 : Int) : Option (Bool) := if a0 ≥ 0 then ((headroomref01_Pow.f k 40).bind fun t226 => (if a0 ≤ t226 then (if a1 = 2 then (if a2 ≥ 0 then (if a2 ≤ 2 then (if a3 ≥ 0 then (some (decide (a3 ≤ 3))) else (some false)) else (some false)) else (some false)) else (if a1 = 4 then (if a2 ≥ 0 then (if a2 ≤ 2 then (if a3 ≥ 0 then (some (decide (a3 ≤ 3))) else (some false)) else (some false)) else (some false)) else (some false))) else (some false))) else (some false)
theorem headroomref14_MaySteps.mono : ∀ a0 a1 a2 a3 k, LeO (headroomref14_MaySteps.f k a0 a1 a2 a3) (headroomref14_MaySteps.f (k + 1) a0 a1 a2 a3) := by
  intro a0 a1 a2 a3 k
  unfold headroomref14_MaySteps.f
  repeat' first
      | (with_reducible exact headroomref01_Pow.mono _ _)
      | (with_reducible exact LeO.refl _)
      | (with_reducible exact LeO.none _)
      | (with_reducible refine LeO.ite ?_ ?_)
      | (with_reducible refine LeO.bind ?_ (fun _ => ?_))
      | exact headroomref01_Pow.mono _ _
      | exact LeO.none _
      | refine LeO.ite ?_ ?_
      | refine LeO.bind ?_ (fun _ => ?_)
set_option maxHeartbeats 8000000 in
set_option maxRecDepth 100000 in
theorem headroomref14_MaySteps.calls (k : Nat) (a0 : Int) (a1 : Int) (a2 : Int) (a3 : Int) (r : Bool) (w : World) (h : headroomref14_MaySteps.f k a0 a1 a2 a3 = some r) :
    Calls Try.prog 26 #[.int .i64 a0, .int .i64 a1, .int .i64 a2, .int .i64 a3] w fun e w' => e = .returned (.bool r) ∧ Drawn0 w w' := by
  have H : (if a0 ≥ 0 then ((headroomref01_Pow.f k 40).bind fun t226 => (if a0 ≤ t226 then (if a1 = 2 then (if a2 ≥ 0 then (if a2 ≤ 2 then (if a3 ≥ 0 then (some (decide (a3 ≤ 3))) else (some false)) else (some false)) else (some false)) else (if a1 = 4 then (if a2 ≥ 0 then (if a2 ≤ 2 then (if a3 ≥ 0 then (some (decide (a3 ≤ 3))) else (some false)) else (some false)) else (some false)) else (some false))) else (some false))) else (some false)) = some r := h
  clear h
  by_cases c5 : a0 ≥ 0
  · rw [if_pos c5] at H
    have c5b0 : decide (0 ≤ a0) = true := decide_eq_true c5
    clear c5
    replace H := Option.bind_eq_some_iff.mp H
    obtain ⟨t226, A60, H⟩ := H
    replace H : (if a0 ≤ t226 then (if a1 = 2 then (if a2 ≥ 0 then (if a2 ≤ 2 then (if a3 ≥ 0 then (some (decide (a3 ≤ 3))) else (some false)) else (some false)) else (some false)) else (if a1 = 4 then (if a2 ≥ 0 then (if a2 ≤ 2 then (if a3 ≥ 0 then (some (decide (a3 ≤ 3))) else (some false)) else (some false)) else (some false)) else (some false))) else (some false)) = some r := H
    have A6 := Aside0.mk A60
    clear A60
    by_cases c7 : a0 ≤ t226
    · rw [if_pos c7] at H
      have c7b0 : decide (a0 ≤ t226) = true := decide_eq_true c7
      clear c7
      by_cases c8 : a1 = 2
      · rw [if_pos c8] at H
        have c8b0 : (a1 == 2) = true := beq_iff_eq.mpr c8
        have c8b1 : (a1 != 2) = false := bne_eq_false_iff_eq.mpr c8
        clear c8
        by_cases c9 : a2 ≥ 0
        · rw [if_pos c9] at H
          have c9b0 : decide (0 ≤ a2) = true := decide_eq_true c9
          clear c9
          by_cases c10 : a2 ≤ 2
          · rw [if_pos c10] at H
            have c10b0 : decide (a2 ≤ 2) = true := decide_eq_true c10
            clear c10
            by_cases c11 : a3 ≥ 0
            · rw [if_pos c11] at H
              have c11b0 : decide (0 ≤ a3) = true := decide_eq_true c11
              clear c11
              obtain rfl := Option.some.inj H
              go_enter Try.func26, Try.ntmps26
              go_wp2_with (first | (go_at_call 44; (with_reducible refine (headroomref01_Pow.calls k 40 t226 _ A6.out).mono ?_); rintro e w' ⟨rfl, ⟨nd, rfl⟩⟩))
              go_ret
              exact ⟨by first | rfl | (simp; done) | (simp [*]; done), by repeat (first | exact Drawn0.refl _ | apply Drawn0.step)⟩
            · rw [if_neg c11] at H
              have c11b0 : decide (0 ≤ a3) = false := decide_eq_false c11
              clear c11
              obtain rfl := Option.some.inj H
              go_enter Try.func26, Try.ntmps26
              go_wp2_with (first | (go_at_call 44; (with_reducible refine (headroomref01_Pow.calls k 40 t226 _ A6.out).mono ?_); rintro e w' ⟨rfl, ⟨nd, rfl⟩⟩))
              go_ret
              exact ⟨by first | rfl | (simp; done) | (simp [*]; done), by repeat (first | exact Drawn0.refl _ | apply Drawn0.step)⟩
          · rw [if_neg c10] at H
            have c10b0 : decide (a2 ≤ 2) = false := decide_eq_false c10
            clear c10
            obtain rfl := Option.some.inj H
            go_enter Try.func26, Try.ntmps26
            go_wp2_with (first | (go_at_call 44; (with_reducible refine (headroomref01_Pow.calls k 40 t226 _ A6.out).mono ?_); rintro e w' ⟨rfl, ⟨nd, rfl⟩⟩))
            go_ret
            exact ⟨by first | rfl | (simp; done) | (simp [*]; done), by repeat (first | exact Drawn0.refl _ | apply Drawn0.step)⟩
        · rw [if_neg c9] at H
          have c9b0 : decide (0 ≤ a2) = false := decide_eq_false c9
          clear c9
          obtain rfl := Option.some.inj H
          go_enter Try.func26, Try.ntmps26
          go_wp2_with (first | (go_at_call 44; (with_reducible refine (headroomref01_Pow.calls k 40 t226 _ A6.out).mono ?_); rintro e w' ⟨rfl, ⟨nd, rfl⟩⟩))
          go_ret
          exact ⟨by first | rfl | (simp; done) | (simp [*]; done), by repeat (first | exact Drawn0.refl _ | apply Drawn0.step)⟩
      · rw [if_neg c8] at H
        have c8b0 : (a1 == 2) = false := beq_eq_false_iff_ne.mpr c8
        have c8b1 : (a1 != 2) = true := bne_iff_ne.mpr c8
        by_cases c12 : a1 = 4
        · rw [if_pos c12] at H
          have c12b0 : (a1 == 4) = true := beq_iff_eq.mpr c12
          have c12b1 : (a1 != 4) = false := bne_eq_false_iff_eq.mpr c12
          clear c12
          by_cases c13 : a2 ≥ 0
          · rw [if_pos c13] at H
            have c13b0 : decide (0 ≤ a2) = true := decide_eq_true c13
            clear c13
            by_cases c14 : a2 ≤ 2
            · rw [if_pos c14] at H
              have c14b0 : decide (a2 ≤ 2) = true := decide_eq_true c14
              clear c14
              by_cases c15 : a3 ≥ 0
              · rw [if_pos c15] at H
                have c15b0 : decide (0 ≤ a3) = true := decide_eq_true c15
                clear c15
                obtain rfl := Option.some.inj H
                go_enter Try.func26, Try.ntmps26
                go_wp2_with (first | (go_at_call 44; (with_reducible refine (headroomref01_Pow.calls k 40 t226 _ A6.out).mono ?_); rintro e w' ⟨rfl, ⟨nd, rfl⟩⟩))
                go_ret
                exact ⟨by first | rfl | (simp; done) | (simp [*]; done), by repeat (first | exact Drawn0.refl _ | apply Drawn0.step)⟩
              · rw [if_neg c15] at H
                have c15b0 : decide (0 ≤ a3) = false := decide_eq_false c15
                clear c15
                obtain rfl := Option.some.inj H
                go_enter Try.func26, Try.ntmps26
                go_wp2_with (first | (go_at_call 44; (with_reducible refine (headroomref01_Pow.calls k 40 t226 _ A6.out).mono ?_); rintro e w' ⟨rfl, ⟨nd, rfl⟩⟩))
                go_ret
                exact ⟨by first | rfl | (simp; done) | (simp [*]; done), by repeat (first | exact Drawn0.refl _ | apply Drawn0.step)⟩
            · rw [if_neg c14] at H
              have c14b0 : decide (a2 ≤ 2) = false := decide_eq_false c14
              clear c14
              obtain rfl := Option.some.inj H
              go_enter Try.func26, Try.ntmps26
              go_wp2_with (first | (go_at_call 44; (with_reducible refine (headroomref01_Pow.calls k 40 t226 _ A6.out).mono ?_); rintro e w' ⟨rfl, ⟨nd, rfl⟩⟩))
              go_ret
              exact ⟨by first | rfl | (simp; done) | (simp [*]; done), by repeat (first | exact Drawn0.refl _ | apply Drawn0.step)⟩
          · rw [if_neg c13] at H
            have c13b0 : decide (0 ≤ a2) = false := decide_eq_false c13
            clear c13
            obtain rfl := Option.some.inj H
            go_enter Try.func26, Try.ntmps26
            go_wp2_with (first | (go_at_call 44; (with_reducible refine (headroomref01_Pow.calls k 40 t226 _ A6.out).mono ?_); rintro e w' ⟨rfl, ⟨nd, rfl⟩⟩))
            go_ret
            exact ⟨by first | rfl | (simp; done) | (simp [*]; done), by repeat (first | exact Drawn0.refl _ | apply Drawn0.step)⟩
        · rw [if_neg c12] at H
          have c12b0 : (a1 == 4) = false := beq_eq_false_iff_ne.mpr c12
          have c12b1 : (a1 != 4) = true := bne_iff_ne.mpr c12
          obtain rfl := Option.some.inj H
          go_enter Try.func26, Try.ntmps26
          go_wp2_with (first | (go_at_call 44; (with_reducible refine (headroomref01_Pow.calls k 40 t226 _ A6.out).mono ?_); rintro e w' ⟨rfl, ⟨nd, rfl⟩⟩))
          go_ret
          exact ⟨by first | rfl | (simp; done) | (simp [*]; done), by repeat (first | exact Drawn0.refl _ | apply Drawn0.step)⟩
    · rw [if_neg c7] at H
      have c7b0 : decide (a0 ≤ t226) = false := decide_eq_false c7
      clear c7
      obtain rfl := Option.some.inj H
      go_enter Try.func26, Try.ntmps26
      go_wp2_with (first | (go_at_call 44; (with_reducible refine (headroomref01_Pow.calls k 40 t226 _ A6.out).mono ?_); rintro e w' ⟨rfl, ⟨nd, rfl⟩⟩))
      go_ret
      exact ⟨by first | rfl | (simp; done) | (simp [*]; done), by repeat (first | exact Drawn0.refl _ | apply Drawn0.step)⟩
  · rw [if_neg c5] at H
    have c5b0 : decide (0 ≤ a0) = false := decide_eq_false c5
    clear c5
    obtain rfl := Option.some.inj H
    go_enter Try.func26, Try.ntmps26
    go_wp2
    go_ret
    exact ⟨by first | rfl | (simp; done) | (simp [*]; done), by repeat (first | exact Drawn0.refl _ | apply Drawn0.step)⟩

/-! ### headroomref01_Floor: function 56 -/
def headroomref01_Floor.l0 : Nat → Int → Int → Int → Option (Int)
  | 0, _, _, _ => none
  | k + 1, x0, x1, x5 => if x5 < x1 then ((headroomref01_half.f x0).bind fun t227 => (headroomref01_Floor.l0 k t227 x1 (wrap64 (x5 + 1)))) else (some x0)
def headroomref01_Floor.f (k : Nat) (a0 : Int) (a1 : Int) : Option (Int) := headroomref01_Floor.l0 k a0 a1 0
theorem headroomref01_Floor.mono_l : ∀ k, (∀ y0 y1 y2, LeO (headroomref01_Floor.l0 k y0 y1 y2) (headroomref01_Floor.l0 (k + 1) y0 y1 y2))
  | 0 => fun _ _ _ r h => by simp [headroomref01_Floor.l0] at h
  | k + 1 => by
    have ih0 := headroomref01_Floor.mono_l k
    · intro y0 y1 y2
      unfold headroomref01_Floor.l0
      repeat' first
      | (with_reducible exact ih0 _ _ _)
      | (with_reducible exact LeO.refl _)
      | (with_reducible exact LeO.none _)
      | (with_reducible refine LeO.ite ?_ ?_)
      | (with_reducible refine LeO.bind ?_ (fun _ => ?_))
      | exact ih0 _ _ _
      | exact LeO.none _
      | refine LeO.ite ?_ ?_
      | refine LeO.bind ?_ (fun _ => ?_)
theorem headroomref01_Floor.mono : ∀ a0 a1 k, LeO (headroomref01_Floor.f k a0 a1) (headroomref01_Floor.f (k + 1) a0 a1) := by
  intro a0 a1 k
  have ih0 := headroomref01_Floor.mono_l k
  unfold headroomref01_Floor.f
  repeat' first
      | (with_reducible exact ih0 _ _ _)
      | (with_reducible exact LeO.refl _)
      | (with_reducible exact LeO.none _)
      | (with_reducible refine LeO.ite ?_ ?_)
      | (with_reducible refine LeO.bind ?_ (fun _ => ?_))
      | exact ih0 _ _ _
      | exact LeO.none _
      | refine LeO.ite ?_ ?_
      | refine LeO.bind ?_ (fun _ => ?_)
set_option maxHeartbeats 8000000 in
set_option maxRecDepth 100000 in
theorem headroomref01_Floor.calls (k : Nat) (a0 : Int) (a1 : Int) (r : Int) (w : World) (h : headroomref01_Floor.f k a0 a1 = some r) :
    Calls Try.prog 56 #[.int .i64 a0, .int .i64 a1] w fun e w' => e = .returned (.int .i64 r) ∧ Drawn0 w w' := by
  have H : (headroomref01_Floor.l0 k a0 a1 0) = some r := h
  clear h
  have H' := Aside0.mk H
  clear H
  go_enter Try.func56, Try.ntmps56
  go_wp2
  go_loopg [0, 5] k (fun kq v0 v5 w' => ∃ (x0_1 : Int) (x5_1 : Int), v0 = .int .i64 x0_1 ∧ v5 = .int .i64 x5_1 ∧ Aside0 (headroomref01_Floor.l0 kq x0_1 a1 x5_1 = some r) ∧ Aside0 (kq ≤ k) ∧ Drawn0 w w')
  case atStart => exact ⟨(a0), (0), (by first | rfl | (simp; done) | (simp [*]; done)), (by first | rfl | (simp; done) | (simp [*]; done)), H', ⟨Nat.le_refl _⟩, by repeat (first | exact Drawn0.refl _ | apply Drawn0.step)⟩
  case round =>
    clear H'
    try clear p2
    obtain ⟨x0_1, x5_1, rfl, rfl, HA, HK1, ⟨m1, rfl⟩⟩ := hrel
    cases gk with
    | zero => exact absurd HA.out (by simp [headroomref01_Floor.l0])
    | succ k1 =>
      have H := HA.out
      clear HA
      simp only [headroomref01_Floor.l0] at H
      by_cases c3 : x5_1 < a1
      · rw [if_pos c3] at H
        have c3b0 : decide (x5_1 < a1) = true := decide_eq_true c3
        clear c3
        replace H := Option.bind_eq_some_iff.mp H
        obtain ⟨t227, A40, H⟩ := H
        replace H : (headroomref01_Floor.l0 k1 t227 a1 (wrap64 (x5_1 + 1))) = some r := H
        have A4 := Aside0.mk A40
        clear A40
        have H' := Aside0.mk H
        clear H
        go_wp2_with (first | ((with_reducible refine gate_callee (f := 57) rfl ?_); refine goesL_ (some 12) rfl rfl Try.func57 (by kernel_rfl) rfl #[.int .i64 x0_1] rfl (by (try simp only [List.map_toArray, List.map_cons, List.map_nil]); first | done | rfl | (simp only [List.length_drop, List.length_take]; rfl)) ?_; (with_reducible refine (headroomref01_half.calls x0_1 t227 _ A4.out).mono ?_); rintro e w' ⟨rfl, ⟨nd, rfl⟩⟩; refine ⟨_, rfl, ?_⟩))
        go_roundg k1
        case measure => have := HK1.out; omega
        case rel => exact ⟨(t227), (wrap64 (x5_1 + 1)), (by first | rfl | (simp; done) | (simp [*]; done)), (by first | rfl | (simp; done) | (simp [*]; done)), H', ⟨by have := HK1.out; omega⟩, by repeat (first | exact Drawn0.refl _ | apply Drawn0.step)⟩
      · rw [if_neg c3] at H
        have c3b0 : decide (x5_1 < a1) = false := decide_eq_false c3
        clear c3
        obtain rfl := Option.some.inj H
        go_wp2
        go_ret
        exact ⟨by first | rfl | (simp; done) | (simp [*]; done), by repeat (first | exact Drawn0.refl _ | apply Drawn0.step)⟩

end Go.Proofs.Ytbpanbmjkfhcgaa.P
