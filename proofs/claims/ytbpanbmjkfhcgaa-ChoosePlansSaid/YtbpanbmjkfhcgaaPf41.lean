-- Printed for this claim by drive.py (a program of this session's) through the kit's print program; not trusted: Lean checks it.
import Derived.Test.YtbpanbmjkfhcgaaP0
import Derived.Test.YtbpanbmjkfhcgaaPg7
namespace Go.Proofs.Ytbpanbmjkfhcgaa.P
open Go.RowKit Go.Proofs.YtbpanbmjkfhcgaaW.PrintWords Go.Proofs.YtbpanbmjkfhcgaaW.PrintLast Go.Proofs.YtbpanbmjkfhcgaaW.PrintMore
attribute [local go_sem] max2_int min2_int max_two min_two max_three min_three max_four min_four   -- for this text's walks alone
set_option linter.unusedVariables false
set_option linter.unusedSimpArgs false

/-! ### headroomref22_Kernel: function 41 -/
def headroomref22_Kernel.j0 : Nat → List Int → Bool → Option (Int)
  | 0, _, _ => none
  | k + 1, x3, x21 => if x21 = true then (some 0) else (if 1 < (x3.length : Int) then (if 2 < (x3.length : Int) then (if (rd x3 1) ≤ (rd x3 2) then (some 1) else (some 2)) else (none)) else (none))
def headroomref22_Kernel.f (k : Nat) (a0 : Int) : Option (Int) := (headroomref22_Losses.f k a0).bind fun t384 => (if 0 < (t384.length : Int) then (if 1 < (t384.length : Int) then (if (rd t384 0) ≤ (rd t384 1) then (if 2 < (t384.length : Int) then (headroomref22_Kernel.j0 k t384 (decide ((rd t384 0) ≤ (rd t384 2)))) else (none)) else (headroomref22_Kernel.j0 k t384 false)) else (none)) else (none))
theorem headroomref22_Kernel.mono_l : ∀ k, (∀ y0 y1, LeO (headroomref22_Kernel.j0 k y0 y1) (headroomref22_Kernel.j0 (k + 1) y0 y1))
  | 0 => fun _ _ r h => by simp [headroomref22_Kernel.j0] at h
  | k + 1 => by
    have ih0 := headroomref22_Kernel.mono_l k
    · intro y0 y1
      unfold headroomref22_Kernel.j0
      repeat' first
      | (with_reducible exact ih0 _ _)
      | (with_reducible exact headroomref22_Losses.mono _ _)
      | (with_reducible exact LeO.refl _)
      | (with_reducible exact LeO.none _)
      | (with_reducible refine LeO.ite ?_ ?_)
      | (with_reducible refine LeO.bind ?_ (fun _ => ?_))
      | exact ih0 _ _
      | exact headroomref22_Losses.mono _ _
      | exact LeO.none _
      | refine LeO.ite ?_ ?_
      | refine LeO.bind ?_ (fun _ => ?_)
theorem headroomref22_Kernel.mono : ∀ a0 k, LeO (headroomref22_Kernel.f k a0) (headroomref22_Kernel.f (k + 1) a0) := by
  intro a0 k
  have ih0 := headroomref22_Kernel.mono_l k
  unfold headroomref22_Kernel.f
  repeat' first
      | (with_reducible exact ih0 _ _)
      | (with_reducible exact headroomref22_Losses.mono _ _)
      | (with_reducible exact LeO.refl _)
      | (with_reducible exact LeO.none _)
      | (with_reducible refine LeO.ite ?_ ?_)
      | (with_reducible refine LeO.bind ?_ (fun _ => ?_))
      | exact ih0 _ _
      | exact headroomref22_Losses.mono _ _
      | exact LeO.none _
      | refine LeO.ite ?_ ?_
      | refine LeO.bind ?_ (fun _ => ?_)
set_option maxHeartbeats 8000000 in
set_option maxRecDepth 100000 in
theorem headroomref22_Kernel.calls (k : Nat) (a0 : Int) (r : Int) (w : World) (h : headroomref22_Kernel.f k a0 = some r) :
    Calls Try.prog 41 #[.int .i64 a0] w fun e w' => e = .returned (.int .i64 r) ∧ Below w.heap.size w w' := by
  have HB := Aside0.mk (Below.refl w.heap.size w)
  have H : ((headroomref22_Losses.f k a0).bind fun t384 => (if 0 < (t384.length : Int) then (if 1 < (t384.length : Int) then (if (rd t384 0) ≤ (rd t384 1) then (if 2 < (t384.length : Int) then (headroomref22_Kernel.j0 k t384 (decide ((rd t384 0) ≤ (rd t384 2)))) else (none)) else (headroomref22_Kernel.j0 k t384 false)) else (none)) else (none))) = some r := h
  clear h
  replace H := Option.bind_eq_some_iff.mp H
  obtain ⟨t384, A20, H⟩ := H
  replace H : (if 0 < (t384.length : Int) then (if 1 < (t384.length : Int) then (if (rd t384 0) ≤ (rd t384 1) then (if 2 < (t384.length : Int) then (headroomref22_Kernel.j0 k t384 (decide ((rd t384 0) ≤ (rd t384 2)))) else (none)) else (headroomref22_Kernel.j0 k t384 false)) else (none)) else (none)) = some r := H
  have A2 := Aside0.mk A20
  clear A20
  have HC3 := Aside0.mk H
  clear H
  go_enter Try.func41, Try.ntmps41
  go_upto_region 2 with (first | (go_at_call 37; (with_reducible refine (headroomref22_Losses.calls k a0 t384 _ A2.out).mono ?_); rintro e w4 ⟨v385, rfl, ho0, hb⟩; have n0_ := Aside0.mk (Kd.R_lower ho0 (below_size (by repeat (first | (with_reducible first | exact HB.out | apply below_alloc | apply pw_below_drewN | apply below_drew1) | exact HB.out)))); have n1_ := Aside0.mk (below_step (by repeat (first | (with_reducible first | exact HB.out | apply below_alloc | apply pw_below_drewN | apply below_drew1) | exact HB.out)) hb); clear HB; have HO386 := n0_; have HB := n1_; clear n0_ n1_; (try clear hb); (try clear hb2); (try clear hk); (try clear hi); (try clear ho0)))
  repeat (go_quiet (first | (go_at_call 37; (with_reducible refine (headroomref22_Losses.calls k a0 t384 _ A2.out).mono ?_); rintro e w4 ⟨v385, rfl, ho0, hb⟩; have n0_ := Aside0.mk (Kd.R_lower ho0 (below_size (by repeat (first | (with_reducible first | exact HB.out | apply below_alloc | apply pw_below_drewN | apply below_drew1) | exact HB.out)))); have n1_ := Aside0.mk (below_step (by repeat (first | (with_reducible first | exact HB.out | apply below_alloc | apply pw_below_drewN | apply below_drew1) | exact HB.out)) hb); clear HB; have HO386 := n0_; have HB := n1_; clear n0_ n1_; (try clear hb); (try clear hb2); (try clear hk); (try clear hi); (try clear ho0))); go_upto_region 2 with (first | (go_at_call 37; (with_reducible refine (headroomref22_Losses.calls k a0 t384 _ A2.out).mono ?_); rintro e w4 ⟨v385, rfl, ho0, hb⟩; have n0_ := Aside0.mk (Kd.R_lower ho0 (below_size (by repeat (first | (with_reducible first | exact HB.out | apply below_alloc | apply pw_below_drewN | apply below_drew1) | exact HB.out)))); have n1_ := Aside0.mk (below_step (by repeat (first | (with_reducible first | exact HB.out | apply below_alloc | apply pw_below_drewN | apply below_drew1) | exact HB.out)) hb); clear HB; have HO386 := n0_; have HB := n1_; clear n0_ n1_; (try clear hb); (try clear hb2); (try clear hk); (try clear hi); (try clear ho0))))
  (try simp only [Act.put, List.setIfInBounds_toArray, List.set_cons_zero, List.set_cons_succ])
  go_cut [21] (fun v21 wc => ∃ (kq : Nat) (x21_2 : Bool), v21 = .bool x21_2 ∧ Aside0 (headroomref22_Kernel.j0 kq t384 x21_2 = some r) ∧ Aside0 (kq ≤ k) ∧ Aside0 (Kd.R (Kd.int .i64) 3 wc w.heap.size (fun _ => True) v385 t384) ∧ Aside0 (Below w.heap.size w wc))
  case first =>
    have H := HC3.out
    clear HC3
    by_cases c5 : 0 < (t384.length : Int)
    · rw [if_pos c5] at H
      have c5b0 : decide (0 < (t384.length : Int)) = true := decide_eq_true c5
      have c5b1 : decide (0 < t384.length) = true := decide_eq_true (by omega)
      clear c5
      (first | rw [c5b0] | (simp only [i64_w, i32_w]; rw [c5b0]) | skip)
      by_cases c6 : 1 < (t384.length : Int)
      · rw [if_pos c6] at H
        have c6b0 : decide (1 < (t384.length : Int)) = true := decide_eq_true c6
        have c6b1 : decide (1 < t384.length) = true := decide_eq_true (by omega)
        clear c6
        by_cases c7 : (rd t384 0) ≤ (rd t384 1)
        · rw [if_pos c7] at H
          have c7b0 : decide ((rd t384 0) ≤ (rd t384 1)) = true := decide_eq_true c7
          clear c7
          by_cases c8 : 2 < (t384.length : Int)
          · rw [if_pos c8] at H
            have c8b0 : decide (2 < (t384.length : Int)) = true := decide_eq_true c8
            have c8b1 : decide (2 < t384.length) = true := decide_eq_true (by omega)
            clear c8
            have H' := Aside0.mk H
            clear H
            obtain ⟨Ao9, co9, eo9⟩ := Kd.R_slice HO386.out
            subst eo9
            have p387 : 0 ≤ (0 : Int) := (by omega)
            have q387 : 0 < (t384.length : Int) := of_decide_eq_true (by first | (with_reducible assumption) | assumption)
            obtain ⟨ad387, e387, hx387_0⟩ := Kd.at_int (Kd.R_reads' HO386.out).2.2 0 p387 q387
            cases e387
            have qi387 : (0 < t384.length) = True := eq_true (by omega)
            (try rw [show ((0 : Int)).toNat = 0 from rfl] at hx387_0)
            (try rw [Addr.add_zero'] at hx387_0)
            replace p387 := eq_true p387
            replace q387 := eq_true q387
            have p388 : 0 ≤ (1 : Int) := (by omega)
            have q388 : 1 < (t384.length : Int) := of_decide_eq_true (by first | (with_reducible assumption) | assumption)
            obtain ⟨ad388, e388, hx388_0⟩ := Kd.at_int (Kd.R_reads' HO386.out).2.2 1 p388 q388
            obtain rfl : ad387 = ad388 := (by injection e388)
            (try simp only [show (1 : Int).toNat = 1 from rfl, Nat.reduceMul, Nat.reduceEqDiff, Go.Addr.add, ↓reduceIte] at hx388_0)
            have qi388 : (1 < t384.length) = True := eq_true (by omega)
            (try rw [show ((1 : Int)).toNat = 1 from rfl] at hx388_0)
            replace p388 := eq_true p388
            replace q388 := eq_true q388
            have p389 : 0 ≤ (0 : Int) := (by omega)
            have q389 : 0 < (t384.length : Int) := of_decide_eq_true (by first | (with_reducible assumption) | assumption)
            obtain ⟨ad389, e389, hx389_0⟩ := Kd.at_int (Kd.R_reads' HO386.out).2.2 0 p389 q389
            obtain rfl : ad387 = ad389 := (by injection e389)
            have qi389 : (0 < t384.length) = True := eq_true (by omega)
            (try rw [show ((0 : Int)).toNat = 0 from rfl] at hx389_0)
            (try rw [Addr.add_zero'] at hx389_0)
            replace p389 := eq_true p389
            replace q389 := eq_true q389
            have p390 : 0 ≤ (2 : Int) := (by omega)
            have q390 : 2 < (t384.length : Int) := of_decide_eq_true (by first | (with_reducible assumption) | assumption)
            obtain ⟨ad390, e390, hx390_0⟩ := Kd.at_int (Kd.R_reads' HO386.out).2.2 2 p390 q390
            obtain rfl : ad387 = ad390 := (by injection e390)
            (try simp only [show (2 : Int).toNat = 2 from rfl, Nat.reduceMul, Nat.reduceEqDiff, Go.Addr.add, ↓reduceIte] at hx390_0)
            have qi390 : (2 < t384.length) = True := eq_true (by omega)
            (try rw [show ((2 : Int)).toNat = 2 from rfl] at hx390_0)
            replace p390 := eq_true p390
            replace q390 := eq_true q390
            go_wp2
            repeat (go_quiet (fail); try go_wp2)
            go_meet
            case rel => exact ⟨_, (decide ((rd t384 0) ≤ (rd t384 2))), (by first | rfl | (simp; done) | (simp [*]; done)), H', ⟨by first | omega | exact Nat.le_refl _⟩, ⟨by (with_reducible repeat (first | apply Kd.R_alloc | apply Kd.R_drewN | apply Kd.R_drew)); exact HO386.out⟩, ⟨by repeat (first | (with_reducible first | exact HB.out | apply below_alloc | apply pw_below_drewN | apply below_drew1) | exact HB.out)⟩⟩
          · rw [if_neg c8] at H
            exact absurd H (by simp)
        · rw [if_neg c7] at H
          have c7b0 : decide ((rd t384 0) ≤ (rd t384 1)) = false := decide_eq_false c7
          clear c7
          have H' := Aside0.mk H
          clear H
          obtain ⟨Ao10, co10, eo10⟩ := Kd.R_slice HO386.out
          subst eo10
          have p387 : 0 ≤ (0 : Int) := (by omega)
          have q387 : 0 < (t384.length : Int) := of_decide_eq_true (by first | (with_reducible assumption) | assumption)
          obtain ⟨ad387, e387, hx387_0⟩ := Kd.at_int (Kd.R_reads' HO386.out).2.2 0 p387 q387
          cases e387
          have qi387 : (0 < t384.length) = True := eq_true (by omega)
          (try rw [show ((0 : Int)).toNat = 0 from rfl] at hx387_0)
          (try rw [Addr.add_zero'] at hx387_0)
          replace p387 := eq_true p387
          replace q387 := eq_true q387
          have p388 : 0 ≤ (1 : Int) := (by omega)
          have q388 : 1 < (t384.length : Int) := of_decide_eq_true (by first | (with_reducible assumption) | assumption)
          obtain ⟨ad388, e388, hx388_0⟩ := Kd.at_int (Kd.R_reads' HO386.out).2.2 1 p388 q388
          obtain rfl : ad387 = ad388 := (by injection e388)
          (try simp only [show (1 : Int).toNat = 1 from rfl, Nat.reduceMul, Nat.reduceEqDiff, Go.Addr.add, ↓reduceIte] at hx388_0)
          have qi388 : (1 < t384.length) = True := eq_true (by omega)
          (try rw [show ((1 : Int)).toNat = 1 from rfl] at hx388_0)
          replace p388 := eq_true p388
          replace q388 := eq_true q388
          go_wp2
          repeat (go_quiet (fail); try go_wp2)
          go_meet
          case rel => exact ⟨_, (false), (by first | rfl | (simp; done) | (simp [*]; done)), H', ⟨by first | omega | exact Nat.le_refl _⟩, ⟨by (with_reducible repeat (first | apply Kd.R_alloc | apply Kd.R_drewN | apply Kd.R_drew)); exact HO386.out⟩, ⟨by repeat (first | (with_reducible first | exact HB.out | apply below_alloc | apply pw_below_drewN | apply below_drew1) | exact HB.out)⟩⟩
      · rw [if_neg c6] at H
        exact absurd H (by simp)
    · rw [if_neg c5] at H
      exact absurd H (by simp)
  case rest =>
    clear HC3
    try clear p2
    try clear p3
    try clear q3
    try clear hx3
    try clear qi3
    try clear c4
    try clear c5
    try clear c5b0
    try clear c5b1
    try clear c6
    try clear c6b0
    try clear c6b1
    try clear c7
    try clear c7b0
    try clear c8
    try clear c8b0
    try clear c8b1
    try clear hx387_0
    try clear hx388_0
    try clear hx389_0
    try clear hx390_0
    try clear p387
    try clear p388
    try clear p389
    try clear p390
    try clear q387
    try clear q388
    try clear q389
    try clear q390
    obtain ⟨kq, x21_2, rfl, HA, HJ2, HO_3, HB⟩ := hcut
    cases kq with
    | zero => exact absurd HA.out (by simp [headroomref22_Kernel.j0])
    | succ kj2 =>
      have H := HA.out
      clear HA
      simp only [headroomref22_Kernel.j0] at H
      by_cases c11 : x21_2 = true
      · subst c11
        have H1 : (some 0) = some r := by rw [if_pos rfl] at H; exact H
        clear H
        have H := H1
        clear H1
        obtain rfl := Option.some.inj H
        go_wp2
        repeat (go_quiet (fail); try go_wp2)
        go_ret
        exact ⟨by first | rfl | (simp [errW_none, errW_some] <;> rfl) | (simp [*, errW_none, errW_some] <;> rfl), by repeat (first | (with_reducible first | exact HB.out | apply below_alloc | apply pw_below_drewN | apply below_drew1) | exact HB.out)⟩
      · replace c11 := Bool.eq_false_iff.mpr c11
        subst c11
        have H1 : (if 1 < (t384.length : Int) then (if 2 < (t384.length : Int) then (if (rd t384 1) ≤ (rd t384 2) then (some 1) else (some 2)) else (none)) else (none)) = some r := by rw [if_neg (show ¬ (false = true) by decide)] at H; exact H
        clear H
        have H := H1
        clear H1
        by_cases c12 : 1 < (t384.length : Int)
        · rw [if_pos c12] at H
          have c12b0 : decide (1 < (t384.length : Int)) = true := decide_eq_true c12
          have c12b1 : decide (1 < t384.length) = true := decide_eq_true (by omega)
          clear c12
          by_cases c13 : 2 < (t384.length : Int)
          · rw [if_pos c13] at H
            have c13b0 : decide (2 < (t384.length : Int)) = true := decide_eq_true c13
            have c13b1 : decide (2 < t384.length) = true := decide_eq_true (by omega)
            clear c13
            by_cases c14 : (rd t384 1) ≤ (rd t384 2)
            · rw [if_pos c14] at H
              have c14b0 : decide ((rd t384 1) ≤ (rd t384 2)) = true := decide_eq_true c14
              clear c14
              obtain rfl := Option.some.inj H
              obtain ⟨Ao15, co15, eo15⟩ := Kd.R_slice HO_3.out
              subst eo15
              have p391 : 0 ≤ (1 : Int) := (by omega)
              have q391 : 1 < (t384.length : Int) := of_decide_eq_true (by first | (with_reducible assumption) | assumption)
              obtain ⟨ad391, e391, hx391_0⟩ := Kd.at_int (Kd.R_reads' HO_3.out).2.2 1 p391 q391
              cases e391
              (try simp only [show (1 : Int).toNat = 1 from rfl, Nat.reduceMul, Nat.reduceEqDiff, Go.Addr.add, ↓reduceIte] at hx391_0)
              have qi391 : (1 < t384.length) = True := eq_true (by omega)
              (try rw [show ((1 : Int)).toNat = 1 from rfl] at hx391_0)
              replace p391 := eq_true p391
              replace q391 := eq_true q391
              have p392 : 0 ≤ (2 : Int) := (by omega)
              have q392 : 2 < (t384.length : Int) := of_decide_eq_true (by first | (with_reducible assumption) | assumption)
              obtain ⟨ad392, e392, hx392_0⟩ := Kd.at_int (Kd.R_reads' HO_3.out).2.2 2 p392 q392
              obtain rfl : ad391 = ad392 := (by injection e392)
              (try simp only [show (2 : Int).toNat = 2 from rfl, Nat.reduceMul, Nat.reduceEqDiff, Go.Addr.add, ↓reduceIte] at hx392_0)
              have qi392 : (2 < t384.length) = True := eq_true (by omega)
              (try rw [show ((2 : Int)).toNat = 2 from rfl] at hx392_0)
              replace p392 := eq_true p392
              replace q392 := eq_true q392
              go_wp2
              repeat (go_quiet (fail); try go_wp2)
              go_ret
              exact ⟨by first | rfl | (simp [errW_none, errW_some] <;> rfl) | (simp [*, errW_none, errW_some] <;> rfl), by repeat (first | (with_reducible first | exact HB.out | apply below_alloc | apply pw_below_drewN | apply below_drew1) | exact HB.out)⟩
            · rw [if_neg c14] at H
              have c14b0 : decide ((rd t384 1) ≤ (rd t384 2)) = false := decide_eq_false c14
              clear c14
              obtain rfl := Option.some.inj H
              obtain ⟨Ao16, co16, eo16⟩ := Kd.R_slice HO_3.out
              subst eo16
              have p391 : 0 ≤ (1 : Int) := (by omega)
              have q391 : 1 < (t384.length : Int) := of_decide_eq_true (by first | (with_reducible assumption) | assumption)
              obtain ⟨ad391, e391, hx391_0⟩ := Kd.at_int (Kd.R_reads' HO_3.out).2.2 1 p391 q391
              cases e391
              (try simp only [show (1 : Int).toNat = 1 from rfl, Nat.reduceMul, Nat.reduceEqDiff, Go.Addr.add, ↓reduceIte] at hx391_0)
              have qi391 : (1 < t384.length) = True := eq_true (by omega)
              (try rw [show ((1 : Int)).toNat = 1 from rfl] at hx391_0)
              replace p391 := eq_true p391
              replace q391 := eq_true q391
              have p392 : 0 ≤ (2 : Int) := (by omega)
              have q392 : 2 < (t384.length : Int) := of_decide_eq_true (by first | (with_reducible assumption) | assumption)
              obtain ⟨ad392, e392, hx392_0⟩ := Kd.at_int (Kd.R_reads' HO_3.out).2.2 2 p392 q392
              obtain rfl : ad391 = ad392 := (by injection e392)
              (try simp only [show (2 : Int).toNat = 2 from rfl, Nat.reduceMul, Nat.reduceEqDiff, Go.Addr.add, ↓reduceIte] at hx392_0)
              have qi392 : (2 < t384.length) = True := eq_true (by omega)
              (try rw [show ((2 : Int)).toNat = 2 from rfl] at hx392_0)
              replace p392 := eq_true p392
              replace q392 := eq_true q392
              go_wp2
              repeat (go_quiet (fail); try go_wp2)
              go_ret
              exact ⟨by first | rfl | (simp [errW_none, errW_some] <;> rfl) | (simp [*, errW_none, errW_some] <;> rfl), by repeat (first | (with_reducible first | exact HB.out | apply below_alloc | apply pw_below_drewN | apply below_drew1) | exact HB.out)⟩
          · rw [if_neg c13] at H
            exact absurd H (by simp)
        · rw [if_neg c12] at H
          exact absurd H (by simp)

end Go.Proofs.Ytbpanbmjkfhcgaa.P
