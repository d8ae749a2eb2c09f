-- Printed for this claim by drive.py (a program of this session's) through the kit's print program; not trusted: Lean checks it.
import Derived.Test.YtbpanbmjkfhcgaaP0
namespace Go.Proofs.Ytbpanbmjkfhcgaa.P
open Go.RowKit Go.Proofs.YtbpanbmjkfhcgaaW.PrintWords Go.Proofs.YtbpanbmjkfhcgaaW.PrintLast Go.Proofs.YtbpanbmjkfhcgaaW.PrintMore
attribute [local go_sem] max2_int min2_int max_two min_two max_three min_three max_four min_four   -- for this text's walks alone
set_option linter.unusedVariables false
set_option linter.unusedSimpArgs false

/-! ### headroomref14_Top: function 51 -/
def headroomref14_Top.j0 : Nat → Bool → Int → Int → Int → Int → Int → Bool → Option (Int)
  | 0, _, _, _, _, _, _, _ => none
  | k + 1, x23, x268000, x268001, x268002, x268003, x268004, x268005 => if x23 = true then (some 2) else (if x268003 = 1 then (some 3) else (some 1))
def headroomref14_Top.f (k : Nat) (a0_0 : Int) (a0_1 : Int) (a0_2 : Int) (a0_3 : Int) (a0_4 : Int) (a0_5 : Bool) (a1 : Int) : Option (Int) := if a0_3 = 2 then (some 0) else (if a0_3 = 1 then (if a1 = 2 then (headroomref14_Top.j0 k true a0_0 a0_1 a0_2 a0_3 a0_4 a0_5) else (if a0_3 = 0 then (headroomref14_Top.j0 k (a1 == 4) a0_0 a0_1 a0_2 a0_3 a0_4 a0_5) else (headroomref14_Top.j0 k false a0_0 a0_1 a0_2 a0_3 a0_4 a0_5))) else (if a0_3 = 0 then (headroomref14_Top.j0 k (a1 == 4) a0_0 a0_1 a0_2 a0_3 a0_4 a0_5) else (headroomref14_Top.j0 k false a0_0 a0_1 a0_2 a0_3 a0_4 a0_5)))
theorem headroomref14_Top.mono_l : ∀ k, (∀ y0 y1 y2 y3 y4 y5 y6, LeO (headroomref14_Top.j0 k y0 y1 y2 y3 y4 y5 y6) (headroomref14_Top.j0 (k + 1) y0 y1 y2 y3 y4 y5 y6))
  | 0 => fun _ _ _ _ _ _ _ r h => by simp [headroomref14_Top.j0] at h
  | k + 1 => by
    have ih0 := headroomref14_Top.mono_l k
    · intro y0 y1 y2 y3 y4 y5 y6
      unfold headroomref14_Top.j0
      repeat' first
      | (with_reducible exact ih0 _ _ _ _ _ _ _)
      | (with_reducible exact LeO.refl _)
      | (with_reducible exact LeO.none _)
      | (with_reducible refine LeO.ite ?_ ?_)
      | (with_reducible refine LeO.bind ?_ (fun _ => ?_))
      | exact ih0 _ _ _ _ _ _ _
      | exact LeO.none _
      | refine LeO.ite ?_ ?_
      | refine LeO.bind ?_ (fun _ => ?_)
theorem headroomref14_Top.mono : ∀ a0 a1 a2 a3 a4 a5 a6 k, LeO (headroomref14_Top.f k a0 a1 a2 a3 a4 a5 a6) (headroomref14_Top.f (k + 1) a0 a1 a2 a3 a4 a5 a6) := by
  intro a0 a1 a2 a3 a4 a5 a6 k
  have ih0 := headroomref14_Top.mono_l k
  unfold headroomref14_Top.f
  repeat' first
      | (with_reducible exact ih0 _ _ _ _ _ _ _)
      | (with_reducible exact LeO.refl _)
      | (with_reducible exact LeO.none _)
      | (with_reducible refine LeO.ite ?_ ?_)
      | (with_reducible refine LeO.bind ?_ (fun _ => ?_))
      | exact ih0 _ _ _ _ _ _ _
      | exact LeO.none _
      | refine LeO.ite ?_ ?_
      | refine LeO.bind ?_ (fun _ => ?_)
set_option maxHeartbeats 8000000 in
set_option maxRecDepth 100000 in
theorem headroomref14_Top.calls (k : Nat) (a0_0 : Int) (a0_1 : Int) (a0_2 : Int) (a0_3 : Int) (a0_4 : Int) (a0_5 : Bool) (a1 : Int) (r : Int) (w : World) (h : headroomref14_Top.f k a0_0 a0_1 a0_2 a0_3 a0_4 a0_5 a1 = some r) :
    Calls Try.prog 51 #[.agg #[.int .i64 a0_0, .int .i64 a0_1, .int .i64 a0_2, .int .i64 a0_3, .int .i64 a0_4, .bool a0_5], .int .i64 a1] w fun e w' => e = .returned (.int .i64 r) ∧ Below w.heap.size w w' := by
  have hu23 := Try.underlying23
  have HB := Aside0.mk (Below.refl w.heap.size w)
  have H : (if a0_3 = 2 then (some 0) else (if a0_3 = 1 then (if a1 = 2 then (headroomref14_Top.j0 k true a0_0 a0_1 a0_2 a0_3 a0_4 a0_5) else (if a0_3 = 0 then (headroomref14_Top.j0 k (a1 == 4) a0_0 a0_1 a0_2 a0_3 a0_4 a0_5) else (headroomref14_Top.j0 k false a0_0 a0_1 a0_2 a0_3 a0_4 a0_5))) else (if a0_3 = 0 then (headroomref14_Top.j0 k (a1 == 4) a0_0 a0_1 a0_2 a0_3 a0_4 a0_5) else (headroomref14_Top.j0 k false a0_0 a0_1 a0_2 a0_3 a0_4 a0_5)))) = some r := h
  clear h
  by_cases c3 : a0_3 = 2
  · rw [if_pos c3] at H
    have c3b0 : (a0_3 == 2) = true := beq_iff_eq.mpr c3
    have c3b1 : (a0_3 != 2) = false := bne_eq_false_iff_eq.mpr c3
    clear c3
    obtain rfl := Option.some.inj H
    go_enter Try.func51, Try.ntmps51
    go_wp2_with (first | ((with_reducible refine gate_dst (N := 2) rfl ?_); refine box_event ?hg (N := 2) ?hd (cs := #[.int .i64 a0_0, .int .i64 a0_1, .int .i64 a0_2, .int .i64 a0_3, .int .i64 a0_4, .bool a0_5]) (t := 23) ?hr ?_; (case hd => rfl); (case hg => rfl); (case hr => first | (go_simp; done) | (go_simp; rfl)); intro gb267 hg w4 hbox hb; have n0_ := Aside0.mk (below_step (by repeat (first | (with_reducible first | exact HB.out | apply below_alloc | apply pw_below_drewN | apply below_drew1) | exact HB.out)) hb); have n1_ := Aside0.mk (hbox); have n2_ := Aside0.mk ((by rw [hg]; exact (below_size (by repeat (first | (with_reducible first | exact HB.out | apply below_alloc | apply pw_below_drewN | apply below_drew1) | exact HB.out))) : w.heap.size ≤ gb267)); have n3_ := Aside0.mk ((by rw [hg]; exact (below_size (by repeat (first | (with_reducible first | exact HB.out | apply below_alloc | apply pw_below_drewN | apply below_drew1) | exact HB.out))) : w.heap.size ≤ gb267)); clear HB; have HB := n0_; have BK267 := n1_; have GW267 := n2_; have GE267 := n3_; clear n0_ n1_ n2_ n3_; clear hb hbox hg; have hcz5_0 : w4.cell? ⟨gb267, 0, none⟩ = some (.int .i64 a0_0) := (blk_cell BK267.out 0).trans rfl; have hcz5_1 : w4.cell? ⟨gb267, 1, none⟩ = some (.int .i64 a0_1) := (blk_cell BK267.out 1).trans rfl; have hcz5_2 : w4.cell? ⟨gb267, 2, none⟩ = some (.int .i64 a0_2) := (blk_cell BK267.out 2).trans rfl; have hcz5_3 : w4.cell? ⟨gb267, 3, none⟩ = some (.int .i64 a0_3) := (blk_cell BK267.out 3).trans rfl; have hcz5_4 : w4.cell? ⟨gb267, 4, none⟩ = some (.int .i64 a0_4) := (blk_cell BK267.out 4).trans rfl; have hcz5_5 : w4.cell? ⟨gb267, 5, none⟩ = some (.bool a0_5) := (blk_cell BK267.out 5).trans rfl; have hfz5_0 := blk_frozen BK267.out 0; have hfz5_1 := blk_frozen BK267.out 1; have hfz5_2 := blk_frozen BK267.out 2; have hfz5_3 := blk_frozen BK267.out 3; have hfz5_4 := blk_frozen BK267.out 4; have hfz5_5 := blk_frozen BK267.out 5))
    go_ret
    exact ⟨by first | rfl | (simp [errW_none, errW_some] <;> rfl) | (simp [*, errW_none, errW_some] <;> rfl), by repeat (first | (with_reducible first | exact HB.out | apply below_alloc | apply pw_below_drewN | apply below_drew1 | refine below_set ?_ GE267.out) | exact HB.out)⟩
  · rw [if_neg c3] at H
    have c3b0 : (a0_3 == 2) = false := beq_eq_false_iff_ne.mpr c3
    have c3b1 : (a0_3 != 2) = true := bne_iff_ne.mpr c3
    have HC6 := Aside0.mk H
    clear H
    go_enter Try.func51, Try.ntmps51
    go_upto_region 3 with (first | ((with_reducible refine gate_dst (N := 2) rfl ?_); refine box_event ?hg (N := 2) ?hd (cs := #[.int .i64 a0_0, .int .i64 a0_1, .int .i64 a0_2, .int .i64 a0_3, .int .i64 a0_4, .bool a0_5]) (t := 23) ?hr ?_; (case hd => rfl); (case hg => rfl); (case hr => first | (go_simp; done) | (go_simp; rfl)); intro gb267 hg w7 hbox hb; have n0_ := Aside0.mk (below_step (by repeat (first | (with_reducible first | exact HB.out | apply below_alloc | apply pw_below_drewN | apply below_drew1) | exact HB.out)) hb); have n1_ := Aside0.mk (hbox); have n2_ := Aside0.mk ((by rw [hg]; exact (below_size (by repeat (first | (with_reducible first | exact HB.out | apply below_alloc | apply pw_below_drewN | apply below_drew1) | exact HB.out))) : w.heap.size ≤ gb267)); have n3_ := Aside0.mk ((by rw [hg]; exact (below_size (by repeat (first | (with_reducible first | exact HB.out | apply below_alloc | apply pw_below_drewN | apply below_drew1) | exact HB.out))) : w.heap.size ≤ gb267)); clear HB; have HB := n0_; have BK267 := n1_; have GW267 := n2_; have GE267 := n3_; clear n0_ n1_ n2_ n3_; clear hb hbox hg; have hcz8_0 : w7.cell? ⟨gb267, 0, none⟩ = some (.int .i64 a0_0) := (blk_cell BK267.out 0).trans rfl; have hcz8_1 : w7.cell? ⟨gb267, 1, none⟩ = some (.int .i64 a0_1) := (blk_cell BK267.out 1).trans rfl; have hcz8_2 : w7.cell? ⟨gb267, 2, none⟩ = some (.int .i64 a0_2) := (blk_cell BK267.out 2).trans rfl; have hcz8_3 : w7.cell? ⟨gb267, 3, none⟩ = some (.int .i64 a0_3) := (blk_cell BK267.out 3).trans rfl; have hcz8_4 : w7.cell? ⟨gb267, 4, none⟩ = some (.int .i64 a0_4) := (blk_cell BK267.out 4).trans rfl; have hcz8_5 : w7.cell? ⟨gb267, 5, none⟩ = some (.bool a0_5) := (blk_cell BK267.out 5).trans rfl; have hfz8_0 := blk_frozen BK267.out 0; have hfz8_1 := blk_frozen BK267.out 1; have hfz8_2 := blk_frozen BK267.out 2; have hfz8_3 := blk_frozen BK267.out 3; have hfz8_4 := blk_frozen BK267.out 4; have hfz8_5 := blk_frozen BK267.out 5))
    (try simp only [Act.put, List.setIfInBounds_toArray, List.set_cons_zero, List.set_cons_succ])
    go_cut [23] (fun v23 wc => ∃ (kq : Nat) (x23_5 : Bool), v23 = .bool x23_5 ∧ Aside0 (headroomref14_Top.j0 kq x23_5 a0_0 a0_1 a0_2 a0_3 a0_4 a0_5 = some r) ∧ Aside0 (kq ≤ k) ∧ Aside0 (wc.heap[gb267]? = some (.cells #[.int .i64 a0_0, .int .i64 a0_1, .int .i64 a0_2, .int .i64 a0_3, .int .i64 a0_4, .bool a0_5] 23 (0, 0))) ∧ Aside0 (Below w.heap.size w wc))
    case first =>
      have H := HC6.out
      clear HC6
      by_cases c9 : a0_3 = 1
      · rw [if_pos c9] at H
        have c9b0 : (a0_3 == 1) = true := beq_iff_eq.mpr c9
        have c9b1 : (a0_3 != 1) = false := bne_eq_false_iff_eq.mpr c9
        clear c9
        (first | rw [c9b0] | (simp only [i64_w, i32_w]; rw [c9b0]) | skip)
        by_cases c10 : a1 = 2
        · rw [if_pos c10] at H
          have c10b0 : (a1 == 2) = true := beq_iff_eq.mpr c10
          have c10b1 : (a1 != 2) = false := bne_eq_false_iff_eq.mpr c10
          clear c10
          have H' := Aside0.mk H
          clear H
          have hcz11_0 : w7.cell? ⟨gb267, 0, none⟩ = some (.int .i64 a0_0) := (blk_cell BK267.out 0).trans rfl
          have hcz11_1 : w7.cell? ⟨gb267, 1, none⟩ = some (.int .i64 a0_1) := (blk_cell BK267.out 1).trans rfl
          have hcz11_2 : w7.cell? ⟨gb267, 2, none⟩ = some (.int .i64 a0_2) := (blk_cell BK267.out 2).trans rfl
          have hcz11_3 : w7.cell? ⟨gb267, 3, none⟩ = some (.int .i64 a0_3) := (blk_cell BK267.out 3).trans rfl
          have hcz11_4 : w7.cell? ⟨gb267, 4, none⟩ = some (.int .i64 a0_4) := (blk_cell BK267.out 4).trans rfl
          have hcz11_5 : w7.cell? ⟨gb267, 5, none⟩ = some (.bool a0_5) := (blk_cell BK267.out 5).trans rfl
          have hfz11_0 := blk_frozen BK267.out 0
          have hfz11_1 := blk_frozen BK267.out 1
          have hfz11_2 := blk_frozen BK267.out 2
          have hfz11_3 := blk_frozen BK267.out 3
          have hfz11_4 := blk_frozen BK267.out 4
          have hfz11_5 := blk_frozen BK267.out 5
          go_wp2
          go_meet
          case rel => exact ⟨_, (true), (by first | rfl | (simp; done) | (simp [*]; done)), H', ⟨by first | omega | exact Nat.le_refl _⟩, ⟨by (with_reducible repeat (first | refine blk_drewN ?_ _ | refine blk_drew ?_ | refine blk_alloc ?_ _)); exact BK267.out⟩, ⟨by repeat (first | (with_reducible first | exact HB.out | apply below_alloc | apply pw_below_drewN | apply below_drew1 | refine below_set ?_ GE267.out) | exact HB.out)⟩⟩
        · rw [if_neg c10] at H
          have c10b0 : (a1 == 2) = false := beq_eq_false_iff_ne.mpr c10
          have c10b1 : (a1 != 2) = true := bne_iff_ne.mpr c10
          by_cases c12 : a0_3 = 0
          · rw [if_pos c12] at H
            have c12b0 : (a0_3 == 0) = true := beq_iff_eq.mpr c12
            have c12b1 : (a0_3 != 0) = false := bne_eq_false_iff_eq.mpr c12
            clear c12
            have H' := Aside0.mk H
            clear H
            have hcz13_0 : w7.cell? ⟨gb267, 0, none⟩ = some (.int .i64 a0_0) := (blk_cell BK267.out 0).trans rfl
            have hcz13_1 : w7.cell? ⟨gb267, 1, none⟩ = some (.int .i64 a0_1) := (blk_cell BK267.out 1).trans rfl
            have hcz13_2 : w7.cell? ⟨gb267, 2, none⟩ = some (.int .i64 a0_2) := (blk_cell BK267.out 2).trans rfl
            have hcz13_3 : w7.cell? ⟨gb267, 3, none⟩ = some (.int .i64 a0_3) := (blk_cell BK267.out 3).trans rfl
            have hcz13_4 : w7.cell? ⟨gb267, 4, none⟩ = some (.int .i64 a0_4) := (blk_cell BK267.out 4).trans rfl
            have hcz13_5 : w7.cell? ⟨gb267, 5, none⟩ = some (.bool a0_5) := (blk_cell BK267.out 5).trans rfl
            have hfz13_0 := blk_frozen BK267.out 0
            have hfz13_1 := blk_frozen BK267.out 1
            have hfz13_2 := blk_frozen BK267.out 2
            have hfz13_3 := blk_frozen BK267.out 3
            have hfz13_4 := blk_frozen BK267.out 4
            have hfz13_5 := blk_frozen BK267.out 5
            go_wp2
            go_meet
            case rel => exact ⟨_, ((a1 == 4)), (by first | rfl | (simp; done) | (simp [*]; done)), H', ⟨by first | omega | exact Nat.le_refl _⟩, ⟨by (with_reducible repeat (first | refine blk_drewN ?_ _ | refine blk_drew ?_ | refine blk_alloc ?_ _)); exact BK267.out⟩, ⟨by repeat (first | (with_reducible first | exact HB.out | apply below_alloc | apply pw_below_drewN | apply below_drew1 | refine below_set ?_ GE267.out) | exact HB.out)⟩⟩
          · rw [if_neg c12] at H
            have c12b0 : (a0_3 == 0) = false := beq_eq_false_iff_ne.mpr c12
            have c12b1 : (a0_3 != 0) = true := bne_iff_ne.mpr c12
            have H' := Aside0.mk H
            clear H
            have hcz14_0 : w7.cell? ⟨gb267, 0, none⟩ = some (.int .i64 a0_0) := (blk_cell BK267.out 0).trans rfl
            have hcz14_1 : w7.cell? ⟨gb267, 1, none⟩ = some (.int .i64 a0_1) := (blk_cell BK267.out 1).trans rfl
            have hcz14_2 : w7.cell? ⟨gb267, 2, none⟩ = some (.int .i64 a0_2) := (blk_cell BK267.out 2).trans rfl
            have hcz14_3 : w7.cell? ⟨gb267, 3, none⟩ = some (.int .i64 a0_3) := (blk_cell BK267.out 3).trans rfl
            have hcz14_4 : w7.cell? ⟨gb267, 4, none⟩ = some (.int .i64 a0_4) := (blk_cell BK267.out 4).trans rfl
            have hcz14_5 : w7.cell? ⟨gb267, 5, none⟩ = some (.bool a0_5) := (blk_cell BK267.out 5).trans rfl
            have hfz14_0 := blk_frozen BK267.out 0
            have hfz14_1 := blk_frozen BK267.out 1
            have hfz14_2 := blk_frozen BK267.out 2
            have hfz14_3 := blk_frozen BK267.out 3
            have hfz14_4 := blk_frozen BK267.out 4
            have hfz14_5 := blk_frozen BK267.out 5
            go_wp2
            go_meet
            case rel => exact ⟨_, (false), (by first | rfl | (simp; done) | (simp [*]; done)), H', ⟨by first | omega | exact Nat.le_refl _⟩, ⟨by (with_reducible repeat (first | refine blk_drewN ?_ _ | refine blk_drew ?_ | refine blk_alloc ?_ _)); exact BK267.out⟩, ⟨by repeat (first | (with_reducible first | exact HB.out | apply below_alloc | apply pw_below_drewN | apply below_drew1 | refine below_set ?_ GE267.out) | exact HB.out)⟩⟩
      · rw [if_neg c9] at H
        have c9b0 : (a0_3 == 1) = false := beq_eq_false_iff_ne.mpr c9
        have c9b1 : (a0_3 != 1) = true := bne_iff_ne.mpr c9
        (first | rw [c9b0] | (simp only [i64_w, i32_w]; rw [c9b0]) | skip)
        by_cases c15 : a0_3 = 0
        · rw [if_pos c15] at H
          have c15b0 : (a0_3 == 0) = true := beq_iff_eq.mpr c15
          have c15b1 : (a0_3 != 0) = false := bne_eq_false_iff_eq.mpr c15
          clear c15
          have H' := Aside0.mk H
          clear H
          have hcz16_0 : w7.cell? ⟨gb267, 0, none⟩ = some (.int .i64 a0_0) := (blk_cell BK267.out 0).trans rfl
          have hcz16_1 : w7.cell? ⟨gb267, 1, none⟩ = some (.int .i64 a0_1) := (blk_cell BK267.out 1).trans rfl
          have hcz16_2 : w7.cell? ⟨gb267, 2, none⟩ = some (.int .i64 a0_2) := (blk_cell BK267.out 2).trans rfl
          have hcz16_3 : w7.cell? ⟨gb267, 3, none⟩ = some (.int .i64 a0_3) := (blk_cell BK267.out 3).trans rfl
          have hcz16_4 : w7.cell? ⟨gb267, 4, none⟩ = some (.int .i64 a0_4) := (blk_cell BK267.out 4).trans rfl
          have hcz16_5 : w7.cell? ⟨gb267, 5, none⟩ = some (.bool a0_5) := (blk_cell BK267.out 5).trans rfl
          have hfz16_0 := blk_frozen BK267.out 0
          have hfz16_1 := blk_frozen BK267.out 1
          have hfz16_2 := blk_frozen BK267.out 2
          have hfz16_3 := blk_frozen BK267.out 3
          have hfz16_4 := blk_frozen BK267.out 4
          have hfz16_5 := blk_frozen BK267.out 5
          go_wp2
          go_meet
          case rel => exact ⟨_, ((a1 == 4)), (by first | rfl | (simp; done) | (simp [*]; done)), H', ⟨by first | omega | exact Nat.le_refl _⟩, ⟨by (with_reducible repeat (first | refine blk_drewN ?_ _ | refine blk_drew ?_ | refine blk_alloc ?_ _)); exact BK267.out⟩, ⟨by repeat (first | (with_reducible first | exact HB.out | apply below_alloc | apply pw_below_drewN | apply below_drew1 | refine below_set ?_ GE267.out) | exact HB.out)⟩⟩
        · rw [if_neg c15] at H
          have c15b0 : (a0_3 == 0) = false := beq_eq_false_iff_ne.mpr c15
          have c15b1 : (a0_3 != 0) = true := bne_iff_ne.mpr c15
          have H' := Aside0.mk H
          clear H
          have hcz17_0 : w7.cell? ⟨gb267, 0, none⟩ = some (.int .i64 a0_0) := (blk_cell BK267.out 0).trans rfl
          have hcz17_1 : w7.cell? ⟨gb267, 1, none⟩ = some (.int .i64 a0_1) := (blk_cell BK267.out 1).trans rfl
          have hcz17_2 : w7.cell? ⟨gb267, 2, none⟩ = some (.int .i64 a0_2) := (blk_cell BK267.out 2).trans rfl
          have hcz17_3 : w7.cell? ⟨gb267, 3, none⟩ = some (.int .i64 a0_3) := (blk_cell BK267.out 3).trans rfl
          have hcz17_4 : w7.cell? ⟨gb267, 4, none⟩ = some (.int .i64 a0_4) := (blk_cell BK267.out 4).trans rfl
          have hcz17_5 : w7.cell? ⟨gb267, 5, none⟩ = some (.bool a0_5) := (blk_cell BK267.out 5).trans rfl
          have hfz17_0 := blk_frozen BK267.out 0
          have hfz17_1 := blk_frozen BK267.out 1
          have hfz17_2 := blk_frozen BK267.out 2
          have hfz17_3 := blk_frozen BK267.out 3
          have hfz17_4 := blk_frozen BK267.out 4
          have hfz17_5 := blk_frozen BK267.out 5
          go_wp2
          go_meet
          case rel => exact ⟨_, (false), (by first | rfl | (simp; done) | (simp [*]; done)), H', ⟨by first | omega | exact Nat.le_refl _⟩, ⟨by (with_reducible repeat (first | refine blk_drewN ?_ _ | refine blk_drew ?_ | refine blk_alloc ?_ _)); exact BK267.out⟩, ⟨by repeat (first | (with_reducible first | exact HB.out | apply below_alloc | apply pw_below_drewN | apply below_drew1 | refine below_set ?_ GE267.out) | exact HB.out)⟩⟩
    case rest =>
      clear HC6
      try clear c1
      try clear p2
      try clear c3
      try clear c3b0
      try clear c3b1
      try clear c5
      try clear c9
      try clear c9b0
      try clear c9b1
      try clear c10
      try clear c10b0
      try clear c10b1
      try clear c12
      try clear c12b0
      try clear c12b1
      try clear c15
      try clear c15b0
      try clear c15b1
      try clear hcz11_0
      try clear hcz11_1
      try clear hcz11_2
      try clear hcz11_3
      try clear hcz11_4
      try clear hcz11_5
      try clear hcz13_0
      try clear hcz13_1
      try clear hcz13_2
      try clear hcz13_3
      try clear hcz13_4
      try clear hcz13_5
      try clear hcz14_0
      try clear hcz14_1
      try clear hcz14_2
      try clear hcz14_3
      try clear hcz14_4
      try clear hcz14_5
      try clear hcz16_0
      try clear hcz16_1
      try clear hcz16_2
      try clear hcz16_3
      try clear hcz16_4
      try clear hcz16_5
      try clear hcz17_0
      try clear hcz17_1
      try clear hcz17_2
      try clear hcz17_3
      try clear hcz17_4
      try clear hcz17_5
      try clear hcz5_0
      try clear hcz5_1
      try clear hcz5_2
      try clear hcz5_3
      try clear hcz5_4
      try clear hcz5_5
      try clear hcz8_0
      try clear hcz8_1
      try clear hcz8_2
      try clear hcz8_3
      try clear hcz8_4
      try clear hcz8_5
      try clear hfz11_0
      try clear hfz11_1
      try clear hfz11_2
      try clear hfz11_3
      try clear hfz11_4
      try clear hfz11_5
      try clear hfz13_0
      try clear hfz13_1
      try clear hfz13_2
      try clear hfz13_3
      try clear hfz13_4
      try clear hfz13_5
      try clear hfz14_0
      try clear hfz14_1
      try clear hfz14_2
      try clear hfz14_3
      try clear hfz14_4
      try clear hfz14_5
      try clear hfz16_0
      try clear hfz16_1
      try clear hfz16_2
      try clear hfz16_3
      try clear hfz16_4
      try clear hfz16_5
      try clear hfz17_0
      try clear hfz17_1
      try clear hfz17_2
      try clear hfz17_3
      try clear hfz17_4
      try clear hfz17_5
      try clear hfz5_0
      try clear hfz5_1
      try clear hfz5_2
      try clear hfz5_3
      try clear hfz5_4
      try clear hfz5_5
      try clear hfz8_0
      try clear hfz8_1
      try clear hfz8_2
      try clear hfz8_3
      try clear hfz8_4
      try clear hfz8_5
      obtain ⟨kq, x23_5, rfl, HA, HJ5, BK267, HB⟩ := hcut
      cases kq with
      | zero => exact absurd HA.out (by simp [headroomref14_Top.j0])
      | succ kj5 =>
        have H := HA.out
        clear HA
        simp only [headroomref14_Top.j0] at H
        by_cases c18 : x23_5 = true
        · subst c18
          have H1 : (some 2) = some r := by rw [if_pos rfl] at H; exact H
          clear H
          have H := H1
          clear H1
          obtain rfl := Option.some.inj H
          go_wp2
          go_ret
          exact ⟨by first | rfl | (simp [errW_none, errW_some] <;> rfl) | (simp [*, errW_none, errW_some] <;> rfl), by repeat (first | (with_reducible first | exact HB.out | apply below_alloc | apply pw_below_drewN | apply below_drew1 | refine below_set ?_ GE267.out) | exact HB.out)⟩
        · replace c18 := Bool.eq_false_iff.mpr c18
          subst c18
          have H1 : (if a0_3 = 1 then (some 3) else (some 1)) = some r := by rw [if_neg (show ¬ (false = true) by decide)] at H; exact H
          clear H
          have H := H1
          clear H1
          by_cases c19 : a0_3 = 1
          · rw [if_pos c19] at H
            have c19b0 : (a0_3 == 1) = true := beq_iff_eq.mpr c19
            have c19b1 : (a0_3 != 1) = false := bne_eq_false_iff_eq.mpr c19
            clear c19
            obtain rfl := Option.some.inj H
            have hcz20_0 : wc.cell? ⟨gb267, 0, none⟩ = some (.int .i64 a0_0) := (blk_cell BK267.out 0).trans rfl
            have hcz20_1 : wc.cell? ⟨gb267, 1, none⟩ = some (.int .i64 a0_1) := (blk_cell BK267.out 1).trans rfl
            have hcz20_2 : wc.cell? ⟨gb267, 2, none⟩ = some (.int .i64 a0_2) := (blk_cell BK267.out 2).trans rfl
            have hcz20_3 : wc.cell? ⟨gb267, 3, none⟩ = some (.int .i64 a0_3) := (blk_cell BK267.out 3).trans rfl
            have hcz20_4 : wc.cell? ⟨gb267, 4, none⟩ = some (.int .i64 a0_4) := (blk_cell BK267.out 4).trans rfl
            have hcz20_5 : wc.cell? ⟨gb267, 5, none⟩ = some (.bool a0_5) := (blk_cell BK267.out 5).trans rfl
            have hfz20_0 := blk_frozen BK267.out 0
            have hfz20_1 := blk_frozen BK267.out 1
            have hfz20_2 := blk_frozen BK267.out 2
            have hfz20_3 := blk_frozen BK267.out 3
            have hfz20_4 := blk_frozen BK267.out 4
            have hfz20_5 := blk_frozen BK267.out 5
            go_wp2
            go_ret
            exact ⟨by first | rfl | (simp [errW_none, errW_some] <;> rfl) | (simp [*, errW_none, errW_some] <;> rfl), by repeat (first | (with_reducible first | exact HB.out | apply below_alloc | apply pw_below_drewN | apply below_drew1 | refine below_set ?_ GE267.out) | exact HB.out)⟩
          · rw [if_neg c19] at H
            have c19b0 : (a0_3 == 1) = false := beq_eq_false_iff_ne.mpr c19
            have c19b1 : (a0_3 != 1) = true := bne_iff_ne.mpr c19
            obtain rfl := Option.some.inj H
            have hcz21_0 : wc.cell? ⟨gb267, 0, none⟩ = some (.int .i64 a0_0) := (blk_cell BK267.out 0).trans rfl
            have hcz21_1 : wc.cell? ⟨gb267, 1, none⟩ = some (.int .i64 a0_1) := (blk_cell BK267.out 1).trans rfl
            have hcz21_2 : wc.cell? ⟨gb267, 2, none⟩ = some (.int .i64 a0_2) := (blk_cell BK267.out 2).trans rfl
            have hcz21_3 : wc.cell? ⟨gb267, 3, none⟩ = some (.int .i64 a0_3) := (blk_cell BK267.out 3).trans rfl
            have hcz21_4 : wc.cell? ⟨gb267, 4, none⟩ = some (.int .i64 a0_4) := (blk_cell BK267.out 4).trans rfl
            have hcz21_5 : wc.cell? ⟨gb267, 5, none⟩ = some (.bool a0_5) := (blk_cell BK267.out 5).trans rfl
            have hfz21_0 := blk_frozen BK267.out 0
            have hfz21_1 := blk_frozen BK267.out 1
            have hfz21_2 := blk_frozen BK267.out 2
            have hfz21_3 := blk_frozen BK267.out 3
            have hfz21_4 := blk_frozen BK267.out 4
            have hfz21_5 := blk_frozen BK267.out 5
            go_wp2
            go_ret
            exact ⟨by first | rfl | (simp [errW_none, errW_some] <;> rfl) | (simp [*, errW_none, errW_some] <;> rfl), by repeat (first | (with_reducible first | exact HB.out | apply below_alloc | apply pw_below_drewN | apply below_drew1 | refine below_set ?_ GE267.out) | exact HB.out)⟩

end Go.Proofs.Ytbpanbmjkfhcgaa.P
