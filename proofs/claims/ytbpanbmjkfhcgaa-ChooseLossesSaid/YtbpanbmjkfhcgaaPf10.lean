-- Printed for this claim by drive.py (a program of this session's) through the kit's print program; not trusted: Lean checks it.
import Derived.Test.YtbpanbmjkfhcgaaP0
import Derived.Test.YtbpanbmjkfhcgaaPf14
import Derived.Test.YtbpanbmjkfhcgaaPf31
import Derived.Test.YtbpanbmjkfhcgaaPf35
import Derived.Test.YtbpanbmjkfhcgaaPf36
import Derived.Test.YtbpanbmjkfhcgaaPf39
import Derived.Test.YtbpanbmjkfhcgaaPf37
import Derived.Test.YtbpanbmjkfhcgaaPf38
namespace Go.Proofs.Ytbpanbmjkfhcgaa.P
open Go.RowKit Go.Proofs.YtbpanbmjkfhcgaaW.PrintWords Go.Proofs.YtbpanbmjkfhcgaaW.PrintLast Go.Proofs.YtbpanbmjkfhcgaaW.PrintMore
attribute [local go_sem] max2_int min2_int max_two min_two max_three min_three max_four min_four   -- for this text's walks alone
set_option linter.unusedVariables false
set_option linter.unusedSimpArgs false

/-! ### headroomlaw22_ChooseLosses: function 10 -/
mutual
def headroomlaw22_ChooseLosses.j0 : Nat → Int → Int → List Int → Int → Bool → Int → Bool → Int → Int → Int → Int → Int → Bool → Option (Bool)
  | 0, _, _, _, _, _, _, _, _, _, _, _, _, _ => none
  | k + 1, x0, x2, x7, x8, x9, x10, x11, x370000, x370001, x370002, x370003, x370004, x370005 => if x11 = true then (if x8 = 0 then ((headroomref22_Losses.f k x0).bind fun t376 => ((headroomref04_Same.f k x7 t376).bind fun t379 => (if t379 = true then ((headroomlaw22_alive.f k).bind fun t380 => (headroomlaw22_ChooseLosses.j1 k x2 x9 x10 (!t380) x370000 x370001 x370002 x370003 x370004 x370005)) else (headroomlaw22_ChooseLosses.j1 k x2 x9 x10 true x370000 x370001 x370002 x370003 x370004 x370005)))) else (headroomlaw22_ChooseLosses.j1 k x2 x9 x10 true x370000 x370001 x370002 x370003 x370004 x370005)) else (if x8 = 4 then (if (x7.length : Int) > 0 then (headroomlaw22_ChooseLosses.j1 k x2 x9 x10 true x370000 x370001 x370002 x370003 x370004 x370005) else ((headroomlaw22_alive.f k).bind fun t381 => (headroomlaw22_ChooseLosses.j1 k x2 x9 x10 (!t381) x370000 x370001 x370002 x370003 x370004 x370005))) else (headroomlaw22_ChooseLosses.j1 k x2 x9 x10 true x370000 x370001 x370002 x370003 x370004 x370005))
def headroomlaw22_ChooseLosses.j1 : Nat → Int → Bool → Int → Bool → Int → Int → Int → Int → Int → Bool → Option (Bool)
  | 0, _, _, _, _, _, _, _, _, _, _ => none
  | k + 1, x2, x9, x10, x57, x370000, x370001, x370002, x370003, x370004, x370005 => if x57 = true then (some false) else ((headroomref13_Check.f k x370000 x370001 x370002 x370003 x370004 x370005).bind fun t382 => (if t382 = true then (if x10 = 0 then ((headroomref22_Loss.f k x370000 x370001 x370002 x370003 x370004 x370005).bind fun t383 => (some (x9 == (decide (t383 ≤ x2))))) else (some false)) else (if x10 = 4 then (some (!x9)) else (some false))))
end
def headroomlaw22_ChooseLosses.f (k : Nat) (a0 : Int) (a1_0 : Int) (a1_1 : Int) (a1_2 : Int) (a1_3 : Int) (a1_4 : Int) (a1_5 : Bool) (a2 : Int) : Option (Bool) := (choose_Losses.f k a0).bind fun bt370 => ((choose_Meets.f k a1_0 a1_1 a1_2 a1_3 a1_4 a1_5 a2).bind fun bt374 => (if a0 ≥ 2 then (headroomlaw22_ChooseLosses.j0 k a0 a2 bt370.1 bt370.2 bt374.1 bt374.2 (decide (a0 ≤ 6)) a1_0 a1_1 a1_2 a1_3 a1_4 a1_5) else (headroomlaw22_ChooseLosses.j0 k a0 a2 bt370.1 bt370.2 bt374.1 bt374.2 false a1_0 a1_1 a1_2 a1_3 a1_4 a1_5)))
theorem headroomlaw22_ChooseLosses.mono_l : ∀ k, (∀ y0 y1 y2 y3 y4 y5 y6 y7 y8 y9 y10 y11 y12, LeO (headroomlaw22_ChooseLosses.j0 k y0 y1 y2 y3 y4 y5 y6 y7 y8 y9 y10 y11 y12) (headroomlaw22_ChooseLosses.j0 (k + 1) y0 y1 y2 y3 y4 y5 y6 y7 y8 y9 y10 y11 y12)) ∧ (∀ y0 y1 y2 y3 y4 y5 y6 y7 y8 y9, LeO (headroomlaw22_ChooseLosses.j1 k y0 y1 y2 y3 y4 y5 y6 y7 y8 y9) (headroomlaw22_ChooseLosses.j1 (k + 1) y0 y1 y2 y3 y4 y5 y6 y7 y8 y9))
  | 0 => ⟨fun _ _ _ _ _ _ _ _ _ _ _ _ _ r h => by simp [headroomlaw22_ChooseLosses.j0] at h, fun _ _ _ _ _ _ _ _ _ _ r h => by simp [headroomlaw22_ChooseLosses.j1] at h⟩
  | k + 1 => by
    obtain ⟨ih0, ih1⟩ := headroomlaw22_ChooseLosses.mono_l k
    refine ⟨?_, ?_⟩
    · intro y0 y1 y2 y3 y4 y5 y6 y7 y8 y9 y10 y11 y12
      unfold headroomlaw22_ChooseLosses.j0
      repeat' first
      | (with_reducible exact ih0 _ _ _ _ _ _ _ _ _ _ _ _ _)
      | (with_reducible exact ih1 _ _ _ _ _ _ _ _ _ _)
      | (with_reducible exact choose_Losses.mono _ _)
      | (with_reducible exact choose_Meets.mono _ _ _ _ _ _ _ _)
      | (with_reducible exact headroomlaw22_alive.mono _)
      | (with_reducible exact headroomref04_Same.mono _ _ _)
      | (with_reducible exact headroomref13_Check.mono _ _ _ _ _ _ _)
      | (with_reducible exact headroomref22_Loss.mono _ _ _ _ _ _ _)
      | (with_reducible exact headroomref22_Losses.mono _ _)
      | (with_reducible exact LeO.refl _)
      | (with_reducible exact LeO.none _)
      | (with_reducible refine LeO.ite ?_ ?_)
      | (with_reducible refine LeO.bind ?_ (fun _ => ?_))
      | exact ih0 _ _ _ _ _ _ _ _ _ _ _ _ _
      | exact ih1 _ _ _ _ _ _ _ _ _ _
      | exact choose_Losses.mono _ _
      | exact choose_Meets.mono _ _ _ _ _ _ _ _
      | exact headroomlaw22_alive.mono _
      | exact headroomref04_Same.mono _ _ _
      | exact headroomref13_Check.mono _ _ _ _ _ _ _
      | exact headroomref22_Loss.mono _ _ _ _ _ _ _
      | exact headroomref22_Losses.mono _ _
      | exact LeO.none _
      | refine LeO.ite ?_ ?_
      | refine LeO.bind ?_ (fun _ => ?_)
    · intro y0 y1 y2 y3 y4 y5 y6 y7 y8 y9
      unfold headroomlaw22_ChooseLosses.j1
      repeat' first
      | (with_reducible exact ih0 _ _ _ _ _ _ _ _ _ _ _ _ _)
      | (with_reducible exact ih1 _ _ _ _ _ _ _ _ _ _)
      | (with_reducible exact choose_Losses.mono _ _)
      | (with_reducible exact choose_Meets.mono _ _ _ _ _ _ _ _)
      | (with_reducible exact headroomlaw22_alive.mono _)
      | (with_reducible exact headroomref04_Same.mono _ _ _)
      | (with_reducible exact headroomref13_Check.mono _ _ _ _ _ _ _)
      | (with_reducible exact headroomref22_Loss.mono _ _ _ _ _ _ _)
      | (with_reducible exact headroomref22_Losses.mono _ _)
      | (with_reducible exact LeO.refl _)
      | (with_reducible exact LeO.none _)
      | (with_reducible refine LeO.ite ?_ ?_)
      | (with_reducible refine LeO.bind ?_ (fun _ => ?_))
      | exact ih0 _ _ _ _ _ _ _ _ _ _ _ _ _
      | exact ih1 _ _ _ _ _ _ _ _ _ _
      | exact choose_Losses.mono _ _
      | exact choose_Meets.mono _ _ _ _ _ _ _ _
      | exact headroomlaw22_alive.mono _
      | exact headroomref04_Same.mono _ _ _
      | exact headroomref13_Check.mono _ _ _ _ _ _ _
      | exact headroomref22_Loss.mono _ _ _ _ _ _ _
      | exact headroomref22_Losses.mono _ _
      | exact LeO.none _
      | refine LeO.ite ?_ ?_
      | refine LeO.bind ?_ (fun _ => ?_)
theorem headroomlaw22_ChooseLosses.mono : ∀ a0 a1 a2 a3 a4 a5 a6 a7 k, LeO (headroomlaw22_ChooseLosses.f k a0 a1 a2 a3 a4 a5 a6 a7) (headroomlaw22_ChooseLosses.f (k + 1) a0 a1 a2 a3 a4 a5 a6 a7) := by
  intro a0 a1 a2 a3 a4 a5 a6 a7 k
  obtain ⟨ih0, ih1⟩ := headroomlaw22_ChooseLosses.mono_l k
  unfold headroomlaw22_ChooseLosses.f
  repeat' first
      | (with_reducible exact ih0 _ _ _ _ _ _ _ _ _ _ _ _ _)
      | (with_reducible exact ih1 _ _ _ _ _ _ _ _ _ _)
      | (with_reducible exact choose_Losses.mono _ _)
      | (with_reducible exact choose_Meets.mono _ _ _ _ _ _ _ _)
      | (with_reducible exact headroomlaw22_alive.mono _)
      | (with_reducible exact headroomref04_Same.mono _ _ _)
      | (with_reducible exact headroomref13_Check.mono _ _ _ _ _ _ _)
      | (with_reducible exact headroomref22_Loss.mono _ _ _ _ _ _ _)
      | (with_reducible exact headroomref22_Losses.mono _ _)
      | (with_reducible exact LeO.refl _)
      | (with_reducible exact LeO.none _)
      | (with_reducible refine LeO.ite ?_ ?_)
      | (with_reducible refine LeO.bind ?_ (fun _ => ?_))
      | exact ih0 _ _ _ _ _ _ _ _ _ _ _ _ _
      | exact ih1 _ _ _ _ _ _ _ _ _ _
      | exact choose_Losses.mono _ _
      | exact choose_Meets.mono _ _ _ _ _ _ _ _
      | exact headroomlaw22_alive.mono _
      | exact headroomref04_Same.mono _ _ _
      | exact headroomref13_Check.mono _ _ _ _ _ _ _
      | exact headroomref22_Loss.mono _ _ _ _ _ _ _
      | exact headroomref22_Losses.mono _ _
      | exact LeO.none _
      | refine LeO.ite ?_ ?_
      | refine LeO.bind ?_ (fun _ => ?_)
set_option maxHeartbeats 8000000 in
set_option maxRecDepth 100000 in
theorem headroomlaw22_ChooseLosses.calls (k : Nat) (a0 : Int) (a1_0 : Int) (a1_1 : Int) (a1_2 : Int) (a1_3 : Int) (a1_4 : Int) (a1_5 : Bool) (a2 : Int) (r : Bool) (w : World) (h : headroomlaw22_ChooseLosses.f k a0 a1_0 a1_1 a1_2 a1_3 a1_4 a1_5 a2 = some r) :
    Calls Try.prog 10 #[.int .i64 a0, .agg #[.int .i64 a1_0, .int .i64 a1_1, .int .i64 a1_2, .int .i64 a1_3, .int .i64 a1_4, .bool a1_5], .int .i64 a2] w fun e w' => e = .returned (.bool r) ∧ Below w.heap.size w w' := by
  have hu23 := Try.underlying23
  have HB := Aside0.mk (Below.refl w.heap.size w)
  have H : ((choose_Losses.f k a0).bind fun bt370 => ((choose_Meets.f k a1_0 a1_1 a1_2 a1_3 a1_4 a1_5 a2).bind fun bt374 => (if a0 ≥ 2 then (headroomlaw22_ChooseLosses.j0 k a0 a2 bt370.1 bt370.2 bt374.1 bt374.2 (decide (a0 ≤ 6)) a1_0 a1_1 a1_2 a1_3 a1_4 a1_5) else (headroomlaw22_ChooseLosses.j0 k a0 a2 bt370.1 bt370.2 bt374.1 bt374.2 false a1_0 a1_1 a1_2 a1_3 a1_4 a1_5)))) = some r := h
  clear h
  replace H := Option.bind_eq_some_iff.mp H
  obtain ⟨⟨t370, t371⟩, A40, H⟩ := H
  replace H : ((choose_Meets.f k a1_0 a1_1 a1_2 a1_3 a1_4 a1_5 a2).bind fun bt374 => (if a0 ≥ 2 then (headroomlaw22_ChooseLosses.j0 k a0 a2 t370 t371 bt374.1 bt374.2 (decide (a0 ≤ 6)) a1_0 a1_1 a1_2 a1_3 a1_4 a1_5) else (headroomlaw22_ChooseLosses.j0 k a0 a2 t370 t371 bt374.1 bt374.2 false a1_0 a1_1 a1_2 a1_3 a1_4 a1_5))) = some r := H
  have A4 := Aside0.mk A40
  clear A40
  replace H := Option.bind_eq_some_iff.mp H
  obtain ⟨⟨t374, t375⟩, A50, H⟩ := H
  replace H : (if a0 ≥ 2 then (headroomlaw22_ChooseLosses.j0 k a0 a2 t370 t371 t374 t375 (decide (a0 ≤ 6)) a1_0 a1_1 a1_2 a1_3 a1_4 a1_5) else (headroomlaw22_ChooseLosses.j0 k a0 a2 t370 t371 t374 t375 false a1_0 a1_1 a1_2 a1_3 a1_4 a1_5)) = some r := H
  have A5 := Aside0.mk A50
  clear A50
  have HC6 := Aside0.mk H
  clear H
  go_enter Try.func10, Try.ntmps10
  go_upto_region 3 with (first | ((with_reducible refine gate_dst (N := 4) rfl ?_); (try (refine gate_guard (by rfl) ?_; dsimp only)); refine box_event ?hg (N := 4) ?hd (cs := #[.int .i64 a1_0, .int .i64 a1_1, .int .i64 a1_2, .int .i64 a1_3, .int .i64 a1_4, .bool a1_5]) (t := 23) ?hr ?_; (case hd => rfl); (case hg => rfl); (case hr => first | (go_simp; done) | (go_simp; rfl)); intro gb369 hg w7 hbox hb; have n0_ := Aside0.mk (below_step (by repeat (first | (with_reducible first | exact HB.out | apply below_alloc | apply pw_below_drewN | apply below_drew1) | exact HB.out)) hb); have n1_ := Aside0.mk (hbox); have n2_ := Aside0.mk ((by rw [hg]; exact (below_size (by repeat (first | (with_reducible first | exact HB.out | apply below_alloc | apply pw_below_drewN | apply below_drew1) | exact HB.out))) : w.heap.size ≤ gb369)); have n3_ := Aside0.mk ((by rw [hg]; exact (below_size (by repeat (first | (with_reducible first | exact HB.out | apply below_alloc | apply pw_below_drewN | apply below_drew1) | exact HB.out))) : w.heap.size ≤ gb369)); clear HB; have HB := n0_; have BK369 := n1_; have GW369 := n2_; have GE369 := n3_; clear n0_ n1_ n2_ n3_; clear hb hbox hg) | ((with_reducible refine gate_callee (f := 35) rfl ?_); refine goesL_ (some 14) rfl rfl Try.func35 (by kernel_rfl) rfl #[.int .i64 a0] rfl (by (try simp only [List.map_toArray, List.map_cons, List.map_nil]); first | done | rfl | (simp only [List.length_drop, List.length_take]; rfl)) ?_; (with_reducible refine (choose_Losses.calls k a0 t370 t371 _ A4.out).mono ?_); rintro e w8 ⟨v372, rfl, ho0, hb⟩; refine ⟨_, rfl, ?_⟩; have n0_ := Aside0.mk (Kd.R_lower ho0 (below_size (by repeat (first | (with_reducible first | exact HB.out | apply below_alloc | apply pw_below_drewN | apply below_drew1 | refine below_set ?_ GE369.out) | exact HB.out)))); have n1_ := Aside0.mk (blk_below (g := gb369) (o := .cells #[.int .i64 a1_0, .int .i64 a1_1, .int .i64 a1_2, .int .i64 a1_3, .int .i64 a1_4, .bool a1_5] 23 (0, 0)) (by (with_reducible repeat (first | refine blk_drewN ?_ _ | refine blk_drew ?_ | refine blk_alloc ?_ _)); exact BK369.out) hb); have n2_ := Aside0.mk (below_step (by repeat (first | (with_reducible first | exact HB.out | apply below_alloc | apply pw_below_drewN | apply below_drew1 | refine below_set ?_ GE369.out) | exact HB.out)) hb); clear BK369; clear HB; have HO373 := n0_; have BK369 := n1_; have HB := n2_; clear n0_ n1_ n2_; (try clear hb); (try clear hb2); (try clear hk); (try clear hi); (try clear ho0); have hcz9_0 : w8.cell? ⟨gb369, 0, none⟩ = some (.int .i64 a1_0) := (blk_cell BK369.out 0).trans rfl; have hcz9_1 : w8.cell? ⟨gb369, 1, none⟩ = some (.int .i64 a1_1) := (blk_cell BK369.out 1).trans rfl; have hcz9_2 : w8.cell? ⟨gb369, 2, none⟩ = some (.int .i64 a1_2) := (blk_cell BK369.out 2).trans rfl; have hcz9_3 : w8.cell? ⟨gb369, 3, none⟩ = some (.int .i64 a1_3) := (blk_cell BK369.out 3).trans rfl; have hcz9_4 : w8.cell? ⟨gb369, 4, none⟩ = some (.int .i64 a1_4) := (blk_cell BK369.out 4).trans rfl; have hcz9_5 : w8.cell? ⟨gb369, 5, none⟩ = some (.bool a1_5) := (blk_cell BK369.out 5).trans rfl; have hfz9_0 := blk_frozen BK369.out 0; have hfz9_1 := blk_frozen BK369.out 1; have hfz9_2 := blk_frozen BK369.out 2; have hfz9_3 := blk_frozen BK369.out 3; have hfz9_4 := blk_frozen BK369.out 4; have hfz9_5 := blk_frozen BK369.out 5) | ((with_reducible refine gate_callee (f := 36) rfl ?_); refine goesL_ (some 20) rfl rfl Try.func36 (by kernel_rfl) rfl #[.agg #[.int .i64 a1_0, .int .i64 a1_1, .int .i64 a1_2, .int .i64 a1_3, .int .i64 a1_4, .bool a1_5], .int .i64 a2] rfl (by (try simp only [List.map_toArray, List.map_cons, List.map_nil]); first | done | rfl | (simp only [List.length_drop, List.length_take]; rfl)) ?_; (with_reducible refine (choose_Meets.calls k a1_0 a1_1 a1_2 a1_3 a1_4 a1_5 a2 t374 t375 _ A5.out).mono ?_); rintro e w10 ⟨rfl, hb⟩; refine ⟨_, rfl, ?_⟩; have n0_ := Aside0.mk (Kd.R_below (by (with_reducible repeat (first | apply Kd.R_alloc | apply Kd.R_drewN | apply Kd.R_drew)); exact HO373.out) hb); have n1_ := Aside0.mk (blk_below (g := gb369) (o := .cells #[.int .i64 a1_0, .int .i64 a1_1, .int .i64 a1_2, .int .i64 a1_3, .int .i64 a1_4, .bool a1_5] 23 (0, 0)) (by (with_reducible repeat (first | refine blk_drewN ?_ _ | refine blk_drew ?_ | refine blk_alloc ?_ _)); exact BK369.out) hb); have n2_ := Aside0.mk (below_step (by repeat (first | (with_reducible first | exact HB.out | apply below_alloc | apply pw_below_drewN | apply below_drew1 | refine below_set ?_ GE369.out) | exact HB.out)) hb); clear HO373; clear BK369; clear HB; have HO373 := n0_; have BK369 := n1_; have HB := n2_; clear n0_ n1_ n2_; (try clear hb); (try clear hb2); (try clear hk); (try clear hi)))
  (try simp only [Act.put, List.setIfInBounds_toArray, List.set_cons_zero, List.set_cons_succ])
  go_cut [11] (fun v11 wc => ∃ (kq : Nat) (x11_5 : Bool), v11 = .bool x11_5 ∧ Aside0 (headroomlaw22_ChooseLosses.j0 kq a0 a2 t370 t371 t374 t375 x11_5 a1_0 a1_1 a1_2 a1_3 a1_4 a1_5 = some r) ∧ Aside0 (kq ≤ k) ∧ Aside0 (Kd.R (Kd.int .i64) 3 wc w.heap.size (fun _ => True) v372 t370) ∧ Aside0 (wc.heap[gb369]? = some (.cells #[.int .i64 a1_0, .int .i64 a1_1, .int .i64 a1_2, .int .i64 a1_3, .int .i64 a1_4, .bool a1_5] 23 (0, 0))) ∧ Aside0 (Below w.heap.size w wc))
  case first =>
    have H := HC6.out
    clear HC6
    by_cases c11 : a0 ≥ 2
    · rw [if_pos c11] at H
      have c11b0 : decide (2 ≤ a0) = true := decide_eq_true c11
      clear c11
      (first | rw [c11b0] | (simp only [i64_w, i32_w]; rw [c11b0]) | skip)
      have H' := Aside0.mk H
      clear H
      go_wp2
      go_meet
      case rel => exact ⟨_, (decide (a0 ≤ 6)), (by first | rfl | (simp; done) | (simp [*]; done)), H', ⟨by first | omega | exact Nat.le_refl _⟩, ⟨by (with_reducible repeat (first | apply Kd.R_alloc | apply Kd.R_drewN | apply Kd.R_drew)); exact HO373.out⟩, ⟨by (with_reducible repeat (first | refine blk_drewN ?_ _ | refine blk_drew ?_ | refine blk_alloc ?_ _)); exact BK369.out⟩, ⟨by repeat (first | (with_reducible first | exact HB.out | apply below_alloc | apply pw_below_drewN | apply below_drew1 | refine below_set ?_ GE369.out) | exact HB.out)⟩⟩
    · rw [if_neg c11] at H
      have c11b0 : decide (2 ≤ a0) = false := decide_eq_false c11
      clear c11
      (first | rw [c11b0] | (simp only [i64_w, i32_w]; rw [c11b0]) | skip)
      have H' := Aside0.mk H
      clear H
      go_wp2
      go_meet
      case rel => exact ⟨_, (false), (by first | rfl | (simp; done) | (simp [*]; done)), H', ⟨by first | omega | exact Nat.le_refl _⟩, ⟨by (with_reducible repeat (first | apply Kd.R_alloc | apply Kd.R_drewN | apply Kd.R_drew)); exact HO373.out⟩, ⟨by (with_reducible repeat (first | refine blk_drewN ?_ _ | refine blk_drew ?_ | refine blk_alloc ?_ _)); exact BK369.out⟩, ⟨by repeat (first | (with_reducible first | exact HB.out | apply below_alloc | apply pw_below_drewN | apply below_drew1 | refine below_set ?_ GE369.out) | exact HB.out)⟩⟩
  case rest =>
    clear HC6
    try clear c1
    try clear p2
    try clear c3
    try clear c10
    try clear c11
    try clear c11b0
    try clear hcz9_0
    try clear hcz9_1
    try clear hcz9_2
    try clear hcz9_3
    try clear hcz9_4
    try clear hcz9_5
    try clear hfz9_0
    try clear hfz9_1
    try clear hfz9_2
    try clear hfz9_3
    try clear hfz9_4
    try clear hfz9_5
    obtain ⟨kq, x11_5, rfl, HA, HJ5, HO_7, BK369, HB⟩ := hcut
    cases kq with
    | zero => exact absurd HA.out (by simp [headroomlaw22_ChooseLosses.j0])
    | succ kj5 =>
      have H := HA.out
      clear HA
      simp only [headroomlaw22_ChooseLosses.j0] at H
      have HC12 := Aside0.mk H
      clear H
      go_upto_region 4 with (fail)
      go_cut [57] (fun v57 wc => ∃ (kq : Nat) (x57_11 : Bool), v57 = .bool x57_11 ∧ Aside0 (headroomlaw22_ChooseLosses.j1 kq a2 t374 t375 x57_11 a1_0 a1_1 a1_2 a1_3 a1_4 a1_5 = some r) ∧ Aside0 (kq ≤ kj5) ∧ Aside0 (wc.heap[gb369]? = some (.cells #[.int .i64 a1_0, .int .i64 a1_1, .int .i64 a1_2, .int .i64 a1_3, .int .i64 a1_4, .bool a1_5] 23 (0, 0))) ∧ Aside0 (Below w.heap.size w wc))
      case first =>
        have H := HC12.out
        clear HC12
        by_cases c13 : x11_5 = true
        · subst c13
          have H1 : (if t371 = 0 then ((headroomref22_Losses.f kj5 a0).bind fun t376 => ((headroomref04_Same.f kj5 t370 t376).bind fun t379 => (if t379 = true then ((headroomlaw22_alive.f kj5).bind fun t380 => (headroomlaw22_ChooseLosses.j1 kj5 a2 t374 t375 (!t380) a1_0 a1_1 a1_2 a1_3 a1_4 a1_5)) else (headroomlaw22_ChooseLosses.j1 kj5 a2 t374 t375 true a1_0 a1_1 a1_2 a1_3 a1_4 a1_5)))) else (headroomlaw22_ChooseLosses.j1 kj5 a2 t374 t375 true a1_0 a1_1 a1_2 a1_3 a1_4 a1_5)) = some r := by rw [if_pos rfl] at H; exact H
          clear H
          have H := H1
          clear H1
          by_cases c14 : t371 = 0
          · rw [if_pos c14] at H
            have c14b0 : (t371 == 0) = true := beq_iff_eq.mpr c14
            have c14b1 : (t371 != 0) = false := bne_eq_false_iff_eq.mpr c14
            clear c14
            (first | rw [c14b0] | (simp only [i64_w, i32_w]; rw [c14b0]) | skip)
            replace H := Option.bind_eq_some_iff.mp H
            obtain ⟨t376, A150, H⟩ := H
            replace H : ((headroomref04_Same.f kj5 t370 t376).bind fun t379 => (if t379 = true then ((headroomlaw22_alive.f kj5).bind fun t380 => (headroomlaw22_ChooseLosses.j1 kj5 a2 t374 t375 (!t380) a1_0 a1_1 a1_2 a1_3 a1_4 a1_5)) else (headroomlaw22_ChooseLosses.j1 kj5 a2 t374 t375 true a1_0 a1_1 a1_2 a1_3 a1_4 a1_5))) = some r := H
            have A15 := Aside0.mk A150
            clear A150
            replace H := Option.bind_eq_some_iff.mp H
            obtain ⟨t379, A160, H⟩ := H
            replace H : (if t379 = true then ((headroomlaw22_alive.f kj5).bind fun t380 => (headroomlaw22_ChooseLosses.j1 kj5 a2 t374 t375 (!t380) a1_0 a1_1 a1_2 a1_3 a1_4 a1_5)) else (headroomlaw22_ChooseLosses.j1 kj5 a2 t374 t375 true a1_0 a1_1 a1_2 a1_3 a1_4 a1_5)) = some r := H
            have A16 := Aside0.mk A160
            clear A160
            by_cases c17 : t379 = true
            · subst c17
              have H1 : ((headroomlaw22_alive.f kj5).bind fun t380 => (headroomlaw22_ChooseLosses.j1 kj5 a2 t374 t375 (!t380) a1_0 a1_1 a1_2 a1_3 a1_4 a1_5)) = some r := by rw [if_pos rfl] at H; exact H
              clear H
              have H := H1
              clear H1
              replace H := Option.bind_eq_some_iff.mp H
              obtain ⟨t380, A180, H⟩ := H
              replace H : (headroomlaw22_ChooseLosses.j1 kj5 a2 t374 t375 (!t380) a1_0 a1_1 a1_2 a1_3 a1_4 a1_5) = some r := H
              have A18 := Aside0.mk A180
              clear A180
              have H' := Aside0.mk H
              clear H
              go_wp2_with (first | (go_at_call 37; (with_reducible refine (headroomref22_Losses.calls kj5 a0 t376 _ A15.out).mono ?_); rintro e w19 ⟨v377, rfl, ho0, hb⟩; have n0_ := Aside0.mk (Kd.R_elder' (by (with_reducible repeat (first | apply Kd.R_alloc | apply Kd.R_drewN | apply Kd.R_drew)); exact HO_7.out) (Kd.R_base ho0) hb); have n1_ := Aside0.mk (Kd.R_lower (Kd.R_new' ho0 (Kd.R_lt (by (with_reducible repeat (first | apply Kd.R_alloc | apply Kd.R_drewN | apply Kd.R_drew)); exact HO_7.out))) (below_size (by repeat (first | (with_reducible first | exact HB.out | apply below_alloc | apply pw_below_drewN | apply below_drew1 | refine below_set ?_ GE369.out) | exact HB.out)))); have n2_ := Aside0.mk (blk_below (g := gb369) (o := .cells #[.int .i64 a1_0, .int .i64 a1_1, .int .i64 a1_2, .int .i64 a1_3, .int .i64 a1_4, .bool a1_5] 23 (0, 0)) (by (with_reducible repeat (first | refine blk_drewN ?_ _ | refine blk_drew ?_ | refine blk_alloc ?_ _)); exact BK369.out) hb); have n3_ := Aside0.mk (below_step (by repeat (first | (with_reducible first | exact HB.out | apply below_alloc | apply pw_below_drewN | apply below_drew1 | refine below_set ?_ GE369.out) | exact HB.out)) hb); clear HO_7; clear BK369; clear HB; have HO_7 := n0_; have HO378 := n1_; have BK369 := n2_; have HB := n3_; clear n0_ n1_ n2_ n3_; (try clear hb); (try clear hb2); (try clear hk); (try clear hi); (try clear ho0); obtain ⟨Ao20, co20, eo20⟩ := Kd.R_slice HO_7.out; subst eo20; obtain ⟨Ao21, co21, eo21⟩ := Kd.R_slice HO378.out; subst eo21) | (go_at_call 31; (with_reducible refine (headroomref04_Same.calls kj5 _ _ t370 _ _ t376 true _ ?side1 ?side2 ?side3 ?side4 A16.out).mono ?_); (case side1 => repeat (first | exact (Kd.R_reads' HO_7.out).2.2 | (with_reducible refine Kd.C_alloc ?_ _) | (with_reducible refine Kd.C_drewN ?_ _) | (with_reducible refine Kd.C_drew ?_))); (case side2 => exact (Kd.R_reads' HO_7.out).2.1); (case side3 => repeat (first | exact (Kd.R_reads' HO378.out).2.2 | (with_reducible refine Kd.C_alloc ?_ _) | (with_reducible refine Kd.C_drewN ?_ _) | (with_reducible refine Kd.C_drew ?_))); (case side4 => exact (Kd.R_reads' HO378.out).2.1); rintro e w' ⟨rfl, ⟨nd, rfl⟩⟩) | (go_at_call 38; (with_reducible refine (headroomlaw22_alive.calls kj5  t380 _ A18.out).mono ?_); rintro e w22 ⟨rfl, hb⟩; have n0_ := Aside0.mk (Kd.R_below (by (with_reducible repeat (first | apply Kd.R_alloc | apply Kd.R_drewN | apply Kd.R_drew)); exact HO_7.out) hb); have n1_ := Aside0.mk (Kd.R_below (by (with_reducible repeat (first | apply Kd.R_alloc | apply Kd.R_drewN | apply Kd.R_drew)); exact HO378.out) hb); have n2_ := Aside0.mk (blk_below (g := gb369) (o := .cells #[.int .i64 a1_0, .int .i64 a1_1, .int .i64 a1_2, .int .i64 a1_3, .int .i64 a1_4, .bool a1_5] 23 (0, 0)) (by (with_reducible repeat (first | refine blk_drewN ?_ _ | refine blk_drew ?_ | refine blk_alloc ?_ _)); exact BK369.out) hb); have n3_ := Aside0.mk (below_step (by repeat (first | (with_reducible first | exact HB.out | apply below_alloc | apply pw_below_drewN | apply below_drew1 | refine below_set ?_ GE369.out) | exact HB.out)) hb); clear HO_7; clear HO378; clear BK369; clear HB; have HO_7 := n0_; have HO378 := n1_; have BK369 := n2_; have HB := n3_; clear n0_ n1_ n2_ n3_; (try clear hb); (try clear hb2); (try clear hk); (try clear hi)))
              go_meet
              case rel => exact ⟨_, (!t380), (by first | rfl | (simp; done) | (simp [*]; done)), H', ⟨by have := HJ5.out; first | omega | exact Nat.le_refl _⟩, ⟨by (with_reducible repeat (first | refine blk_drewN ?_ _ | refine blk_drew ?_ | refine blk_alloc ?_ _)); exact BK369.out⟩, ⟨by repeat (first | (with_reducible first | exact HB.out | apply below_alloc | apply pw_below_drewN | apply below_drew1 | refine below_set ?_ GE369.out) | exact HB.out)⟩⟩
            · replace c17 := Bool.eq_false_iff.mpr c17
              subst c17
              have H1 : (headroomlaw22_ChooseLosses.j1 kj5 a2 t374 t375 true a1_0 a1_1 a1_2 a1_3 a1_4 a1_5) = some r := by rw [if_neg (show ¬ (false = true) by decide)] at H; exact H
              clear H
              have H := H1
              clear H1
              have H' := Aside0.mk H
              clear H
              go_wp2_with (first | (go_at_call 37; (with_reducible refine (headroomref22_Losses.calls kj5 a0 t376 _ A15.out).mono ?_); rintro e w23 ⟨v377, rfl, ho0, hb⟩; have n0_ := Aside0.mk (Kd.R_elder' (by (with_reducible repeat (first | apply Kd.R_alloc | apply Kd.R_drewN | apply Kd.R_drew)); exact HO_7.out) (Kd.R_base ho0) hb); have n1_ := Aside0.mk (Kd.R_lower (Kd.R_new' ho0 (Kd.R_lt (by (with_reducible repeat (first | apply Kd.R_alloc | apply Kd.R_drewN | apply Kd.R_drew)); exact HO_7.out))) (below_size (by repeat (first | (with_reducible first | exact HB.out | apply below_alloc | apply pw_below_drewN | apply below_drew1 | refine below_set ?_ GE369.out) | exact HB.out)))); have n2_ := Aside0.mk (blk_below (g := gb369) (o := .cells #[.int .i64 a1_0, .int .i64 a1_1, .int .i64 a1_2, .int .i64 a1_3, .int .i64 a1_4, .bool a1_5] 23 (0, 0)) (by (with_reducible repeat (first | refine blk_drewN ?_ _ | refine blk_drew ?_ | refine blk_alloc ?_ _)); exact BK369.out) hb); have n3_ := Aside0.mk (below_step (by repeat (first | (with_reducible first | exact HB.out | apply below_alloc | apply pw_below_drewN | apply below_drew1 | refine below_set ?_ GE369.out) | exact HB.out)) hb); clear HO_7; clear BK369; clear HB; have HO_7 := n0_; have HO378 := n1_; have BK369 := n2_; have HB := n3_; clear n0_ n1_ n2_ n3_; (try clear hb); (try clear hb2); (try clear hk); (try clear hi); (try clear ho0); obtain ⟨Ao24, co24, eo24⟩ := Kd.R_slice HO_7.out; subst eo24; obtain ⟨Ao25, co25, eo25⟩ := Kd.R_slice HO378.out; subst eo25) | (go_at_call 31; (with_reducible refine (headroomref04_Same.calls kj5 _ _ t370 _ _ t376 false _ ?side1 ?side2 ?side3 ?side4 A16.out).mono ?_); (case side1 => repeat (first | exact (Kd.R_reads' HO_7.out).2.2 | (with_reducible refine Kd.C_alloc ?_ _) | (with_reducible refine Kd.C_drewN ?_ _) | (with_reducible refine Kd.C_drew ?_))); (case side2 => exact (Kd.R_reads' HO_7.out).2.1); (case side3 => repeat (first | exact (Kd.R_reads' HO378.out).2.2 | (with_reducible refine Kd.C_alloc ?_ _) | (with_reducible refine Kd.C_drewN ?_ _) | (with_reducible refine Kd.C_drew ?_))); (case side4 => exact (Kd.R_reads' HO378.out).2.1); rintro e w' ⟨rfl, ⟨nd, rfl⟩⟩))
              go_meet
              case rel => exact ⟨_, (true), (by first | rfl | (simp; done) | (simp [*]; done)), H', ⟨by have := HJ5.out; first | omega | exact Nat.le_refl _⟩, ⟨by (with_reducible repeat (first | refine blk_drewN ?_ _ | refine blk_drew ?_ | refine blk_alloc ?_ _)); exact BK369.out⟩, ⟨by repeat (first | (with_reducible first | exact HB.out | apply below_alloc | apply pw_below_drewN | apply below_drew1 | refine below_set ?_ GE369.out) | exact HB.out)⟩⟩
          · rw [if_neg c14] at H
            have c14b0 : (t371 == 0) = false := beq_eq_false_iff_ne.mpr c14
            have c14b1 : (t371 != 0) = true := bne_iff_ne.mpr c14
            (first | rw [c14b0] | (simp only [i64_w, i32_w]; rw [c14b0]) | skip)
            have H' := Aside0.mk H
            clear H
            go_wp2
            go_meet
            case rel => exact ⟨_, (true), (by first | rfl | (simp; done) | (simp [*]; done)), H', ⟨by have := HJ5.out; first | omega | exact Nat.le_refl _⟩, ⟨by (with_reducible repeat (first | refine blk_drewN ?_ _ | refine blk_drew ?_ | refine blk_alloc ?_ _)); exact BK369.out⟩, ⟨by repeat (first | (with_reducible first | exact HB.out | apply below_alloc | apply pw_below_drewN | apply below_drew1 | refine below_set ?_ GE369.out) | exact HB.out)⟩⟩
        · replace c13 := Bool.eq_false_iff.mpr c13
          subst c13
          have H1 : (if t371 = 4 then (if (t370.length : Int) > 0 then (headroomlaw22_ChooseLosses.j1 kj5 a2 t374 t375 true a1_0 a1_1 a1_2 a1_3 a1_4 a1_5) else ((headroomlaw22_alive.f kj5).bind fun t381 => (headroomlaw22_ChooseLosses.j1 kj5 a2 t374 t375 (!t381) a1_0 a1_1 a1_2 a1_3 a1_4 a1_5))) else (headroomlaw22_ChooseLosses.j1 kj5 a2 t374 t375 true a1_0 a1_1 a1_2 a1_3 a1_4 a1_5)) = some r := by rw [if_neg (show ¬ (false = true) by decide)] at H; exact H
          clear H
          have H := H1
          clear H1
          by_cases c26 : t371 = 4
          · rw [if_pos c26] at H
            have c26b0 : (t371 == 4) = true := beq_iff_eq.mpr c26
            have c26b1 : (t371 != 4) = false := bne_eq_false_iff_eq.mpr c26
            clear c26
            by_cases c27 : (t370.length : Int) > 0
            · rw [if_pos c27] at H
              have c27b0 : decide (0 < (t370.length : Int)) = true := decide_eq_true c27
              have c27b1 : decide (0 < t370.length) = true := decide_eq_true (by omega)
              clear c27
              have H' := Aside0.mk H
              clear H
              obtain ⟨Ao28, co28, eo28⟩ := Kd.R_slice HO_7.out
              subst eo28
              go_wp2
              go_meet
              case rel => exact ⟨_, (true), (by first | rfl | (simp; done) | (simp [*]; done)), H', ⟨by have := HJ5.out; first | omega | exact Nat.le_refl _⟩, ⟨by (with_reducible repeat (first | refine blk_drewN ?_ _ | refine blk_drew ?_ | refine blk_alloc ?_ _)); exact BK369.out⟩, ⟨by repeat (first | (with_reducible first | exact HB.out | apply below_alloc | apply pw_below_drewN | apply below_drew1 | refine below_set ?_ GE369.out) | exact HB.out)⟩⟩
            · rw [if_neg c27] at H
              have c27b0 : decide (0 < (t370.length : Int)) = false := decide_eq_false c27
              have c27b1 : decide (0 < t370.length) = false := decide_eq_false (by omega)
              clear c27
              replace H := Option.bind_eq_some_iff.mp H
              obtain ⟨t381, A290, H⟩ := H
              replace H : (headroomlaw22_ChooseLosses.j1 kj5 a2 t374 t375 (!t381) a1_0 a1_1 a1_2 a1_3 a1_4 a1_5) = some r := H
              have A29 := Aside0.mk A290
              clear A290
              have H' := Aside0.mk H
              clear H
              obtain ⟨Ao30, co30, eo30⟩ := Kd.R_slice HO_7.out
              subst eo30
              go_wp2_with (first | (go_at_call 38; (with_reducible refine (headroomlaw22_alive.calls kj5  t381 _ A29.out).mono ?_); rintro e w31 ⟨rfl, hb⟩; have n0_ := Aside0.mk (Kd.R_below (by (with_reducible repeat (first | apply Kd.R_alloc | apply Kd.R_drewN | apply Kd.R_drew)); exact HO_7.out) hb); have n1_ := Aside0.mk (blk_below (g := gb369) (o := .cells #[.int .i64 a1_0, .int .i64 a1_1, .int .i64 a1_2, .int .i64 a1_3, .int .i64 a1_4, .bool a1_5] 23 (0, 0)) (by (with_reducible repeat (first | refine blk_drewN ?_ _ | refine blk_drew ?_ | refine blk_alloc ?_ _)); exact BK369.out) hb); have n2_ := Aside0.mk (below_step (by repeat (first | (with_reducible first | exact HB.out | apply below_alloc | apply pw_below_drewN | apply below_drew1 | refine below_set ?_ GE369.out) | exact HB.out)) hb); clear HO_7; clear BK369; clear HB; have HO_7 := n0_; have BK369 := n1_; have HB := n2_; clear n0_ n1_ n2_; (try clear hb); (try clear hb2); (try clear hk); (try clear hi)))
              go_meet
              case rel => exact ⟨_, (!t381), (by first | rfl | (simp; done) | (simp [*]; done)), H', ⟨by have := HJ5.out; first | omega | exact Nat.le_refl _⟩, ⟨by (with_reducible repeat (first | refine blk_drewN ?_ _ | refine blk_drew ?_ | refine blk_alloc ?_ _)); exact BK369.out⟩, ⟨by repeat (first | (with_reducible first | exact HB.out | apply below_alloc | apply pw_below_drewN | apply below_drew1 | refine below_set ?_ GE369.out) | exact HB.out)⟩⟩
          · rw [if_neg c26] at H
            have c26b0 : (t371 == 4) = false := beq_eq_false_iff_ne.mpr c26
            have c26b1 : (t371 != 4) = true := bne_iff_ne.mpr c26
            have H' := Aside0.mk H
            clear H
            go_wp2
            go_meet
            case rel => exact ⟨_, (true), (by first | rfl | (simp; done) | (simp [*]; done)), H', ⟨by have := HJ5.out; first | omega | exact Nat.le_refl _⟩, ⟨by (with_reducible repeat (first | refine blk_drewN ?_ _ | refine blk_drew ?_ | refine blk_alloc ?_ _)); exact BK369.out⟩, ⟨by repeat (first | (with_reducible first | exact HB.out | apply below_alloc | apply pw_below_drewN | apply below_drew1 | refine below_set ?_ GE369.out) | exact HB.out)⟩⟩
      case rest =>
        clear HC12
        try clear c1
        try clear c2
        try clear p2
        try clear c3
        try clear c10
        try clear c11
        try clear c11b0
        try clear c13
        try clear c14
        try clear c14b0
        try clear c14b1
        try clear c17
        try clear c26
        try clear c26b0
        try clear c26b1
        try clear c27
        try clear c27b0
        try clear c27b1
        try clear hcz9_0
        try clear hcz9_1
        try clear hcz9_2
        try clear hcz9_3
        try clear hcz9_4
        try clear hcz9_5
        try clear hfz9_0
        try clear hfz9_1
        try clear hfz9_2
        try clear hfz9_3
        try clear hfz9_4
        try clear hfz9_5
        try clear p2
        obtain ⟨kq, x57_11, rfl, HA, HJ11, BK369, HB⟩ := hcut
        cases kq with
        | zero => exact absurd HA.out (by simp [headroomlaw22_ChooseLosses.j1])
        | succ kj11 =>
          have H := HA.out
          clear HA
          simp only [headroomlaw22_ChooseLosses.j1] at H
          by_cases c32 : x57_11 = true
          · subst c32
            have H1 : (some false) = some r := by rw [if_pos rfl] at H; exact H
            clear H
            have H := H1
            clear H1
            obtain rfl := Option.some.inj H
            go_wp2
            go_ret
            exact ⟨by first | rfl | (simp [errW_none, errW_some] <;> rfl) | (simp [*, errW_none, errW_some] <;> rfl), by repeat (first | (with_reducible first | exact HB.out | apply below_alloc | apply pw_below_drewN | apply below_drew1 | refine below_set ?_ GE369.out) | exact HB.out)⟩
          · replace c32 := Bool.eq_false_iff.mpr c32
            subst c32
            have H1 : ((headroomref13_Check.f kj11 a1_0 a1_1 a1_2 a1_3 a1_4 a1_5).bind fun t382 => (if t382 = true then (if t375 = 0 then ((headroomref22_Loss.f kj11 a1_0 a1_1 a1_2 a1_3 a1_4 a1_5).bind fun t383 => (some (t374 == (decide (t383 ≤ a2))))) else (some false)) else (if t375 = 4 then (some (!t374)) else (some false)))) = some r := by rw [if_neg (show ¬ (false = true) by decide)] at H; exact H
            clear H
            have H := H1
            clear H1
            replace H := Option.bind_eq_some_iff.mp H
            obtain ⟨t382, A330, H⟩ := H
            replace H : (if t382 = true then (if t375 = 0 then ((headroomref22_Loss.f kj11 a1_0 a1_1 a1_2 a1_3 a1_4 a1_5).bind fun t383 => (some (t374 == (decide (t383 ≤ a2))))) else (some false)) else (if t375 = 4 then (some (!t374)) else (some false))) = some r := H
            have A33 := Aside0.mk A330
            clear A330
            by_cases c34 : t382 = true
            · subst c34
              have H1 : (if t375 = 0 then ((headroomref22_Loss.f kj11 a1_0 a1_1 a1_2 a1_3 a1_4 a1_5).bind fun t383 => (some (t374 == (decide (t383 ≤ a2))))) else (some false)) = some r := by rw [if_pos rfl] at H; exact H
              clear H
              have H := H1
              clear H1
              by_cases c35 : t375 = 0
              · rw [if_pos c35] at H
                have c35b0 : (t375 == 0) = true := beq_iff_eq.mpr c35
                have c35b1 : (t375 != 0) = false := bne_eq_false_iff_eq.mpr c35
                clear c35
                replace H := Option.bind_eq_some_iff.mp H
                obtain ⟨t383, A360, H⟩ := H
                replace H : (some (t374 == (decide (t383 ≤ a2)))) = some r := H
                have A36 := Aside0.mk A360
                clear A360
                obtain rfl := Option.some.inj H
                have hcz37_0 : wc.cell? ⟨gb369, 0, none⟩ = some (.int .i64 a1_0) := (blk_cell BK369.out 0).trans rfl
                have hcz37_1 : wc.cell? ⟨gb369, 1, none⟩ = some (.int .i64 a1_1) := (blk_cell BK369.out 1).trans rfl
                have hcz37_2 : wc.cell? ⟨gb369, 2, none⟩ = some (.int .i64 a1_2) := (blk_cell BK369.out 2).trans rfl
                have hcz37_3 : wc.cell? ⟨gb369, 3, none⟩ = some (.int .i64 a1_3) := (blk_cell BK369.out 3).trans rfl
                have hcz37_4 : wc.cell? ⟨gb369, 4, none⟩ = some (.int .i64 a1_4) := (blk_cell BK369.out 4).trans rfl
                have hcz37_5 : wc.cell? ⟨gb369, 5, none⟩ = some (.bool a1_5) := (blk_cell BK369.out 5).trans rfl
                have hfz37_0 := blk_frozen BK369.out 0
                have hfz37_1 := blk_frozen BK369.out 1
                have hfz37_2 := blk_frozen BK369.out 2
                have hfz37_3 := blk_frozen BK369.out 3
                have hfz37_4 := blk_frozen BK369.out 4
                have hfz37_5 := blk_frozen BK369.out 5
                go_wp2_with (first | ((with_reducible refine gate_callee (f := 14) rfl ?_); refine goesL_ (some 59) rfl rfl Try.func14 (by kernel_rfl) rfl #[.agg #[.int .i64 a1_0, .int .i64 a1_1, .int .i64 a1_2, .int .i64 a1_3, .int .i64 a1_4, .bool a1_5]] rfl (by (try simp only [List.map_toArray, List.map_cons, List.map_nil]); first | done | rfl | (simp only [List.length_drop, List.length_take]; rfl)) ?_; (with_reducible refine (headroomref13_Check.calls kj11 a1_0 a1_1 a1_2 a1_3 a1_4 a1_5 true _ A33.out).mono ?_); rintro e w38 ⟨rfl, hb⟩; refine ⟨_, rfl, ?_⟩; have n0_ := Aside0.mk (blk_below (g := gb369) (o := .cells #[.int .i64 a1_0, .int .i64 a1_1, .int .i64 a1_2, .int .i64 a1_3, .int .i64 a1_4, .bool a1_5] 23 (0, 0)) (by (with_reducible repeat (first | refine blk_drewN ?_ _ | refine blk_drew ?_ | refine blk_alloc ?_ _)); exact BK369.out) hb); have n1_ := Aside0.mk (below_step (by repeat (first | (with_reducible first | exact HB.out | apply below_alloc | apply pw_below_drewN | apply below_drew1 | refine below_set ?_ GE369.out) | exact HB.out)) hb); clear BK369; clear HB; have BK369 := n0_; have HB := n1_; clear n0_ n1_; (try clear hb); (try clear hb2); (try clear hk); (try clear hi); have hcz39_0 : w38.cell? ⟨gb369, 0, none⟩ = some (.int .i64 a1_0) := (blk_cell BK369.out 0).trans rfl; have hcz39_1 : w38.cell? ⟨gb369, 1, none⟩ = some (.int .i64 a1_1) := (blk_cell BK369.out 1).trans rfl; have hcz39_2 : w38.cell? ⟨gb369, 2, none⟩ = some (.int .i64 a1_2) := (blk_cell BK369.out 2).trans rfl; have hcz39_3 : w38.cell? ⟨gb369, 3, none⟩ = some (.int .i64 a1_3) := (blk_cell BK369.out 3).trans rfl; have hcz39_4 : w38.cell? ⟨gb369, 4, none⟩ = some (.int .i64 a1_4) := (blk_cell BK369.out 4).trans rfl; have hcz39_5 : w38.cell? ⟨gb369, 5, none⟩ = some (.bool a1_5) := (blk_cell BK369.out 5).trans rfl; have hfz39_0 := blk_frozen BK369.out 0; have hfz39_1 := blk_frozen BK369.out 1; have hfz39_2 := blk_frozen BK369.out 2; have hfz39_3 := blk_frozen BK369.out 3; have hfz39_4 := blk_frozen BK369.out 4; have hfz39_5 := blk_frozen BK369.out 5) | (go_at_call 39; (with_reducible refine (headroomref22_Loss.calls kj11 a1_0 a1_1 a1_2 a1_3 a1_4 a1_5 t383 _ A36.out).mono ?_); rintro e w40 ⟨rfl, hb⟩; have n0_ := Aside0.mk (blk_below (g := gb369) (o := .cells #[.int .i64 a1_0, .int .i64 a1_1, .int .i64 a1_2, .int .i64 a1_3, .int .i64 a1_4, .bool a1_5] 23 (0, 0)) (by (with_reducible repeat (first | refine blk_drewN ?_ _ | refine blk_drew ?_ | refine blk_alloc ?_ _)); exact BK369.out) hb); have n1_ := Aside0.mk (below_step (by repeat (first | (with_reducible first | exact HB.out | apply below_alloc | apply pw_below_drewN | apply below_drew1 | refine below_set ?_ GE369.out) | exact HB.out)) hb); clear BK369; clear HB; have BK369 := n0_; have HB := n1_; clear n0_ n1_; (try clear hb); (try clear hb2); (try clear hk); (try clear hi)))
                go_ret
                exact ⟨by first | rfl | (simp [errW_none, errW_some] <;> rfl) | (simp [*, errW_none, errW_some] <;> rfl), by repeat (first | (with_reducible first | exact HB.out | apply below_alloc | apply pw_below_drewN | apply below_drew1 | refine below_set ?_ GE369.out) | exact HB.out)⟩
              · rw [if_neg c35] at H
                have c35b0 : (t375 == 0) = false := beq_eq_false_iff_ne.mpr c35
                have c35b1 : (t375 != 0) = true := bne_iff_ne.mpr c35
                obtain rfl := Option.some.inj H
                have hcz41_0 : wc.cell? ⟨gb369, 0, none⟩ = some (.int .i64 a1_0) := (blk_cell BK369.out 0).trans rfl
                have hcz41_1 : wc.cell? ⟨gb369, 1, none⟩ = some (.int .i64 a1_1) := (blk_cell BK369.out 1).trans rfl
                have hcz41_2 : wc.cell? ⟨gb369, 2, none⟩ = some (.int .i64 a1_2) := (blk_cell BK369.out 2).trans rfl
                have hcz41_3 : wc.cell? ⟨gb369, 3, none⟩ = some (.int .i64 a1_3) := (blk_cell BK369.out 3).trans rfl
                have hcz41_4 : wc.cell? ⟨gb369, 4, none⟩ = some (.int .i64 a1_4) := (blk_cell BK369.out 4).trans rfl
                have hcz41_5 : wc.cell? ⟨gb369, 5, none⟩ = some (.bool a1_5) := (blk_cell BK369.out 5).trans rfl
                have hfz41_0 := blk_frozen BK369.out 0
                have hfz41_1 := blk_frozen BK369.out 1
                have hfz41_2 := blk_frozen BK369.out 2
                have hfz41_3 := blk_frozen BK369.out 3
                have hfz41_4 := blk_frozen BK369.out 4
                have hfz41_5 := blk_frozen BK369.out 5
                go_wp2_with (first | ((with_reducible refine gate_callee (f := 14) rfl ?_); refine goesL_ (some 59) rfl rfl Try.func14 (by kernel_rfl) rfl #[.agg #[.int .i64 a1_0, .int .i64 a1_1, .int .i64 a1_2, .int .i64 a1_3, .int .i64 a1_4, .bool a1_5]] rfl (by (try simp only [List.map_toArray, List.map_cons, List.map_nil]); first | done | rfl | (simp only [List.length_drop, List.length_take]; rfl)) ?_; (with_reducible refine (headroomref13_Check.calls kj11 a1_0 a1_1 a1_2 a1_3 a1_4 a1_5 true _ A33.out).mono ?_); rintro e w42 ⟨rfl, hb⟩; refine ⟨_, rfl, ?_⟩; have n0_ := Aside0.mk (blk_below (g := gb369) (o := .cells #[.int .i64 a1_0, .int .i64 a1_1, .int .i64 a1_2, .int .i64 a1_3, .int .i64 a1_4, .bool a1_5] 23 (0, 0)) (by (with_reducible repeat (first | refine blk_drewN ?_ _ | refine blk_drew ?_ | refine blk_alloc ?_ _)); exact BK369.out) hb); have n1_ := Aside0.mk (below_step (by repeat (first | (with_reducible first | exact HB.out | apply below_alloc | apply pw_below_drewN | apply below_drew1 | refine below_set ?_ GE369.out) | exact HB.out)) hb); clear BK369; clear HB; have BK369 := n0_; have HB := n1_; clear n0_ n1_; (try clear hb); (try clear hb2); (try clear hk); (try clear hi)))
                go_ret
                exact ⟨by first | rfl | (simp [errW_none, errW_some] <;> rfl) | (simp [*, errW_none, errW_some] <;> rfl), by repeat (first | (with_reducible first | exact HB.out | apply below_alloc | apply pw_below_drewN | apply below_drew1 | refine below_set ?_ GE369.out) | exact HB.out)⟩
            · replace c34 := Bool.eq_false_iff.mpr c34
              subst c34
              have H1 : (if t375 = 4 then (some (!t374)) else (some false)) = some r := by rw [if_neg (show ¬ (false = true) by decide)] at H; exact H
              clear H
              have H := H1
              clear H1
              by_cases c43 : t375 = 4
              · rw [if_pos c43] at H
                have c43b0 : (t375 == 4) = true := beq_iff_eq.mpr c43
                have c43b1 : (t375 != 4) = false := bne_eq_false_iff_eq.mpr c43
                clear c43
                obtain rfl := Option.some.inj H
                have hcz44_0 : wc.cell? ⟨gb369, 0, none⟩ = some (.int .i64 a1_0) := (blk_cell BK369.out 0).trans rfl
                have hcz44_1 : wc.cell? ⟨gb369, 1, none⟩ = some (.int .i64 a1_1) := (blk_cell BK369.out 1).trans rfl
                have hcz44_2 : wc.cell? ⟨gb369, 2, none⟩ = some (.int .i64 a1_2) := (blk_cell BK369.out 2).trans rfl
                have hcz44_3 : wc.cell? ⟨gb369, 3, none⟩ = some (.int .i64 a1_3) := (blk_cell BK369.out 3).trans rfl
                have hcz44_4 : wc.cell? ⟨gb369, 4, none⟩ = some (.int .i64 a1_4) := (blk_cell BK369.out 4).trans rfl
                have hcz44_5 : wc.cell? ⟨gb369, 5, none⟩ = some (.bool a1_5) := (blk_cell BK369.out 5).trans rfl
                have hfz44_0 := blk_frozen BK369.out 0
                have hfz44_1 := blk_frozen BK369.out 1
                have hfz44_2 := blk_frozen BK369.out 2
                have hfz44_3 := blk_frozen BK369.out 3
                have hfz44_4 := blk_frozen BK369.out 4
                have hfz44_5 := blk_frozen BK369.out 5
                go_wp2_with (first | ((with_reducible refine gate_callee (f := 14) rfl ?_); refine goesL_ (some 59) rfl rfl Try.func14 (by kernel_rfl) rfl #[.agg #[.int .i64 a1_0, .int .i64 a1_1, .int .i64 a1_2, .int .i64 a1_3, .int .i64 a1_4, .bool a1_5]] rfl (by (try simp only [List.map_toArray, List.map_cons, List.map_nil]); first | done | rfl | (simp only [List.length_drop, List.length_take]; rfl)) ?_; (with_reducible refine (headroomref13_Check.calls kj11 a1_0 a1_1 a1_2 a1_3 a1_4 a1_5 false _ A33.out).mono ?_); rintro e w45 ⟨rfl, hb⟩; refine ⟨_, rfl, ?_⟩; have n0_ := Aside0.mk (blk_below (g := gb369) (o := .cells #[.int .i64 a1_0, .int .i64 a1_1, .int .i64 a1_2, .int .i64 a1_3, .int .i64 a1_4, .bool a1_5] 23 (0, 0)) (by (with_reducible repeat (first | refine blk_drewN ?_ _ | refine blk_drew ?_ | refine blk_alloc ?_ _)); exact BK369.out) hb); have n1_ := Aside0.mk (below_step (by repeat (first | (with_reducible first | exact HB.out | apply below_alloc | apply pw_below_drewN | apply below_drew1 | refine below_set ?_ GE369.out) | exact HB.out)) hb); clear BK369; clear HB; have BK369 := n0_; have HB := n1_; clear n0_ n1_; (try clear hb); (try clear hb2); (try clear hk); (try clear hi)))
                go_ret
                exact ⟨by first | rfl | (simp [errW_none, errW_some] <;> rfl) | (simp [*, errW_none, errW_some] <;> rfl), by repeat (first | (with_reducible first | exact HB.out | apply below_alloc | apply pw_below_drewN | apply below_drew1 | refine below_set ?_ GE369.out) | exact HB.out)⟩
              · rw [if_neg c43] at H
                have c43b0 : (t375 == 4) = false := beq_eq_false_iff_ne.mpr c43
                have c43b1 : (t375 != 4) = true := bne_iff_ne.mpr c43
                obtain rfl := Option.some.inj H
                have hcz46_0 : wc.cell? ⟨gb369, 0, none⟩ = some (.int .i64 a1_0) := (blk_cell BK369.out 0).trans rfl
                have hcz46_1 : wc.cell? ⟨gb369, 1, none⟩ = some (.int .i64 a1_1) := (blk_cell BK369.out 1).trans rfl
                have hcz46_2 : wc.cell? ⟨gb369, 2, none⟩ = some (.int .i64 a1_2) := (blk_cell BK369.out 2).trans rfl
                have hcz46_3 : wc.cell? ⟨gb369, 3, none⟩ = some (.int .i64 a1_3) := (blk_cell BK369.out 3).trans rfl
                have hcz46_4 : wc.cell? ⟨gb369, 4, none⟩ = some (.int .i64 a1_4) := (blk_cell BK369.out 4).trans rfl
                have hcz46_5 : wc.cell? ⟨gb369, 5, none⟩ = some (.bool a1_5) := (blk_cell BK369.out 5).trans rfl
                have hfz46_0 := blk_frozen BK369.out 0
                have hfz46_1 := blk_frozen BK369.out 1
                have hfz46_2 := blk_frozen BK369.out 2
                have hfz46_3 := blk_frozen BK369.out 3
                have hfz46_4 := blk_frozen BK369.out 4
                have hfz46_5 := blk_frozen BK369.out 5
                go_wp2_with (first | ((with_reducible refine gate_callee (f := 14) rfl ?_); refine goesL_ (some 59) rfl rfl Try.func14 (by kernel_rfl) rfl #[.agg #[.int .i64 a1_0, .int .i64 a1_1, .int .i64 a1_2, .int .i64 a1_3, .int .i64 a1_4, .bool a1_5]] rfl (by (try simp only [List.map_toArray, List.map_cons, List.map_nil]); first | done | rfl | (simp only [List.length_drop, List.length_take]; rfl)) ?_; (with_reducible refine (headroomref13_Check.calls kj11 a1_0 a1_1 a1_2 a1_3 a1_4 a1_5 false _ A33.out).mono ?_); rintro e w47 ⟨rfl, hb⟩; refine ⟨_, rfl, ?_⟩; have n0_ := Aside0.mk (blk_below (g := gb369) (o := .cells #[.int .i64 a1_0, .int .i64 a1_1, .int .i64 a1_2, .int .i64 a1_3, .int .i64 a1_4, .bool a1_5] 23 (0, 0)) (by (with_reducible repeat (first | refine blk_drewN ?_ _ | refine blk_drew ?_ | refine blk_alloc ?_ _)); exact BK369.out) hb); have n1_ := Aside0.mk (below_step (by repeat (first | (with_reducible first | exact HB.out | apply below_alloc | apply pw_below_drewN | apply below_drew1 | refine below_set ?_ GE369.out) | exact HB.out)) hb); clear BK369; clear HB; have BK369 := n0_; have HB := n1_; clear n0_ n1_; (try clear hb); (try clear hb2); (try clear hk); (try clear hi)))
                go_ret
                exact ⟨by first | rfl | (simp [errW_none, errW_some] <;> rfl) | (simp [*, errW_none, errW_some] <;> rfl), by repeat (first | (with_reducible first | exact HB.out | apply below_alloc | apply pw_below_drewN | apply below_drew1 | refine below_set ?_ GE369.out) | exact HB.out)⟩

end Go.Proofs.Ytbpanbmjkfhcgaa.P
