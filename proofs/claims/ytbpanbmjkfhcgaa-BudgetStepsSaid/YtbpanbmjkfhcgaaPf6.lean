-- Printed for this claim by drive.py (a program of this session's) through the kit's print program; not trusted: Lean checks it.
import Derived.Test.YtbpanbmjkfhcgaaP0
import Derived.Test.YtbpanbmjkfhcgaaPf14
import Derived.Test.YtbpanbmjkfhcgaaPf22
import Derived.Test.YtbpanbmjkfhcgaaPf23
import Derived.Test.YtbpanbmjkfhcgaaPf24
import Derived.Test.YtbpanbmjkfhcgaaPf25
import Derived.Test.YtbpanbmjkfhcgaaPf26
import Derived.Test.YtbpanbmjkfhcgaaPf27
namespace Go.Proofs.Ytbpanbmjkfhcgaa.P
open Go.RowKit Go.Proofs.YtbpanbmjkfhcgaaW.PrintWords Go.Proofs.YtbpanbmjkfhcgaaW.PrintLast Go.Proofs.YtbpanbmjkfhcgaaW.PrintMore
attribute [local go_sem] max2_int min2_int max_two min_two max_three min_three max_four min_four   -- for this text's walks alone
set_option linter.unusedVariables false
set_option linter.unusedSimpArgs false

/-! ### headroomlaw14_BudgetSteps: function 6 -/
def headroomlaw14_BudgetSteps.j0 : Nat → Int → Int → Int → Int → Int → Int → Bool → Option (Bool)
  | 0, _, _, _, _, _, _, _ => none
  | k + 1, x0, x1, x2, x3, x11, x12, x57 => if x57 = true then (some false) else ((headroomref14_MaySteps.f k x0 x1 x2 x3).bind fun t226 => (if t226 = true then (if x12 = 0 then ((headroomref14_Step.f k x0 x1 x2 x3).bind fun t227 => (some (x11 == t227))) else (some false)) else (if x12 = 1 then (some (x11 == 0)) else (some false))))
def headroomlaw14_BudgetSteps.f (k : Nat) (a0 : Int) (a1 : Int) (a2 : Int) (a3 : Int) (a4_0 : Int) (a4_1 : Int) (a4_2 : Int) (a4_3 : Int) (a4_4 : Int) (a4_5 : Bool) : Option (Bool) := (budget_Step.f a0 a1 a2 a3).bind fun bt218 => ((budget_Start.f a4_0 a4_1 a4_2 a4_3 a4_4 a4_5).bind fun bt220 => ((headroomref13_Check.f k a4_0 a4_1 a4_2 a4_3 a4_4 a4_5).bind fun t222 => (if t222 = true then (if bt220.2 = 0 then ((headroomref14_Start.f a4_0 a4_1 a4_2 a4_3 a4_4 a4_5).bind fun t223 => (if bt220.1 = t223 then ((headroomlaw14_alive.f k).bind fun t224 => (headroomlaw14_BudgetSteps.j0 k a0 a1 a2 a3 bt218.1 bt218.2 (!t224))) else (headroomlaw14_BudgetSteps.j0 k a0 a1 a2 a3 bt218.1 bt218.2 true))) else (headroomlaw14_BudgetSteps.j0 k a0 a1 a2 a3 bt218.1 bt218.2 true)) else (if bt220.2 = 4 then (if bt220.1 = 0 then ((headroomlaw14_alive.f k).bind fun t225 => (headroomlaw14_BudgetSteps.j0 k a0 a1 a2 a3 bt218.1 bt218.2 (!t225))) else (headroomlaw14_BudgetSteps.j0 k a0 a1 a2 a3 bt218.1 bt218.2 true)) else (headroomlaw14_BudgetSteps.j0 k a0 a1 a2 a3 bt218.1 bt218.2 true)))))
theorem headroomlaw14_BudgetSteps.mono_l : ∀ k, (∀ y0 y1 y2 y3 y4 y5 y6, LeO (headroomlaw14_BudgetSteps.j0 k y0 y1 y2 y3 y4 y5 y6) (headroomlaw14_BudgetSteps.j0 (k + 1) y0 y1 y2 y3 y4 y5 y6))
  | 0 => fun _ _ _ _ _ _ _ r h => by simp [headroomlaw14_BudgetSteps.j0] at h
  | k + 1 => by
    have ih0 := headroomlaw14_BudgetSteps.mono_l k
    · intro y0 y1 y2 y3 y4 y5 y6
      unfold headroomlaw14_BudgetSteps.j0
      repeat' first
      | (with_reducible exact ih0 _ _ _ _ _ _ _)
      | (with_reducible exact headroomlaw14_alive.mono _)
      | (with_reducible exact headroomref13_Check.mono _ _ _ _ _ _ _)
      | (with_reducible exact headroomref14_MaySteps.mono _ _ _ _ _)
      | (with_reducible exact headroomref14_Step.mono _ _ _ _ _)
      | (with_reducible exact LeO.refl _)
      | (with_reducible exact LeO.none _)
      | (with_reducible refine LeO.ite ?_ ?_)
      | (with_reducible refine LeO.bind ?_ (fun _ => ?_))
      | exact ih0 _ _ _ _ _ _ _
      | exact headroomlaw14_alive.mono _
      | exact headroomref13_Check.mono _ _ _ _ _ _ _
      | exact headroomref14_MaySteps.mono _ _ _ _ _
      | exact headroomref14_Step.mono _ _ _ _ _
      | exact LeO.none _
      | refine LeO.ite ?_ ?_
      | refine LeO.bind ?_ (fun _ => ?_)
theorem headroomlaw14_BudgetSteps.mono : ∀ a0 a1 a2 a3 a4 a5 a6 a7 a8 a9 k, LeO (headroomlaw14_BudgetSteps.f k a0 a1 a2 a3 a4 a5 a6 a7 a8 a9) (headroomlaw14_BudgetSteps.f (k + 1) a0 a1 a2 a3 a4 a5 a6 a7 a8 a9) := by
  intro a0 a1 a2 a3 a4 a5 a6 a7 a8 a9 k
  have ih0 := headroomlaw14_BudgetSteps.mono_l k
  unfold headroomlaw14_BudgetSteps.f
  repeat' first
      | (with_reducible exact ih0 _ _ _ _ _ _ _)
      | (with_reducible exact headroomlaw14_alive.mono _)
      | (with_reducible exact headroomref13_Check.mono _ _ _ _ _ _ _)
      | (with_reducible exact headroomref14_MaySteps.mono _ _ _ _ _)
      | (with_reducible exact headroomref14_Step.mono _ _ _ _ _)
      | (with_reducible exact LeO.refl _)
      | (with_reducible exact LeO.none _)
      | (with_reducible refine LeO.ite ?_ ?_)
      | (with_reducible refine LeO.bind ?_ (fun _ => ?_))
      | exact ih0 _ _ _ _ _ _ _
      | exact headroomlaw14_alive.mono _
      | exact headroomref13_Check.mono _ _ _ _ _ _ _
      | exact headroomref14_MaySteps.mono _ _ _ _ _
      | exact headroomref14_Step.mono _ _ _ _ _
      | exact LeO.none _
      | refine LeO.ite ?_ ?_
      | refine LeO.bind ?_ (fun _ => ?_)
set_option maxHeartbeats 8000000 in
set_option maxRecDepth 100000 in
theorem headroomlaw14_BudgetSteps.calls (k : Nat) (a0 : Int) (a1 : Int) (a2 : Int) (a3 : Int) (a4_0 : Int) (a4_1 : Int) (a4_2 : Int) (a4_3 : Int) (a4_4 : Int) (a4_5 : Bool) (r : Bool) (w : World) (h : headroomlaw14_BudgetSteps.f k a0 a1 a2 a3 a4_0 a4_1 a4_2 a4_3 a4_4 a4_5 = some r) :
    Calls Try.prog 6 #[.int .i64 a0, .int .i64 a1, .int .i64 a2, .int .i64 a3, .agg #[.int .i64 a4_0, .int .i64 a4_1, .int .i64 a4_2, .int .i64 a4_3, .int .i64 a4_4, .bool a4_5]] w fun e w' => e = .returned (.bool r) ∧ Below w.heap.size w w' := by
  have hu23 := Try.underlying23
  have HB := Aside0.mk (Below.refl w.heap.size w)
  have H : ((budget_Step.f a0 a1 a2 a3).bind fun bt218 => ((budget_Start.f a4_0 a4_1 a4_2 a4_3 a4_4 a4_5).bind fun bt220 => ((headroomref13_Check.f k a4_0 a4_1 a4_2 a4_3 a4_4 a4_5).bind fun t222 => (if t222 = true then (if bt220.2 = 0 then ((headroomref14_Start.f a4_0 a4_1 a4_2 a4_3 a4_4 a4_5).bind fun t223 => (if bt220.1 = t223 then ((headroomlaw14_alive.f k).bind fun t224 => (headroomlaw14_BudgetSteps.j0 k a0 a1 a2 a3 bt218.1 bt218.2 (!t224))) else (headroomlaw14_BudgetSteps.j0 k a0 a1 a2 a3 bt218.1 bt218.2 true))) else (headroomlaw14_BudgetSteps.j0 k a0 a1 a2 a3 bt218.1 bt218.2 true)) else (if bt220.2 = 4 then (if bt220.1 = 0 then ((headroomlaw14_alive.f k).bind fun t225 => (headroomlaw14_BudgetSteps.j0 k a0 a1 a2 a3 bt218.1 bt218.2 (!t225))) else (headroomlaw14_BudgetSteps.j0 k a0 a1 a2 a3 bt218.1 bt218.2 true)) else (headroomlaw14_BudgetSteps.j0 k a0 a1 a2 a3 bt218.1 bt218.2 true)))))) = some r := h
  clear h
  replace H := Option.bind_eq_some_iff.mp H
  obtain ⟨⟨t218, t219⟩, A60, H⟩ := H
  replace H : ((budget_Start.f a4_0 a4_1 a4_2 a4_3 a4_4 a4_5).bind fun bt220 => ((headroomref13_Check.f k a4_0 a4_1 a4_2 a4_3 a4_4 a4_5).bind fun t222 => (if t222 = true then (if bt220.2 = 0 then ((headroomref14_Start.f a4_0 a4_1 a4_2 a4_3 a4_4 a4_5).bind fun t223 => (if bt220.1 = t223 then ((headroomlaw14_alive.f k).bind fun t224 => (headroomlaw14_BudgetSteps.j0 k a0 a1 a2 a3 t218 t219 (!t224))) else (headroomlaw14_BudgetSteps.j0 k a0 a1 a2 a3 t218 t219 true))) else (headroomlaw14_BudgetSteps.j0 k a0 a1 a2 a3 t218 t219 true)) else (if bt220.2 = 4 then (if bt220.1 = 0 then ((headroomlaw14_alive.f k).bind fun t225 => (headroomlaw14_BudgetSteps.j0 k a0 a1 a2 a3 t218 t219 (!t225))) else (headroomlaw14_BudgetSteps.j0 k a0 a1 a2 a3 t218 t219 true)) else (headroomlaw14_BudgetSteps.j0 k a0 a1 a2 a3 t218 t219 true))))) = some r := H
  have A6 := Aside0.mk A60
  clear A60
  replace H := Option.bind_eq_some_iff.mp H
  obtain ⟨⟨t220, t221⟩, A70, H⟩ := H
  replace H : ((headroomref13_Check.f k a4_0 a4_1 a4_2 a4_3 a4_4 a4_5).bind fun t222 => (if t222 = true then (if t221 = 0 then ((headroomref14_Start.f a4_0 a4_1 a4_2 a4_3 a4_4 a4_5).bind fun t223 => (if t220 = t223 then ((headroomlaw14_alive.f k).bind fun t224 => (headroomlaw14_BudgetSteps.j0 k a0 a1 a2 a3 t218 t219 (!t224))) else (headroomlaw14_BudgetSteps.j0 k a0 a1 a2 a3 t218 t219 true))) else (headroomlaw14_BudgetSteps.j0 k a0 a1 a2 a3 t218 t219 true)) else (if t221 = 4 then (if t220 = 0 then ((headroomlaw14_alive.f k).bind fun t225 => (headroomlaw14_BudgetSteps.j0 k a0 a1 a2 a3 t218 t219 (!t225))) else (headroomlaw14_BudgetSteps.j0 k a0 a1 a2 a3 t218 t219 true)) else (headroomlaw14_BudgetSteps.j0 k a0 a1 a2 a3 t218 t219 true)))) = some r := H
  have A7 := Aside0.mk A70
  clear A70
  replace H := Option.bind_eq_some_iff.mp H
  obtain ⟨t222, A80, H⟩ := H
  replace H : (if t222 = true then (if t221 = 0 then ((headroomref14_Start.f a4_0 a4_1 a4_2 a4_3 a4_4 a4_5).bind fun t223 => (if t220 = t223 then ((headroomlaw14_alive.f k).bind fun t224 => (headroomlaw14_BudgetSteps.j0 k a0 a1 a2 a3 t218 t219 (!t224))) else (headroomlaw14_BudgetSteps.j0 k a0 a1 a2 a3 t218 t219 true))) else (headroomlaw14_BudgetSteps.j0 k a0 a1 a2 a3 t218 t219 true)) else (if t221 = 4 then (if t220 = 0 then ((headroomlaw14_alive.f k).bind fun t225 => (headroomlaw14_BudgetSteps.j0 k a0 a1 a2 a3 t218 t219 (!t225))) else (headroomlaw14_BudgetSteps.j0 k a0 a1 a2 a3 t218 t219 true)) else (headroomlaw14_BudgetSteps.j0 k a0 a1 a2 a3 t218 t219 true))) = some r := H
  have A8 := Aside0.mk A80
  clear A80
  have HC9 := Aside0.mk H
  clear H
  go_enter Try.func6, Try.ntmps6
  go_upto_region 4 with (first | ((with_reducible refine gate_dst (N := 9) rfl ?_); refine box_event ?hg (N := 9) ?hd (cs := #[.int .i64 a4_0, .int .i64 a4_1, .int .i64 a4_2, .int .i64 a4_3, .int .i64 a4_4, .bool a4_5]) (t := 23) ?hr ?_; (case hd => rfl); (case hg => rfl); (case hr => first | (go_simp; done) | (go_simp; rfl)); intro gb217 hg w10 hbox hb; have n0_ := Aside0.mk (below_step (by repeat (first | (with_reducible first | exact HB.out | apply below_alloc | apply pw_below_drewN | apply below_drew1) | exact HB.out)) hb); have n1_ := Aside0.mk (hbox); have n2_ := Aside0.mk ((by rw [hg]; exact (below_size (by repeat (first | (with_reducible first | exact HB.out | apply below_alloc | apply pw_below_drewN | apply below_drew1) | exact HB.out))) : w.heap.size ≤ gb217)); have n3_ := Aside0.mk ((by rw [hg]; exact (below_size (by repeat (first | (with_reducible first | exact HB.out | apply below_alloc | apply pw_below_drewN | apply below_drew1) | exact HB.out))) : w.heap.size ≤ gb217)); clear HB; have HB := n0_; have BK217 := n1_; have GW217 := n2_; have GE217 := n3_; clear n0_ n1_ n2_ n3_; clear hb hbox hg) | ((with_reducible refine gate_callee (f := 22) rfl ?_); refine goesL_ (some 21) rfl rfl Try.func22 (by kernel_rfl) rfl #[.int .i64 a0, .int .i64 a1, .int .i64 a2, .int .i64 a3] rfl (by (try simp only [List.map_toArray, List.map_cons, List.map_nil]); first | done | rfl | (simp only [List.length_drop, List.length_take]; rfl)) ?_; (with_reducible refine (budget_Step.calls a0 a1 a2 a3 t218 t219 _ A6.out).mono ?_); rintro e w11 ⟨rfl, hb⟩; refine ⟨_, rfl, ?_⟩; have n0_ := Aside0.mk (blk_below (g := gb217) (o := .cells #[.int .i64 a4_0, .int .i64 a4_1, .int .i64 a4_2, .int .i64 a4_3, .int .i64 a4_4, .bool a4_5] 23 (0, 0)) (by (with_reducible repeat (first | refine blk_drewN ?_ _ | refine blk_drew ?_ | refine blk_alloc ?_ _)); exact BK217.out) hb); have n1_ := Aside0.mk (below_step (by repeat (first | (with_reducible first | exact HB.out | apply below_alloc | apply pw_below_drewN | apply below_drew1 | refine below_set ?_ GE217.out) | exact HB.out)) hb); clear BK217; clear HB; have BK217 := n0_; have HB := n1_; clear n0_ n1_; (try clear hb); (try clear hb2); (try clear hk); (try clear hi); have hcz12_0 : w11.cell? ⟨gb217, 0, none⟩ = some (.int .i64 a4_0) := (blk_cell BK217.out 0).trans rfl; have hcz12_1 : w11.cell? ⟨gb217, 1, none⟩ = some (.int .i64 a4_1) := (blk_cell BK217.out 1).trans rfl; have hcz12_2 : w11.cell? ⟨gb217, 2, none⟩ = some (.int .i64 a4_2) := (blk_cell BK217.out 2).trans rfl; have hcz12_3 : w11.cell? ⟨gb217, 3, none⟩ = some (.int .i64 a4_3) := (blk_cell BK217.out 3).trans rfl; have hcz12_4 : w11.cell? ⟨gb217, 4, none⟩ = some (.int .i64 a4_4) := (blk_cell BK217.out 4).trans rfl; have hcz12_5 : w11.cell? ⟨gb217, 5, none⟩ = some (.bool a4_5) := (blk_cell BK217.out 5).trans rfl; have hfz12_0 := blk_frozen BK217.out 0; have hfz12_1 := blk_frozen BK217.out 1; have hfz12_2 := blk_frozen BK217.out 2; have hfz12_3 := blk_frozen BK217.out 3; have hfz12_4 := blk_frozen BK217.out 4; have hfz12_5 := blk_frozen BK217.out 5) | ((with_reducible refine gate_callee (f := 23) rfl ?_); refine goesL_ (some 26) rfl rfl Try.func23 (by kernel_rfl) rfl #[.agg #[.int .i64 a4_0, .int .i64 a4_1, .int .i64 a4_2, .int .i64 a4_3, .int .i64 a4_4, .bool a4_5]] rfl (by (try simp only [List.map_toArray, List.map_cons, List.map_nil]); first | done | rfl | (simp only [List.length_drop, List.length_take]; rfl)) ?_; (with_reducible refine (budget_Start.calls a4_0 a4_1 a4_2 a4_3 a4_4 a4_5 t220 t221 _ A7.out).mono ?_); rintro e w13 ⟨rfl, hb⟩; refine ⟨_, rfl, ?_⟩; have n0_ := Aside0.mk (blk_below (g := gb217) (o := .cells #[.int .i64 a4_0, .int .i64 a4_1, .int .i64 a4_2, .int .i64 a4_3, .int .i64 a4_4, .bool a4_5] 23 (0, 0)) (by (with_reducible repeat (first | refine blk_drewN ?_ _ | refine blk_drew ?_ | refine blk_alloc ?_ _)); exact BK217.out) hb); have n1_ := Aside0.mk (below_step (by repeat (first | (with_reducible first | exact HB.out | apply below_alloc | apply pw_below_drewN | apply below_drew1 | refine below_set ?_ GE217.out) | exact HB.out)) hb); clear BK217; clear HB; have BK217 := n0_; have HB := n1_; clear n0_ n1_; (try clear hb); (try clear hb2); (try clear hk); (try clear hi); have hcz14_0 : w13.cell? ⟨gb217, 0, none⟩ = some (.int .i64 a4_0) := (blk_cell BK217.out 0).trans rfl; have hcz14_1 : w13.cell? ⟨gb217, 1, none⟩ = some (.int .i64 a4_1) := (blk_cell BK217.out 1).trans rfl; have hcz14_2 : w13.cell? ⟨gb217, 2, none⟩ = some (.int .i64 a4_2) := (blk_cell BK217.out 2).trans rfl; have hcz14_3 : w13.cell? ⟨gb217, 3, none⟩ = some (.int .i64 a4_3) := (blk_cell BK217.out 3).trans rfl; have hcz14_4 : w13.cell? ⟨gb217, 4, none⟩ = some (.int .i64 a4_4) := (blk_cell BK217.out 4).trans rfl; have hcz14_5 : w13.cell? ⟨gb217, 5, none⟩ = some (.bool a4_5) := (blk_cell BK217.out 5).trans rfl; have hfz14_0 := blk_frozen BK217.out 0; have hfz14_1 := blk_frozen BK217.out 1; have hfz14_2 := blk_frozen BK217.out 2; have hfz14_3 := blk_frozen BK217.out 3; have hfz14_4 := blk_frozen BK217.out 4; have hfz14_5 := blk_frozen BK217.out 5) | ((with_reducible refine gate_callee (f := 14) rfl ?_); refine goesL_ (some 30) rfl rfl Try.func14 (by kernel_rfl) rfl #[.agg #[.int .i64 a4_0, .int .i64 a4_1, .int .i64 a4_2, .int .i64 a4_3, .int .i64 a4_4, .bool a4_5]] rfl (by (try simp only [List.map_toArray, List.map_cons, List.map_nil]); first | done | rfl | (simp only [List.length_drop, List.length_take]; rfl)) ?_; (with_reducible refine (headroomref13_Check.calls k a4_0 a4_1 a4_2 a4_3 a4_4 a4_5 t222 _ A8.out).mono ?_); rintro e w15 ⟨rfl, hb⟩; refine ⟨_, rfl, ?_⟩; have n0_ := Aside0.mk (blk_below (g := gb217) (o := .cells #[.int .i64 a4_0, .int .i64 a4_1, .int .i64 a4_2, .int .i64 a4_3, .int .i64 a4_4, .bool a4_5] 23 (0, 0)) (by (with_reducible repeat (first | refine blk_drewN ?_ _ | refine blk_drew ?_ | refine blk_alloc ?_ _)); exact BK217.out) hb); have n1_ := Aside0.mk (below_step (by repeat (first | (with_reducible first | exact HB.out | apply below_alloc | apply pw_below_drewN | apply below_drew1 | refine below_set ?_ GE217.out) | exact HB.out)) hb); clear BK217; clear HB; have BK217 := n0_; have HB := n1_; clear n0_ n1_; (try clear hb); (try clear hb2); (try clear hk); (try clear hi)))
  (try simp only [Act.put, List.setIfInBounds_toArray, List.set_cons_zero, List.set_cons_succ])
  go_cut [57] (fun v57 wc => ∃ (kq : Nat) (x57_8 : Bool), v57 = .bool x57_8 ∧ Aside0 (headroomlaw14_BudgetSteps.j0 kq a0 a1 a2 a3 t218 t219 x57_8 = some r) ∧ Aside0 (kq ≤ k) ∧ Aside0 (wc.heap[gb217]? = some (.cells #[.int .i64 a4_0, .int .i64 a4_1, .int .i64 a4_2, .int .i64 a4_3, .int .i64 a4_4, .bool a4_5] 23 (0, 0))) ∧ Aside0 (Below w.heap.size w wc))
  case first =>
    have H := HC9.out
    clear HC9
    by_cases c16 : t222 = true
    · subst c16
      have H1 : (if t221 = 0 then ((headroomref14_Start.f a4_0 a4_1 a4_2 a4_3 a4_4 a4_5).bind fun t223 => (if t220 = t223 then ((headroomlaw14_alive.f k).bind fun t224 => (headroomlaw14_BudgetSteps.j0 k a0 a1 a2 a3 t218 t219 (!t224))) else (headroomlaw14_BudgetSteps.j0 k a0 a1 a2 a3 t218 t219 true))) else (headroomlaw14_BudgetSteps.j0 k a0 a1 a2 a3 t218 t219 true)) = some r := by rw [if_pos rfl] at H; exact H
      clear H
      have H := H1
      clear H1
      by_cases c17 : t221 = 0
      · rw [if_pos c17] at H
        have c17b0 : (t221 == 0) = true := beq_iff_eq.mpr c17
        have c17b1 : (t221 != 0) = false := bne_eq_false_iff_eq.mpr c17
        clear c17
        (first | rw [c17b0] | (simp only [i64_w, i32_w]; rw [c17b0]) | skip)
        replace H := Option.bind_eq_some_iff.mp H
        obtain ⟨t223, A180, H⟩ := H
        replace H : (if t220 = t223 then ((headroomlaw14_alive.f k).bind fun t224 => (headroomlaw14_BudgetSteps.j0 k a0 a1 a2 a3 t218 t219 (!t224))) else (headroomlaw14_BudgetSteps.j0 k a0 a1 a2 a3 t218 t219 true)) = some r := H
        have A18 := Aside0.mk A180
        clear A180
        by_cases c19 : t220 = t223
        · rw [if_pos c19] at H
          have c19b0 : (t220 == t223) = true := beq_iff_eq.mpr c19
          have c19b1 : (t220 != t223) = false := bne_eq_false_iff_eq.mpr c19
          clear c19
          replace H := Option.bind_eq_some_iff.mp H
          obtain ⟨t224, A200, H⟩ := H
          replace H : (headroomlaw14_BudgetSteps.j0 k a0 a1 a2 a3 t218 t219 (!t224)) = some r := H
          have A20 := Aside0.mk A200
          clear A200
          have H' := Aside0.mk H
          clear H
          have hcz21_0 : w15.cell? ⟨gb217, 0, none⟩ = some (.int .i64 a4_0) := (blk_cell BK217.out 0).trans rfl
          have hcz21_1 : w15.cell? ⟨gb217, 1, none⟩ = some (.int .i64 a4_1) := (blk_cell BK217.out 1).trans rfl
          have hcz21_2 : w15.cell? ⟨gb217, 2, none⟩ = some (.int .i64 a4_2) := (blk_cell BK217.out 2).trans rfl
          have hcz21_3 : w15.cell? ⟨gb217, 3, none⟩ = some (.int .i64 a4_3) := (blk_cell BK217.out 3).trans rfl
          have hcz21_4 : w15.cell? ⟨gb217, 4, none⟩ = some (.int .i64 a4_4) := (blk_cell BK217.out 4).trans rfl
          have hcz21_5 : w15.cell? ⟨gb217, 5, none⟩ = some (.bool a4_5) := (blk_cell BK217.out 5).trans rfl
          have hfz21_0 := blk_frozen BK217.out 0
          have hfz21_1 := blk_frozen BK217.out 1
          have hfz21_2 := blk_frozen BK217.out 2
          have hfz21_3 := blk_frozen BK217.out 3
          have hfz21_4 := blk_frozen BK217.out 4
          have hfz21_5 := blk_frozen BK217.out 5
          go_wp2_with (first | (go_at_call 24; (with_reducible refine (headroomref14_Start.calls a4_0 a4_1 a4_2 a4_3 a4_4 a4_5 t223 _ A18.out).mono ?_); rintro e w22 ⟨rfl, hb⟩; have n0_ := Aside0.mk (blk_below (g := gb217) (o := .cells #[.int .i64 a4_0, .int .i64 a4_1, .int .i64 a4_2, .int .i64 a4_3, .int .i64 a4_4, .bool a4_5] 23 (0, 0)) (by (with_reducible repeat (first | refine blk_drewN ?_ _ | refine blk_drew ?_ | refine blk_alloc ?_ _)); exact BK217.out) hb); have n1_ := Aside0.mk (below_step (by repeat (first | (with_reducible first | exact HB.out | apply below_alloc | apply pw_below_drewN | apply below_drew1 | refine below_set ?_ GE217.out) | exact HB.out)) hb); clear BK217; clear HB; have BK217 := n0_; have HB := n1_; clear n0_ n1_; (try clear hb); (try clear hb2); (try clear hk); (try clear hi)) | (go_at_call 25; (with_reducible refine (headroomlaw14_alive.calls k  t224 _ A20.out).mono ?_); rintro e w23 ⟨rfl, hb⟩; have n0_ := Aside0.mk (blk_below (g := gb217) (o := .cells #[.int .i64 a4_0, .int .i64 a4_1, .int .i64 a4_2, .int .i64 a4_3, .int .i64 a4_4, .bool a4_5] 23 (0, 0)) (by (with_reducible repeat (first | refine blk_drewN ?_ _ | refine blk_drew ?_ | refine blk_alloc ?_ _)); exact BK217.out) hb); have n1_ := Aside0.mk (below_step (by repeat (first | (with_reducible first | exact HB.out | apply below_alloc | apply pw_below_drewN | apply below_drew1 | refine below_set ?_ GE217.out) | exact HB.out)) hb); clear BK217; clear HB; have BK217 := n0_; have HB := n1_; clear n0_ n1_; (try clear hb); (try clear hb2); (try clear hk); (try clear hi)))
          go_meet
          case rel => exact ⟨_, (!t224), (by first | rfl | (simp; done) | (simp [*]; done)), H', ⟨by first | omega | exact Nat.le_refl _⟩, ⟨by (with_reducible repeat (first | refine blk_drewN ?_ _ | refine blk_drew ?_ | refine blk_alloc ?_ _)); exact BK217.out⟩, ⟨by repeat (first | (with_reducible first | exact HB.out | apply below_alloc | apply pw_below_drewN | apply below_drew1 | refine below_set ?_ GE217.out) | exact HB.out)⟩⟩
        · rw [if_neg c19] at H
          have c19b0 : (t220 == t223) = false := beq_eq_false_iff_ne.mpr c19
          have c19b1 : (t220 != t223) = true := bne_iff_ne.mpr c19
          have H' := Aside0.mk H
          clear H
          have hcz24_0 : w15.cell? ⟨gb217, 0, none⟩ = some (.int .i64 a4_0) := (blk_cell BK217.out 0).trans rfl
          have hcz24_1 : w15.cell? ⟨gb217, 1, none⟩ = some (.int .i64 a4_1) := (blk_cell BK217.out 1).trans rfl
          have hcz24_2 : w15.cell? ⟨gb217, 2, none⟩ = some (.int .i64 a4_2) := (blk_cell BK217.out 2).trans rfl
          have hcz24_3 : w15.cell? ⟨gb217, 3, none⟩ = some (.int .i64 a4_3) := (blk_cell BK217.out 3).trans rfl
          have hcz24_4 : w15.cell? ⟨gb217, 4, none⟩ = some (.int .i64 a4_4) := (blk_cell BK217.out 4).trans rfl
          have hcz24_5 : w15.cell? ⟨gb217, 5, none⟩ = some (.bool a4_5) := (blk_cell BK217.out 5).trans rfl
          have hfz24_0 := blk_frozen BK217.out 0
          have hfz24_1 := blk_frozen BK217.out 1
          have hfz24_2 := blk_frozen BK217.out 2
          have hfz24_3 := blk_frozen BK217.out 3
          have hfz24_4 := blk_frozen BK217.out 4
          have hfz24_5 := blk_frozen BK217.out 5
          go_wp2_with (first | (go_at_call 24; (with_reducible refine (headroomref14_Start.calls a4_0 a4_1 a4_2 a4_3 a4_4 a4_5 t223 _ A18.out).mono ?_); rintro e w25 ⟨rfl, hb⟩; have n0_ := Aside0.mk (blk_below (g := gb217) (o := .cells #[.int .i64 a4_0, .int .i64 a4_1, .int .i64 a4_2, .int .i64 a4_3, .int .i64 a4_4, .bool a4_5] 23 (0, 0)) (by (with_reducible repeat (first | refine blk_drewN ?_ _ | refine blk_drew ?_ | refine blk_alloc ?_ _)); exact BK217.out) hb); have n1_ := Aside0.mk (below_step (by repeat (first | (with_reducible first | exact HB.out | apply below_alloc | apply pw_below_drewN | apply below_drew1 | refine below_set ?_ GE217.out) | exact HB.out)) hb); clear BK217; clear HB; have BK217 := n0_; have HB := n1_; clear n0_ n1_; (try clear hb); (try clear hb2); (try clear hk); (try clear hi)))
          go_meet
          case rel => exact ⟨_, (true), (by first | rfl | (simp; done) | (simp [*]; done)), H', ⟨by first | omega | exact Nat.le_refl _⟩, ⟨by (with_reducible repeat (first | refine blk_drewN ?_ _ | refine blk_drew ?_ | refine blk_alloc ?_ _)); exact BK217.out⟩, ⟨by repeat (first | (with_reducible first | exact HB.out | apply below_alloc | apply pw_below_drewN | apply below_drew1 | refine below_set ?_ GE217.out) | exact HB.out)⟩⟩
      · rw [if_neg c17] at H
        have c17b0 : (t221 == 0) = false := beq_eq_false_iff_ne.mpr c17
        have c17b1 : (t221 != 0) = true := bne_iff_ne.mpr c17
        (first | rw [c17b0] | (simp only [i64_w, i32_w]; rw [c17b0]) | skip)
        have H' := Aside0.mk H
        clear H
        go_wp2
        go_meet
        case rel => exact ⟨_, (true), (by first | rfl | (simp; done) | (simp [*]; done)), H', ⟨by first | omega | exact Nat.le_refl _⟩, ⟨by (with_reducible repeat (first | refine blk_drewN ?_ _ | refine blk_drew ?_ | refine blk_alloc ?_ _)); exact BK217.out⟩, ⟨by repeat (first | (with_reducible first | exact HB.out | apply below_alloc | apply pw_below_drewN | apply below_drew1 | refine below_set ?_ GE217.out) | exact HB.out)⟩⟩
    · replace c16 := Bool.eq_false_iff.mpr c16
      subst c16
      have H1 : (if t221 = 4 then (if t220 = 0 then ((headroomlaw14_alive.f k).bind fun t225 => (headroomlaw14_BudgetSteps.j0 k a0 a1 a2 a3 t218 t219 (!t225))) else (headroomlaw14_BudgetSteps.j0 k a0 a1 a2 a3 t218 t219 true)) else (headroomlaw14_BudgetSteps.j0 k a0 a1 a2 a3 t218 t219 true)) = some r := by rw [if_neg (show ¬ (false = true) by decide)] at H; exact H
      clear H
      have H := H1
      clear H1
      by_cases c26 : t221 = 4
      · rw [if_pos c26] at H
        have c26b0 : (t221 == 4) = true := beq_iff_eq.mpr c26
        have c26b1 : (t221 != 4) = false := bne_eq_false_iff_eq.mpr c26
        clear c26
        by_cases c27 : t220 = 0
        · rw [if_pos c27] at H
          have c27b0 : (t220 == 0) = true := beq_iff_eq.mpr c27
          have c27b1 : (t220 != 0) = false := bne_eq_false_iff_eq.mpr c27
          clear c27
          replace H := Option.bind_eq_some_iff.mp H
          obtain ⟨t225, A280, H⟩ := H
          replace H : (headroomlaw14_BudgetSteps.j0 k a0 a1 a2 a3 t218 t219 (!t225)) = some r := H
          have A28 := Aside0.mk A280
          clear A280
          have H' := Aside0.mk H
          clear H
          go_wp2_with (first | (go_at_call 25; (with_reducible refine (headroomlaw14_alive.calls k  t225 _ A28.out).mono ?_); rintro e w29 ⟨rfl, hb⟩; have n0_ := Aside0.mk (blk_below (g := gb217) (o := .cells #[.int .i64 a4_0, .int .i64 a4_1, .int .i64 a4_2, .int .i64 a4_3, .int .i64 a4_4, .bool a4_5] 23 (0, 0)) (by (with_reducible repeat (first | refine blk_drewN ?_ _ | refine blk_drew ?_ | refine blk_alloc ?_ _)); exact BK217.out) hb); have n1_ := Aside0.mk (below_step (by repeat (first | (with_reducible first | exact HB.out | apply below_alloc | apply pw_below_drewN | apply below_drew1 | refine below_set ?_ GE217.out) | exact HB.out)) hb); clear BK217; clear HB; have BK217 := n0_; have HB := n1_; clear n0_ n1_; (try clear hb); (try clear hb2); (try clear hk); (try clear hi)))
          go_meet
          case rel => exact ⟨_, (!t225), (by first | rfl | (simp; done) | (simp [*]; done)), H', ⟨by first | omega | exact Nat.le_refl _⟩, ⟨by (with_reducible repeat (first | refine blk_drewN ?_ _ | refine blk_drew ?_ | refine blk_alloc ?_ _)); exact BK217.out⟩, ⟨by repeat (first | (with_reducible first | exact HB.out | apply below_alloc | apply pw_below_drewN | apply below_drew1 | refine below_set ?_ GE217.out) | exact HB.out)⟩⟩
        · rw [if_neg c27] at H
          have c27b0 : (t220 == 0) = false := beq_eq_false_iff_ne.mpr c27
          have c27b1 : (t220 != 0) = true := bne_iff_ne.mpr c27
          have H' := Aside0.mk H
          clear H
          go_wp2
          go_meet
          case rel => exact ⟨_, (true), (by first | rfl | (simp; done) | (simp [*]; done)), H', ⟨by first | omega | exact Nat.le_refl _⟩, ⟨by (with_reducible repeat (first | refine blk_drewN ?_ _ | refine blk_drew ?_ | refine blk_alloc ?_ _)); exact BK217.out⟩, ⟨by repeat (first | (with_reducible first | exact HB.out | apply below_alloc | apply pw_below_drewN | apply below_drew1 | refine below_set ?_ GE217.out) | exact HB.out)⟩⟩
      · rw [if_neg c26] at H
        have c26b0 : (t221 == 4) = false := beq_eq_false_iff_ne.mpr c26
        have c26b1 : (t221 != 4) = true := bne_iff_ne.mpr c26
        have H' := Aside0.mk H
        clear H
        go_wp2
        go_meet
        case rel => exact ⟨_, (true), (by first | rfl | (simp; done) | (simp [*]; done)), H', ⟨by first | omega | exact Nat.le_refl _⟩, ⟨by (with_reducible repeat (first | refine blk_drewN ?_ _ | refine blk_drew ?_ | refine blk_alloc ?_ _)); exact BK217.out⟩, ⟨by repeat (first | (with_reducible first | exact HB.out | apply below_alloc | apply pw_below_drewN | apply below_drew1 | refine below_set ?_ GE217.out) | exact HB.out)⟩⟩
  case rest =>
    clear HC9
    try clear c1
    try clear c2
    try clear p2
    try clear c6
    try clear c14
    try clear c16
    try clear c17
    try clear c17b0
    try clear c17b1
    try clear c19
    try clear c19b0
    try clear c19b1
    try clear c22
    try clear c23
    try clear c26
    try clear c26b0
    try clear c26b1
    try clear c27
    try clear c27b0
    try clear c27b1
    try clear hcz12_0
    try clear hcz12_1
    try clear hcz12_2
    try clear hcz12_3
    try clear hcz12_4
    try clear hcz12_5
    try clear hcz14_0
    try clear hcz14_1
    try clear hcz14_2
    try clear hcz14_3
    try clear hcz14_4
    try clear hcz14_5
    try clear hcz21_0
    try clear hcz21_1
    try clear hcz21_2
    try clear hcz21_3
    try clear hcz21_4
    try clear hcz21_5
    try clear hcz24_0
    try clear hcz24_1
    try clear hcz24_2
    try clear hcz24_3
    try clear hcz24_4
    try clear hcz24_5
    try clear hfz12_0
    try clear hfz12_1
    try clear hfz12_2
    try clear hfz12_3
    try clear hfz12_4
    try clear hfz12_5
    try clear hfz14_0
    try clear hfz14_1
    try clear hfz14_2
    try clear hfz14_3
    try clear hfz14_4
    try clear hfz14_5
    try clear hfz21_0
    try clear hfz21_1
    try clear hfz21_2
    try clear hfz21_3
    try clear hfz21_4
    try clear hfz21_5
    try clear hfz24_0
    try clear hfz24_1
    try clear hfz24_2
    try clear hfz24_3
    try clear hfz24_4
    try clear hfz24_5
    obtain ⟨kq, x57_8, rfl, HA, HJ8, BK217, HB⟩ := hcut
    cases kq with
    | zero => exact absurd HA.out (by simp [headroomlaw14_BudgetSteps.j0])
    | succ kj8 =>
      have H := HA.out
      clear HA
      simp only [headroomlaw14_BudgetSteps.j0] at H
      by_cases c30 : x57_8 = true
      · subst c30
        have H1 : (some false) = some r := by rw [if_pos rfl] at H; exact H
        clear H
        have H := H1
        clear H1
        obtain rfl := Option.some.inj H
        go_wp2
        go_ret
        exact ⟨by first | rfl | (simp [errW_none, errW_some] <;> rfl) | (simp [*, errW_none, errW_some] <;> rfl), by repeat (first | (with_reducible first | exact HB.out | apply below_alloc | apply pw_below_drewN | apply below_drew1 | refine below_set ?_ GE217.out) | exact HB.out)⟩
      · replace c30 := Bool.eq_false_iff.mpr c30
        subst c30
        have H1 : ((headroomref14_MaySteps.f kj8 a0 a1 a2 a3).bind fun t226 => (if t226 = true then (if t219 = 0 then ((headroomref14_Step.f kj8 a0 a1 a2 a3).bind fun t227 => (some (t218 == t227))) else (some false)) else (if t219 = 1 then (some (t218 == 0)) else (some false)))) = some r := by rw [if_neg (show ¬ (false = true) by decide)] at H; exact H
        clear H
        have H := H1
        clear H1
        replace H := Option.bind_eq_some_iff.mp H
        obtain ⟨t226, A310, H⟩ := H
        replace H : (if t226 = true then (if t219 = 0 then ((headroomref14_Step.f kj8 a0 a1 a2 a3).bind fun t227 => (some (t218 == t227))) else (some false)) else (if t219 = 1 then (some (t218 == 0)) else (some false))) = some r := H
        have A31 := Aside0.mk A310
        clear A310
        by_cases c32 : t226 = true
        · subst c32
          have H1 : (if t219 = 0 then ((headroomref14_Step.f kj8 a0 a1 a2 a3).bind fun t227 => (some (t218 == t227))) else (some false)) = some r := by rw [if_pos rfl] at H; exact H
          clear H
          have H := H1
          clear H1
          by_cases c33 : t219 = 0
          · rw [if_pos c33] at H
            have c33b0 : (t219 == 0) = true := beq_iff_eq.mpr c33
            have c33b1 : (t219 != 0) = false := bne_eq_false_iff_eq.mpr c33
            clear c33
            replace H := Option.bind_eq_some_iff.mp H
            obtain ⟨t227, A340, H⟩ := H
            replace H : (some (t218 == t227)) = some r := H
            have A34 := Aside0.mk A340
            clear A340
            obtain rfl := Option.some.inj H
            go_wp2_with (first | ((with_reducible refine gate_callee (f := 26) rfl ?_); refine goesL_ (some 62) rfl rfl Try.func26 (by kernel_rfl) rfl #[.int .i64 a0, .int .i64 a1, .int .i64 a2, .int .i64 a3] rfl (by (try simp only [List.map_toArray, List.map_cons, List.map_nil]); first | done | rfl | (simp only [List.length_drop, List.length_take]; rfl)) ?_; (with_reducible refine (headroomref14_MaySteps.calls kj8 a0 a1 a2 a3 true _ A31.out).mono ?_); rintro e w' ⟨rfl, ⟨nd, rfl⟩⟩; refine ⟨_, rfl, ?_⟩) | (go_at_call 27; (with_reducible refine (headroomref14_Step.calls kj8 a0 a1 a2 a3 t227 _ A34.out).mono ?_); rintro e w' ⟨rfl, ⟨nd, rfl⟩⟩))
            go_ret
            exact ⟨by first | rfl | (simp [errW_none, errW_some] <;> rfl) | (simp [*, errW_none, errW_some] <;> rfl), by repeat (first | (with_reducible first | exact HB.out | apply below_alloc | apply pw_below_drewN | apply below_drew1 | refine below_set ?_ GE217.out) | exact HB.out)⟩
          · rw [if_neg c33] at H
            have c33b0 : (t219 == 0) = false := beq_eq_false_iff_ne.mpr c33
            have c33b1 : (t219 != 0) = true := bne_iff_ne.mpr c33
            obtain rfl := Option.some.inj H
            go_wp2_with (first | ((with_reducible refine gate_callee (f := 26) rfl ?_); refine goesL_ (some 62) rfl rfl Try.func26 (by kernel_rfl) rfl #[.int .i64 a0, .int .i64 a1, .int .i64 a2, .int .i64 a3] rfl (by (try simp only [List.map_toArray, List.map_cons, List.map_nil]); first | done | rfl | (simp only [List.length_drop, List.length_take]; rfl)) ?_; (with_reducible refine (headroomref14_MaySteps.calls kj8 a0 a1 a2 a3 true _ A31.out).mono ?_); rintro e w' ⟨rfl, ⟨nd, rfl⟩⟩; refine ⟨_, rfl, ?_⟩))
            go_ret
            exact ⟨by first | rfl | (simp [errW_none, errW_some] <;> rfl) | (simp [*, errW_none, errW_some] <;> rfl), by repeat (first | (with_reducible first | exact HB.out | apply below_alloc | apply pw_below_drewN | apply below_drew1 | refine below_set ?_ GE217.out) | exact HB.out)⟩
        · replace c32 := Bool.eq_false_iff.mpr c32
          subst c32
          have H1 : (if t219 = 1 then (some (t218 == 0)) else (some false)) = some r := by rw [if_neg (show ¬ (false = true) by decide)] at H; exact H
          clear H
          have H := H1
          clear H1
          by_cases c35 : t219 = 1
          · rw [if_pos c35] at H
            have c35b0 : (t219 == 1) = true := beq_iff_eq.mpr c35
            have c35b1 : (t219 != 1) = false := bne_eq_false_iff_eq.mpr c35
            clear c35
            obtain rfl := Option.some.inj H
            go_wp2_with (first | ((with_reducible refine gate_callee (f := 26) rfl ?_); refine goesL_ (some 62) rfl rfl Try.func26 (by kernel_rfl) rfl #[.int .i64 a0, .int .i64 a1, .int .i64 a2, .int .i64 a3] rfl (by (try simp only [List.map_toArray, List.map_cons, List.map_nil]); first | done | rfl | (simp only [List.length_drop, List.length_take]; rfl)) ?_; (with_reducible refine (headroomref14_MaySteps.calls kj8 a0 a1 a2 a3 false _ A31.out).mono ?_); rintro e w' ⟨rfl, ⟨nd, rfl⟩⟩; refine ⟨_, rfl, ?_⟩))
            go_ret
            exact ⟨by first | rfl | (simp [errW_none, errW_some] <;> rfl) | (simp [*, errW_none, errW_some] <;> rfl), by repeat (first | (with_reducible first | exact HB.out | apply below_alloc | apply pw_below_drewN | apply below_drew1 | refine below_set ?_ GE217.out) | exact HB.out)⟩
          · rw [if_neg c35] at H
            have c35b0 : (t219 == 1) = false := beq_eq_false_iff_ne.mpr c35
            have c35b1 : (t219 != 1) = true := bne_iff_ne.mpr c35
            obtain rfl := Option.some.inj H
            go_wp2_with (first | ((with_reducible refine gate_callee (f := 26) rfl ?_); refine goesL_ (some 62) rfl rfl Try.func26 (by kernel_rfl) rfl #[.int .i64 a0, .int .i64 a1, .int .i64 a2, .int .i64 a3] rfl (by (try simp only [List.map_toArray, List.map_cons, List.map_nil]); first | done | rfl | (simp only [List.length_drop, List.length_take]; rfl)) ?_; (with_reducible refine (headroomref14_MaySteps.calls kj8 a0 a1 a2 a3 false _ A31.out).mono ?_); rintro e w' ⟨rfl, ⟨nd, rfl⟩⟩; refine ⟨_, rfl, ?_⟩))
            go_ret
            exact ⟨by first | rfl | (simp [errW_none, errW_some] <;> rfl) | (simp [*, errW_none, errW_some] <;> rfl), by repeat (first | (with_reducible first | exact HB.out | apply below_alloc | apply pw_below_drewN | apply below_drew1 | refine below_set ?_ GE217.out) | exact HB.out)⟩

end Go.Proofs.Ytbpanbmjkfhcgaa.P
