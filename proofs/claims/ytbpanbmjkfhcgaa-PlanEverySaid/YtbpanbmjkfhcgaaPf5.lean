-- Printed for this claim by drive.py (a program of this session's) through the kit's print program; not trusted: Lean checks it.
import Derived.Test.YtbpanbmjkfhcgaaP0
import Derived.Test.YtbpanbmjkfhcgaaPe23
import Derived.Test.YtbpanbmjkfhcgaaPf16
import Derived.Test.YtbpanbmjkfhcgaaPf21
import Derived.Test.YtbpanbmjkfhcgaaPg3
import Derived.Test.YtbpanbmjkfhcgaaPg4
namespace Go.Proofs.Ytbpanbmjkfhcgaa.P
open Go.RowKit Go.Proofs.YtbpanbmjkfhcgaaW.PrintWords Go.Proofs.YtbpanbmjkfhcgaaW.PrintLast Go.Proofs.YtbpanbmjkfhcgaaW.PrintMore
attribute [local go_sem] max2_int min2_int max_two min_two max_three min_three max_four min_four   -- for this text's walks alone
set_option linter.unusedVariables false
set_option linter.unusedSimpArgs false

attribute [local go_sem high] eqA23
/-! ### headroomlaw13_PlanEvery: function 5 -/
mutual
def headroomlaw13_PlanEvery.j0 : Nat → List (S23) → List (S23) → Bool → Int → Int → Int → Int → Int → Bool → Option (Bool)
  | 0, _, _, _, _, _, _, _, _, _ => none
  | k + 1, x3, x4, x18, x203000, x203001, x203002, x203003, x203004, x203005 => if x18 = true then (some false) else (headroomlaw13_PlanEvery.l0 k x4 0 x3 (x3.length : Int) 0 x203000 x203001 x203002 x203003 x203004 x203005)
def headroomlaw13_PlanEvery.l0 : Nat → List (S23) → Int → List (S23) → Int → Int → Int → Int → Int → Int → Int → Bool → Option (Bool)
  | 0, _, _, _, _, _, _, _, _, _, _, _ => none
  | k + 1, x4, x5, x19, x20, x21, x203000, x203001, x203002, x203003, x203004, x203005 => if x21 < x20 then (if 0 ≤ x21 then (if x21 < (x19.length : Int) then (if x21 < (x4.length : Int) then (if (!(((rd_T23 x19 x21).f0) == ((rd_T23 x4 x21).f0)) || (!(((rd_T23 x19 x21).f1) == ((rd_T23 x4 x21).f1)) || (!(((rd_T23 x19 x21).f2) == ((rd_T23 x4 x21).f2)) || (!(((rd_T23 x19 x21).f3) == ((rd_T23 x4 x21).f3)) || (!(((rd_T23 x19 x21).f4) == ((rd_T23 x4 x21).f4)) || (!(((rd_T23 x19 x21).f5) == ((rd_T23 x4 x21).f5)))))))) = true then (headroomlaw13_PlanEvery.j2 k x4 x5 x19 x20 x21 true x203000 x203001 x203002 x203003 x203004 x203005 ((rd_T23 x19 x21).f0) ((rd_T23 x19 x21).f1) ((rd_T23 x19 x21).f2) ((rd_T23 x19 x21).f3) ((rd_T23 x19 x21).f4) ((rd_T23 x19 x21).f5)) else ((plan_Check.f ((rd_T23 x19 x21).f0) ((rd_T23 x19 x21).f1) ((rd_T23 x19 x21).f2) ((rd_T23 x19 x21).f3) ((rd_T23 x19 x21).f4) ((rd_T23 x19 x21).f5)).bind fun t216 => (headroomlaw13_PlanEvery.j2 k x4 x5 x19 x20 x21 (t216 != 0) x203000 x203001 x203002 x203003 x203004 x203005 ((rd_T23 x19 x21).f0) ((rd_T23 x19 x21).f1) ((rd_T23 x19 x21).f2) ((rd_T23 x19 x21).f3) ((rd_T23 x19 x21).f4) ((rd_T23 x19 x21).f5)))) else (none)) else (none)) else (none)) else (if x5 = 1 then ((plan_Check.f x203000 x203001 x203002 x203003 x203004 x203005).bind fun t210 => (if t210 = 0 then (some true) else (if x5 = 0 then ((plan_Check.f x203000 x203001 x203002 x203003 x203004 x203005).bind fun t211 => (some (t211 == 4))) else (some false)))) else (if x5 = 0 then ((plan_Check.f x203000 x203001 x203002 x203003 x203004 x203005).bind fun t212 => (some (t212 == 4))) else (some false)))
def headroomlaw13_PlanEvery.j2 : Nat → List (S23) → Int → List (S23) → Int → Int → Bool → Int → Int → Int → Int → Int → Bool → Int → Int → Int → Int → Int → Bool → Option (Bool)
  | 0, _, _, _, _, _, _, _, _, _, _, _, _, _, _, _, _, _, _ => none
  | k + 1, x4, x5, x19, x20, x21, x36, x203000, x203001, x203002, x203003, x203004, x203005, x215000, x215001, x215002, x215003, x215004, x215005 => if x36 = true then (some false) else (if (x215000 == x203000 && (x215001 == x203001 && (x215002 == x203002 && (x215003 == x203003 && (x215004 == x203004 && (x215005 == x203005)))))) = true then (headroomlaw13_PlanEvery.l0 k x4 (wrap64 (x5 + 1)) x19 x20 (wrap64 (x21 + 1)) x203000 x203001 x203002 x203003 x203004 x203005) else (headroomlaw13_PlanEvery.l0 k x4 x5 x19 x20 (wrap64 (x21 + 1)) x203000 x203001 x203002 x203003 x203004 x203005))
end
def headroomlaw13_PlanEvery.f (k : Nat) (a0_0 : Int) (a0_1 : Int) (a0_2 : Int) (a0_3 : Int) (a0_4 : Int) (a0_5 : Bool) : Option (Bool) := (plan_Every.f).bind fun t203 => ((headroomref13_Every.f k).bind fun t206 => (if (t203.length : Int) = (t206.length : Int) then ((headroomlaw13_alive.f k).bind fun t209 => (headroomlaw13_PlanEvery.j0 k t203 t206 (!t209) a0_0 a0_1 a0_2 a0_3 a0_4 a0_5)) else (headroomlaw13_PlanEvery.j0 k t203 t206 true a0_0 a0_1 a0_2 a0_3 a0_4 a0_5)))
theorem headroomlaw13_PlanEvery.mono_l : ∀ k, (∀ y0 y1 y2 y3 y4 y5 y6 y7 y8, LeO (headroomlaw13_PlanEvery.j0 k y0 y1 y2 y3 y4 y5 y6 y7 y8) (headroomlaw13_PlanEvery.j0 (k + 1) y0 y1 y2 y3 y4 y5 y6 y7 y8)) ∧ (∀ y0 y1 y2 y3 y4 y5 y6 y7 y8 y9 y10, LeO (headroomlaw13_PlanEvery.l0 k y0 y1 y2 y3 y4 y5 y6 y7 y8 y9 y10) (headroomlaw13_PlanEvery.l0 (k + 1) y0 y1 y2 y3 y4 y5 y6 y7 y8 y9 y10)) ∧ (∀ y0 y1 y2 y3 y4 y5 y6 y7 y8 y9 y10 y11 y12 y13 y14 y15 y16 y17, LeO (headroomlaw13_PlanEvery.j2 k y0 y1 y2 y3 y4 y5 y6 y7 y8 y9 y10 y11 y12 y13 y14 y15 y16 y17) (headroomlaw13_PlanEvery.j2 (k + 1) y0 y1 y2 y3 y4 y5 y6 y7 y8 y9 y10 y11 y12 y13 y14 y15 y16 y17))
  | 0 => ⟨fun _ _ _ _ _ _ _ _ _ r h => by simp [headroomlaw13_PlanEvery.j0] at h, fun _ _ _ _ _ _ _ _ _ _ _ r h => by simp [headroomlaw13_PlanEvery.l0] at h, fun _ _ _ _ _ _ _ _ _ _ _ _ _ _ _ _ _ _ r h => by simp [headroomlaw13_PlanEvery.j2] at h⟩
  | k + 1 => by
    obtain ⟨ih0, ih1, ih2⟩ := headroomlaw13_PlanEvery.mono_l k
    refine ⟨?_, ?_, ?_⟩
    · intro y0 y1 y2 y3 y4 y5 y6 y7 y8
      unfold headroomlaw13_PlanEvery.j0
      repeat' first
      | (with_reducible exact ih0 _ _ _ _ _ _ _ _ _)
      | (with_reducible exact ih1 _ _ _ _ _ _ _ _ _ _ _)
      | (with_reducible exact ih2 _ _ _ _ _ _ _ _ _ _ _ _ _ _ _ _ _ _)
      | (with_reducible exact headroomlaw13_alive.mono _)
      | (with_reducible exact headroomref13_Every.mono _)
      | (with_reducible exact LeO.refl _)
      | (with_reducible exact LeO.none _)
      | (with_reducible refine LeO.ite ?_ ?_)
      | (with_reducible refine LeO.bind ?_ (fun _ => ?_))
      | exact ih0 _ _ _ _ _ _ _ _ _
      | exact ih1 _ _ _ _ _ _ _ _ _ _ _
      | exact ih2 _ _ _ _ _ _ _ _ _ _ _ _ _ _ _ _ _ _
      | exact headroomlaw13_alive.mono _
      | exact headroomref13_Every.mono _
      | exact LeO.none _
      | refine LeO.ite ?_ ?_
      | refine LeO.bind ?_ (fun _ => ?_)
    · intro y0 y1 y2 y3 y4 y5 y6 y7 y8 y9 y10
      unfold headroomlaw13_PlanEvery.l0
      repeat' first
      | (with_reducible exact ih0 _ _ _ _ _ _ _ _ _)
      | (with_reducible exact ih1 _ _ _ _ _ _ _ _ _ _ _)
      | (with_reducible exact ih2 _ _ _ _ _ _ _ _ _ _ _ _ _ _ _ _ _ _)
      | (with_reducible exact headroomlaw13_alive.mono _)
      | (with_reducible exact headroomref13_Every.mono _)
      | (with_reducible exact LeO.refl _)
      | (with_reducible exact LeO.none _)
      | (with_reducible refine LeO.ite ?_ ?_)
      | (with_reducible refine LeO.bind ?_ (fun _ => ?_))
      | exact ih0 _ _ _ _ _ _ _ _ _
      | exact ih1 _ _ _ _ _ _ _ _ _ _ _
      | exact ih2 _ _ _ _ _ _ _ _ _ _ _ _ _ _ _ _ _ _
      | exact headroomlaw13_alive.mono _
      | exact headroomref13_Every.mono _
      | exact LeO.none _
      | refine LeO.ite ?_ ?_
      | refine LeO.bind ?_ (fun _ => ?_)
    · intro y0 y1 y2 y3 y4 y5 y6 y7 y8 y9 y10 y11 y12 y13 y14 y15 y16 y17
      unfold headroomlaw13_PlanEvery.j2
      repeat' first
      | (with_reducible exact ih0 _ _ _ _ _ _ _ _ _)
      | (with_reducible exact ih1 _ _ _ _ _ _ _ _ _ _ _)
      | (with_reducible exact ih2 _ _ _ _ _ _ _ _ _ _ _ _ _ _ _ _ _ _)
      | (with_reducible exact headroomlaw13_alive.mono _)
      | (with_reducible exact headroomref13_Every.mono _)
      | (with_reducible exact LeO.refl _)
      | (with_reducible exact LeO.none _)
      | (with_reducible refine LeO.ite ?_ ?_)
      | (with_reducible refine LeO.bind ?_ (fun _ => ?_))
      | exact ih0 _ _ _ _ _ _ _ _ _
      | exact ih1 _ _ _ _ _ _ _ _ _ _ _
      | exact ih2 _ _ _ _ _ _ _ _ _ _ _ _ _ _ _ _ _ _
      | exact headroomlaw13_alive.mono _
      | exact headroomref13_Every.mono _
      | exact LeO.none _
      | refine LeO.ite ?_ ?_
      | refine LeO.bind ?_ (fun _ => ?_)
theorem headroomlaw13_PlanEvery.mono : ∀ a0 a1 a2 a3 a4 a5 k, LeO (headroomlaw13_PlanEvery.f k a0 a1 a2 a3 a4 a5) (headroomlaw13_PlanEvery.f (k + 1) a0 a1 a2 a3 a4 a5) := by
  intro a0 a1 a2 a3 a4 a5 k
  obtain ⟨ih0, ih1, ih2⟩ := headroomlaw13_PlanEvery.mono_l k
  unfold headroomlaw13_PlanEvery.f
  repeat' first
      | (with_reducible exact ih0 _ _ _ _ _ _ _ _ _)
      | (with_reducible exact ih1 _ _ _ _ _ _ _ _ _ _ _)
      | (with_reducible exact ih2 _ _ _ _ _ _ _ _ _ _ _ _ _ _ _ _ _ _)
      | (with_reducible exact headroomlaw13_alive.mono _)
      | (with_reducible exact headroomref13_Every.mono _)
      | (with_reducible exact LeO.refl _)
      | (with_reducible exact LeO.none _)
      | (with_reducible refine LeO.ite ?_ ?_)
      | (with_reducible refine LeO.bind ?_ (fun _ => ?_))
      | exact ih0 _ _ _ _ _ _ _ _ _
      | exact ih1 _ _ _ _ _ _ _ _ _ _ _
      | exact ih2 _ _ _ _ _ _ _ _ _ _ _ _ _ _ _ _ _ _
      | exact headroomlaw13_alive.mono _
      | exact headroomref13_Every.mono _
      | exact LeO.none _
      | refine LeO.ite ?_ ?_
      | refine LeO.bind ?_ (fun _ => ?_)
def headroomlaw13_PlanEvery.T8 : Bool × List (List Nat × List Nat) := (true, [([], []), ([], []), ([], []), ([1, 2], [1, 2]), ([3], [3]), ([0, 4], [0, 4]), ([5], [5]), ([6], [6]), ([7, 6, 6], [6, 7]), ([8, 6], [6, 8]), ([6, 9], [6, 9])])
def headroomlaw13_PlanEvery.B8 : List Nat := [0, 0, 0, 6, 14, 31, 63, 127, 255, 511, 1023]
theorem headroomlaw13_PlanEvery.tab8 : rtab .any (opsOf Try.f5 8) = headroomlaw13_PlanEvery.T8 := by kernel_rfl
theorem headroomlaw13_PlanEvery.bits8 : waitsOk headroomlaw13_PlanEvery.T8.2 headroomlaw13_PlanEvery.B8 = true := by kernel_rfl
set_option maxHeartbeats 8000000 in
set_option maxRecDepth 100000 in
theorem headroomlaw13_PlanEvery.calls (k : Nat) (a0_0 : Int) (a0_1 : Int) (a0_2 : Int) (a0_3 : Int) (a0_4 : Int) (a0_5 : Bool) (r : Bool) (w : World) (h : headroomlaw13_PlanEvery.f k a0_0 a0_1 a0_2 a0_3 a0_4 a0_5 = some r) :
    Calls Try.prog 5 #[.agg #[.int .i64 a0_0, .int .i64 a0_1, .int .i64 a0_2, .int .i64 a0_3, .int .i64 a0_4, .bool a0_5]] w fun e w' => e = .returned (.bool r) ∧ Below w.heap.size w w' := by
  have hu23 := Try.underlying23
  have HB := Aside0.mk (Below.refl w.heap.size w)
  have H : ((plan_Every.f).bind fun t203 => ((headroomref13_Every.f k).bind fun t206 => (if (t203.length : Int) = (t206.length : Int) then ((headroomlaw13_alive.f k).bind fun t209 => (headroomlaw13_PlanEvery.j0 k t203 t206 (!t209) a0_0 a0_1 a0_2 a0_3 a0_4 a0_5)) else (headroomlaw13_PlanEvery.j0 k t203 t206 true a0_0 a0_1 a0_2 a0_3 a0_4 a0_5)))) = some r := h
  clear h
  replace H := Option.bind_eq_some_iff.mp H
  obtain ⟨t203, A20, H⟩ := H
  replace H : ((headroomref13_Every.f k).bind fun t206 => (if (t203.length : Int) = (t206.length : Int) then ((headroomlaw13_alive.f k).bind fun t209 => (headroomlaw13_PlanEvery.j0 k t203 t206 (!t209) a0_0 a0_1 a0_2 a0_3 a0_4 a0_5)) else (headroomlaw13_PlanEvery.j0 k t203 t206 true a0_0 a0_1 a0_2 a0_3 a0_4 a0_5))) = some r := H
  have A2 := Aside0.mk A20
  clear A20
  replace H := Option.bind_eq_some_iff.mp H
  obtain ⟨t206, A30, H⟩ := H
  replace H : (if (t203.length : Int) = (t206.length : Int) then ((headroomlaw13_alive.f k).bind fun t209 => (headroomlaw13_PlanEvery.j0 k t203 t206 (!t209) a0_0 a0_1 a0_2 a0_3 a0_4 a0_5)) else (headroomlaw13_PlanEvery.j0 k t203 t206 true a0_0 a0_1 a0_2 a0_3 a0_4 a0_5)) = some r := H
  have A3 := Aside0.mk A30
  clear A30
  have HC4 := Aside0.mk H
  clear H
  go_enter Try.func5, Try.ntmps5
  go_upto_region 2 with (first | ((with_reducible refine gate_dst (N := 1) rfl ?_); refine box_event ?hg (N := 1) ?hd (cs := #[.int .i64 a0_0, .int .i64 a0_1, .int .i64 a0_2, .int .i64 a0_3, .int .i64 a0_4, .bool a0_5]) (t := 23) ?hr ?_; (case hd => rfl); (case hg => rfl); (case hr => first | (go_simp; done) | (go_simp; rfl)); intro gb202 hg w5 hbox hb; have n0_ := Aside0.mk (below_step (by repeat (first | (with_reducible first | exact HB.out | apply below_alloc | apply pw_below_drewN | apply below_drew1) | exact HB.out)) hb); have n1_ := Aside0.mk (hbox); have n2_ := Aside0.mk ((by rw [hg]; exact (below_size (by repeat (first | (with_reducible first | exact HB.out | apply below_alloc | apply pw_below_drewN | apply below_drew1) | exact HB.out))) : w.heap.size ≤ gb202)); have n3_ := Aside0.mk ((by rw [hg]; exact (below_size (by repeat (first | (with_reducible first | exact HB.out | apply below_alloc | apply pw_below_drewN | apply below_drew1) | exact HB.out))) : w.heap.size ≤ gb202)); clear HB; have HB := n0_; have BK202 := n1_; have GW202 := n2_; have GE202 := n3_; clear n0_ n1_ n2_ n3_; clear hb hbox hg) | ((with_reducible refine gate_callee (f := 20) rfl ?_); refine goesL_ (some 8) rfl rfl Try.func20 (by kernel_rfl) rfl #[] rfl (by (try simp only [List.map_toArray, List.map_cons, List.map_nil]); first | done | rfl | (simp only [List.length_drop, List.length_take]; rfl)) ?_; (with_reducible refine (plan_Every.calls  t203 _ A2.out).mono ?_); rintro e w6 ⟨v204, rfl, ho0, hb⟩; refine ⟨_, rfl, ?_⟩; have n0_ := Aside0.mk (Kd.R_lower (Kd.R_newB ho0 (g := gb202) (o := .cells #[.int .i64 a0_0, .int .i64 a0_1, .int .i64 a0_2, .int .i64 a0_3, .int .i64 a0_4, .bool a0_5] 23 (0, 0)) (by (with_reducible repeat (first | refine blk_drewN ?_ _ | refine blk_drew ?_ | refine blk_alloc ?_ _)); exact BK202.out)) (below_size (by repeat (first | (with_reducible first | exact HB.out | apply below_alloc | apply pw_below_drewN | apply below_drew1 | refine below_set ?_ GE202.out) | exact HB.out)))); have n1_ := Aside0.mk (blk_below (g := gb202) (o := .cells #[.int .i64 a0_0, .int .i64 a0_1, .int .i64 a0_2, .int .i64 a0_3, .int .i64 a0_4, .bool a0_5] 23 (0, 0)) (by (with_reducible repeat (first | refine blk_drewN ?_ _ | refine blk_drew ?_ | refine blk_alloc ?_ _)); exact BK202.out) hb); have n2_ := Aside0.mk (below_step (by repeat (first | (with_reducible first | exact HB.out | apply below_alloc | apply pw_below_drewN | apply below_drew1 | refine below_set ?_ GE202.out) | exact HB.out)) hb); clear BK202; clear HB; have HO205 := n0_; have BK202 := n1_; have HB := n2_; clear n0_ n1_ n2_; (try clear hb); (try clear hb2); (try clear hk); (try clear hi); (try clear ho0)) | ((with_reducible refine gate_callee (f := 21) rfl ?_); refine goesL_ (some 9) rfl rfl Try.func21 (by kernel_rfl) rfl #[] rfl (by (try simp only [List.map_toArray, List.map_cons, List.map_nil]); first | done | rfl | (simp only [List.length_drop, List.length_take]; rfl)) ?_; (with_reducible refine (headroomref13_Every.calls k  t206 _ A3.out).mono ?_); rintro e w7 ⟨v207, rfl, ho0, hb⟩; refine ⟨_, rfl, ?_⟩; have n0_ := Aside0.mk (Kd.R_elder' (by (with_reducible repeat (first | apply Kd.R_alloc | apply Kd.R_drewN | apply Kd.R_drew)); exact HO205.out) (Kd.R_base ho0) hb); have n1_ := Aside0.mk (Kd.R_lower (Kd.R_newB (Kd.R_new' ho0 (Kd.R_lt (by (with_reducible repeat (first | apply Kd.R_alloc | apply Kd.R_drewN | apply Kd.R_drew)); exact HO205.out))) (g := gb202) (o := .cells #[.int .i64 a0_0, .int .i64 a0_1, .int .i64 a0_2, .int .i64 a0_3, .int .i64 a0_4, .bool a0_5] 23 (0, 0)) (by (with_reducible repeat (first | refine blk_drewN ?_ _ | refine blk_drew ?_ | refine blk_alloc ?_ _)); exact BK202.out)) (below_size (by repeat (first | (with_reducible first | exact HB.out | apply below_alloc | apply pw_below_drewN | apply below_drew1 | refine below_set ?_ GE202.out) | exact HB.out)))); have n2_ := Aside0.mk (blk_below (g := gb202) (o := .cells #[.int .i64 a0_0, .int .i64 a0_1, .int .i64 a0_2, .int .i64 a0_3, .int .i64 a0_4, .bool a0_5] 23 (0, 0)) (by (with_reducible repeat (first | refine blk_drewN ?_ _ | refine blk_drew ?_ | refine blk_alloc ?_ _)); exact BK202.out) hb); have n3_ := Aside0.mk (below_step (by repeat (first | (with_reducible first | exact HB.out | apply below_alloc | apply pw_below_drewN | apply below_drew1 | refine below_set ?_ GE202.out) | exact HB.out)) hb); clear HO205; clear BK202; clear HB; have HO205 := n0_; have HO208 := n1_; have BK202 := n2_; have HB := n3_; clear n0_ n1_ n2_ n3_; (try clear hb); (try clear hb2); (try clear hk); (try clear hi); (try clear ho0)))
  (try simp only [Act.put, List.setIfInBounds_toArray, List.set_cons_zero, List.set_cons_succ])
  go_cut [18] (fun v18 wc => ∃ (kq : Nat) (x18_3 : Bool), v18 = .bool x18_3 ∧ Aside0 (headroomlaw13_PlanEvery.j0 kq t203 t206 x18_3 a0_0 a0_1 a0_2 a0_3 a0_4 a0_5 = some r) ∧ Aside0 (kq ≤ k) ∧ Aside0 (Kd.R k23 23 wc w.heap.size (fun k_ => some k_ ≠ (v207 : Value).ownBlock ∧ k_ ≠ gb202) v204 t203) ∧ Aside0 (Kd.R k23 23 wc w.heap.size (fun k_ => some k_ ≠ (v204 : Value).ownBlock ∧ k_ ≠ gb202) v207 t206) ∧ Aside0 (wc.heap[gb202]? = some (.cells #[.int .i64 a0_0, .int .i64 a0_1, .int .i64 a0_2, .int .i64 a0_3, .int .i64 a0_4, .bool a0_5] 23 (0, 0))) ∧ Aside0 (Below w.heap.size w wc))
  case first =>
    have H := HC4.out
    clear HC4
    by_cases c8 : (t203.length : Int) = (t206.length : Int)
    · rw [if_pos c8] at H
      have c8b0 : ((t203.length : Int) == (t206.length : Int)) = true := beq_iff_eq.mpr c8
      have c8b1 : ((t203.length : Int) != (t206.length : Int)) = false := bne_eq_false_iff_eq.mpr c8
      have c8b2 : (t203.length == t206.length) = true := by first | simpa using c8 | (simp at c8 ⊢; omega)
      clear c8
      (first | rw [c8b0] | (simp only [i64_w, i32_w]; rw [c8b0]) | skip)
      replace H := Option.bind_eq_some_iff.mp H
      obtain ⟨t209, A90, H⟩ := H
      replace H : (headroomlaw13_PlanEvery.j0 k t203 t206 (!t209) a0_0 a0_1 a0_2 a0_3 a0_4 a0_5) = some r := H
      have A9 := Aside0.mk A90
      clear A90
      have H' := Aside0.mk H
      clear H
      obtain ⟨Ao10, co10, eo10⟩ := Kd.R_slice HO205.out
      subst eo10
      obtain ⟨Ao11, co11, eo11⟩ := Kd.R_slice HO208.out
      subst eo11
      go_wp2_with (first | (go_at_call 15; (with_reducible refine (headroomlaw13_alive.calls k  t209 _ A9.out).mono ?_); rintro e w12 ⟨rfl, hb⟩; have n0_ := Aside0.mk (Kd.R_below (by (with_reducible repeat (first | apply Kd.R_alloc | apply Kd.R_drewN | apply Kd.R_drew)); exact HO205.out) hb); have n1_ := Aside0.mk (Kd.R_below (by (with_reducible repeat (first | apply Kd.R_alloc | apply Kd.R_drewN | apply Kd.R_drew)); exact HO208.out) hb); have n2_ := Aside0.mk (blk_below (g := gb202) (o := .cells #[.int .i64 a0_0, .int .i64 a0_1, .int .i64 a0_2, .int .i64 a0_3, .int .i64 a0_4, .bool a0_5] 23 (0, 0)) (by (with_reducible repeat (first | refine blk_drewN ?_ _ | refine blk_drew ?_ | refine blk_alloc ?_ _)); exact BK202.out) hb); have n3_ := Aside0.mk (below_step (by repeat (first | (with_reducible first | exact HB.out | apply below_alloc | apply pw_below_drewN | apply below_drew1 | refine below_set ?_ GE202.out) | exact HB.out)) hb); clear HO205; clear HO208; clear BK202; clear HB; have HO205 := n0_; have HO208 := n1_; have BK202 := n2_; have HB := n3_; clear n0_ n1_ n2_ n3_; (try clear hb); (try clear hb2); (try clear hk); (try clear hi)))
      go_meet
      case rel => exact ⟨_, (!t209), (by first | rfl | (simp; done) | (simp [*]; done)), H', ⟨by first | omega | exact Nat.le_refl _⟩, ⟨by (with_reducible repeat (first | apply Kd.R_alloc | apply Kd.R_drewN | apply Kd.R_drew)); exact Kd.R_mono HO205.out (fun _ hk => ⟨hk.2, hk.1.2⟩)⟩, ⟨by (with_reducible repeat (first | apply Kd.R_alloc | apply Kd.R_drewN | apply Kd.R_drew)); exact Kd.R_mono HO208.out (fun _ hk => ⟨hk.1.2, hk.2⟩)⟩, ⟨by (with_reducible repeat (first | refine blk_drewN ?_ _ | refine blk_drew ?_ | refine blk_alloc ?_ _)); exact BK202.out⟩, ⟨by repeat (first | (with_reducible first | exact HB.out | apply below_alloc | apply pw_below_drewN | apply below_drew1 | refine below_set ?_ GE202.out) | exact HB.out)⟩⟩
    · rw [if_neg c8] at H
      have c8b0 : ((t203.length : Int) == (t206.length : Int)) = false := beq_eq_false_iff_ne.mpr c8
      have c8b1 : ((t203.length : Int) != (t206.length : Int)) = true := bne_iff_ne.mpr c8
      have c8b2 : (t203.length == t206.length) = false := by first | simpa using c8 | (simp at c8 ⊢; omega)
      (first | rw [c8b0] | (simp only [i64_w, i32_w]; rw [c8b0]) | skip)
      have H' := Aside0.mk H
      clear H
      obtain ⟨Ao13, co13, eo13⟩ := Kd.R_slice HO205.out
      subst eo13
      obtain ⟨Ao14, co14, eo14⟩ := Kd.R_slice HO208.out
      subst eo14
      go_wp2
      go_meet
      case rel => exact ⟨_, (true), (by first | rfl | (simp; done) | (simp [*]; done)), H', ⟨by first | omega | exact Nat.le_refl _⟩, ⟨by (with_reducible repeat (first | apply Kd.R_alloc | apply Kd.R_drewN | apply Kd.R_drew)); exact Kd.R_mono HO205.out (fun _ hk => ⟨hk.2, hk.1.2⟩)⟩, ⟨by (with_reducible repeat (first | apply Kd.R_alloc | apply Kd.R_drewN | apply Kd.R_drew)); exact Kd.R_mono HO208.out (fun _ hk => ⟨hk.1.2, hk.2⟩)⟩, ⟨by (with_reducible repeat (first | refine blk_drewN ?_ _ | refine blk_drew ?_ | refine blk_alloc ?_ _)); exact BK202.out⟩, ⟨by repeat (first | (with_reducible first | exact HB.out | apply below_alloc | apply pw_below_drewN | apply below_drew1 | refine below_set ?_ GE202.out) | exact HB.out)⟩⟩
  case rest =>
    clear HC4
    try clear c2
    try clear p2
    try clear c5
    try clear c8
    try clear c8b0
    try clear c8b1
    try clear c8b2
    obtain ⟨kq, x18_3, rfl, HA, HJ3, HO_3, HO_4, BK202, HB⟩ := hcut
    cases kq with
    | zero => exact absurd HA.out (by simp [headroomlaw13_PlanEvery.j0])
    | succ kj3 =>
      have H := HA.out
      clear HA
      simp only [headroomlaw13_PlanEvery.j0] at H
      by_cases c15 : x18_3 = true
      · subst c15
        have H1 : (some false) = some r := by rw [if_pos rfl] at H; exact H
        clear H
        have H := H1
        clear H1
        obtain rfl := Option.some.inj H
        go_wp2
        go_ret
        exact ⟨by first | rfl | (simp [errW_none, errW_some] <;> rfl) | (simp [*, errW_none, errW_some] <;> rfl), by repeat (first | (with_reducible first | exact HB.out | apply below_alloc | apply pw_below_drewN | apply below_drew1 | refine below_set ?_ GE202.out) | exact HB.out)⟩
      · replace c15 := Bool.eq_false_iff.mpr c15
        subst c15
        have H1 : (headroomlaw13_PlanEvery.l0 kj3 t206 0 t203 (t203.length : Int) 0 a0_0 a0_1 a0_2 a0_3 a0_4 a0_5) = some r := by rw [if_neg (show ¬ (false = true) by decide)] at H; exact H
        clear H
        have H := H1
        clear H1
        have H' := Aside0.mk H
        clear H
        obtain ⟨Ao16, co16, eo16⟩ := Kd.R_slice HO_3.out
        subst eo16
        go_wp2
        go_loopg [5, 21] kj3 (fun kq v5 v21 w' => ∃ (x5_2 : Int) (x21_2 : Int), v5 = .int .i64 x5_2 ∧ v21 = .int .i64 x21_2 ∧ Aside0 (headroomlaw13_PlanEvery.l0 kq t206 x5_2 t203 (t203.length : Int) x21_2 a0_0 a0_1 a0_2 a0_3 a0_4 a0_5 = some r) ∧ Aside0 (kq ≤ kj3) ∧ Aside0 (Kd.R k23 23 w' w.heap.size (fun k_ => some k_ ≠ ((.slice Ao16 t203.length co16) : Value).ownBlock ∧ k_ ≠ gb202) v207 t206) ∧ Aside0 (Kd.R k23 23 w' w.heap.size (fun k_ => some k_ ≠ (v207 : Value).ownBlock ∧ k_ ≠ gb202) (.slice Ao16 t203.length co16) t203) ∧ Aside0 (w'.heap[gb202]? = some (.cells #[.int .i64 a0_0, .int .i64 a0_1, .int .i64 a0_2, .int .i64 a0_3, .int .i64 a0_4, .bool a0_5] 23 (0, 0))) ∧ Aside0 (Below w.heap.size w w'))
        case atStart => exact ⟨(0), (0), (by first | rfl | (simp; done) | (simp [*]; done)), (by first | rfl | (simp; done) | (simp [*]; done)), H', ⟨Nat.le_refl _⟩, ⟨by (with_reducible repeat (first | apply Kd.R_alloc | apply Kd.R_drewN | apply Kd.R_drew)); exact HO_4.out⟩, ⟨by (with_reducible repeat (first | apply Kd.R_alloc | apply Kd.R_drewN | apply Kd.R_drew)); exact HO_3.out⟩, ⟨by (with_reducible repeat (first | refine blk_drewN ?_ _ | refine blk_drew ?_ | refine blk_alloc ?_ _)); exact BK202.out⟩, ⟨by repeat (first | (with_reducible first | exact HB.out | apply below_alloc | apply pw_below_drewN | apply below_drew1 | refine below_set ?_ GE202.out) | exact HB.out)⟩⟩
        case round =>
          clear H'
          try clear c1
          try clear c2
          try clear p2
          try clear c5
          try clear c8
          try clear c8b0
          try clear c8b1
          try clear c8b2
          try clear c15
          try clear p2
          obtain ⟨x5_2, x21_2, rfl, rfl, HA, HK2, HO_4, HO_19, BK202, HB⟩ := hrel
          cases gk with
          | zero => exact absurd HA.out (by simp [headroomlaw13_PlanEvery.l0])
          | succ k2 =>
            have H := HA.out
            clear HA
            simp only [headroomlaw13_PlanEvery.l0] at H
            by_cases c17 : x21_2 < (t203.length : Int)
            · rw [if_pos c17] at H
              have c17b0 : decide (x21_2 < (t203.length : Int)) = true := decide_eq_true c17
              clear c17
              by_cases c18 : 0 ≤ x21_2
              · rw [if_pos c18] at H
                have c18b0 : decide (0 ≤ x21_2) = true := decide_eq_true c18
                clear c18
                by_cases c19 : x21_2 < (t203.length : Int)
                · rw [if_pos c19] at H
                  have c19b0 : decide (x21_2 < (t203.length : Int)) = true := decide_eq_true c19
                  clear c19
                  have HC20 := Aside0.mk H
                  clear H
                  have p213 : 0 ≤ (x21_2 : Int) := of_decide_eq_true (by first | (with_reducible assumption) | assumption)
                  have q213 : x21_2 < (t203.length : Int) := of_decide_eq_true (by first | (with_reducible assumption) | assumption)
                  obtain ⟨ad213, e213, hx213_0, hx213_1, hx213_2, hx213_3, hx213_4, hx213_5⟩ := at_T23 (Kd.R_reads' HO_19.out).2.2 x21_2 p213 q213
                  cases e213
                  replace p213 := eq_true p213
                  replace q213 := eq_true q213
                  go_upto_region 8 with (first | ((with_reducible refine gate_dst (N := 7) rfl ?_); refine box_event ?hg (N := 7) ?hd (cs := #[.int .i64 0, .int .i64 0, .int .i64 0, .int .i64 0, .int .i64 0, .bool false]) (t := 23) ?hr ?_; (case hd => rfl); (case hg => rfl); (case hr => first | (go_simp; done) | (go_simp; rfl)); intro gb214 hg w21 hbox hb; have n0_ := Aside0.mk (Kd.R_below (Kd.R_elderB (by (with_reducible repeat (first | apply Kd.R_alloc | apply Kd.R_drewN | apply Kd.R_drew)); exact HO_4.out) gb214 (Nat.le_of_eq hg.symm)) hb); have n1_ := Aside0.mk (Kd.R_below (Kd.R_elderB (by (with_reducible repeat (first | apply Kd.R_alloc | apply Kd.R_drewN | apply Kd.R_drew)); exact HO_19.out) gb214 (Nat.le_of_eq hg.symm)) hb); have n2_ := Aside0.mk (blk_below (g := gb202) (o := .cells #[.int .i64 a0_0, .int .i64 a0_1, .int .i64 a0_2, .int .i64 a0_3, .int .i64 a0_4, .bool a0_5] 23 (0, 0)) (by (with_reducible repeat (first | refine blk_drewN ?_ _ | refine blk_drew ?_ | refine blk_alloc ?_ _)); exact BK202.out) hb); have n3_ := Aside0.mk (below_step (by repeat (first | (with_reducible first | exact HB.out | apply below_alloc | apply pw_below_drewN | apply below_drew1 | refine below_set ?_ GE202.out) | exact HB.out)) hb); have n4_ := Aside0.mk (hbox); have n5_ := Aside0.mk ((by rw [hg]; exact (below_size (by repeat (first | (with_reducible first | exact HB.out | apply below_alloc | apply pw_below_drewN | apply below_drew1 | refine below_set ?_ GE202.out) | exact HB.out))) : w.heap.size ≤ gb214)); have n6_ := Aside0.mk ((by rw [hg]; exact (below_size (by repeat (first | (with_reducible first | exact HB.out | apply below_alloc | apply pw_below_drewN | apply below_drew1 | refine below_set ?_ GE202.out) | exact HB.out))) : w.heap.size ≤ gb214)); have n7_ := Aside0.mk ((by rw [hg]; exact Nat.ne_of_lt (blk_lt (g := gb202) (o := .cells #[.int .i64 a0_0, .int .i64 a0_1, .int .i64 a0_2, .int .i64 a0_3, .int .i64 a0_4, .bool a0_5] 23 (0, 0)) (by (with_reducible repeat (first | refine blk_drewN ?_ _ | refine blk_drew ?_ | refine blk_alloc ?_ _)); exact BK202.out)) : gb202 ≠ gb214)); have n8_ := Aside0.mk ((by rw [hg]; exact Nat.ne_of_gt (blk_lt (g := gb202) (o := .cells #[.int .i64 a0_0, .int .i64 a0_1, .int .i64 a0_2, .int .i64 a0_3, .int .i64 a0_4, .bool a0_5] 23 (0, 0)) (by (with_reducible repeat (first | refine blk_drewN ?_ _ | refine blk_drew ?_ | refine blk_alloc ?_ _)); exact BK202.out)) : gb214 ≠ gb202)); clear HO_4; clear HO_19; clear BK202; clear HB; have HO_4 := n0_; have HO_19 := n1_; have BK202 := n2_; have HB := n3_; have BK214 := n4_; have GW214 := n5_; have GE214 := n6_; have NB202_214 := n7_; have NB214_202 := n8_; clear n0_ n1_ n2_ n3_ n4_ n5_ n6_ n7_ n8_; clear hb hbox hg; have hnb22 := NB214_202.out; have hnc22 := NB202_214.out; have hcz23_0 : w21.cell? ⟨gb214, 0, none⟩ = some (.int .i64 0) := (blk_cell BK214.out 0).trans rfl; have hcz23_1 : w21.cell? ⟨gb214, 1, none⟩ = some (.int .i64 0) := (blk_cell BK214.out 1).trans rfl; have hcz23_2 : w21.cell? ⟨gb214, 2, none⟩ = some (.int .i64 0) := (blk_cell BK214.out 2).trans rfl; have hcz23_3 : w21.cell? ⟨gb214, 3, none⟩ = some (.int .i64 0) := (blk_cell BK214.out 3).trans rfl; have hcz23_4 : w21.cell? ⟨gb214, 4, none⟩ = some (.int .i64 0) := (blk_cell BK214.out 4).trans rfl; have hcz23_5 : w21.cell? ⟨gb214, 5, none⟩ = some (.bool false) := (blk_cell BK214.out 5).trans rfl; have hfz23_0 := blk_frozen BK214.out 0; have hfz23_1 := blk_frozen BK214.out 1; have hfz23_2 := blk_frozen BK214.out 2; have hfz23_3 := blk_frozen BK214.out 3; have hfz23_4 := blk_frozen BK214.out 4; have hfz23_5 := blk_frozen BK214.out 5))
                  (try simp only [Act.put, List.setIfInBounds_toArray, List.set_cons_zero, List.set_cons_succ])
                  go_cut [36] (fun v36 wc => ∃ (kq : Nat) (x36_19 : Bool), v36 = .bool x36_19 ∧ Aside0 (headroomlaw13_PlanEvery.j2 kq t206 x5_2 t203 (t203.length : Int) x21_2 x36_19 a0_0 a0_1 a0_2 a0_3 a0_4 a0_5 ((rd_T23 t203 x21_2).f0) ((rd_T23 t203 x21_2).f1) ((rd_T23 t203 x21_2).f2) ((rd_T23 t203 x21_2).f3) ((rd_T23 t203 x21_2).f4) ((rd_T23 t203 x21_2).f5) = some r) ∧ Aside0 (kq ≤ k2) ∧ Aside0 (Kd.R k23 23 wc w.heap.size (fun k_ => some k_ ≠ ((.slice (some ad213) t203.length co16) : Value).ownBlock ∧ k_ ≠ gb202 ∧ k_ ≠ gb214) v207 t206) ∧ Aside0 (Kd.R k23 23 wc w.heap.size (fun k_ => some k_ ≠ (v207 : Value).ownBlock ∧ k_ ≠ gb202 ∧ k_ ≠ gb214) (.slice (some ad213) t203.length co16) t203) ∧ Aside0 (wc.heap[gb202]? = some (.cells #[.int .i64 a0_0, .int .i64 a0_1, .int .i64 a0_2, .int .i64 a0_3, .int .i64 a0_4, .bool a0_5] 23 (0, 0))) ∧ Aside0 (wc.heap[gb214]? = some (.cells #[.int .i64 ((rd_T23 t203 x21_2).f0), .int .i64 ((rd_T23 t203 x21_2).f1), .int .i64 ((rd_T23 t203 x21_2).f2), .int .i64 ((rd_T23 t203 x21_2).f3), .int .i64 ((rd_T23 t203 x21_2).f4), .bool ((rd_T23 t203 x21_2).f5)] 23 (0, 0))) ∧ Aside0 (Below w.heap.size w wc))
                  case first =>
                    have H := HC20.out
                    clear HC20
                    by_cases c24 : x21_2 < (t206.length : Int)
                    · rw [if_pos c24] at H
                      have c24b0 : decide (x21_2 < (t206.length : Int)) = true := decide_eq_true c24
                      clear c24
                      (first | rw [c24b0] | (simp only [i64_w, i32_w]; rw [c24b0]) | skip)
                      by_cases c25 : (!(((rd_T23 t203 x21_2).f0) == ((rd_T23 t206 x21_2).f0)) || (!(((rd_T23 t203 x21_2).f1) == ((rd_T23 t206 x21_2).f1)) || (!(((rd_T23 t203 x21_2).f2) == ((rd_T23 t206 x21_2).f2)) || (!(((rd_T23 t203 x21_2).f3) == ((rd_T23 t206 x21_2).f3)) || (!(((rd_T23 t203 x21_2).f4) == ((rd_T23 t206 x21_2).f4)) || (!(((rd_T23 t203 x21_2).f5) == ((rd_T23 t206 x21_2).f5)))))))) = true
                      · rw [if_pos c25] at H
                        have c25b0 : (!(((rd_T23 t203 x21_2).f0) == ((rd_T23 t206 x21_2).f0)) || (!(((rd_T23 t203 x21_2).f1) == ((rd_T23 t206 x21_2).f1)) || (!(((rd_T23 t203 x21_2).f2) == ((rd_T23 t206 x21_2).f2)) || (!(((rd_T23 t203 x21_2).f3) == ((rd_T23 t206 x21_2).f3)) || (!(((rd_T23 t203 x21_2).f4) == ((rd_T23 t206 x21_2).f4)) || (!(((rd_T23 t203 x21_2).f5) == ((rd_T23 t206 x21_2).f5)))))))) = true := c25
                        clear c25
                        have H' := Aside0.mk H
                        clear H
                        try go_wp2
                        have n0_ : Aside0 (Kd.R k23 23 ((((((w21.setCell ⟨gb214, 0, none⟩ (.int .i64 ((rd_T23 t203 x21_2).f0))).setCell ⟨gb214, 1, none⟩ (.int .i64 ((rd_T23 t203 x21_2).f1))).setCell ⟨gb214, 2, none⟩ (.int .i64 ((rd_T23 t203 x21_2).f2))).setCell ⟨gb214, 3, none⟩ (.int .i64 ((rd_T23 t203 x21_2).f3))).setCell ⟨gb214, 4, none⟩ (.int .i64 ((rd_T23 t203 x21_2).f4))).setCell ⟨gb214, 5, none⟩ (.bool ((rd_T23 t203 x21_2).f5))) w.heap.size (fun k_ => some k_ ≠ (.slice (some ad213) t203.length co16 : Value).ownBlock ∧ k_ ≠ gb202 ∧ k_ ≠ gb214) v207 t206) := ⟨by (with_reducible repeat (first | apply Kd.R_alloc | apply Kd.R_drewN | apply Kd.R_drew)); exact Kd.R_mono (Kd.R_far (p := ⟨gb214, 5, none⟩) (Kd.R_far (p := ⟨gb214, 4, none⟩) (Kd.R_far (p := ⟨gb214, 3, none⟩) (Kd.R_far (p := ⟨gb214, 2, none⟩) (Kd.R_far (p := ⟨gb214, 1, none⟩) (Kd.R_far (p := ⟨gb214, 0, none⟩) (Kd.R_mono HO_4.out (fun k_ hk => (⟨hk, hk.2⟩ : _ ∧ k_ ≠ gb214))) (fun _ hk => hk.2) (.int .i64 ((rd_T23 t203 x21_2).f0))) (fun _ hk => hk.2) (.int .i64 ((rd_T23 t203 x21_2).f1))) (fun _ hk => hk.2) (.int .i64 ((rd_T23 t203 x21_2).f2))) (fun _ hk => hk.2) (.int .i64 ((rd_T23 t203 x21_2).f3))) (fun _ hk => hk.2) (.int .i64 ((rd_T23 t203 x21_2).f4))) (fun _ hk => hk.2) (.bool ((rd_T23 t203 x21_2).f5))) (fun _ hk => ⟨hk.1.1.1, ⟨hk.1.1.2, hk.1.2⟩⟩)⟩
                        have n1_ : Aside0 (Kd.R k23 23 ((((((w21.setCell ⟨gb214, 0, none⟩ (.int .i64 ((rd_T23 t203 x21_2).f0))).setCell ⟨gb214, 1, none⟩ (.int .i64 ((rd_T23 t203 x21_2).f1))).setCell ⟨gb214, 2, none⟩ (.int .i64 ((rd_T23 t203 x21_2).f2))).setCell ⟨gb214, 3, none⟩ (.int .i64 ((rd_T23 t203 x21_2).f3))).setCell ⟨gb214, 4, none⟩ (.int .i64 ((rd_T23 t203 x21_2).f4))).setCell ⟨gb214, 5, none⟩ (.bool ((rd_T23 t203 x21_2).f5))) w.heap.size (fun k_ => some k_ ≠ (v207 : Value).ownBlock ∧ k_ ≠ gb202 ∧ k_ ≠ gb214) (.slice (some ad213) t203.length co16) t203) := ⟨by (with_reducible repeat (first | apply Kd.R_alloc | apply Kd.R_drewN | apply Kd.R_drew)); exact Kd.R_mono (Kd.R_far (p := ⟨gb214, 5, none⟩) (Kd.R_far (p := ⟨gb214, 4, none⟩) (Kd.R_far (p := ⟨gb214, 3, none⟩) (Kd.R_far (p := ⟨gb214, 2, none⟩) (Kd.R_far (p := ⟨gb214, 1, none⟩) (Kd.R_far (p := ⟨gb214, 0, none⟩) (Kd.R_mono HO_19.out (fun k_ hk => (⟨hk, hk.2⟩ : _ ∧ k_ ≠ gb214))) (fun _ hk => hk.2) (.int .i64 ((rd_T23 t203 x21_2).f0))) (fun _ hk => hk.2) (.int .i64 ((rd_T23 t203 x21_2).f1))) (fun _ hk => hk.2) (.int .i64 ((rd_T23 t203 x21_2).f2))) (fun _ hk => hk.2) (.int .i64 ((rd_T23 t203 x21_2).f3))) (fun _ hk => hk.2) (.int .i64 ((rd_T23 t203 x21_2).f4))) (fun _ hk => hk.2) (.bool ((rd_T23 t203 x21_2).f5))) (fun _ hk => ⟨hk.1.1.1, ⟨hk.1.1.2, hk.1.2⟩⟩)⟩
                        have n2_ : Aside0 (((((((w21.setCell ⟨gb214, 0, none⟩ (.int .i64 ((rd_T23 t203 x21_2).f0))).setCell ⟨gb214, 1, none⟩ (.int .i64 ((rd_T23 t203 x21_2).f1))).setCell ⟨gb214, 2, none⟩ (.int .i64 ((rd_T23 t203 x21_2).f2))).setCell ⟨gb214, 3, none⟩ (.int .i64 ((rd_T23 t203 x21_2).f3))).setCell ⟨gb214, 4, none⟩ (.int .i64 ((rd_T23 t203 x21_2).f4))).setCell ⟨gb214, 5, none⟩ (.bool ((rd_T23 t203 x21_2).f5))).heap[gb202]? = some (.cells #[.int .i64 a0_0, .int .i64 a0_1, .int .i64 a0_2, .int .i64 a0_3, .int .i64 a0_4, .bool a0_5] 23 (0, 0))) := ⟨by (with_reducible repeat (first | refine blk_drewN ?_ _ | refine blk_drew ?_ | refine blk_alloc ?_ _)); refine blk_far ?_ NB202_214.out _; (with_reducible repeat (first | refine blk_drewN ?_ _ | refine blk_drew ?_ | refine blk_alloc ?_ _)); refine blk_far ?_ NB202_214.out _; (with_reducible repeat (first | refine blk_drewN ?_ _ | refine blk_drew ?_ | refine blk_alloc ?_ _)); refine blk_far ?_ NB202_214.out _; (with_reducible repeat (first | refine blk_drewN ?_ _ | refine blk_drew ?_ | refine blk_alloc ?_ _)); refine blk_far ?_ NB202_214.out _; (with_reducible repeat (first | refine blk_drewN ?_ _ | refine blk_drew ?_ | refine blk_alloc ?_ _)); refine blk_far ?_ NB202_214.out _; (with_reducible repeat (first | refine blk_drewN ?_ _ | refine blk_drew ?_ | refine blk_alloc ?_ _)); refine blk_far ?_ NB202_214.out _; (with_reducible repeat (first | refine blk_drewN ?_ _ | refine blk_drew ?_ | refine blk_alloc ?_ _)); exact BK202.out⟩
                        have n3_ : Aside0 (((((((w21.setCell ⟨gb214, 0, none⟩ (.int .i64 ((rd_T23 t203 x21_2).f0))).setCell ⟨gb214, 1, none⟩ (.int .i64 ((rd_T23 t203 x21_2).f1))).setCell ⟨gb214, 2, none⟩ (.int .i64 ((rd_T23 t203 x21_2).f2))).setCell ⟨gb214, 3, none⟩ (.int .i64 ((rd_T23 t203 x21_2).f3))).setCell ⟨gb214, 4, none⟩ (.int .i64 ((rd_T23 t203 x21_2).f4))).setCell ⟨gb214, 5, none⟩ (.bool ((rd_T23 t203 x21_2).f5))).heap[gb214]? = some (.cells #[.int .i64 ((rd_T23 t203 x21_2).f0), .int .i64 ((rd_T23 t203 x21_2).f1), .int .i64 ((rd_T23 t203 x21_2).f2), .int .i64 ((rd_T23 t203 x21_2).f3), .int .i64 ((rd_T23 t203 x21_2).f4), .bool ((rd_T23 t203 x21_2).f5)] 23 (0, 0))) := ⟨by (with_reducible repeat (first | refine blk_drewN ?_ _ | refine blk_drew ?_ | refine blk_alloc ?_ _)); refine blk_put (cs := #[.int .i64 ((rd_T23 t203 x21_2).f0), .int .i64 ((rd_T23 t203 x21_2).f1), .int .i64 ((rd_T23 t203 x21_2).f2), .int .i64 ((rd_T23 t203 x21_2).f3), .int .i64 ((rd_T23 t203 x21_2).f4), .bool false]) ?_ 5 _ rfl; (with_reducible repeat (first | refine blk_drewN ?_ _ | refine blk_drew ?_ | refine blk_alloc ?_ _)); refine blk_put (cs := #[.int .i64 ((rd_T23 t203 x21_2).f0), .int .i64 ((rd_T23 t203 x21_2).f1), .int .i64 ((rd_T23 t203 x21_2).f2), .int .i64 ((rd_T23 t203 x21_2).f3), .int .i64 0, .bool false]) ?_ 4 _ rfl; (with_reducible repeat (first | refine blk_drewN ?_ _ | refine blk_drew ?_ | refine blk_alloc ?_ _)); refine blk_put (cs := #[.int .i64 ((rd_T23 t203 x21_2).f0), .int .i64 ((rd_T23 t203 x21_2).f1), .int .i64 ((rd_T23 t203 x21_2).f2), .int .i64 0, .int .i64 0, .bool false]) ?_ 3 _ rfl; (with_reducible repeat (first | refine blk_drewN ?_ _ | refine blk_drew ?_ | refine blk_alloc ?_ _)); refine blk_put (cs := #[.int .i64 ((rd_T23 t203 x21_2).f0), .int .i64 ((rd_T23 t203 x21_2).f1), .int .i64 0, .int .i64 0, .int .i64 0, .bool false]) ?_ 2 _ rfl; (with_reducible repeat (first | refine blk_drewN ?_ _ | refine blk_drew ?_ | refine blk_alloc ?_ _)); refine blk_put (cs := #[.int .i64 ((rd_T23 t203 x21_2).f0), .int .i64 0, .int .i64 0, .int .i64 0, .int .i64 0, .bool false]) ?_ 1 _ rfl; (with_reducible repeat (first | refine blk_drewN ?_ _ | refine blk_drew ?_ | refine blk_alloc ?_ _)); refine blk_put (cs := #[.int .i64 0, .int .i64 0, .int .i64 0, .int .i64 0, .int .i64 0, .bool false]) ?_ 0 _ rfl; (with_reducible repeat (first | refine blk_drewN ?_ _ | refine blk_drew ?_ | refine blk_alloc ?_ _)); exact BK214.out⟩
                        have n4_ : Aside0 (Below w.heap.size w ((((((w21.setCell ⟨gb214, 0, none⟩ (.int .i64 ((rd_T23 t203 x21_2).f0))).setCell ⟨gb214, 1, none⟩ (.int .i64 ((rd_T23 t203 x21_2).f1))).setCell ⟨gb214, 2, none⟩ (.int .i64 ((rd_T23 t203 x21_2).f2))).setCell ⟨gb214, 3, none⟩ (.int .i64 ((rd_T23 t203 x21_2).f3))).setCell ⟨gb214, 4, none⟩ (.int .i64 ((rd_T23 t203 x21_2).f4))).setCell ⟨gb214, 5, none⟩ (.bool ((rd_T23 t203 x21_2).f5)))) := ⟨by repeat (first | (with_reducible first | exact HB.out | apply below_alloc | apply pw_below_drewN | apply below_drew1 | refine below_set ?_ GE202.out | refine below_set ?_ GE214.out) | exact HB.out)⟩
                        (try clear HO_4)
                        (try clear HO_19)
                        (try clear BK202)
                        (try clear BK214)
                        (try clear HB)
                        generalize ((((((w21.setCell ⟨gb214, 0, none⟩ (.int .i64 ((rd_T23 t203 x21_2).f0))).setCell ⟨gb214, 1, none⟩ (.int .i64 ((rd_T23 t203 x21_2).f1))).setCell ⟨gb214, 2, none⟩ (.int .i64 ((rd_T23 t203 x21_2).f2))).setCell ⟨gb214, 3, none⟩ (.int .i64 ((rd_T23 t203 x21_2).f3))).setCell ⟨gb214, 4, none⟩ (.int .i64 ((rd_T23 t203 x21_2).f4))).setCell ⟨gb214, 5, none⟩ (.bool ((rd_T23 t203 x21_2).f5))) = w26 at n0_ n1_ n2_ n3_ n4_ ⊢
                        have HO_4 := n0_
                        have HO_19 := n1_
                        have BK202 := n2_
                        have BK214 := n3_
                        have HB := n4_
                        clear n0_ n1_ n2_ n3_ n4_
                        have n0_ := Aside0.mk (Kd.R_drew HO_4.out)
                        have n1_ := Aside0.mk (Kd.R_drew HO_19.out)
                        have n2_ := Aside0.mk (blk_drew BK202.out)
                        have n3_ := Aside0.mk (blk_drew BK214.out)
                        have n4_ := Aside0.mk (below_drew1 HB.out)
                        clear HO_4
                        clear HO_19
                        clear BK202
                        clear BK214
                        clear HB
                        have HO_4 := n0_
                        have HO_19 := n1_
                        have BK202 := n2_
                        have BK214 := n3_
                        have HB := n4_
                        clear n0_ n1_ n2_ n3_ n4_
                        obtain ⟨Ao28, co28, eo28⟩ := Kd.R_slice HO_4.out
                        (first | subst eo28 | (injection eo28 with f1_ f2_ f3_; have f4_ := f1_.symm; have f5_ := f3_.symm; clear f1_ f2_ f3_; subst f4_; subst f5_))
                        have p215 : 0 ≤ (x21_2 : Int) := of_decide_eq_true (by first | (with_reducible assumption) | assumption)
                        have q215 : x21_2 < (t206.length : Int) := of_decide_eq_true (by first | (with_reducible assumption) | assumption)
                        obtain ⟨ad215, e215, hx215_0, hx215_1, hx215_2, hx215_3, hx215_4, hx215_5⟩ := at_T23 (Kd.R_reads' HO_4.out).2.2 x21_2 p215 q215
                        cases e215
                        replace p215 := eq_true p215
                        replace q215 := eq_true q215
                        refine start_ (n := 11) (S := fun w' => w'.cell? ⟨gb214, 0, none⟩ = some (.int .i64 ((rd_T23 t203 x21_2).f0)) ∧ w'.cell? ⟨gb214, 1, none⟩ = some (.int .i64 ((rd_T23 t203 x21_2).f1)) ∧ w'.cell? ⟨gb214, 2, none⟩ = some (.int .i64 ((rd_T23 t203 x21_2).f2)) ∧ w'.cell? ⟨gb214, 3, none⟩ = some (.int .i64 ((rd_T23 t203 x21_2).f3)) ∧ w'.cell? ⟨gb214, 4, none⟩ = some (.int .i64 ((rd_T23 t203 x21_2).f4)) ∧ w'.cell? ⟨gb214, 5, none⟩ = some (.bool ((rd_T23 t203 x21_2).f5)) ∧ w'.cell? (ad215.add ((x21_2).toNat * 6)) = some (.int .i64 ((rd_T23 t206 x21_2).f0)) ∧ w'.cell? ⟨(ad215.add ((x21_2).toNat * 6)).block, (ad215.add ((x21_2).toNat * 6)).off + 1, none⟩ = some (.int .i64 ((rd_T23 t206 x21_2).f1)) ∧ w'.cell? ⟨(ad215.add ((x21_2).toNat * 6)).block, (ad215.add ((x21_2).toNat * 6)).off + 2, none⟩ = some (.int .i64 ((rd_T23 t206 x21_2).f2)) ∧ w'.cell? ⟨(ad215.add ((x21_2).toNat * 6)).block, (ad215.add ((x21_2).toNat * 6)).off + 3, none⟩ = some (.int .i64 ((rd_T23 t206 x21_2).f3)) ∧ w'.cell? ⟨(ad215.add ((x21_2).toNat * 6)).block, (ad215.add ((x21_2).toNat * 6)).off + 4, none⟩ = some (.int .i64 ((rd_T23 t206 x21_2).f4)) ∧ w'.cell? ⟨(ad215.add ((x21_2).toNat * 6)).block, (ad215.add ((x21_2).toNat * 6)).off + 5, none⟩ = some (.bool ((rd_T23 t206 x21_2).f5))) (ds := []) #[false, false, false, false, false, false, false, false, false, false, false] (by kernel_rfl) rfl rfl ⟨(blk_cell BK214.out 0).trans rfl, (blk_cell BK214.out 1).trans rfl, (blk_cell BK214.out 2).trans rfl, (blk_cell BK214.out 3).trans rfl, (blk_cell BK214.out 4).trans rfl, (blk_cell BK214.out 5).trans rfl, hx215_0, hx215_1, hx215_2, hx215_3, hx215_4, hx215_5⟩ (fun hHeld => ?_); refine with_tabW headroomlaw13_PlanEvery.tab8 headroomlaw13_PlanEvery.bits8 (fun HT_ HW_ => ?_)
                        generalize w26.drew = w27 at HO_4 HO_19 BK202 BK214 HB hx215_0 hx215_1 hx215_2 hx215_3 hx215_4 hx215_5 hHeld ⊢
                        refine pure_ (i := 1) (N := some 27) (v := ?_) (a' := ?_) #[false, true, false, false, false, false, false, false, false, false, false] rfl rfl (any_of HT_.out (by kernel_rfl)) (fun _ _ _ h => h) (Or.inl ⟨by rfl, ?_⟩) ?_ ?_
                        rotate_left
                        · intro w'
                          go_simp
                          with_reducible rfl
                        rotate_left
                        · simp only [Act.put, List.setIfInBounds_toArray, List.set_cons_zero, List.set_cons_succ, i64_w, i32_w]
                          rfl
                        refine pure_ (i := 2) (N := some 28) (v := ?_) (a' := ?_) #[false, true, true, false, false, false, false, false, false, false, false] rfl rfl (any_of HT_.out (by kernel_rfl)) (fun _ _ _ h => h) (Or.inl ⟨by rfl, ?_⟩) ?_ ?_
                        rotate_left
                        · intro w'
                          go_simp
                          with_reducible rfl
                        rotate_left
                        · simp only [Act.put, List.setIfInBounds_toArray, List.set_cons_zero, List.set_cons_succ, i64_w, i32_w]
                          rfl
                        refine pure_ (i := 3) (N := some 29) (v := ?_) (a' := ?_) #[false, true, true, true, false, false, false, false, false, false, false] rfl rfl (any_of HT_.out (by kernel_rfl)) (fun _ _ _ h => h) (Or.inl ⟨by rfl, ?_⟩) ?_ ?_
                        rotate_left
                        · intro w'
                          go_simp
                          with_reducible rfl
                        rotate_left
                        · simp only [Act.put, List.setIfInBounds_toArray, List.set_cons_zero, List.set_cons_succ, i64_w, i32_w]
                          rfl
                        refine take_ (i := 0) (N := some 26) (v := ?_) (a' := ?_) #[true, true, true, true, false, false, false, false, false, false, false] rfl rfl (take_ofW HT_.out HW_.out (by kernel_rfl)) (fun _ _ _ h => h) (Or.inl ⟨by rfl, ?_⟩) hHeld ?_ ?_
                        rotate_left
                        · rintro w' ⟨s0, s1, s2, s3, s4, s5, s6, s7, s8, s9, s10, s11⟩
                          go_simp
                          with_reducible rfl
                        rotate_left
                        · simp only [Act.put, List.setIfInBounds_toArray, List.set_cons_zero, List.set_cons_succ, i64_w, i32_w]
                          rfl
                        refine take_ (i := 4) (N := some 30) (v := ?_) (a' := ?_) #[true, true, true, true, true, false, false, false, false, false, false] rfl rfl (take_ofW HT_.out HW_.out (by kernel_rfl)) (fun _ _ _ h => h) (Or.inl ⟨by rfl, ?_⟩) hHeld ?_ ?_
                        rotate_left
                        · rintro w' ⟨s0, s1, s2, s3, s4, s5, s6, s7, s8, s9, s10, s11⟩
                          go_simp
                          with_reducible rfl
                        rotate_left
                        · simp only [Act.put, List.setIfInBounds_toArray, List.set_cons_zero, List.set_cons_succ, i64_w, i32_w]
                          rfl
                        refine pure_ (i := 5) (N := some 31) (v := ?_) (a' := ?_) #[true, true, true, true, true, true, false, false, false, false, false] rfl rfl (any_of HT_.out (by kernel_rfl)) (fun _ _ _ h => h) (Or.inl ⟨by rfl, ?_⟩) ?_ ?_
                        rotate_left
                        · intro w'
                          go_simp
                          with_reducible rfl
                        rotate_left
                        · simp only [Act.put, List.setIfInBounds_toArray, List.set_cons_zero, List.set_cons_succ, i64_w, i32_w]
                          rfl
                        refine pure_ (i := 6) (N := some 32) (v := ?_) (a' := ?_) #[true, true, true, true, true, true, true, false, false, false, false] rfl rfl (any_of HT_.out (by kernel_rfl)) (fun _ _ _ h => h) (Or.inl ⟨by rfl, ?_⟩) ?_ ?_
                        rotate_left
                        · intro w'
                          go_simp
                          with_reducible rfl
                        rotate_left
                        · simp only [Act.put, List.setIfInBounds_toArray, List.set_cons_zero, List.set_cons_succ, i64_w, i32_w]
                          rfl
                        refine pure_ (i := 7) (N := some 33) (v := undef) (a' := ?_) #[true, true, true, true, true, true, true, true, false, false, false] rfl rfl (any_of HT_.out (by kernel_rfl)) (fun _ _ _ h => h) (Or.inr ⟨by rfl, rfl⟩) ?_ ?_
                        rotate_left
                        · simp only [Act.put, List.setIfInBounds_toArray, List.set_cons_zero, List.set_cons_succ, i64_w, i32_w]
                          rfl
                        refine pure_ (i := 8) (N := some 34) (v := undef) (a' := ?_) #[true, true, true, true, true, true, true, true, true, false, false] rfl rfl (any_of HT_.out (by kernel_rfl)) (fun _ _ _ h => h) (Or.inr ⟨by rfl, rfl⟩) ?_ ?_
                        rotate_left
                        · simp only [Act.put, List.setIfInBounds_toArray, List.set_cons_zero, List.set_cons_succ, i64_w, i32_w]
                          rfl
                        refine pure_ (i := 9) (N := some 35) (v := undef) (a' := ?_) #[true, true, true, true, true, true, true, true, true, true, false] rfl rfl (any_of HT_.out (by kernel_rfl)) (fun _ _ _ h => h) (Or.inr ⟨by rfl, rfl⟩) ?_ ?_
                        rotate_left
                        · simp only [Act.put, List.setIfInBounds_toArray, List.set_cons_zero, List.set_cons_succ, i64_w, i32_w]
                          rfl
                        refine pure_ (i := 10) (N := some 36) (v := ?_) (a' := ?_) #[true, true, true, true, true, true, true, true, true, true, true] rfl rfl (any_of HT_.out (by kernel_rfl)) (fun _ _ _ h => h) (Or.inl ⟨by rfl, ?_⟩) ?_ ?_
                        rotate_left
                        · intro w'
                          go_simp
                          with_reducible rfl
                        rotate_left
                        · simp only [Act.put, List.setIfInBounds_toArray, List.set_cons_zero, List.set_cons_succ, i64_w, i32_w]
                          rfl
                        refine done_ (done_of HT_.out (by kernel_rfl)) ?_
                        try go_wp2
                        go_meet
                        case rel => exact ⟨_, (true), (by first | rfl | (simp; done) | (simp [*]; done)), H', ⟨by have := HJ3.out; have := HK2.out; first | omega | exact Nat.le_refl _⟩, ⟨by (with_reducible repeat (first | apply Kd.R_alloc | apply Kd.R_drewN | apply Kd.R_drew)); exact HO_4.out⟩, ⟨by (with_reducible repeat (first | apply Kd.R_alloc | apply Kd.R_drewN | apply Kd.R_drew)); exact HO_19.out⟩, ⟨by (with_reducible repeat (first | refine blk_drewN ?_ _ | refine blk_drew ?_ | refine blk_alloc ?_ _)); exact BK202.out⟩, ⟨by (with_reducible repeat (first | refine blk_drewN ?_ _ | refine blk_drew ?_ | refine blk_alloc ?_ _)); exact BK214.out⟩, ⟨by repeat (first | (with_reducible first | exact HB.out | apply below_alloc | apply pw_below_drewN | apply below_drew1 | refine below_set ?_ GE202.out | refine below_set ?_ GE214.out) | exact HB.out)⟩⟩
                      · rw [if_neg c25] at H
                        have c25b0 : (!(((rd_T23 t203 x21_2).f0) == ((rd_T23 t206 x21_2).f0)) || (!(((rd_T23 t203 x21_2).f1) == ((rd_T23 t206 x21_2).f1)) || (!(((rd_T23 t203 x21_2).f2) == ((rd_T23 t206 x21_2).f2)) || (!(((rd_T23 t203 x21_2).f3) == ((rd_T23 t206 x21_2).f3)) || (!(((rd_T23 t203 x21_2).f4) == ((rd_T23 t206 x21_2).f4)) || (!(((rd_T23 t203 x21_2).f5) == ((rd_T23 t206 x21_2).f5)))))))) = false := by simpa using c25
                        clear c25
                        replace H := Option.bind_eq_some_iff.mp H
                        obtain ⟨t216, A290, H⟩ := H
                        replace H : (headroomlaw13_PlanEvery.j2 k2 t206 x5_2 t203 (t203.length : Int) x21_2 (t216 != 0) a0_0 a0_1 a0_2 a0_3 a0_4 a0_5 ((rd_T23 t203 x21_2).f0) ((rd_T23 t203 x21_2).f1) ((rd_T23 t203 x21_2).f2) ((rd_T23 t203 x21_2).f3) ((rd_T23 t203 x21_2).f4) ((rd_T23 t203 x21_2).f5)) = some r := H
                        have A29 := Aside0.mk A290
                        clear A290
                        have H' := Aside0.mk H
                        clear H
                        try go_wp2
                        have n0_ : Aside0 (Kd.R k23 23 ((((((w21.setCell ⟨gb214, 0, none⟩ (.int .i64 ((rd_T23 t203 x21_2).f0))).setCell ⟨gb214, 1, none⟩ (.int .i64 ((rd_T23 t203 x21_2).f1))).setCell ⟨gb214, 2, none⟩ (.int .i64 ((rd_T23 t203 x21_2).f2))).setCell ⟨gb214, 3, none⟩ (.int .i64 ((rd_T23 t203 x21_2).f3))).setCell ⟨gb214, 4, none⟩ (.int .i64 ((rd_T23 t203 x21_2).f4))).setCell ⟨gb214, 5, none⟩ (.bool ((rd_T23 t203 x21_2).f5))) w.heap.size (fun k_ => some k_ ≠ (.slice (some ad213) t203.length co16 : Value).ownBlock ∧ k_ ≠ gb202 ∧ k_ ≠ gb214) v207 t206) := ⟨by (with_reducible repeat (first | apply Kd.R_alloc | apply Kd.R_drewN | apply Kd.R_drew)); exact Kd.R_mono (Kd.R_far (p := ⟨gb214, 5, none⟩) (Kd.R_far (p := ⟨gb214, 4, none⟩) (Kd.R_far (p := ⟨gb214, 3, none⟩) (Kd.R_far (p := ⟨gb214, 2, none⟩) (Kd.R_far (p := ⟨gb214, 1, none⟩) (Kd.R_far (p := ⟨gb214, 0, none⟩) (Kd.R_mono HO_4.out (fun k_ hk => (⟨hk, hk.2⟩ : _ ∧ k_ ≠ gb214))) (fun _ hk => hk.2) (.int .i64 ((rd_T23 t203 x21_2).f0))) (fun _ hk => hk.2) (.int .i64 ((rd_T23 t203 x21_2).f1))) (fun _ hk => hk.2) (.int .i64 ((rd_T23 t203 x21_2).f2))) (fun _ hk => hk.2) (.int .i64 ((rd_T23 t203 x21_2).f3))) (fun _ hk => hk.2) (.int .i64 ((rd_T23 t203 x21_2).f4))) (fun _ hk => hk.2) (.bool ((rd_T23 t203 x21_2).f5))) (fun _ hk => ⟨hk.1.1.1, ⟨hk.1.1.2, hk.1.2⟩⟩)⟩
                        have n1_ : Aside0 (Kd.R k23 23 ((((((w21.setCell ⟨gb214, 0, none⟩ (.int .i64 ((rd_T23 t203 x21_2).f0))).setCell ⟨gb214, 1, none⟩ (.int .i64 ((rd_T23 t203 x21_2).f1))).setCell ⟨gb214, 2, none⟩ (.int .i64 ((rd_T23 t203 x21_2).f2))).setCell ⟨gb214, 3, none⟩ (.int .i64 ((rd_T23 t203 x21_2).f3))).setCell ⟨gb214, 4, none⟩ (.int .i64 ((rd_T23 t203 x21_2).f4))).setCell ⟨gb214, 5, none⟩ (.bool ((rd_T23 t203 x21_2).f5))) w.heap.size (fun k_ => some k_ ≠ (v207 : Value).ownBlock ∧ k_ ≠ gb202 ∧ k_ ≠ gb214) (.slice (some ad213) t203.length co16) t203) := ⟨by (with_reducible repeat (first | apply Kd.R_alloc | apply Kd.R_drewN | apply Kd.R_drew)); exact Kd.R_mono (Kd.R_far (p := ⟨gb214, 5, none⟩) (Kd.R_far (p := ⟨gb214, 4, none⟩) (Kd.R_far (p := ⟨gb214, 3, none⟩) (Kd.R_far (p := ⟨gb214, 2, none⟩) (Kd.R_far (p := ⟨gb214, 1, none⟩) (Kd.R_far (p := ⟨gb214, 0, none⟩) (Kd.R_mono HO_19.out (fun k_ hk => (⟨hk, hk.2⟩ : _ ∧ k_ ≠ gb214))) (fun _ hk => hk.2) (.int .i64 ((rd_T23 t203 x21_2).f0))) (fun _ hk => hk.2) (.int .i64 ((rd_T23 t203 x21_2).f1))) (fun _ hk => hk.2) (.int .i64 ((rd_T23 t203 x21_2).f2))) (fun _ hk => hk.2) (.int .i64 ((rd_T23 t203 x21_2).f3))) (fun _ hk => hk.2) (.int .i64 ((rd_T23 t203 x21_2).f4))) (fun _ hk => hk.2) (.bool ((rd_T23 t203 x21_2).f5))) (fun _ hk => ⟨hk.1.1.1, ⟨hk.1.1.2, hk.1.2⟩⟩)⟩
                        have n2_ : Aside0 (((((((w21.setCell ⟨gb214, 0, none⟩ (.int .i64 ((rd_T23 t203 x21_2).f0))).setCell ⟨gb214, 1, none⟩ (.int .i64 ((rd_T23 t203 x21_2).f1))).setCell ⟨gb214, 2, none⟩ (.int .i64 ((rd_T23 t203 x21_2).f2))).setCell ⟨gb214, 3, none⟩ (.int .i64 ((rd_T23 t203 x21_2).f3))).setCell ⟨gb214, 4, none⟩ (.int .i64 ((rd_T23 t203 x21_2).f4))).setCell ⟨gb214, 5, none⟩ (.bool ((rd_T23 t203 x21_2).f5))).heap[gb202]? = some (.cells #[.int .i64 a0_0, .int .i64 a0_1, .int .i64 a0_2, .int .i64 a0_3, .int .i64 a0_4, .bool a0_5] 23 (0, 0))) := ⟨by (with_reducible repeat (first | refine blk_drewN ?_ _ | refine blk_drew ?_ | refine blk_alloc ?_ _)); refine blk_far ?_ NB202_214.out _; (with_reducible repeat (first | refine blk_drewN ?_ _ | refine blk_drew ?_ | refine blk_alloc ?_ _)); refine blk_far ?_ NB202_214.out _; (with_reducible repeat (first | refine blk_drewN ?_ _ | refine blk_drew ?_ | refine blk_alloc ?_ _)); refine blk_far ?_ NB202_214.out _; (with_reducible repeat (first | refine blk_drewN ?_ _ | refine blk_drew ?_ | refine blk_alloc ?_ _)); refine blk_far ?_ NB202_214.out _; (with_reducible repeat (first | refine blk_drewN ?_ _ | refine blk_drew ?_ | refine blk_alloc ?_ _)); refine blk_far ?_ NB202_214.out _; (with_reducible repeat (first | refine blk_drewN ?_ _ | refine blk_drew ?_ | refine blk_alloc ?_ _)); refine blk_far ?_ NB202_214.out _; (with_reducible repeat (first | refine blk_drewN ?_ _ | refine blk_drew ?_ | refine blk_alloc ?_ _)); exact BK202.out⟩
                        have n3_ : Aside0 (((((((w21.setCell ⟨gb214, 0, none⟩ (.int .i64 ((rd_T23 t203 x21_2).f0))).setCell ⟨gb214, 1, none⟩ (.int .i64 ((rd_T23 t203 x21_2).f1))).setCell ⟨gb214, 2, none⟩ (.int .i64 ((rd_T23 t203 x21_2).f2))).setCell ⟨gb214, 3, none⟩ (.int .i64 ((rd_T23 t203 x21_2).f3))).setCell ⟨gb214, 4, none⟩ (.int .i64 ((rd_T23 t203 x21_2).f4))).setCell ⟨gb214, 5, none⟩ (.bool ((rd_T23 t203 x21_2).f5))).heap[gb214]? = some (.cells #[.int .i64 ((rd_T23 t203 x21_2).f0), .int .i64 ((rd_T23 t203 x21_2).f1), .int .i64 ((rd_T23 t203 x21_2).f2), .int .i64 ((rd_T23 t203 x21_2).f3), .int .i64 ((rd_T23 t203 x21_2).f4), .bool ((rd_T23 t203 x21_2).f5)] 23 (0, 0))) := ⟨by (with_reducible repeat (first | refine blk_drewN ?_ _ | refine blk_drew ?_ | refine blk_alloc ?_ _)); refine blk_put (cs := #[.int .i64 ((rd_T23 t203 x21_2).f0), .int .i64 ((rd_T23 t203 x21_2).f1), .int .i64 ((rd_T23 t203 x21_2).f2), .int .i64 ((rd_T23 t203 x21_2).f3), .int .i64 ((rd_T23 t203 x21_2).f4), .bool false]) ?_ 5 _ rfl; (with_reducible repeat (first | refine blk_drewN ?_ _ | refine blk_drew ?_ | refine blk_alloc ?_ _)); refine blk_put (cs := #[.int .i64 ((rd_T23 t203 x21_2).f0), .int .i64 ((rd_T23 t203 x21_2).f1), .int .i64 ((rd_T23 t203 x21_2).f2), .int .i64 ((rd_T23 t203 x21_2).f3), .int .i64 0, .bool false]) ?_ 4 _ rfl; (with_reducible repeat (first | refine blk_drewN ?_ _ | refine blk_drew ?_ | refine blk_alloc ?_ _)); refine blk_put (cs := #[.int .i64 ((rd_T23 t203 x21_2).f0), .int .i64 ((rd_T23 t203 x21_2).f1), .int .i64 ((rd_T23 t203 x21_2).f2), .int .i64 0, .int .i64 0, .bool false]) ?_ 3 _ rfl; (with_reducible repeat (first | refine blk_drewN ?_ _ | refine blk_drew ?_ | refine blk_alloc ?_ _)); refine blk_put (cs := #[.int .i64 ((rd_T23 t203 x21_2).f0), .int .i64 ((rd_T23 t203 x21_2).f1), .int .i64 0, .int .i64 0, .int .i64 0, .bool false]) ?_ 2 _ rfl; (with_reducible repeat (first | refine blk_drewN ?_ _ | refine blk_drew ?_ | refine blk_alloc ?_ _)); refine blk_put (cs := #[.int .i64 ((rd_T23 t203 x21_2).f0), .int .i64 0, .int .i64 0, .int .i64 0, .int .i64 0, .bool false]) ?_ 1 _ rfl; (with_reducible repeat (first | refine blk_drewN ?_ _ | refine blk_drew ?_ | refine blk_alloc ?_ _)); refine blk_put (cs := #[.int .i64 0, .int .i64 0, .int .i64 0, .int .i64 0, .int .i64 0, .bool false]) ?_ 0 _ rfl; (with_reducible repeat (first | refine blk_drewN ?_ _ | refine blk_drew ?_ | refine blk_alloc ?_ _)); exact BK214.out⟩
                        have n4_ : Aside0 (Below w.heap.size w ((((((w21.setCell ⟨gb214, 0, none⟩ (.int .i64 ((rd_T23 t203 x21_2).f0))).setCell ⟨gb214, 1, none⟩ (.int .i64 ((rd_T23 t203 x21_2).f1))).setCell ⟨gb214, 2, none⟩ (.int .i64 ((rd_T23 t203 x21_2).f2))).setCell ⟨gb214, 3, none⟩ (.int .i64 ((rd_T23 t203 x21_2).f3))).setCell ⟨gb214, 4, none⟩ (.int .i64 ((rd_T23 t203 x21_2).f4))).setCell ⟨gb214, 5, none⟩ (.bool ((rd_T23 t203 x21_2).f5)))) := ⟨by repeat (first | (with_reducible first | exact HB.out | apply below_alloc | apply pw_below_drewN | apply below_drew1 | refine below_set ?_ GE202.out | refine below_set ?_ GE214.out) | exact HB.out)⟩
                        (try clear HO_4)
                        (try clear HO_19)
                        (try clear BK202)
                        (try clear BK214)
                        (try clear HB)
                        generalize ((((((w21.setCell ⟨gb214, 0, none⟩ (.int .i64 ((rd_T23 t203 x21_2).f0))).setCell ⟨gb214, 1, none⟩ (.int .i64 ((rd_T23 t203 x21_2).f1))).setCell ⟨gb214, 2, none⟩ (.int .i64 ((rd_T23 t203 x21_2).f2))).setCell ⟨gb214, 3, none⟩ (.int .i64 ((rd_T23 t203 x21_2).f3))).setCell ⟨gb214, 4, none⟩ (.int .i64 ((rd_T23 t203 x21_2).f4))).setCell ⟨gb214, 5, none⟩ (.bool ((rd_T23 t203 x21_2).f5))) = w30 at n0_ n1_ n2_ n3_ n4_ ⊢
                        have HO_4 := n0_
                        have HO_19 := n1_
                        have BK202 := n2_
                        have BK214 := n3_
                        have HB := n4_
                        clear n0_ n1_ n2_ n3_ n4_
                        have n0_ := Aside0.mk (Kd.R_drew HO_4.out)
                        have n1_ := Aside0.mk (Kd.R_drew HO_19.out)
                        have n2_ := Aside0.mk (blk_drew BK202.out)
                        have n3_ := Aside0.mk (blk_drew BK214.out)
                        have n4_ := Aside0.mk (below_drew1 HB.out)
                        clear HO_4
                        clear HO_19
                        clear BK202
                        clear BK214
                        clear HB
                        have HO_4 := n0_
                        have HO_19 := n1_
                        have BK202 := n2_
                        have BK214 := n3_
                        have HB := n4_
                        clear n0_ n1_ n2_ n3_ n4_
                        obtain ⟨Ao32, co32, eo32⟩ := Kd.R_slice HO_4.out
                        (first | subst eo32 | (injection eo32 with f1_ f2_ f3_; have f4_ := f1_.symm; have f5_ := f3_.symm; clear f1_ f2_ f3_; subst f4_; subst f5_))
                        have p215 : 0 ≤ (x21_2 : Int) := of_decide_eq_true (by first | (with_reducible assumption) | assumption)
                        have q215 : x21_2 < (t206.length : Int) := of_decide_eq_true (by first | (with_reducible assumption) | assumption)
                        obtain ⟨ad215, e215, hx215_0, hx215_1, hx215_2, hx215_3, hx215_4, hx215_5⟩ := at_T23 (Kd.R_reads' HO_4.out).2.2 x21_2 p215 q215
                        cases e215
                        replace p215 := eq_true p215
                        replace q215 := eq_true q215
                        refine start_ (n := 11) (S := fun w' => w'.cell? ⟨gb214, 0, none⟩ = some (.int .i64 ((rd_T23 t203 x21_2).f0)) ∧ w'.cell? ⟨gb214, 1, none⟩ = some (.int .i64 ((rd_T23 t203 x21_2).f1)) ∧ w'.cell? ⟨gb214, 2, none⟩ = some (.int .i64 ((rd_T23 t203 x21_2).f2)) ∧ w'.cell? ⟨gb214, 3, none⟩ = some (.int .i64 ((rd_T23 t203 x21_2).f3)) ∧ w'.cell? ⟨gb214, 4, none⟩ = some (.int .i64 ((rd_T23 t203 x21_2).f4)) ∧ w'.cell? ⟨gb214, 5, none⟩ = some (.bool ((rd_T23 t203 x21_2).f5)) ∧ w'.cell? (ad215.add ((x21_2).toNat * 6)) = some (.int .i64 ((rd_T23 t206 x21_2).f0)) ∧ w'.cell? ⟨(ad215.add ((x21_2).toNat * 6)).block, (ad215.add ((x21_2).toNat * 6)).off + 1, none⟩ = some (.int .i64 ((rd_T23 t206 x21_2).f1)) ∧ w'.cell? ⟨(ad215.add ((x21_2).toNat * 6)).block, (ad215.add ((x21_2).toNat * 6)).off + 2, none⟩ = some (.int .i64 ((rd_T23 t206 x21_2).f2)) ∧ w'.cell? ⟨(ad215.add ((x21_2).toNat * 6)).block, (ad215.add ((x21_2).toNat * 6)).off + 3, none⟩ = some (.int .i64 ((rd_T23 t206 x21_2).f3)) ∧ w'.cell? ⟨(ad215.add ((x21_2).toNat * 6)).block, (ad215.add ((x21_2).toNat * 6)).off + 4, none⟩ = some (.int .i64 ((rd_T23 t206 x21_2).f4)) ∧ w'.cell? ⟨(ad215.add ((x21_2).toNat * 6)).block, (ad215.add ((x21_2).toNat * 6)).off + 5, none⟩ = some (.bool ((rd_T23 t206 x21_2).f5))) (ds := []) #[false, false, false, false, false, false, false, false, false, false, false] (by kernel_rfl) rfl rfl ⟨(blk_cell BK214.out 0).trans rfl, (blk_cell BK214.out 1).trans rfl, (blk_cell BK214.out 2).trans rfl, (blk_cell BK214.out 3).trans rfl, (blk_cell BK214.out 4).trans rfl, (blk_cell BK214.out 5).trans rfl, hx215_0, hx215_1, hx215_2, hx215_3, hx215_4, hx215_5⟩ (fun hHeld => ?_); refine with_tabW headroomlaw13_PlanEvery.tab8 headroomlaw13_PlanEvery.bits8 (fun HT_ HW_ => ?_)
                        generalize w30.drew = w31 at HO_4 HO_19 BK202 BK214 HB hx215_0 hx215_1 hx215_2 hx215_3 hx215_4 hx215_5 hHeld ⊢
                        refine pure_ (i := 1) (N := some 27) (v := ?_) (a' := ?_) #[false, true, false, false, false, false, false, false, false, false, false] rfl rfl (any_of HT_.out (by kernel_rfl)) (fun _ _ _ h => h) (Or.inl ⟨by rfl, ?_⟩) ?_ ?_
                        rotate_left
                        · intro w'
                          go_simp
                          with_reducible rfl
                        rotate_left
                        · simp only [Act.put, List.setIfInBounds_toArray, List.set_cons_zero, List.set_cons_succ, i64_w, i32_w]
                          rfl
                        refine pure_ (i := 2) (N := some 28) (v := ?_) (a' := ?_) #[false, true, true, false, false, false, false, false, false, false, false] rfl rfl (any_of HT_.out (by kernel_rfl)) (fun _ _ _ h => h) (Or.inl ⟨by rfl, ?_⟩) ?_ ?_
                        rotate_left
                        · intro w'
                          go_simp
                          with_reducible rfl
                        rotate_left
                        · simp only [Act.put, List.setIfInBounds_toArray, List.set_cons_zero, List.set_cons_succ, i64_w, i32_w]
                          rfl
                        refine pure_ (i := 3) (N := some 29) (v := ?_) (a' := ?_) #[false, true, true, true, false, false, false, false, false, false, false] rfl rfl (any_of HT_.out (by kernel_rfl)) (fun _ _ _ h => h) (Or.inl ⟨by rfl, ?_⟩) ?_ ?_
                        rotate_left
                        · intro w'
                          go_simp
                          with_reducible rfl
                        rotate_left
                        · simp only [Act.put, List.setIfInBounds_toArray, List.set_cons_zero, List.set_cons_succ, i64_w, i32_w]
                          rfl
                        refine take_ (i := 0) (N := some 26) (v := ?_) (a' := ?_) #[true, true, true, true, false, false, false, false, false, false, false] rfl rfl (take_ofW HT_.out HW_.out (by kernel_rfl)) (fun _ _ _ h => h) (Or.inl ⟨by rfl, ?_⟩) hHeld ?_ ?_
                        rotate_left
                        · rintro w' ⟨s0, s1, s2, s3, s4, s5, s6, s7, s8, s9, s10, s11⟩
                          go_simp
                          with_reducible rfl
                        rotate_left
                        · simp only [Act.put, List.setIfInBounds_toArray, List.set_cons_zero, List.set_cons_succ, i64_w, i32_w]
                          rfl
                        refine take_ (i := 4) (N := some 30) (v := ?_) (a' := ?_) #[true, true, true, true, true, false, false, false, false, false, false] rfl rfl (take_ofW HT_.out HW_.out (by kernel_rfl)) (fun _ _ _ h => h) (Or.inl ⟨by rfl, ?_⟩) hHeld ?_ ?_
                        rotate_left
                        · rintro w' ⟨s0, s1, s2, s3, s4, s5, s6, s7, s8, s9, s10, s11⟩
                          go_simp
                          with_reducible rfl
                        rotate_left
                        · simp only [Act.put, List.setIfInBounds_toArray, List.set_cons_zero, List.set_cons_succ, i64_w, i32_w]
                          rfl
                        refine pure_ (i := 5) (N := some 31) (v := ?_) (a' := ?_) #[true, true, true, true, true, true, false, false, false, false, false] rfl rfl (any_of HT_.out (by kernel_rfl)) (fun _ _ _ h => h) (Or.inl ⟨by rfl, ?_⟩) ?_ ?_
                        rotate_left
                        · intro w'
                          go_simp
                          with_reducible rfl
                        rotate_left
                        · simp only [Act.put, List.setIfInBounds_toArray, List.set_cons_zero, List.set_cons_succ, i64_w, i32_w]
                          rfl
                        refine pure_ (i := 6) (N := some 32) (v := ?_) (a' := ?_) #[true, true, true, true, true, true, true, false, false, false, false] rfl rfl (any_of HT_.out (by kernel_rfl)) (fun _ _ _ h => h) (Or.inl ⟨by rfl, ?_⟩) ?_ ?_
                        rotate_left
                        · intro w'
                          go_simp
                          with_reducible rfl
                        rotate_left
                        · simp only [Act.put, List.setIfInBounds_toArray, List.set_cons_zero, List.set_cons_succ, i64_w, i32_w]
                          rfl
                        refine take_ (i := 7) (N := some 33) (v := ?_) (a' := ?_) #[true, true, true, true, true, true, true, true, false, false, false] rfl rfl (take_ofW HT_.out HW_.out (by kernel_rfl)) (fun _ _ _ h => h) (Or.inl ⟨by rfl, ?_⟩) hHeld ?_ ?_
                        rotate_left
                        · rintro w' ⟨s0, s1, s2, s3, s4, s5, s6, s7, s8, s9, s10, s11⟩
                          go_simp
                          with_reducible rfl
                        rotate_left
                        · simp only [Act.put, List.setIfInBounds_toArray, List.set_cons_zero, List.set_cons_succ, i64_w, i32_w]
                          rfl
                        refine one_ (i := 8) (N := some 34) #[true, true, true, true, true, true, true, true, true, false, false] rfl rfl (one_of HT_.out (by kernel_rfl)) (by decide) (fun K hK => ?_)
                        refine goes_ Try.func16 (by kernel_rfl) rfl #[.agg #[.int .i64 ((rd_T23 t203 x21_2).f0), .int .i64 ((rd_T23 t203 x21_2).f1), .int .i64 ((rd_T23 t203 x21_2).f2), .int .i64 ((rd_T23 t203 x21_2).f3), .int .i64 ((rd_T23 t203 x21_2).f4), .bool ((rd_T23 t203 x21_2).f5)]] (by rfl) rfl rfl (by (try simp only [List.map_toArray, List.map_cons, List.map_nil]); first | done | rfl | (simp only [List.length_drop, List.length_take]; rfl)) ?_
                        with_reducible refine (plan_Check.calls ((rd_T23 t203 x21_2).f0) ((rd_T23 t203 x21_2).f1) ((rd_T23 t203 x21_2).f2) ((rd_T23 t203 x21_2).f3) ((rd_T23 t203 x21_2).f4) ((rd_T23 t203 x21_2).f5) t216 _ A29.out).mono ?_
                        rintro e w33 ⟨rfl, hb⟩
                        have HS6_ := (hb.cell (World.block_lt_of_cell? _ _ (hHeld.2.2.2.2.2.2.1))).trans (hHeld.2.2.2.2.2.2.1)
                        have HS7_ := (hb.cell (World.block_lt_of_cell? _ _ (hHeld.2.2.2.2.2.2.2.1))).trans (hHeld.2.2.2.2.2.2.2.1)
                        have HS8_ := (hb.cell (World.block_lt_of_cell? _ _ (hHeld.2.2.2.2.2.2.2.2.1))).trans (hHeld.2.2.2.2.2.2.2.2.1)
                        have HS9_ := (hb.cell (World.block_lt_of_cell? _ _ (hHeld.2.2.2.2.2.2.2.2.2.1))).trans (hHeld.2.2.2.2.2.2.2.2.2.1)
                        have HS10_ := (hb.cell (World.block_lt_of_cell? _ _ (hHeld.2.2.2.2.2.2.2.2.2.2.1))).trans (hHeld.2.2.2.2.2.2.2.2.2.2.1)
                        have HS11_ := (hb.cell (World.block_lt_of_cell? _ _ (hHeld.2.2.2.2.2.2.2.2.2.2.2))).trans (hHeld.2.2.2.2.2.2.2.2.2.2.2)
                        refine ⟨_, rfl, ?_⟩
                        have n0_ := Aside0.mk (Kd.R_below (by (with_reducible repeat (first | apply Kd.R_alloc | apply Kd.R_drewN | apply Kd.R_drew)); exact HO_4.out) hb)
                        have n1_ := Aside0.mk (Kd.R_below (by (with_reducible repeat (first | apply Kd.R_alloc | apply Kd.R_drewN | apply Kd.R_drew)); exact HO_19.out) hb)
                        have n2_ := Aside0.mk (blk_below (g := gb202) (o := .cells #[.int .i64 a0_0, .int .i64 a0_1, .int .i64 a0_2, .int .i64 a0_3, .int .i64 a0_4, .bool a0_5] 23 (0, 0)) (by (with_reducible repeat (first | refine blk_drewN ?_ _ | refine blk_drew ?_ | refine blk_alloc ?_ _)); exact BK202.out) hb)
                        have n3_ := Aside0.mk (blk_below (g := gb214) (o := .cells #[.int .i64 ((rd_T23 t203 x21_2).f0), .int .i64 ((rd_T23 t203 x21_2).f1), .int .i64 ((rd_T23 t203 x21_2).f2), .int .i64 ((rd_T23 t203 x21_2).f3), .int .i64 ((rd_T23 t203 x21_2).f4), .bool ((rd_T23 t203 x21_2).f5)] 23 (0, 0)) (by (with_reducible repeat (first | refine blk_drewN ?_ _ | refine blk_drew ?_ | refine blk_alloc ?_ _)); exact BK214.out) hb)
                        have n4_ := Aside0.mk (below_step (by repeat (first | (with_reducible first | exact HB.out | apply below_alloc | apply pw_below_drewN | apply below_drew1 | refine below_set ?_ GE202.out | refine below_set ?_ GE214.out) | exact HB.out)) hb)
                        clear HO_4
                        clear HO_19
                        clear BK202
                        clear BK214
                        clear HB
                        have HO_4 := n0_
                        have HO_19 := n1_
                        have BK202 := n2_
                        have BK214 := n3_
                        have HB := n4_
                        clear n0_ n1_ n2_ n3_ n4_
                        (try clear hb)
                        (try clear hb2)
                        (try clear hk)
                        (try clear hi)
                        refine hK.out _ _ ⟨(blk_cell BK214.out 0).trans rfl, (blk_cell BK214.out 1).trans rfl, (blk_cell BK214.out 2).trans rfl, (blk_cell BK214.out 3).trans rfl, (blk_cell BK214.out 4).trans rfl, (blk_cell BK214.out 5).trans rfl, HS6_, HS7_, HS8_, HS9_, HS10_, HS11_⟩ (fun hHeld => ?_)
                        clear hK K
                        refine norm_ (a' := ?_) ?_ ?_
                        rotate_left
                        · show Act.put _ (some 34) _ = _
                          simp only [Act.put, List.setIfInBounds_toArray, List.set_cons_zero, List.set_cons_succ, i64_w, i32_w]
                          rfl
                        refine pure_ (i := 9) (N := some 35) (v := ?_) (a' := ?_) #[true, true, true, true, true, true, true, true, true, true, false] rfl rfl (any_of HT_.out (by kernel_rfl)) (fun _ _ _ h => h) (Or.inl ⟨by rfl, ?_⟩) ?_ ?_
                        rotate_left
                        · intro w'
                          go_simp
                          with_reducible rfl
                        rotate_left
                        · simp only [Act.put, List.setIfInBounds_toArray, List.set_cons_zero, List.set_cons_succ, i64_w, i32_w]
                          rfl
                        refine pure_ (i := 10) (N := some 36) (v := ?_) (a' := ?_) #[true, true, true, true, true, true, true, true, true, true, true] rfl rfl (any_of HT_.out (by kernel_rfl)) (fun _ _ _ h => h) (Or.inl ⟨by rfl, ?_⟩) ?_ ?_
                        rotate_left
                        · intro w'
                          go_simp
                          with_reducible rfl
                        rotate_left
                        · simp only [Act.put, List.setIfInBounds_toArray, List.set_cons_zero, List.set_cons_succ, i64_w, i32_w]
                          rfl
                        refine done_ (done_of HT_.out (by kernel_rfl)) ?_
                        try go_wp2
                        go_meet
                        case rel => exact ⟨_, ((t216 != 0)), (by first | rfl | (simp; done) | (simp [*]; done)), H', ⟨by have := HJ3.out; have := HK2.out; first | omega | exact Nat.le_refl _⟩, ⟨by (with_reducible repeat (first | apply Kd.R_alloc | apply Kd.R_drewN | apply Kd.R_drew)); exact HO_4.out⟩, ⟨by (with_reducible repeat (first | apply Kd.R_alloc | apply Kd.R_drewN | apply Kd.R_drew)); exact HO_19.out⟩, ⟨by (with_reducible repeat (first | refine blk_drewN ?_ _ | refine blk_drew ?_ | refine blk_alloc ?_ _)); exact BK202.out⟩, ⟨by (with_reducible repeat (first | refine blk_drewN ?_ _ | refine blk_drew ?_ | refine blk_alloc ?_ _)); exact BK214.out⟩, ⟨by repeat (first | (with_reducible first | exact HB.out | apply below_alloc | apply pw_below_drewN | apply below_drew1 | refine below_set ?_ GE202.out | refine below_set ?_ GE214.out) | exact HB.out)⟩⟩
                    · rw [if_neg c24] at H
                      exact absurd H (by simp)
                  case rest =>
                    clear HC20
                    try clear c1
                    try clear c2
                    try clear p2
                    try clear q2
                    try clear hx2
                    try clear c5
                    try clear c8
                    try clear c8b0
                    try clear c8b1
                    try clear c8b2
                    try clear c15
                    try clear c16
                    try clear c17
                    try clear c17b0
                    try clear c18
                    try clear c18b0
                    try clear c19
                    try clear c19b0
                    try clear c20
                    try clear c21
                    try clear p21
                    try clear q21
                    try clear hx21
                    try clear c22
                    try clear c24
                    try clear c24b0
                    try clear c25
                    try clear c25b0
                    try clear hcz23_0
                    try clear hcz23_1
                    try clear hcz23_2
                    try clear hcz23_3
                    try clear hcz23_4
                    try clear hcz23_5
                    try clear hfz23_0
                    try clear hfz23_1
                    try clear hfz23_2
                    try clear hfz23_3
                    try clear hfz23_4
                    try clear hfz23_5
                    try clear hx213_0
                    try clear hx213_1
                    try clear hx213_2
                    try clear hx213_3
                    try clear hx213_4
                    try clear hx213_5
                    try clear hx215_0
                    try clear hx215_1
                    try clear hx215_2
                    try clear hx215_3
                    try clear hx215_4
                    try clear hx215_5
                    try clear p2
                    try clear p213
                    try clear p215
                    try clear q213
                    try clear q215
                    obtain ⟨kq, x36_19, rfl, HA, HJ19, HO_4, HO_19, BK202, BK214, HB⟩ := hcut
                    cases kq with
                    | zero => exact absurd HA.out (by simp [headroomlaw13_PlanEvery.j2])
                    | succ kj19 =>
                      have H := HA.out
                      clear HA
                      simp only [headroomlaw13_PlanEvery.j2] at H
                      by_cases c34 : x36_19 = true
                      · subst c34
                        have H1 : (some false) = some r := by rw [if_pos rfl] at H; exact H
                        clear H
                        have H := H1
                        clear H1
                        obtain rfl := Option.some.inj H
                        go_wp2
                        go_ret
                        exact ⟨by first | rfl | (simp [errW_none, errW_some] <;> rfl) | (simp [*, errW_none, errW_some] <;> rfl), by repeat (first | (with_reducible first | exact HB.out | apply below_alloc | apply pw_below_drewN | apply below_drew1 | refine below_set ?_ GE202.out | refine below_set ?_ GE214.out) | exact HB.out)⟩
                      · replace c34 := Bool.eq_false_iff.mpr c34
                        subst c34
                        have H1 : (if (((rd_T23 t203 x21_2).f0) == a0_0 && (((rd_T23 t203 x21_2).f1) == a0_1 && (((rd_T23 t203 x21_2).f2) == a0_2 && (((rd_T23 t203 x21_2).f3) == a0_3 && (((rd_T23 t203 x21_2).f4) == a0_4 && (((rd_T23 t203 x21_2).f5) == a0_5)))))) = true then (headroomlaw13_PlanEvery.l0 kj19 t206 (wrap64 (x5_2 + 1)) t203 (t203.length : Int) (wrap64 (x21_2 + 1)) a0_0 a0_1 a0_2 a0_3 a0_4 a0_5) else (headroomlaw13_PlanEvery.l0 kj19 t206 x5_2 t203 (t203.length : Int) (wrap64 (x21_2 + 1)) a0_0 a0_1 a0_2 a0_3 a0_4 a0_5)) = some r := by rw [if_neg (show ¬ (false = true) by decide)] at H; exact H
                        clear H
                        have H := H1
                        clear H1
                        by_cases c35 : (((rd_T23 t203 x21_2).f0) == a0_0 && (((rd_T23 t203 x21_2).f1) == a0_1 && (((rd_T23 t203 x21_2).f2) == a0_2 && (((rd_T23 t203 x21_2).f3) == a0_3 && (((rd_T23 t203 x21_2).f4) == a0_4 && (((rd_T23 t203 x21_2).f5) == a0_5)))))) = true
                        · rw [if_pos c35] at H
                          have c35b0 : (((rd_T23 t203 x21_2).f0) == a0_0 && (((rd_T23 t203 x21_2).f1) == a0_1 && (((rd_T23 t203 x21_2).f2) == a0_2 && (((rd_T23 t203 x21_2).f3) == a0_3 && (((rd_T23 t203 x21_2).f4) == a0_4 && (((rd_T23 t203 x21_2).f5) == a0_5)))))) = true := c35
                          (try (have c35b1 : decide (((rd_T23 t203 x21_2).f0) = a0_0 && (((rd_T23 t203 x21_2).f1) == a0_1 && (((rd_T23 t203 x21_2).f2) == a0_2 && (((rd_T23 t203 x21_2).f3) == a0_3 && (((rd_T23 t203 x21_2).f4) == a0_4 && (((rd_T23 t203 x21_2).f5) == a0_5)))))) = true := by simpa using c35))
                          (try (have c35b2 : (((rd_T23 t203 x21_2).f0) == a0_0 && (((rd_T23 t203 x21_2).f1) == a0_1 && (((rd_T23 t203 x21_2).f2) == a0_2 && (((rd_T23 t203 x21_2).f3) == a0_3 && (((rd_T23 t203 x21_2).f4) == a0_4 && (((rd_T23 t203 x21_2).f5) == a0_5)))))) = true := by simpa using c35))
                          clear c35
                          have H' := Aside0.mk H
                          clear H
                          have hnb36 := NB214_202.out
                          have hnc36 := NB202_214.out
                          have hcz37_0 : wc.cell? ⟨gb214, 0, none⟩ = some (.int .i64 ((rd_T23 t203 x21_2).f0)) := (blk_cell BK214.out 0).trans rfl
                          have hcz37_1 : wc.cell? ⟨gb214, 1, none⟩ = some (.int .i64 ((rd_T23 t203 x21_2).f1)) := (blk_cell BK214.out 1).trans rfl
                          have hcz37_2 : wc.cell? ⟨gb214, 2, none⟩ = some (.int .i64 ((rd_T23 t203 x21_2).f2)) := (blk_cell BK214.out 2).trans rfl
                          have hcz37_3 : wc.cell? ⟨gb214, 3, none⟩ = some (.int .i64 ((rd_T23 t203 x21_2).f3)) := (blk_cell BK214.out 3).trans rfl
                          have hcz37_4 : wc.cell? ⟨gb214, 4, none⟩ = some (.int .i64 ((rd_T23 t203 x21_2).f4)) := (blk_cell BK214.out 4).trans rfl
                          have hcz37_5 : wc.cell? ⟨gb214, 5, none⟩ = some (.bool ((rd_T23 t203 x21_2).f5)) := (blk_cell BK214.out 5).trans rfl
                          have hfz37_0 := blk_frozen BK214.out 0
                          have hfz37_1 := blk_frozen BK214.out 1
                          have hfz37_2 := blk_frozen BK214.out 2
                          have hfz37_3 := blk_frozen BK214.out 3
                          have hfz37_4 := blk_frozen BK214.out 4
                          have hfz37_5 := blk_frozen BK214.out 5
                          have hcz38_0 : wc.cell? ⟨gb202, 0, none⟩ = some (.int .i64 a0_0) := (blk_cell BK202.out 0).trans rfl
                          have hcz38_1 : wc.cell? ⟨gb202, 1, none⟩ = some (.int .i64 a0_1) := (blk_cell BK202.out 1).trans rfl
                          have hcz38_2 : wc.cell? ⟨gb202, 2, none⟩ = some (.int .i64 a0_2) := (blk_cell BK202.out 2).trans rfl
                          have hcz38_3 : wc.cell? ⟨gb202, 3, none⟩ = some (.int .i64 a0_3) := (blk_cell BK202.out 3).trans rfl
                          have hcz38_4 : wc.cell? ⟨gb202, 4, none⟩ = some (.int .i64 a0_4) := (blk_cell BK202.out 4).trans rfl
                          have hcz38_5 : wc.cell? ⟨gb202, 5, none⟩ = some (.bool a0_5) := (blk_cell BK202.out 5).trans rfl
                          have hfz38_0 := blk_frozen BK202.out 0
                          have hfz38_1 := blk_frozen BK202.out 1
                          have hfz38_2 := blk_frozen BK202.out 2
                          have hfz38_3 := blk_frozen BK202.out 3
                          have hfz38_4 := blk_frozen BK202.out 4
                          have hfz38_5 := blk_frozen BK202.out 5
                          go_wp2
                          go_roundg kj19
                          case measure => have := HJ3.out; have := HK2.out; have := HJ19.out; omega
                          case rel => exact ⟨(wrap64 (x5_2 + 1)), (wrap64 (x21_2 + 1)), (by first | rfl | (simp; done) | (simp [*]; done)), (by first | rfl | (simp; done) | (simp [*]; done)), H', ⟨by have := HJ3.out; have := HK2.out; have := HJ19.out; omega⟩, ⟨by (with_reducible repeat (first | apply Kd.R_alloc | apply Kd.R_drewN | apply Kd.R_drew)); exact Kd.R_mono HO_4.out (fun _ hk => ⟨hk.1, hk.2.1⟩)⟩, ⟨by (with_reducible repeat (first | apply Kd.R_alloc | apply Kd.R_drewN | apply Kd.R_drew)); exact Kd.R_mono HO_19.out (fun _ hk => ⟨hk.1, hk.2.1⟩)⟩, ⟨by (with_reducible repeat (first | refine blk_drewN ?_ _ | refine blk_drew ?_ | refine blk_alloc ?_ _)); exact BK202.out⟩, ⟨by repeat (first | (with_reducible first | exact HB.out | apply below_alloc | apply pw_below_drewN | apply below_drew1 | refine below_set ?_ GE202.out | refine below_set ?_ GE214.out) | exact HB.out)⟩⟩
                        · rw [if_neg c35] at H
                          have c35b0 : (((rd_T23 t203 x21_2).f0) == a0_0 && (((rd_T23 t203 x21_2).f1) == a0_1 && (((rd_T23 t203 x21_2).f2) == a0_2 && (((rd_T23 t203 x21_2).f3) == a0_3 && (((rd_T23 t203 x21_2).f4) == a0_4 && (((rd_T23 t203 x21_2).f5) == a0_5)))))) = false := by simpa using c35
                          (try (have c35b1 : decide (((rd_T23 t203 x21_2).f0) = a0_0 && (((rd_T23 t203 x21_2).f1) == a0_1 && (((rd_T23 t203 x21_2).f2) == a0_2 && (((rd_T23 t203 x21_2).f3) == a0_3 && (((rd_T23 t203 x21_2).f4) == a0_4 && (((rd_T23 t203 x21_2).f5) == a0_5)))))) = false := by simpa using c35))
                          (try (have c35b2 : (((rd_T23 t203 x21_2).f0) == a0_0 && (((rd_T23 t203 x21_2).f1) == a0_1 && (((rd_T23 t203 x21_2).f2) == a0_2 && (((rd_T23 t203 x21_2).f3) == a0_3 && (((rd_T23 t203 x21_2).f4) == a0_4 && (((rd_T23 t203 x21_2).f5) == a0_5)))))) = false := by simpa using c35))
                          (try (have c35b3 : ¬ (((rd_T23 t203 x21_2).f0) = a0_0 && (((rd_T23 t203 x21_2).f1) == a0_1 && (((rd_T23 t203 x21_2).f2) == a0_2 && (((rd_T23 t203 x21_2).f3) == a0_3 && (((rd_T23 t203 x21_2).f4) == a0_4 && (((rd_T23 t203 x21_2).f5) == a0_5)))))) := by simpa using c35))
                          clear c35
                          have H' := Aside0.mk H
                          clear H
                          have hnb39 := NB214_202.out
                          have hnc39 := NB202_214.out
                          have hcz40_0 : wc.cell? ⟨gb214, 0, none⟩ = some (.int .i64 ((rd_T23 t203 x21_2).f0)) := (blk_cell BK214.out 0).trans rfl
                          have hcz40_1 : wc.cell? ⟨gb214, 1, none⟩ = some (.int .i64 ((rd_T23 t203 x21_2).f1)) := (blk_cell BK214.out 1).trans rfl
                          have hcz40_2 : wc.cell? ⟨gb214, 2, none⟩ = some (.int .i64 ((rd_T23 t203 x21_2).f2)) := (blk_cell BK214.out 2).trans rfl
                          have hcz40_3 : wc.cell? ⟨gb214, 3, none⟩ = some (.int .i64 ((rd_T23 t203 x21_2).f3)) := (blk_cell BK214.out 3).trans rfl
                          have hcz40_4 : wc.cell? ⟨gb214, 4, none⟩ = some (.int .i64 ((rd_T23 t203 x21_2).f4)) := (blk_cell BK214.out 4).trans rfl
                          have hcz40_5 : wc.cell? ⟨gb214, 5, none⟩ = some (.bool ((rd_T23 t203 x21_2).f5)) := (blk_cell BK214.out 5).trans rfl
                          have hfz40_0 := blk_frozen BK214.out 0
                          have hfz40_1 := blk_frozen BK214.out 1
                          have hfz40_2 := blk_frozen BK214.out 2
                          have hfz40_3 := blk_frozen BK214.out 3
                          have hfz40_4 := blk_frozen BK214.out 4
                          have hfz40_5 := blk_frozen BK214.out 5
                          have hcz41_0 : wc.cell? ⟨gb202, 0, none⟩ = some (.int .i64 a0_0) := (blk_cell BK202.out 0).trans rfl
                          have hcz41_1 : wc.cell? ⟨gb202, 1, none⟩ = some (.int .i64 a0_1) := (blk_cell BK202.out 1).trans rfl
                          have hcz41_2 : wc.cell? ⟨gb202, 2, none⟩ = some (.int .i64 a0_2) := (blk_cell BK202.out 2).trans rfl
                          have hcz41_3 : wc.cell? ⟨gb202, 3, none⟩ = some (.int .i64 a0_3) := (blk_cell BK202.out 3).trans rfl
                          have hcz41_4 : wc.cell? ⟨gb202, 4, none⟩ = some (.int .i64 a0_4) := (blk_cell BK202.out 4).trans rfl
                          have hcz41_5 : wc.cell? ⟨gb202, 5, none⟩ = some (.bool a0_5) := (blk_cell BK202.out 5).trans rfl
                          have hfz41_0 := blk_frozen BK202.out 0
                          have hfz41_1 := blk_frozen BK202.out 1
                          have hfz41_2 := blk_frozen BK202.out 2
                          have hfz41_3 := blk_frozen BK202.out 3
                          have hfz41_4 := blk_frozen BK202.out 4
                          have hfz41_5 := blk_frozen BK202.out 5
                          go_wp2
                          go_roundg kj19
                          case measure => have := HJ3.out; have := HK2.out; have := HJ19.out; omega
                          case rel => exact ⟨(x5_2), (wrap64 (x21_2 + 1)), (by first | rfl | (simp; done) | (simp [*]; done)), (by first | rfl | (simp; done) | (simp [*]; done)), H', ⟨by have := HJ3.out; have := HK2.out; have := HJ19.out; omega⟩, ⟨by (with_reducible repeat (first | apply Kd.R_alloc | apply Kd.R_drewN | apply Kd.R_drew)); exact Kd.R_mono HO_4.out (fun _ hk => ⟨hk.1, hk.2.1⟩)⟩, ⟨by (with_reducible repeat (first | apply Kd.R_alloc | apply Kd.R_drewN | apply Kd.R_drew)); exact Kd.R_mono HO_19.out (fun _ hk => ⟨hk.1, hk.2.1⟩)⟩, ⟨by (with_reducible repeat (first | refine blk_drewN ?_ _ | refine blk_drew ?_ | refine blk_alloc ?_ _)); exact BK202.out⟩, ⟨by repeat (first | (with_reducible first | exact HB.out | apply below_alloc | apply pw_below_drewN | apply below_drew1 | refine below_set ?_ GE202.out | refine below_set ?_ GE214.out) | exact HB.out)⟩⟩
                · rw [if_neg c19] at H
                  exact absurd H (by simp)
              · rw [if_neg c18] at H
                exact absurd H (by simp)
            · rw [if_neg c17] at H
              have c17b0 : decide (x21_2 < (t203.length : Int)) = false := decide_eq_false c17
              clear c17
              by_cases c42 : x5_2 = 1
              · rw [if_pos c42] at H
                have c42b0 : (x5_2 == 1) = true := beq_iff_eq.mpr c42
                have c42b1 : (x5_2 != 1) = false := bne_eq_false_iff_eq.mpr c42
                clear c42
                replace H := Option.bind_eq_some_iff.mp H
                obtain ⟨t210, A430, H⟩ := H
                replace H : (if t210 = 0 then (some true) else (if x5_2 = 0 then ((plan_Check.f a0_0 a0_1 a0_2 a0_3 a0_4 a0_5).bind fun t211 => (some (t211 == 4))) else (some false))) = some r := H
                have A43 := Aside0.mk A430
                clear A430
                by_cases c44 : t210 = 0
                · rw [if_pos c44] at H
                  have c44b0 : (t210 == 0) = true := beq_iff_eq.mpr c44
                  have c44b1 : (t210 != 0) = false := bne_eq_false_iff_eq.mpr c44
                  clear c44
                  obtain rfl := Option.some.inj H
                  have hcz45_0 : wr.cell? ⟨gb202, 0, none⟩ = some (.int .i64 a0_0) := (blk_cell BK202.out 0).trans rfl
                  have hcz45_1 : wr.cell? ⟨gb202, 1, none⟩ = some (.int .i64 a0_1) := (blk_cell BK202.out 1).trans rfl
                  have hcz45_2 : wr.cell? ⟨gb202, 2, none⟩ = some (.int .i64 a0_2) := (blk_cell BK202.out 2).trans rfl
                  have hcz45_3 : wr.cell? ⟨gb202, 3, none⟩ = some (.int .i64 a0_3) := (blk_cell BK202.out 3).trans rfl
                  have hcz45_4 : wr.cell? ⟨gb202, 4, none⟩ = some (.int .i64 a0_4) := (blk_cell BK202.out 4).trans rfl
                  have hcz45_5 : wr.cell? ⟨gb202, 5, none⟩ = some (.bool a0_5) := (blk_cell BK202.out 5).trans rfl
                  have hfz45_0 := blk_frozen BK202.out 0
                  have hfz45_1 := blk_frozen BK202.out 1
                  have hfz45_2 := blk_frozen BK202.out 2
                  have hfz45_3 := blk_frozen BK202.out 3
                  have hfz45_4 := blk_frozen BK202.out 4
                  have hfz45_5 := blk_frozen BK202.out 5
                  go_wp2_with (first | (go_at_call 16; (with_reducible refine (plan_Check.calls a0_0 a0_1 a0_2 a0_3 a0_4 a0_5 t210 _ A43.out).mono ?_); rintro e w46 ⟨rfl, hb⟩; have n0_ := Aside0.mk (Kd.R_below (by (with_reducible repeat (first | apply Kd.R_alloc | apply Kd.R_drewN | apply Kd.R_drew)); exact HO_4.out) hb); have n1_ := Aside0.mk (Kd.R_below (by (with_reducible repeat (first | apply Kd.R_alloc | apply Kd.R_drewN | apply Kd.R_drew)); exact HO_19.out) hb); have n2_ := Aside0.mk (blk_below (g := gb202) (o := .cells #[.int .i64 a0_0, .int .i64 a0_1, .int .i64 a0_2, .int .i64 a0_3, .int .i64 a0_4, .bool a0_5] 23 (0, 0)) (by (with_reducible repeat (first | refine blk_drewN ?_ _ | refine blk_drew ?_ | refine blk_alloc ?_ _)); exact BK202.out) hb); have n3_ := Aside0.mk (below_step (by repeat (first | (with_reducible first | exact HB.out | apply below_alloc | apply pw_below_drewN | apply below_drew1 | refine below_set ?_ GE202.out) | exact HB.out)) hb); clear HO_4; clear HO_19; clear BK202; clear HB; have HO_4 := n0_; have HO_19 := n1_; have BK202 := n2_; have HB := n3_; clear n0_ n1_ n2_ n3_; (try clear hb); (try clear hb2); (try clear hk); (try clear hi)))
                  go_ret
                  exact ⟨by first | rfl | (simp [errW_none, errW_some] <;> rfl) | (simp [*, errW_none, errW_some] <;> rfl), by repeat (first | (with_reducible first | exact HB.out | apply below_alloc | apply pw_below_drewN | apply below_drew1 | refine below_set ?_ GE202.out) | exact HB.out)⟩
                · rw [if_neg c44] at H
                  have c44b0 : (t210 == 0) = false := beq_eq_false_iff_ne.mpr c44
                  have c44b1 : (t210 != 0) = true := bne_iff_ne.mpr c44
                  by_cases c47 : x5_2 = 0
                  · rw [if_pos c47] at H
                    have c47b0 : (x5_2 == 0) = true := beq_iff_eq.mpr c47
                    have c47b1 : (x5_2 != 0) = false := bne_eq_false_iff_eq.mpr c47
                    clear c47
                    replace H := Option.bind_eq_some_iff.mp H
                    obtain ⟨t211, A480, H⟩ := H
                    replace H : (some (t211 == 4)) = some r := H
                    have A48 := Aside0.mk A480
                    clear A480
                    obtain rfl := Option.some.inj H
                    have hcz49_0 : wr.cell? ⟨gb202, 0, none⟩ = some (.int .i64 a0_0) := (blk_cell BK202.out 0).trans rfl
                    have hcz49_1 : wr.cell? ⟨gb202, 1, none⟩ = some (.int .i64 a0_1) := (blk_cell BK202.out 1).trans rfl
                    have hcz49_2 : wr.cell? ⟨gb202, 2, none⟩ = some (.int .i64 a0_2) := (blk_cell BK202.out 2).trans rfl
                    have hcz49_3 : wr.cell? ⟨gb202, 3, none⟩ = some (.int .i64 a0_3) := (blk_cell BK202.out 3).trans rfl
                    have hcz49_4 : wr.cell? ⟨gb202, 4, none⟩ = some (.int .i64 a0_4) := (blk_cell BK202.out 4).trans rfl
                    have hcz49_5 : wr.cell? ⟨gb202, 5, none⟩ = some (.bool a0_5) := (blk_cell BK202.out 5).trans rfl
                    have hfz49_0 := blk_frozen BK202.out 0
                    have hfz49_1 := blk_frozen BK202.out 1
                    have hfz49_2 := blk_frozen BK202.out 2
                    have hfz49_3 := blk_frozen BK202.out 3
                    have hfz49_4 := blk_frozen BK202.out 4
                    have hfz49_5 := blk_frozen BK202.out 5
                    go_wp2_with (first | (go_at_call 16; (with_reducible refine (plan_Check.calls a0_0 a0_1 a0_2 a0_3 a0_4 a0_5 t210 _ A43.out).mono ?_); rintro e w50 ⟨rfl, hb⟩; have n0_ := Aside0.mk (Kd.R_below (by (with_reducible repeat (first | apply Kd.R_alloc | apply Kd.R_drewN | apply Kd.R_drew)); exact HO_4.out) hb); have n1_ := Aside0.mk (Kd.R_below (by (with_reducible repeat (first | apply Kd.R_alloc | apply Kd.R_drewN | apply Kd.R_drew)); exact HO_19.out) hb); have n2_ := Aside0.mk (blk_below (g := gb202) (o := .cells #[.int .i64 a0_0, .int .i64 a0_1, .int .i64 a0_2, .int .i64 a0_3, .int .i64 a0_4, .bool a0_5] 23 (0, 0)) (by (with_reducible repeat (first | refine blk_drewN ?_ _ | refine blk_drew ?_ | refine blk_alloc ?_ _)); exact BK202.out) hb); have n3_ := Aside0.mk (below_step (by repeat (first | (with_reducible first | exact HB.out | apply below_alloc | apply pw_below_drewN | apply below_drew1 | refine below_set ?_ GE202.out) | exact HB.out)) hb); clear HO_4; clear HO_19; clear BK202; clear HB; have HO_4 := n0_; have HO_19 := n1_; have BK202 := n2_; have HB := n3_; clear n0_ n1_ n2_ n3_; (try clear hb); (try clear hb2); (try clear hk); (try clear hi); have hcz51_0 : w50.cell? ⟨gb202, 0, none⟩ = some (.int .i64 a0_0) := (blk_cell BK202.out 0).trans rfl; have hcz51_1 : w50.cell? ⟨gb202, 1, none⟩ = some (.int .i64 a0_1) := (blk_cell BK202.out 1).trans rfl; have hcz51_2 : w50.cell? ⟨gb202, 2, none⟩ = some (.int .i64 a0_2) := (blk_cell BK202.out 2).trans rfl; have hcz51_3 : w50.cell? ⟨gb202, 3, none⟩ = some (.int .i64 a0_3) := (blk_cell BK202.out 3).trans rfl; have hcz51_4 : w50.cell? ⟨gb202, 4, none⟩ = some (.int .i64 a0_4) := (blk_cell BK202.out 4).trans rfl; have hcz51_5 : w50.cell? ⟨gb202, 5, none⟩ = some (.bool a0_5) := (blk_cell BK202.out 5).trans rfl; have hfz51_0 := blk_frozen BK202.out 0; have hfz51_1 := blk_frozen BK202.out 1; have hfz51_2 := blk_frozen BK202.out 2; have hfz51_3 := blk_frozen BK202.out 3; have hfz51_4 := blk_frozen BK202.out 4; have hfz51_5 := blk_frozen BK202.out 5) | (go_at_call 16; (with_reducible refine (plan_Check.calls a0_0 a0_1 a0_2 a0_3 a0_4 a0_5 t211 _ A48.out).mono ?_); rintro e w52 ⟨rfl, hb⟩; have n0_ := Aside0.mk (Kd.R_below (by (with_reducible repeat (first | apply Kd.R_alloc | apply Kd.R_drewN | apply Kd.R_drew)); exact HO_4.out) hb); have n1_ := Aside0.mk (Kd.R_below (by (with_reducible repeat (first | apply Kd.R_alloc | apply Kd.R_drewN | apply Kd.R_drew)); exact HO_19.out) hb); have n2_ := Aside0.mk (blk_below (g := gb202) (o := .cells #[.int .i64 a0_0, .int .i64 a0_1, .int .i64 a0_2, .int .i64 a0_3, .int .i64 a0_4, .bool a0_5] 23 (0, 0)) (by (with_reducible repeat (first | refine blk_drewN ?_ _ | refine blk_drew ?_ | refine blk_alloc ?_ _)); exact BK202.out) hb); have n3_ := Aside0.mk (below_step (by repeat (first | (with_reducible first | exact HB.out | apply below_alloc | apply pw_below_drewN | apply below_drew1 | refine below_set ?_ GE202.out) | exact HB.out)) hb); clear HO_4; clear HO_19; clear BK202; clear HB; have HO_4 := n0_; have HO_19 := n1_; have BK202 := n2_; have HB := n3_; clear n0_ n1_ n2_ n3_; (try clear hb); (try clear hb2); (try clear hk); (try clear hi)))
                    go_ret
                    exact ⟨by first | rfl | (have e_ := Option.some.inj (A43.out.symm.trans A48.out); subst e_; rfl) | (simp [errW_none, errW_some] <;> rfl) | (simp [*, errW_none, errW_some] <;> rfl), by repeat (first | (with_reducible first | exact HB.out | apply below_alloc | apply pw_below_drewN | apply below_drew1 | refine below_set ?_ GE202.out) | exact HB.out)⟩
                  · rw [if_neg c47] at H
                    have c47b0 : (x5_2 == 0) = false := beq_eq_false_iff_ne.mpr c47
                    have c47b1 : (x5_2 != 0) = true := bne_iff_ne.mpr c47
                    obtain rfl := Option.some.inj H
                    have hcz53_0 : wr.cell? ⟨gb202, 0, none⟩ = some (.int .i64 a0_0) := (blk_cell BK202.out 0).trans rfl
                    have hcz53_1 : wr.cell? ⟨gb202, 1, none⟩ = some (.int .i64 a0_1) := (blk_cell BK202.out 1).trans rfl
                    have hcz53_2 : wr.cell? ⟨gb202, 2, none⟩ = some (.int .i64 a0_2) := (blk_cell BK202.out 2).trans rfl
                    have hcz53_3 : wr.cell? ⟨gb202, 3, none⟩ = some (.int .i64 a0_3) := (blk_cell BK202.out 3).trans rfl
                    have hcz53_4 : wr.cell? ⟨gb202, 4, none⟩ = some (.int .i64 a0_4) := (blk_cell BK202.out 4).trans rfl
                    have hcz53_5 : wr.cell? ⟨gb202, 5, none⟩ = some (.bool a0_5) := (blk_cell BK202.out 5).trans rfl
                    have hfz53_0 := blk_frozen BK202.out 0
                    have hfz53_1 := blk_frozen BK202.out 1
                    have hfz53_2 := blk_frozen BK202.out 2
                    have hfz53_3 := blk_frozen BK202.out 3
                    have hfz53_4 := blk_frozen BK202.out 4
                    have hfz53_5 := blk_frozen BK202.out 5
                    go_wp2_with (first | (go_at_call 16; (with_reducible refine (plan_Check.calls a0_0 a0_1 a0_2 a0_3 a0_4 a0_5 t210 _ A43.out).mono ?_); rintro e w54 ⟨rfl, hb⟩; have n0_ := Aside0.mk (Kd.R_below (by (with_reducible repeat (first | apply Kd.R_alloc | apply Kd.R_drewN | apply Kd.R_drew)); exact HO_4.out) hb); have n1_ := Aside0.mk (Kd.R_below (by (with_reducible repeat (first | apply Kd.R_alloc | apply Kd.R_drewN | apply Kd.R_drew)); exact HO_19.out) hb); have n2_ := Aside0.mk (blk_below (g := gb202) (o := .cells #[.int .i64 a0_0, .int .i64 a0_1, .int .i64 a0_2, .int .i64 a0_3, .int .i64 a0_4, .bool a0_5] 23 (0, 0)) (by (with_reducible repeat (first | refine blk_drewN ?_ _ | refine blk_drew ?_ | refine blk_alloc ?_ _)); exact BK202.out) hb); have n3_ := Aside0.mk (below_step (by repeat (first | (with_reducible first | exact HB.out | apply below_alloc | apply pw_below_drewN | apply below_drew1 | refine below_set ?_ GE202.out) | exact HB.out)) hb); clear HO_4; clear HO_19; clear BK202; clear HB; have HO_4 := n0_; have HO_19 := n1_; have BK202 := n2_; have HB := n3_; clear n0_ n1_ n2_ n3_; (try clear hb); (try clear hb2); (try clear hk); (try clear hi)))
                    go_ret
                    exact ⟨by first | rfl | (simp [errW_none, errW_some] <;> rfl) | (simp [*, errW_none, errW_some] <;> rfl), by repeat (first | (with_reducible first | exact HB.out | apply below_alloc | apply pw_below_drewN | apply below_drew1 | refine below_set ?_ GE202.out) | exact HB.out)⟩
              · rw [if_neg c42] at H
                have c42b0 : (x5_2 == 1) = false := beq_eq_false_iff_ne.mpr c42
                have c42b1 : (x5_2 != 1) = true := bne_iff_ne.mpr c42
                by_cases c55 : x5_2 = 0
                · rw [if_pos c55] at H
                  have c55b0 : (x5_2 == 0) = true := beq_iff_eq.mpr c55
                  have c55b1 : (x5_2 != 0) = false := bne_eq_false_iff_eq.mpr c55
                  clear c55
                  replace H := Option.bind_eq_some_iff.mp H
                  obtain ⟨t212, A560, H⟩ := H
                  replace H : (some (t212 == 4)) = some r := H
                  have A56 := Aside0.mk A560
                  clear A560
                  obtain rfl := Option.some.inj H
                  have hcz57_0 : wr.cell? ⟨gb202, 0, none⟩ = some (.int .i64 a0_0) := (blk_cell BK202.out 0).trans rfl
                  have hcz57_1 : wr.cell? ⟨gb202, 1, none⟩ = some (.int .i64 a0_1) := (blk_cell BK202.out 1).trans rfl
                  have hcz57_2 : wr.cell? ⟨gb202, 2, none⟩ = some (.int .i64 a0_2) := (blk_cell BK202.out 2).trans rfl
                  have hcz57_3 : wr.cell? ⟨gb202, 3, none⟩ = some (.int .i64 a0_3) := (blk_cell BK202.out 3).trans rfl
                  have hcz57_4 : wr.cell? ⟨gb202, 4, none⟩ = some (.int .i64 a0_4) := (blk_cell BK202.out 4).trans rfl
                  have hcz57_5 : wr.cell? ⟨gb202, 5, none⟩ = some (.bool a0_5) := (blk_cell BK202.out 5).trans rfl
                  have hfz57_0 := blk_frozen BK202.out 0
                  have hfz57_1 := blk_frozen BK202.out 1
                  have hfz57_2 := blk_frozen BK202.out 2
                  have hfz57_3 := blk_frozen BK202.out 3
                  have hfz57_4 := blk_frozen BK202.out 4
                  have hfz57_5 := blk_frozen BK202.out 5
                  go_wp2_with (first | (go_at_call 16; (with_reducible refine (plan_Check.calls a0_0 a0_1 a0_2 a0_3 a0_4 a0_5 t212 _ A56.out).mono ?_); rintro e w58 ⟨rfl, hb⟩; have n0_ := Aside0.mk (Kd.R_below (by (with_reducible repeat (first | apply Kd.R_alloc | apply Kd.R_drewN | apply Kd.R_drew)); exact HO_4.out) hb); have n1_ := Aside0.mk (Kd.R_below (by (with_reducible repeat (first | apply Kd.R_alloc | apply Kd.R_drewN | apply Kd.R_drew)); exact HO_19.out) hb); have n2_ := Aside0.mk (blk_below (g := gb202) (o := .cells #[.int .i64 a0_0, .int .i64 a0_1, .int .i64 a0_2, .int .i64 a0_3, .int .i64 a0_4, .bool a0_5] 23 (0, 0)) (by (with_reducible repeat (first | refine blk_drewN ?_ _ | refine blk_drew ?_ | refine blk_alloc ?_ _)); exact BK202.out) hb); have n3_ := Aside0.mk (below_step (by repeat (first | (with_reducible first | exact HB.out | apply below_alloc | apply pw_below_drewN | apply below_drew1 | refine below_set ?_ GE202.out) | exact HB.out)) hb); clear HO_4; clear HO_19; clear BK202; clear HB; have HO_4 := n0_; have HO_19 := n1_; have BK202 := n2_; have HB := n3_; clear n0_ n1_ n2_ n3_; (try clear hb); (try clear hb2); (try clear hk); (try clear hi)))
                  go_ret
                  exact ⟨by first | rfl | (simp [errW_none, errW_some] <;> rfl) | (simp [*, errW_none, errW_some] <;> rfl), by repeat (first | (with_reducible first | exact HB.out | apply below_alloc | apply pw_below_drewN | apply below_drew1 | refine below_set ?_ GE202.out) | exact HB.out)⟩
                · rw [if_neg c55] at H
                  have c55b0 : (x5_2 == 0) = false := beq_eq_false_iff_ne.mpr c55
                  have c55b1 : (x5_2 != 0) = true := bne_iff_ne.mpr c55
                  obtain rfl := Option.some.inj H
                  go_wp2
                  go_ret
                  exact ⟨by first | rfl | (simp [errW_none, errW_some] <;> rfl) | (simp [*, errW_none, errW_some] <;> rfl), by repeat (first | (with_reducible first | exact HB.out | apply below_alloc | apply pw_below_drewN | apply below_drew1 | refine below_set ?_ GE202.out) | exact HB.out)⟩

end Go.Proofs.Ytbpanbmjkfhcgaa.P
