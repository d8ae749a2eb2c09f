-- Printed for this claim by drive.py (a program of this session's) through the kit's print program; not trusted: Lean checks it.
import Derived.Test.YtbpanbmjkfhcgaaP0
namespace Go.Proofs.Ytbpanbmjkfhcgaa.P
open Go.RowKit Go.Proofs.YtbpanbmjkfhcgaaW.PrintWords Go.Proofs.YtbpanbmjkfhcgaaW.PrintLast Go.Proofs.YtbpanbmjkfhcgaaW.PrintMore
attribute [local go_sem] max2_int min2_int max_two min_two max_three min_three max_four min_four   -- for this text's walks alone
set_option linter.unusedVariables false
set_option linter.unusedSimpArgs false

/-! ### choose_three: function 52 -/
def choose_three.l0 : Nat → List (S23) → List Int → Int → Int → Int → Int → Int → Int → Int → Bool → Option ((List (S23)))
  | 0, _, _, _, _, _, _, _, _, _, _ => none
  | k + 1, x3, x7, x8, x9, x333000, x333001, x333002, x333003, x333004, x333005 => if x9 < x8 then (if 0 ≤ x9 then (if x9 < (x7.length : Int) then (if x9 < (x3.length : Int) then ((some (x3.set (x9 : Int).toNat (⟨x333000, x333001, x333002, x333003, x333004, x333005⟩ : S23) : List (S23))).bind fun y340 => (choose_three.l0 k (y340.set (x9 : Int).toNat (⟨(rd_T23 y340 x9).f0, (rd_T23 y340 x9).f1, rd x7 x9, (rd_T23 y340 x9).f3, (rd_T23 y340 x9).f4, (rd_T23 y340 x9).f5⟩ : S23)) x7 x8 (wrap64 (x9 + 1)) x333000 x333001 x333002 x333003 x333004 x333005)) else (none)) else (none)) else (none)) else (some x3)
def choose_three.f (k : Nat) (a0_0 : Int) (a0_1 : Int) (a0_2 : Int) (a0_3 : Int) (a0_4 : Int) (a0_5 : Bool) : Option ((List (S23))) := if 3 ≤ 5864062014805 then ((some (([0, 1, 2] : List Int) : List Int)).bind fun y336 => (choose_three.l0 k (List.replicate 3 z23) y336 (y336.length : Int) 0 a0_0 a0_1 a0_2 a0_3 a0_4 a0_5)) else (none)
theorem choose_three.mono_l : ∀ k, (∀ y0 y1 y2 y3 y4 y5 y6 y7 y8 y9, LeO (choose_three.l0 k y0 y1 y2 y3 y4 y5 y6 y7 y8 y9) (choose_three.l0 (k + 1) y0 y1 y2 y3 y4 y5 y6 y7 y8 y9))
  | 0 => fun _ _ _ _ _ _ _ _ _ _ r h => by simp [choose_three.l0] at h
  | k + 1 => by
    have ih0 := choose_three.mono_l k
    · intro y0 y1 y2 y3 y4 y5 y6 y7 y8 y9
      unfold choose_three.l0
      repeat' first
      | (with_reducible exact ih0 _ _ _ _ _ _ _ _ _ _)
      | (with_reducible exact LeO.refl _)
      | (with_reducible exact LeO.none _)
      | (with_reducible refine LeO.ite ?_ ?_)
      | (with_reducible refine LeO.bind ?_ (fun _ => ?_))
      | exact ih0 _ _ _ _ _ _ _ _ _ _
      | exact LeO.none _
      | refine LeO.ite ?_ ?_
      | refine LeO.bind ?_ (fun _ => ?_)
theorem choose_three.mono : ∀ a0 a1 a2 a3 a4 a5 k, LeO (choose_three.f k a0 a1 a2 a3 a4 a5) (choose_three.f (k + 1) a0 a1 a2 a3 a4 a5) := by
  intro a0 a1 a2 a3 a4 a5 k
  have ih0 := choose_three.mono_l k
  unfold choose_three.f
  repeat' first
      | (with_reducible exact ih0 _ _ _ _ _ _ _ _ _ _)
      | (with_reducible exact LeO.refl _)
      | (with_reducible exact LeO.none _)
      | (with_reducible refine LeO.ite ?_ ?_)
      | (with_reducible refine LeO.bind ?_ (fun _ => ?_))
      | exact ih0 _ _ _ _ _ _ _ _ _ _
      | exact LeO.none _
      | refine LeO.ite ?_ ?_
      | refine LeO.bind ?_ (fun _ => ?_)
set_option maxHeartbeats 8000000 in
set_option maxRecDepth 100000 in
theorem choose_three.calls (k : Nat) (a0_0 : Int) (a0_1 : Int) (a0_2 : Int) (a0_3 : Int) (a0_4 : Int) (a0_5 : Bool) (r : List (S23)) (w : World) (h : choose_three.f k a0_0 a0_1 a0_2 a0_3 a0_4 a0_5 = some r) :
    Calls Try.prog 52 #[.agg #[.int .i64 a0_0, .int .i64 a0_1, .int .i64 a0_2, .int .i64 a0_3, .int .i64 a0_4, .bool a0_5]] w fun e w' => ∃ v0_ : Value, e = .returned (v0_) ∧ Kd.R k23 23 w' w.heap.size (fun _ => True) v0_ r ∧ Below w.heap.size w w' := by
  have hu23 := Try.underlying23
  have HB := Aside0.mk (Below.refl w.heap.size w)
  have H : (if 3 ≤ 5864062014805 then ((some (([0, 1, 2] : List Int) : List Int)).bind fun y336 => (choose_three.l0 k (List.replicate 3 z23) y336 (y336.length : Int) 0 a0_0 a0_1 a0_2 a0_3 a0_4 a0_5)) else (none)) = some r := h
  clear h
  by_cases c2 : 3 ≤ 5864062014805
  · rw [if_pos c2] at H
    have c2b0 := eq_true c2
    have c2b1 : decide (3 ≤ 5864062014805) = true := decide_eq_true c2
    clear c2
    obtain ⟨y333, hy333⟩ : ∃ y_ : List (S23), y_ = (List.replicate 3 z23) := ⟨_, rfl⟩
    replace H : ((some (([0, 1, 2] : List Int) : List Int)).bind fun y336 => (choose_three.l0 k y333 y336 (y336.length : Int) 0 a0_0 a0_1 a0_2 a0_3 a0_4 a0_5)) = some r := by first | (rw [hy333]; with_reducible exact H) | (have H2_ := (Option.bind_some _ _).symm.trans H; rw [hy333]; with_reducible exact H2_) | (have H2_ := (Option.bind_some _ _).symm.trans H; with_reducible exact H2_) | with_reducible exact H | (rw [hy333]; exact H) | exact H
    have Ny333 := Aside0.mk hy333
    clear hy333
    obtain ⟨y336, hy336⟩ : ∃ y_ : List Int, y_ = (([0, 1, 2] : List Int)) := ⟨_, rfl⟩
    replace H : (choose_three.l0 k y333 y336 (y336.length : Int) 0 a0_0 a0_1 a0_2 a0_3 a0_4 a0_5) = some r := by first | (rw [hy336]; with_reducible exact H) | (have H2_ := (Option.bind_some _ _).symm.trans H; rw [hy336]; with_reducible exact H2_) | (have H2_ := (Option.bind_some _ _).symm.trans H; with_reducible exact H2_) | with_reducible exact H | (rw [hy336]; exact H) | exact H
    have Ny336 := Aside0.mk hy336
    clear hy336
    have H' := Aside0.mk H
    clear H
    go_enter Try.func52, Try.ntmps52
    go_wp2_with (first | ((with_reducible refine gate_dst (N := 1) rfl ?_); refine box_event ?hg (N := 1) ?hd (cs := #[.int .i64 a0_0, .int .i64 a0_1, .int .i64 a0_2, .int .i64 a0_3, .int .i64 a0_4, .bool a0_5]) (t := 23) ?hr ?_; (case hd => rfl); (case hg => rfl); (case hr => first | (go_simp; done) | (go_simp; rfl)); intro gb332 hg w3 hbox hb; have n0_ := Aside0.mk (below_step (by repeat (first | (with_reducible first | exact HB.out | apply below_alloc | apply pw_below_drewN | apply below_drew1) | exact HB.out)) hb); have n1_ := Aside0.mk (hbox); have n2_ := Aside0.mk ((by rw [hg]; exact (below_size (by repeat (first | (with_reducible first | exact HB.out | apply below_alloc | apply pw_below_drewN | apply below_drew1) | exact HB.out))) : w.heap.size ≤ gb332)); have n3_ := Aside0.mk ((by rw [hg]; exact (below_size (by repeat (first | (with_reducible first | exact HB.out | apply below_alloc | apply pw_below_drewN | apply below_drew1) | exact HB.out))) : w.heap.size ≤ gb332)); clear HB; have HB := n0_; have BK332 := n1_; have GW332 := n2_; have GE332 := n3_; clear n0_ n1_ n2_ n3_; clear hb hbox hg) | ((with_reducible refine gate_dst (N := 6) rfl ?_); refine Kd.R_make k23 _ 23 rfl (N := 6) rfl 36 _ _ rfl 3 rfl rfl Try.underlying36 (.agg #[(.int .i64 0), (.int .i64 0), (.int .i64 0), (.int .i64 0), (.int .i64 0), (.bool false)]) 48 info23 rfl (by decide) (by omega) z23 (ok := fun _ => True) (okp := fun _ => True) (k23_mkM _ _ _ z23 ) (fun _ hk => hk) trivial (by omega) (by omega) (Below.refl _ _) (Nat.le_refl _) ?_; intro v334 w4 ho5 hb hg_ hnew_; clear hg_ hnew_; (first | rw [← Ny333.out] at ho5 | (simp only [Int.reduceToNat] at ho5; rw [← Ny333.out] at ho5)); have n0_ := Aside0.mk (Kd.R_lower (Kd.R_newB ho5 (g := gb332) (o := .cells #[.int .i64 a0_0, .int .i64 a0_1, .int .i64 a0_2, .int .i64 a0_3, .int .i64 a0_4, .bool a0_5] 23 (0, 0)) (by (with_reducible repeat (first | refine blk_drewN ?_ _ | refine blk_drew ?_ | refine blk_alloc ?_ _)); exact BK332.out)) (below_size (by repeat (first | (with_reducible first | exact HB.out | apply below_alloc | apply pw_below_drewN | apply below_drew1 | refine below_set ?_ GE332.out) | exact HB.out)))); have n1_ := Aside0.mk (blk_below (g := gb332) (o := .cells #[.int .i64 a0_0, .int .i64 a0_1, .int .i64 a0_2, .int .i64 a0_3, .int .i64 a0_4, .bool a0_5] 23 (0, 0)) (by (with_reducible repeat (first | refine blk_drewN ?_ _ | refine blk_drew ?_ | refine blk_alloc ?_ _)); exact BK332.out) hb); have n2_ := Aside0.mk (below_step (by repeat (first | (with_reducible first | exact HB.out | apply below_alloc | apply pw_below_drewN | apply below_drew1 | refine below_set ?_ GE332.out) | exact HB.out)) hb); clear BK332; clear HB; have HO335 := n0_; have BK332 := n1_; have HB := n2_; clear n0_ n1_ n2_; clear hb ho5) | ((with_reducible refine gate_dst (N := 7) rfl ?_); refine Kd.R_lit (Kd.int .i64) _ 3 ?hg (N := 7) ?hd (xs := ([0, 1, 2] : List Int)) (inner := [.int .i64 0, .int .i64 1, .int .i64 2]) (ok := fun _ => True) (okp := fun _ => True) ?hr ?hp (fun _ hk => hk) trivial (Below.refl _ _) (Nat.le_refl _) (by simp) ?_; (case hd => rfl); (case hg => rfl); (case hr => first | (go_simp; done) | (go_simp; rfl)); (case hp => exact (Reps.one (show Kd.M (Kd.int .i64) _ _ _ 0 [.int .i64 0] from rfl) (Reps.one (show Kd.M (Kd.int .i64) _ _ _ 1 [.int .i64 1] from rfl) (Reps.one (show Kd.M (Kd.int .i64) _ _ _ 2 [.int .i64 2] from rfl) (Reps.none _ _))))); intro v337 w6 ho7 hb hg_ hnew_; clear hg_ hnew_; (first | rw [← Ny336.out] at ho7 | (simp only [Int.reduceToNat] at ho7; rw [← Ny336.out] at ho7)); have n0_ := Aside0.mk (Kd.R_below (by (with_reducible repeat (first | apply Kd.R_alloc | apply Kd.R_drewN | apply Kd.R_drew)); exact HO335.out) hb); have n1_ := Aside0.mk (Kd.R_lower ho7 (below_size (by repeat (first | (with_reducible first | exact HB.out | apply below_alloc | apply pw_below_drewN | apply below_drew1 | refine below_set ?_ GE332.out) | exact HB.out)))); have n2_ := Aside0.mk (blk_below (g := gb332) (o := .cells #[.int .i64 a0_0, .int .i64 a0_1, .int .i64 a0_2, .int .i64 a0_3, .int .i64 a0_4, .bool a0_5] 23 (0, 0)) (by (with_reducible repeat (first | refine blk_drewN ?_ _ | refine blk_drew ?_ | refine blk_alloc ?_ _)); exact BK332.out) hb); have n3_ := Aside0.mk (below_step (by repeat (first | (with_reducible first | exact HB.out | apply below_alloc | apply pw_below_drewN | apply below_drew1 | refine below_set ?_ GE332.out) | exact HB.out)) hb); clear HO335; clear BK332; clear HB; have HO335 := n0_; have HO338 := n1_; have BK332 := n2_; have HB := n3_; clear n0_ n1_ n2_ n3_; clear hb ho7; obtain ⟨Ao8, co8, eo8⟩ := Kd.R_slice HO338.out; subst eo8))
    go_loopg [9] k (fun kq v9 w' => ∃ (x3_1 : List (S23)) (x9_1 : Int) (x333000_1 : Int) (x333001_1 : Int) (x333002_1 : Int) (x333003_1 : Int) (x333004_1 : Int) (x333005_1 : Bool), v9 = .int .i64 x9_1 ∧ Aside0 (choose_three.l0 kq x3_1 y336 (y336.length : Int) x9_1 x333000_1 x333001_1 x333002_1 x333003_1 x333004_1 x333005_1 = some r) ∧ Aside0 (kq ≤ k) ∧ Aside0 (Kd.R k23 23 w' w.heap.size (fun k_ => k_ ≠ gb332) v334 x3_1) ∧ Aside0 (Kd.R (Kd.int .i64) 3 w' w.heap.size (fun _ => True) (.slice Ao8 y336.length co8) y336) ∧ Aside0 (w'.heap[gb332]? = some (.cells #[.int .i64 x333000_1, .int .i64 x333001_1, .int .i64 x333002_1, .int .i64 x333003_1, .int .i64 x333004_1, .bool x333005_1] 23 (0, 0))) ∧ Aside0 (Below w.heap.size w w'))
    case atStart => exact ⟨(y333), (0), (a0_0), (a0_1), (a0_2), (a0_3), (a0_4), (a0_5), (by first | rfl | (simp; done) | (simp [*]; done)), H', ⟨Nat.le_refl _⟩, ⟨by (with_reducible repeat (first | apply Kd.R_alloc | apply Kd.R_drewN | apply Kd.R_drew)); exact Kd.R_mono HO335.out (fun _ hk => hk.2)⟩, ⟨by (with_reducible repeat (first | apply Kd.R_alloc | apply Kd.R_drewN | apply Kd.R_drew)); exact HO338.out⟩, ⟨by (with_reducible repeat (first | refine blk_drewN ?_ _ | refine blk_drew ?_ | refine blk_alloc ?_ _)); exact BK332.out⟩, ⟨by repeat (first | (with_reducible first | exact HB.out | apply below_alloc | apply pw_below_drewN | apply below_drew1 | refine below_set ?_ GE332.out) | exact HB.out)⟩⟩
    case round =>
      clear H'
      try clear c2
      try clear c2b0
      try clear c2b1
      try clear p2
      try clear c5
      obtain ⟨x3_1, x9_1, x333000_1, x333001_1, x333002_1, x333003_1, x333004_1, x333005_1, rfl, HA, HK1, HO_3, HO_7, BK332, HB⟩ := hrel
      cases gk with
      | zero => exact absurd HA.out (by simp [choose_three.l0])
      | succ k1 =>
        have H := HA.out
        clear HA
        simp only [choose_three.l0] at H
        by_cases c9 : x9_1 < (y336.length : Int)
        · rw [if_pos c9] at H
          have c9b0 : decide (x9_1 < (y336.length : Int)) = true := decide_eq_true c9
          clear c9
          by_cases c10 : 0 ≤ x9_1
          · rw [if_pos c10] at H
            have c10b0 : decide (0 ≤ x9_1) = true := decide_eq_true c10
            clear c10
            by_cases c11 : x9_1 < (y336.length : Int)
            · rw [if_pos c11] at H
              have c11b0 : decide (x9_1 < (y336.length : Int)) = true := decide_eq_true c11
              clear c11
              by_cases c12 : x9_1 < (x3_1.length : Int)
              · rw [if_pos c12] at H
                have c12b0 : decide (x9_1 < (x3_1.length : Int)) = true := decide_eq_true c12
                clear c12
                obtain ⟨y340, hy340⟩ : ∃ y_ : List (S23), y_ = (x3_1.set (x9_1 : Int).toNat (⟨x333000_1, x333001_1, x333002_1, x333003_1, x333004_1, x333005_1⟩ : S23)) := ⟨_, rfl⟩
                replace H : (choose_three.l0 k1 (y340.set (x9_1 : Int).toNat (⟨(rd_T23 y340 x9_1).f0, (rd_T23 y340 x9_1).f1, rd y336 x9_1, (rd_T23 y340 x9_1).f3, (rd_T23 y340 x9_1).f4, (rd_T23 y340 x9_1).f5⟩ : S23)) y336 (y336.length : Int) (wrap64 (x9_1 + 1)) x333000_1 x333001_1 x333002_1 x333003_1 x333004_1 x333005_1) = some r := by first | (rw [hy340]; with_reducible exact H) | (have H2_ := (Option.bind_some _ _).symm.trans H; rw [hy340]; with_reducible exact H2_) | (have H2_ := (Option.bind_some _ _).symm.trans H; with_reducible exact H2_) | with_reducible exact H | (rw [hy340]; exact H) | exact H
                have Ny340 := Aside0.mk hy340
                clear hy340
                obtain ⟨y341, hy341⟩ : ∃ y_ : List (S23), y_ = (y340.set (x9_1 : Int).toNat (⟨(rd_T23 y340 x9_1).f0, (rd_T23 y340 x9_1).f1, rd y336 x9_1, (rd_T23 y340 x9_1).f3, (rd_T23 y340 x9_1).f4, (rd_T23 y340 x9_1).f5⟩ : S23)) := ⟨_, rfl⟩
                replace H : (choose_three.l0 k1 y341 y336 (y336.length : Int) (wrap64 (x9_1 + 1)) x333000_1 x333001_1 x333002_1 x333003_1 x333004_1 x333005_1) = some r := by first | (rw [hy341]; with_reducible exact H) | (have H2_ := (Option.bind_some _ _).symm.trans H; rw [hy341]; with_reducible exact H2_) | (have H2_ := (Option.bind_some _ _).symm.trans H; with_reducible exact H2_) | with_reducible exact H | (rw [hy341]; exact H) | exact H
                have Ny341 := Aside0.mk hy341
                clear hy341
                have H' := Aside0.mk H
                clear H
                have p339 : 0 ≤ (x9_1 : Int) := of_decide_eq_true (by first | (with_reducible assumption) | assumption)
                have q339 : x9_1 < (y336.length : Int) := of_decide_eq_true (by first | (with_reducible assumption) | assumption)
                obtain ⟨ad339, e339, hx339_0⟩ := Kd.at_int (Kd.R_reads' HO_7.out).2.2 x9_1 p339 q339
                cases e339
                replace p339 := eq_true p339
                replace q339 := eq_true q339
                have hcz15_0 : wr.cell? ⟨gb332, 0, none⟩ = some (.int .i64 x333000_1) := (blk_cell BK332.out 0).trans rfl
                have hcz15_1 : wr.cell? ⟨gb332, 1, none⟩ = some (.int .i64 x333001_1) := (blk_cell BK332.out 1).trans rfl
                have hcz15_2 : wr.cell? ⟨gb332, 2, none⟩ = some (.int .i64 x333002_1) := (blk_cell BK332.out 2).trans rfl
                have hcz15_3 : wr.cell? ⟨gb332, 3, none⟩ = some (.int .i64 x333003_1) := (blk_cell BK332.out 3).trans rfl
                have hcz15_4 : wr.cell? ⟨gb332, 4, none⟩ = some (.int .i64 x333004_1) := (blk_cell BK332.out 4).trans rfl
                have hcz15_5 : wr.cell? ⟨gb332, 5, none⟩ = some (.bool x333005_1) := (blk_cell BK332.out 5).trans rfl
                have hfz15_0 := blk_frozen BK332.out 0
                have hfz15_1 := blk_frozen BK332.out 1
                have hfz15_2 := blk_frozen BK332.out 2
                have hfz15_3 := blk_frozen BK332.out 3
                have hfz15_4 := blk_frozen BK332.out 4
                have hfz15_5 := blk_frozen BK332.out 5
                have p13 : 0 ≤ (x9_1 : Int) := of_decide_eq_true (by first | (with_reducible assumption) | assumption)
                have q13 : (x9_1 : Int) < ((x3_1.length : Int) : Int) := of_decide_eq_true (by first | (with_reducible assumption) | assumption)
                obtain ⟨go13, co13, eo13, gb13, gl13, cl13, HG13⟩ := Kd.R_form HO_3.out (by omega)
                (first | cases eo13 | (injection eo13 with ea_ en_ ec_; (first | subst ea_ | (injection ea_ with ea_; subst ea_)); subst ec_; clear en_))
                have GB13 := Aside0.mk gb13
                have GG13 := Aside0.mk HG13
                clear gb13 gl13 HG13
                obtain ⟨ce13, hcl13, hM13, hcc13, hfr13⟩ := Kd.R_elem HO_3.out z23 (x9_1 : Int) p13 q13
                obtain rfl := k23_openM hM13
                have hx13_0 : wr.cell? ⟨go13, (x9_1 : Int).toNat * 6, none⟩ = some (.int .i64 ((rd_T23 x3_1 x9_1).f0)) := hcc13 0 _ rfl
                have hx13_1 : wr.cell? ⟨go13, (x9_1 : Int).toNat * 6 + 1, none⟩ = some (.int .i64 ((rd_T23 x3_1 x9_1).f1)) := hcc13 1 _ rfl
                have hx13_2 : wr.cell? ⟨go13, (x9_1 : Int).toNat * 6 + 2, none⟩ = some (.int .i64 ((rd_T23 x3_1 x9_1).f2)) := hcc13 2 _ rfl
                have hx13_3 : wr.cell? ⟨go13, (x9_1 : Int).toNat * 6 + 3, none⟩ = some (.int .i64 ((rd_T23 x3_1 x9_1).f3)) := hcc13 3 _ rfl
                have hx13_4 : wr.cell? ⟨go13, (x9_1 : Int).toNat * 6 + 4, none⟩ = some (.int .i64 ((rd_T23 x3_1 x9_1).f4)) := hcc13 4 _ rfl
                have hx13_5 : wr.cell? ⟨go13, (x9_1 : Int).toNat * 6 + 5, none⟩ = some (.bool ((rd_T23 x3_1 x9_1).f5)) := hcc13 5 _ rfl
                have hf13_0 : wr.frozen? ⟨go13, (x9_1 : Int).toNat * 6, none⟩ = false := hfr13 0
                have hf13_1 : wr.frozen? ⟨go13, (x9_1 : Int).toNat * 6 + 1, none⟩ = false := hfr13 1
                have hf13_2 : wr.frozen? ⟨go13, (x9_1 : Int).toNat * 6 + 2, none⟩ = false := hfr13 2
                have hf13_3 : wr.frozen? ⟨go13, (x9_1 : Int).toNat * 6 + 3, none⟩ = false := hfr13 3
                have hf13_4 : wr.frozen? ⟨go13, (x9_1 : Int).toNat * 6 + 4, none⟩ = false := hfr13 4
                have hf13_5 : wr.frozen? ⟨go13, (x9_1 : Int).toNat * 6 + 5, none⟩ = false := hfr13 5
                clear hcl13 hcc13 hfr13 hM13
                replace p13 := eq_true p13
                replace q13 := eq_true q13
                have HX16 := Aside0.mk (show Kd.R k23 23 wr w.heap.size (fun k_ => k_ ≠ gb332) (.slice (some ⟨go13, 0, none⟩) x3_1.length co13) x3_1 from (by (with_reducible repeat (first | apply Kd.R_alloc | apply Kd.R_drewN | apply Kd.R_drew)); exact HO_3.out))
                obtain ⟨ce16, hcl16, hM16, hcc16, hfr16⟩ := Kd.R_elem HX16.out z23 (x9_1 : Int) (of_decide_eq_true (by first | (with_reducible assumption) | assumption)) (by have h_ : (x9_1 : Int) < ((x3_1.length : Int) : Int) := of_decide_eq_true (by first | (with_reducible assumption) | assumption); first | exact h_ | (have e_ := (Kd.R_reads' HO_3.out).1; omega) | simpa using h_)
                obtain rfl := k23_openM hM16
                have HP16 := Kd.R_seg HX16.out (x9_1 : Int) (of_decide_eq_true (by first | (with_reducible assumption) | assumption)) (by have h_ : (x9_1 : Int) < ((x3_1.length : Int) : Int) := of_decide_eq_true (by first | (with_reducible assumption) | assumption); first | exact h_ | (have e_ := (Kd.R_reads' HO_3.out).1; omega) | simpa using h_) (seg := [.int .i64 x333000_1, .int .i64 x333001_1, .int .i64 x333002_1, .int .i64 x333003_1, .int .i64 x333004_1, .bool x333005_1]) (j := 0) hcl16 hcc16 (show 6 ≤ 6 from by decide) (x' := (⟨x333000_1, x333001_1, x333002_1, x333003_1, x333004_1, x333005_1⟩ : S23)) (k23_mkM _ _ _ (⟨x333000_1, x333001_1, x333002_1, x333003_1, x333004_1, x333005_1⟩ : S23) ) (fun _ hk => hk)
                have hx16_0 := hcc16 0 _ rfl
                (try simp only [show (k23).sz = 6 from rfl, Nat.mul_one, Nat.add_zero] at hx16_0)
                have hf16_0 := hfr16 0
                (try simp only [show (k23).sz = 6 from rfl, Nat.mul_one, Nat.add_zero] at hf16_0)
                have hx16_1 := hcc16 1 _ rfl
                (try simp only [show (k23).sz = 6 from rfl, Nat.mul_one, Nat.add_zero] at hx16_1)
                have hf16_1 := hfr16 1
                (try simp only [show (k23).sz = 6 from rfl, Nat.mul_one, Nat.add_zero] at hf16_1)
                have hx16_2 := hcc16 2 _ rfl
                (try simp only [show (k23).sz = 6 from rfl, Nat.mul_one, Nat.add_zero] at hx16_2)
                have hf16_2 := hfr16 2
                (try simp only [show (k23).sz = 6 from rfl, Nat.mul_one, Nat.add_zero] at hf16_2)
                have hx16_3 := hcc16 3 _ rfl
                (try simp only [show (k23).sz = 6 from rfl, Nat.mul_one, Nat.add_zero] at hx16_3)
                have hf16_3 := hfr16 3
                (try simp only [show (k23).sz = 6 from rfl, Nat.mul_one, Nat.add_zero] at hf16_3)
                have hx16_4 := hcc16 4 _ rfl
                (try simp only [show (k23).sz = 6 from rfl, Nat.mul_one, Nat.add_zero] at hx16_4)
                have hf16_4 := hfr16 4
                (try simp only [show (k23).sz = 6 from rfl, Nat.mul_one, Nat.add_zero] at hf16_4)
                have hx16_5 := hcc16 5 _ rfl
                (try simp only [show (k23).sz = 6 from rfl, Nat.mul_one, Nat.add_zero] at hx16_5)
                have hf16_5 := hfr16 5
                (try simp only [show (k23).sz = 6 from rfl, Nat.mul_one, Nat.add_zero] at hf16_5)
                clear hcl16 hcc16 hfr16 hM16
                go_wp2_with (first | ((with_reducible refine gate_store (t := 23) (p := 17) rfl ?_); refine store_event (t := 23) (p := 17) (v := ?vo_w17) (w1 := ((((((wr.setCell ⟨go13, (x9_1 : Int).toNat * 6, none⟩ (.int .i64 x333000_1)).setCell ⟨go13, (x9_1 : Int).toNat * 6 + 1, none⟩ (.int .i64 x333001_1)).setCell ⟨go13, (x9_1 : Int).toNat * 6 + 2, none⟩ (.int .i64 x333002_1)).setCell ⟨go13, (x9_1 : Int).toNat * 6 + 3, none⟩ (.int .i64 x333003_1)).setCell ⟨go13, (x9_1 : Int).toNat * 6 + 4, none⟩ (.int .i64 x333004_1)).setCell ⟨go13, (x9_1 : Int).toNat * 6 + 5, none⟩ (.bool x333005_1))) ?hg ?ho ?hn ?hr ?_; (case ho => rfl); (case hg => rfl); (case hn => rfl); (case hr => first | (go_simp; done) | (go_simp; rfl)); intro w17 hw; have hg : wr.grownBy w17 (some go13) := (by rw [hw]; exact HP16.2); have hp_ : Kd.R k23 23 w17 w.heap.size (fun k_ => k_ ≠ gb332) (.slice (some ⟨go13, 0, none⟩) x3_1.length co13) y340 := (by rw [hw, Ny340.out]; exact HP16.1); clear HP16; have n0_ := Aside0.mk (hp_); have n1_ := Aside0.mk (Kd.R_over' (v := (.slice (some ⟨go13, 0, none⟩) x3_1.length co13)) (by (with_reducible repeat (first | apply Kd.R_alloc | apply Kd.R_drewN | apply Kd.R_drew)); exact HO_7.out) (Kd.R_typed HO_3.out) (by decide) hg); have n2_ := Aside0.mk (blk_grown (g := gb332) (o := .cells #[.int .i64 x333000_1, .int .i64 x333001_1, .int .i64 x333002_1, .int .i64 x333003_1, .int .i64 x333004_1, .bool x333005_1] 23 (0, 0)) (by (with_reducible repeat (first | refine blk_drewN ?_ _ | refine blk_drew ?_ | refine blk_alloc ?_ _)); exact BK332.out) hg (Kd.R_away HO_3.out (fun _ hk => hk))); have n3_ := Aside0.mk ((by rw [hw]; exact below_set (below_set (below_set (below_set (below_set (below_set (HB.out) GB13.out) GB13.out) GB13.out) GB13.out) GB13.out) GB13.out : Below w.heap.size w w17)); clear HO_3; clear HO_7; clear BK332; clear HB; have HO_3 := n0_; have HO_7 := n1_; have BK332 := n2_; have HB := n3_; clear n0_ n1_ n2_ n3_; clear hg hw hp_; have p14 : 0 ≤ (x9_1 : Int) := of_decide_eq_true (by first | (with_reducible assumption) | assumption); have q14 : (x9_1 : Int) < ((x3_1.length : Int) : Int) := of_decide_eq_true (by first | (with_reducible assumption) | assumption); obtain ⟨ce14, hcl14, hM14, hcc14, hfr14⟩ := Kd.R_elem HO_3.out z23 (x9_1 : Int) p14 q14; obtain rfl := k23_openM hM14; have hx14_0 : w17.cell? ⟨go13, (x9_1 : Int).toNat * 6, none⟩ = some (.int .i64 ((rd_T23 y340 x9_1).f0)) := hcc14 0 _ rfl; have hx14_1 : w17.cell? ⟨go13, (x9_1 : Int).toNat * 6 + 1, none⟩ = some (.int .i64 ((rd_T23 y340 x9_1).f1)) := hcc14 1 _ rfl; have hx14_2 : w17.cell? ⟨go13, (x9_1 : Int).toNat * 6 + 2, none⟩ = some (.int .i64 ((rd_T23 y340 x9_1).f2)) := hcc14 2 _ rfl; have hx14_3 : w17.cell? ⟨go13, (x9_1 : Int).toNat * 6 + 3, none⟩ = some (.int .i64 ((rd_T23 y340 x9_1).f3)) := hcc14 3 _ rfl; have hx14_4 : w17.cell? ⟨go13, (x9_1 : Int).toNat * 6 + 4, none⟩ = some (.int .i64 ((rd_T23 y340 x9_1).f4)) := hcc14 4 _ rfl; have hx14_5 : w17.cell? ⟨go13, (x9_1 : Int).toNat * 6 + 5, none⟩ = some (.bool ((rd_T23 y340 x9_1).f5)) := hcc14 5 _ rfl; have hf14_0 : w17.frozen? ⟨go13, (x9_1 : Int).toNat * 6, none⟩ = false := hfr14 0; have hf14_1 : w17.frozen? ⟨go13, (x9_1 : Int).toNat * 6 + 1, none⟩ = false := hfr14 1; have hf14_2 : w17.frozen? ⟨go13, (x9_1 : Int).toNat * 6 + 2, none⟩ = false := hfr14 2; have hf14_3 : w17.frozen? ⟨go13, (x9_1 : Int).toNat * 6 + 3, none⟩ = false := hfr14 3; have hf14_4 : w17.frozen? ⟨go13, (x9_1 : Int).toNat * 6 + 4, none⟩ = false := hfr14 4; have hf14_5 : w17.frozen? ⟨go13, (x9_1 : Int).toNat * 6 + 5, none⟩ = false := hfr14 5; clear hcl14 hcc14 hfr14 hM14; replace p14 := eq_true p14; replace q14 := eq_true q14; have HX18 := Aside0.mk (show Kd.R k23 23 w17 w.heap.size (fun k_ => k_ ≠ gb332) (.slice (some ⟨go13, 0, none⟩) x3_1.length co13) y340 from (by (with_reducible repeat (first | apply Kd.R_alloc | apply Kd.R_drewN | apply Kd.R_drew)); exact HO_3.out)); obtain ⟨ce18, hcl18, hM18, hcc18, hfr18⟩ := Kd.R_elem HX18.out z23 (x9_1 : Int) (of_decide_eq_true (by first | (with_reducible assumption) | assumption)) (by have h_ : (x9_1 : Int) < ((x3_1.length : Int) : Int) := of_decide_eq_true (by first | (with_reducible assumption) | assumption); first | exact h_ | (have e_ := (Kd.R_reads' HO_3.out).1; omega) | simpa using h_); obtain rfl := k23_openM hM18; have HP18 := Kd.R_seg HX18.out (x9_1 : Int) (of_decide_eq_true (by first | (with_reducible assumption) | assumption)) (by have h_ : (x9_1 : Int) < ((x3_1.length : Int) : Int) := of_decide_eq_true (by first | (with_reducible assumption) | assumption); first | exact h_ | (have e_ := (Kd.R_reads' HO_3.out).1; omega) | simpa using h_) (seg := [.int .i64 (rd y336 x9_1)]) (j := 2) hcl18 hcc18 (show 3 ≤ 6 from by decide) (x' := (⟨(rd_T23 y340 x9_1).f0, (rd_T23 y340 x9_1).f1, rd y336 x9_1, (rd_T23 y340 x9_1).f3, (rd_T23 y340 x9_1).f4, (rd_T23 y340 x9_1).f5⟩ : S23)) (k23_mkM _ _ _ (⟨(rd_T23 y340 x9_1).f0, (rd_T23 y340 x9_1).f1, rd y336 x9_1, (rd_T23 y340 x9_1).f3, (rd_T23 y340 x9_1).f4, (rd_T23 y340 x9_1).f5⟩ : S23) ) (fun _ hk => hk); have hx18_2 := hcc18 2 _ rfl; (try simp only [show (k23).sz = 6 from rfl, Nat.mul_one, Nat.add_zero] at hx18_2); have hf18_2 := hfr18 2; (try simp only [show (k23).sz = 6 from rfl, Nat.mul_one, Nat.add_zero] at hf18_2); clear hcl18 hcc18 hfr18 hM18) | ((with_reducible refine gate_store (t := 3) (p := 22) rfl ?_); refine store_event (t := 3) (p := 22) (v := ?vo_w19) (w1 := (w17.setCell ⟨go13, (x9_1 : Int).toNat * 6 + 2, none⟩ (.int .i64 (rd y336 x9_1)))) ?hg ?ho ?hn ?hr ?_; (case ho => rfl); (case hg => rfl); (case hn => rfl); (case hr => first | (go_simp; done) | (go_simp; rfl)); intro w19 hw; have hg : w17.grownBy w19 (some go13) := (by rw [hw]; exact HP18.2); have hp_ : Kd.R k23 23 w19 w.heap.size (fun k_ => k_ ≠ gb332) (.slice (some ⟨go13, 0, none⟩) x3_1.length co13) y341 := (by rw [hw, Ny341.out]; exact HP18.1); clear HP18; have n0_ := Aside0.mk (hp_); have n1_ := Aside0.mk (Kd.R_over' (v := (.slice (some ⟨go13, 0, none⟩) x3_1.length co13)) (by (with_reducible repeat (first | apply Kd.R_alloc | apply Kd.R_drewN | apply Kd.R_drew)); exact HO_7.out) (Kd.R_typed HO_3.out) (by decide) hg); have n2_ := Aside0.mk (blk_grown (g := gb332) (o := .cells #[.int .i64 x333000_1, .int .i64 x333001_1, .int .i64 x333002_1, .int .i64 x333003_1, .int .i64 x333004_1, .bool x333005_1] 23 (0, 0)) (by (with_reducible repeat (first | refine blk_drewN ?_ _ | refine blk_drew ?_ | refine blk_alloc ?_ _)); exact BK332.out) hg (Kd.R_away HO_3.out (fun _ hk => hk))); have n3_ := Aside0.mk ((by rw [hw]; exact below_set (HB.out) GB13.out : Below w.heap.size w w19)); clear HO_3; clear HO_7; clear BK332; clear HB; have HO_3 := n0_; have HO_7 := n1_; have BK332 := n2_; have HB := n3_; clear n0_ n1_ n2_ n3_; clear hg hw hp_))
                go_roundg k1
                case measure => have := HK1.out; omega
                case rel => exact ⟨(y341), (wrap64 (x9_1 + 1)), (x333000_1), (x333001_1), (x333002_1), (x333003_1), (x333004_1), (x333005_1), (by first | rfl | (simp; done) | (simp [*]; done)), H', ⟨by have := HK1.out; omega⟩, ⟨by (with_reducible repeat (first | apply Kd.R_alloc | apply Kd.R_drewN | apply Kd.R_drew)); exact HO_3.out⟩, ⟨by (with_reducible repeat (first | apply Kd.R_alloc | apply Kd.R_drewN | apply Kd.R_drew)); exact HO_7.out⟩, ⟨by (with_reducible repeat (first | refine blk_drewN ?_ _ | refine blk_drew ?_ | refine blk_alloc ?_ _)); exact BK332.out⟩, ⟨by repeat (first | (with_reducible first | exact HB.out | apply below_alloc | apply pw_below_drewN | apply below_drew1 | refine below_set ?_ GE332.out) | exact HB.out)⟩⟩
              · rw [if_neg c12] at H
                exact absurd H (by simp)
            · rw [if_neg c11] at H
              exact absurd H (by simp)
          · rw [if_neg c10] at H
            exact absurd H (by simp)
        · rw [if_neg c9] at H
          have c9b0 : decide (x9_1 < (y336.length : Int)) = false := decide_eq_false c9
          clear c9
          obtain rfl := Option.some.inj H
          go_wp2
          go_ret
          exact ⟨_, by first | rfl | (simp [errW_none, errW_some] <;> rfl) | (simp [*, errW_none, errW_some] <;> rfl), by (with_reducible repeat (first | apply Kd.R_alloc | apply Kd.R_drewN | apply Kd.R_drew)); exact Kd.R_mono HO_3.out (fun _ hk => trivial), by repeat (first | (with_reducible first | exact HB.out | apply below_alloc | apply pw_below_drewN | apply below_drew1 | refine below_set ?_ GE332.out) | exact HB.out)⟩
  · rw [if_neg c2] at H
    exact absurd H (by simp)

end Go.Proofs.Ytbpanbmjkfhcgaa.P
