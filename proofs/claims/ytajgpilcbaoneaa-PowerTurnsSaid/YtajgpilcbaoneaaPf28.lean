-- Printed for this claim by drive.py (a program of this session's) through the kit's print program; not trusted: Lean checks it.
import Derived.Test.YtajgpilcbaoneaaP0
import Derived.Test.YtajgpilcbaoneaaPg2
namespace Go.Proofs.Ytajgpilcbaoneaa.P
open Go.RowKit Go.Proofs.YtajgpilcbaoneaaW.PrintWords Go.Proofs.YtajgpilcbaoneaaW.PrintLast Go.Proofs.YtajgpilcbaoneaaW.PrintMore
attribute [local go_sem] max2_int min2_int max_two min_two max_three min_three max_four min_four   -- for this text's walks alone
set_option linter.unusedVariables false
set_option linter.unusedSimpArgs false

/-! ### headroomref20_Total: function 28 -/
def headroomref20_Total.l0 : Nat → List Int → Int → Int → Int → Int → Option (Int × Int)
  | 0, _, _, _, _, _ => none
  | k + 1, x9, x10, x11, x281000, x281001 => if x11 < x10 then (if 0 ≤ x11 then (if x11 < (x9.length : Int) then (if (IntKind.u64.wrap (x281001 + (rd x9 x11))) < x281001 then (headroomref20_Total.l0 k x9 x10 (wrap64 (x11 + 1)) (IntKind.u64.wrap (x281000 + 1)) (IntKind.u64.wrap (x281001 + (rd x9 x11)))) else (headroomref20_Total.l0 k x9 x10 (wrap64 (x11 + 1)) x281000 (IntKind.u64.wrap (x281001 + (rd x9 x11))))) else (none)) else (none)) else (some (x281000, x281001))
def headroomref20_Total.f (k : Nat) (l0 : List (S45)) : Option (Int × Int) := (headroomref20_Spectrum.f k l0).bind fun t281 => (headroomref20_Total.l0 k t281 (t281.length : Int) 0 0 0)
theorem headroomref20_Total.mono_l : ∀ k, (∀ y0 y1 y2 y3 y4, LeO (headroomref20_Total.l0 k y0 y1 y2 y3 y4) (headroomref20_Total.l0 (k + 1) y0 y1 y2 y3 y4))
  | 0 => fun _ _ _ _ _ r h => by simp [headroomref20_Total.l0] at h
  | k + 1 => by
    have ih0 := headroomref20_Total.mono_l k
    · intro y0 y1 y2 y3 y4
      unfold headroomref20_Total.l0
      repeat' first
      | (with_reducible exact ih0 _ _ _ _ _)
      | (with_reducible exact headroomref20_Spectrum.mono _ _)
      | (with_reducible exact LeO.refl _)
      | (with_reducible exact LeO.none _)
      | (with_reducible refine LeO.ite ?_ ?_)
      | (with_reducible refine LeO.bind ?_ (fun _ => ?_))
      | exact ih0 _ _ _ _ _
      | exact headroomref20_Spectrum.mono _ _
      | exact LeO.none _
      | refine LeO.ite ?_ ?_
      | refine LeO.bind ?_ (fun _ => ?_)
theorem headroomref20_Total.mono : ∀ a0 k, LeO (headroomref20_Total.f k a0) (headroomref20_Total.f (k + 1) a0) := by
  intro a0 k
  have ih0 := headroomref20_Total.mono_l k
  unfold headroomref20_Total.f
  repeat' first
      | (with_reducible exact ih0 _ _ _ _ _)
      | (with_reducible exact headroomref20_Spectrum.mono _ _)
      | (with_reducible exact LeO.refl _)
      | (with_reducible exact LeO.none _)
      | (with_reducible refine LeO.ite ?_ ?_)
      | (with_reducible refine LeO.bind ?_ (fun _ => ?_))
      | exact ih0 _ _ _ _ _
      | exact headroomref20_Spectrum.mono _ _
      | exact LeO.none _
      | refine LeO.ite ?_ ?_
      | refine LeO.bind ?_ (fun _ => ?_)
set_option maxHeartbeats 8000000 in
set_option maxRecDepth 100000 in
theorem headroomref20_Total.calls (k : Nat) (A0 : Option Addr) (c0 : Nat) (l0 : List (S45)) (r1 : Int) (r2 : Int) (w : World) (hr0 : Kd.C k45 w A0 l0.length l0) (hc0 : l0.length ≤ c0) (h : headroomref20_Total.f k l0 = some (r1, r2)) :
    Calls Try.prog 28 #[.slice A0 l0.length c0] w fun e w' => e = .returned (.agg #[.int .u64 r1, .int .u64 r2]) ∧ Below w.heap.size w w' := by
  have hu53 := Try.underlying53
  have HR0 := Aside0.mk hr0
  have HC0 := Aside0.mk hc0
  clear hr0 hc0
  have HB := Aside0.mk (Below.refl w.heap.size w)
  have H : ((headroomref20_Spectrum.f k l0).bind fun t281 => (headroomref20_Total.l0 k t281 (t281.length : Int) 0 0 0)) = some (r1, r2) := h
  clear h
  replace H := Option.bind_eq_some_iff.mp H
  obtain ⟨t281, A20, H⟩ := H
  replace H : (headroomref20_Total.l0 k t281 (t281.length : Int) 0 0 0) = some (r1, r2) := H
  have A2 := Aside0.mk A20
  clear A20
  have H' := Aside0.mk H
  clear H
  go_enter Try.func28, Try.ntmps28
  go_wp2_with (first | ((with_reducible refine gate_dst (N := 2) rfl ?_); refine box_event ?hg (N := 2) ?hd (cs := #[.int .u64 0, .int .u64 0]) (t := 53) ?hr ?_; (case hd => rfl); (case hg => rfl); (case hr => first | (go_simp; done) | (go_simp; rfl)); intro gb279 hg w3 hbox hb; have n0_ := Aside0.mk (below_step (by repeat (first | (with_reducible first | exact HB.out | apply below_alloc | apply pw_below_drewN | apply below_drew1) | exact HB.out)) hb); have n1_ := Aside0.mk (hbox); have n2_ := Aside0.mk ((by rw [hg]; exact (below_size (by repeat (first | (with_reducible first | exact HB.out | apply below_alloc | apply pw_below_drewN | apply below_drew1) | exact HB.out))) : w.heap.size ≤ gb279)); have n3_ := Aside0.mk ((by rw [hg]; exact (below_size (by repeat (first | (with_reducible first | exact HB.out | apply below_alloc | apply pw_below_drewN | apply below_drew1) | exact HB.out))) : w.heap.size ≤ gb279)); clear HB; have HB := n0_; have BK279 := n1_; have GW279 := n2_; have GE279 := n3_; clear n0_ n1_ n2_ n3_; clear hb hbox hg) | ((with_reducible refine gate_dst (N := 3) rfl ?_); refine box_event ?hg (N := 3) ?hd (cs := #[.int .u64 0, .int .u64 0]) (t := 53) ?hr ?_; (case hd => rfl); (case hg => rfl); (case hr => first | (go_simp; done) | (go_simp; rfl)); intro gb280 hg w4 hbox hb; have n0_ := Aside0.mk (blk_below (g := gb279) (o := .cells #[.int .u64 0, .int .u64 0] 53 (0, 0)) (by (with_reducible repeat (first | refine blk_drewN ?_ _ | refine blk_drew ?_ | refine blk_alloc ?_ _)); exact BK279.out) hb); have n1_ := Aside0.mk (below_step (by repeat (first | (with_reducible first | exact HB.out | apply below_alloc | apply pw_below_drewN | apply below_drew1 | refine below_set ?_ GE279.out) | exact HB.out)) hb); have n2_ := Aside0.mk (hbox); have n3_ := Aside0.mk ((by rw [hg]; exact (below_size (by repeat (first | (with_reducible first | exact HB.out | apply below_alloc | apply pw_below_drewN | apply below_drew1 | refine below_set ?_ GE279.out) | exact HB.out))) : w.heap.size ≤ gb280)); have n4_ := Aside0.mk ((by rw [hg]; exact (below_size (by repeat (first | (with_reducible first | exact HB.out | apply below_alloc | apply pw_below_drewN | apply below_drew1 | refine below_set ?_ GE279.out) | exact HB.out))) : w.heap.size ≤ gb280)); have n5_ := Aside0.mk ((by rw [hg]; exact Nat.ne_of_lt (blk_lt (g := gb279) (o := .cells #[.int .u64 0, .int .u64 0] 53 (0, 0)) (by (with_reducible repeat (first | refine blk_drewN ?_ _ | refine blk_drew ?_ | refine blk_alloc ?_ _)); exact BK279.out)) : gb279 ≠ gb280)); have n6_ := Aside0.mk ((by rw [hg]; exact Nat.ne_of_gt (blk_lt (g := gb279) (o := .cells #[.int .u64 0, .int .u64 0] 53 (0, 0)) (by (with_reducible repeat (first | refine blk_drewN ?_ _ | refine blk_drew ?_ | refine blk_alloc ?_ _)); exact BK279.out)) : gb280 ≠ gb279)); clear BK279; clear HB; have BK279 := n0_; have HB := n1_; have BK280 := n2_; have GW280 := n3_; have GE280 := n4_; have NB279_280 := n5_; have NB280_279 := n6_; clear n0_ n1_ n2_ n3_ n4_ n5_ n6_; clear hb hbox hg; have hnb5 := NB280_279.out; have hnc5 := NB279_280.out; have hcz6_0 : w4.cell? ⟨gb280, 0, none⟩ = some (.int .u64 0) := (blk_cell BK280.out 0).trans rfl; have hcz6_1 : w4.cell? ⟨gb280, 1, none⟩ = some (.int .u64 0) := (blk_cell BK280.out 1).trans rfl; have hfz6_0 := blk_frozen BK280.out 0; have hfz6_1 := blk_frozen BK280.out 1) | ((with_reducible refine gate_callee (f := 30) rfl ?_); refine goesL_ (some 9) rfl rfl Try.func30 (by kernel_rfl) rfl #[.slice A0 l0.length c0] rfl (by (try simp only [List.map_toArray, List.map_cons, List.map_nil]); first | done | rfl | (simp only [List.length_drop, List.length_take]; rfl)) ?_; (with_reducible refine (headroomref20_Spectrum.calls k _ _ l0 t281 _ ?side1 ?side2 A2.out).mono ?_); (case side1 => exact Kd.C_below HR0.out (by repeat (first | (with_reducible first | exact HB.out | apply below_alloc | apply pw_below_drewN | apply below_drew1 | refine below_set ?_ GE279.out | refine below_set ?_ GE280.out) | exact HB.out))); (case side2 => exact HC0.out); rintro e w7 ⟨v282, rfl, ho0, hb⟩; refine ⟨_, rfl, ?_⟩; have n0_ := Aside0.mk (Kd.R_lower ho0 (below_size (by repeat (first | (with_reducible first | exact HB.out | apply below_alloc | apply pw_below_drewN | apply below_drew1 | refine below_set ?_ GE279.out | refine below_set ?_ GE280.out) | exact HB.out)))); have n1_ := Aside0.mk (blk_below (g := gb279) (o := .cells #[.int .u64 0, .int .u64 0] 53 (0, 0)) (by (with_reducible repeat (first | refine blk_drewN ?_ _ | refine blk_drew ?_ | refine blk_alloc ?_ _)); refine blk_far ?_ NB279_280.out _; (with_reducible repeat (first | refine blk_drewN ?_ _ | refine blk_drew ?_ | refine blk_alloc ?_ _)); refine blk_far ?_ NB279_280.out _; (with_reducible repeat (first | refine blk_drewN ?_ _ | refine blk_drew ?_ | refine blk_alloc ?_ _)); exact BK279.out) hb); have n2_ := Aside0.mk (blk_below (g := gb280) (o := .cells #[.int .u64 0, .int .u64 0] 53 (0, 0)) (by (with_reducible repeat (first | refine blk_drewN ?_ _ | refine blk_drew ?_ | refine blk_alloc ?_ _)); refine blk_put (cs := #[.int .u64 0, .int .u64 0]) ?_ 1 _ rfl; (with_reducible repeat (first | refine blk_drewN ?_ _ | refine blk_drew ?_ | refine blk_alloc ?_ _)); refine blk_put (cs := #[.int .u64 0, .int .u64 0]) ?_ 0 _ rfl; (with_reducible repeat (first | refine blk_drewN ?_ _ | refine blk_drew ?_ | refine blk_alloc ?_ _)); exact BK280.out) hb); have n3_ := Aside0.mk (below_step (by repeat (first | (with_reducible first | exact HB.out | apply below_alloc | apply pw_below_drewN | apply below_drew1 | refine below_set ?_ GE279.out | refine below_set ?_ GE280.out) | exact HB.out)) hb); clear BK279; clear BK280; clear HB; have HO283 := n0_; have BK279 := n1_; have BK280 := n2_; have HB := n3_; clear n0_ n1_ n2_ n3_; (try clear hb); (try clear hb2); (try clear hk); (try clear hi); (try clear ho0); obtain ⟨Ao8, co8, eo8⟩ := Kd.R_slice HO283.out; subst eo8))
  go_loopg [11] k (fun kq v11 w' => ∃ (x11_1 : Int) (x281000_1 : Int) (x281001_1 : Int), v11 = .int .i64 x11_1 ∧ Aside0 (headroomref20_Total.l0 kq t281 (t281.length : Int) x11_1 x281000_1 x281001_1 = some (r1, r2)) ∧ Aside0 (kq ≤ k) ∧ Aside0 (Kd.R (Kd.int .u64) 43 w' w.heap.size (fun _ => True) (.slice Ao8 t281.length co8) t281) ∧ Aside0 (w'.heap[gb279]? = some (.cells #[.int .u64 0, .int .u64 0] 53 (0, 0))) ∧ Aside0 (w'.heap[gb280]? = some (.cells #[.int .u64 x281000_1, .int .u64 x281001_1] 53 (0, 0))) ∧ Aside0 (Below w.heap.size w w'))
  case atStart => exact ⟨(0), (0), (0), (by first | rfl | (simp; done) | (simp [*]; done)), H', ⟨Nat.le_refl _⟩, ⟨by (with_reducible repeat (first | apply Kd.R_alloc | apply Kd.R_drewN | apply Kd.R_drew)); exact HO283.out⟩, ⟨by (with_reducible repeat (first | refine blk_drewN ?_ _ | refine blk_drew ?_ | refine blk_alloc ?_ _)); exact BK279.out⟩, ⟨by (with_reducible repeat (first | refine blk_drewN ?_ _ | refine blk_drew ?_ | refine blk_alloc ?_ _)); exact BK280.out⟩, ⟨by repeat (first | (with_reducible first | exact HB.out | apply below_alloc | apply pw_below_drewN | apply below_drew1 | refine below_set ?_ GE279.out | refine below_set ?_ GE280.out) | exact HB.out)⟩⟩
  case round =>
    clear H'
    try clear c2
    try clear p2
    try clear c3
    try clear c5
    try clear hcz6_0
    try clear hcz6_1
    try clear hfz6_0
    try clear hfz6_1
    obtain ⟨x11_1, x281000_1, x281001_1, rfl, HA, HK1, HO_9, BK279, BK280, HB⟩ := hrel
    cases gk with
    | zero => exact absurd HA.out (by simp [headroomref20_Total.l0])
    | succ k1 =>
      have H := HA.out
      clear HA
      simp only [headroomref20_Total.l0] at H
      by_cases c9 : x11_1 < (t281.length : Int)
      · rw [if_pos c9] at H
        have c9b0 : decide (x11_1 < (t281.length : Int)) = true := decide_eq_true c9
        clear c9
        by_cases c10 : 0 ≤ x11_1
        · rw [if_pos c10] at H
          have c10b0 : decide (0 ≤ x11_1) = true := decide_eq_true c10
          clear c10
          by_cases c11 : x11_1 < (t281.length : Int)
          · rw [if_pos c11] at H
            have c11b0 : decide (x11_1 < (t281.length : Int)) = true := decide_eq_true c11
            clear c11
            by_cases c12 : (IntKind.u64.wrap (x281001_1 + (rd t281 x11_1))) < x281001_1
            · rw [if_pos c12] at H
              have c12b0 : decide ((IntKind.u64.wrap (x281001_1 + (rd t281 x11_1))) < x281001_1) = true := decide_eq_true c12
              clear c12
              have H' := Aside0.mk H
              clear H
              have p284 : 0 ≤ (x11_1 : Int) := of_decide_eq_true (by first | (with_reducible assumption) | assumption)
              have q284 : x11_1 < (t281.length : Int) := of_decide_eq_true (by first | (with_reducible assumption) | assumption)
              obtain ⟨ad284, e284, hx284_0⟩ := Kd.at_int (Kd.R_reads' HO_9.out).2.2 x11_1 p284 q284
              cases e284
              replace p284 := eq_true p284
              replace q284 := eq_true q284
              have hnb13 := NB280_279.out
              have hnc13 := NB279_280.out
              have hcz14_0 : wr.cell? ⟨gb280, 0, none⟩ = some (.int .u64 x281000_1) := (blk_cell BK280.out 0).trans rfl
              have hcz14_1 : wr.cell? ⟨gb280, 1, none⟩ = some (.int .u64 x281001_1) := (blk_cell BK280.out 1).trans rfl
              have hfz14_0 := blk_frozen BK280.out 0
              have hfz14_1 := blk_frozen BK280.out 1
              go_wp2
              go_roundg k1
              case measure => have := HK1.out; omega
              case rel => exact ⟨(wrap64 (x11_1 + 1)), (IntKind.u64.wrap (x281000_1 + 1)), (IntKind.u64.wrap (x281001_1 + (rd t281 x11_1))), (by first | rfl | (simp; done) | (simp [*]; done)), H', ⟨by have := HK1.out; omega⟩, ⟨by (with_reducible repeat (first | apply Kd.R_alloc | apply Kd.R_drewN | apply Kd.R_drew)); exact Kd.R_mono (Kd.R_far (p := ⟨gb280, 0, none⟩) (Kd.R_far (p := ⟨gb280, 1, none⟩) (Kd.R_types HO_9.out BK280.out (by decide)) (fun _ hk => hk.2) (.int .u64 (IntKind.u64.wrap (x281001_1 + (rd t281 x11_1))))) (fun _ hk => hk.2) (.int .u64 (IntKind.u64.wrap (x281000_1 + 1)))) (fun _ hk => trivial)⟩, ⟨by (with_reducible repeat (first | refine blk_drewN ?_ _ | refine blk_drew ?_ | refine blk_alloc ?_ _)); refine blk_far ?_ NB279_280.out _; (with_reducible repeat (first | refine blk_drewN ?_ _ | refine blk_drew ?_ | refine blk_alloc ?_ _)); refine blk_far ?_ NB279_280.out _; (with_reducible repeat (first | refine blk_drewN ?_ _ | refine blk_drew ?_ | refine blk_alloc ?_ _)); exact BK279.out⟩, ⟨by (with_reducible repeat (first | refine blk_drewN ?_ _ | refine blk_drew ?_ | refine blk_alloc ?_ _)); refine blk_put (cs := #[.int .u64 x281000_1, .int .u64 (IntKind.u64.wrap (x281001_1 + (rd t281 x11_1)))]) ?_ 0 _ rfl; (with_reducible repeat (first | refine blk_drewN ?_ _ | refine blk_drew ?_ | refine blk_alloc ?_ _)); refine blk_put (cs := #[.int .u64 x281000_1, .int .u64 x281001_1]) ?_ 1 _ rfl; (with_reducible repeat (first | refine blk_drewN ?_ _ | refine blk_drew ?_ | refine blk_alloc ?_ _)); exact BK280.out⟩, ⟨by repeat (first | (with_reducible first | exact HB.out | apply below_alloc | apply pw_below_drewN | apply below_drew1 | refine below_set ?_ GE279.out | refine below_set ?_ GE280.out) | exact HB.out)⟩⟩
            · rw [if_neg c12] at H
              have c12b0 : decide ((IntKind.u64.wrap (x281001_1 + (rd t281 x11_1))) < x281001_1) = false := decide_eq_false c12
              clear c12
              have H' := Aside0.mk H
              clear H
              have p284 : 0 ≤ (x11_1 : Int) := of_decide_eq_true (by first | (with_reducible assumption) | assumption)
              have q284 : x11_1 < (t281.length : Int) := of_decide_eq_true (by first | (with_reducible assumption) | assumption)
              obtain ⟨ad284, e284, hx284_0⟩ := Kd.at_int (Kd.R_reads' HO_9.out).2.2 x11_1 p284 q284
              cases e284
              replace p284 := eq_true p284
              replace q284 := eq_true q284
              have hnb15 := NB280_279.out
              have hnc15 := NB279_280.out
              have hcz16_0 : wr.cell? ⟨gb280, 0, none⟩ = some (.int .u64 x281000_1) := (blk_cell BK280.out 0).trans rfl
              have hcz16_1 : wr.cell? ⟨gb280, 1, none⟩ = some (.int .u64 x281001_1) := (blk_cell BK280.out 1).trans rfl
              have hfz16_0 := blk_frozen BK280.out 0
              have hfz16_1 := blk_frozen BK280.out 1
              go_wp2
              go_roundg k1
              case measure => have := HK1.out; omega
              case rel => exact ⟨(wrap64 (x11_1 + 1)), (x281000_1), (IntKind.u64.wrap (x281001_1 + (rd t281 x11_1))), (by first | rfl | (simp; done) | (simp [*]; done)), H', ⟨by have := HK1.out; omega⟩, ⟨by (with_reducible repeat (first | apply Kd.R_alloc | apply Kd.R_drewN | apply Kd.R_drew)); exact Kd.R_mono (Kd.R_far (p := ⟨gb280, 1, none⟩) (Kd.R_types HO_9.out BK280.out (by decide)) (fun _ hk => hk.2) (.int .u64 (IntKind.u64.wrap (x281001_1 + (rd t281 x11_1))))) (fun _ hk => trivial)⟩, ⟨by (with_reducible repeat (first | refine blk_drewN ?_ _ | refine blk_drew ?_ | refine blk_alloc ?_ _)); refine blk_far ?_ NB279_280.out _; (with_reducible repeat (first | refine blk_drewN ?_ _ | refine blk_drew ?_ | refine blk_alloc ?_ _)); exact BK279.out⟩, ⟨by (with_reducible repeat (first | refine blk_drewN ?_ _ | refine blk_drew ?_ | refine blk_alloc ?_ _)); refine blk_put (cs := #[.int .u64 x281000_1, .int .u64 x281001_1]) ?_ 1 _ rfl; (with_reducible repeat (first | refine blk_drewN ?_ _ | refine blk_drew ?_ | refine blk_alloc ?_ _)); exact BK280.out⟩, ⟨by repeat (first | (with_reducible first | exact HB.out | apply below_alloc | apply pw_below_drewN | apply below_drew1 | refine below_set ?_ GE279.out | refine below_set ?_ GE280.out) | exact HB.out)⟩⟩
          · rw [if_neg c11] at H
            exact absurd H (by simp)
        · rw [if_neg c10] at H
          exact absurd H (by simp)
      · rw [if_neg c9] at H
        have c9b0 : decide (x11_1 < (t281.length : Int)) = false := decide_eq_false c9
        clear c9
        simp only [Option.some.injEq, Prod.mk.injEq] at H
        obtain ⟨rfl, rfl⟩ := H
        have hnb17 := NB280_279.out
        have hnc17 := NB279_280.out
        have hcz18_0 : wr.cell? ⟨gb280, 0, none⟩ = some (.int .u64 x281000_1) := (blk_cell BK280.out 0).trans rfl
        have hcz18_1 : wr.cell? ⟨gb280, 1, none⟩ = some (.int .u64 x281001_1) := (blk_cell BK280.out 1).trans rfl
        have hfz18_0 := blk_frozen BK280.out 0
        have hfz18_1 := blk_frozen BK280.out 1
        have hcz19_0 : wr.cell? ⟨gb279, 0, none⟩ = some (.int .u64 0) := (blk_cell BK279.out 0).trans rfl
        have hcz19_1 : wr.cell? ⟨gb279, 1, none⟩ = some (.int .u64 0) := (blk_cell BK279.out 1).trans rfl
        have hfz19_0 := blk_frozen BK279.out 0
        have hfz19_1 := blk_frozen BK279.out 1
        go_wp2
        refine bodyPost_ret (results_cell_row rfl _ _ gb279 53 #[.int .u64 x281000_1, .int .u64 x281001_1] (0, 0) _ rfl (by (with_reducible repeat (first | refine blk_drewN ?_ _ | refine blk_drew ?_ | refine blk_alloc ?_ _)); refine blk_put (cs := #[.int .u64 x281000_1, .int .u64 0]) ?_ 1 _ rfl; (with_reducible repeat (first | refine blk_drewN ?_ _ | refine blk_drew ?_ | refine blk_alloc ?_ _)); refine blk_put (cs := #[.int .u64 0, .int .u64 0]) ?_ 0 _ rfl; (with_reducible repeat (first | refine blk_drewN ?_ _ | refine blk_drew ?_ | refine blk_alloc ?_ _)); exact BK279.out) Try.underlying53 rfl (by kernel_rfl)) rfl ?_
        exact ⟨by first | rfl | (simp [errW_none, errW_some] <;> rfl) | (simp [*, errW_none, errW_some] <;> rfl), by repeat (first | (with_reducible first | exact HB.out | apply below_alloc | apply pw_below_drewN | apply below_drew1 | refine below_set ?_ GE279.out | refine below_set ?_ GE280.out) | exact HB.out)⟩

end Go.Proofs.Ytajgpilcbaoneaa.P
