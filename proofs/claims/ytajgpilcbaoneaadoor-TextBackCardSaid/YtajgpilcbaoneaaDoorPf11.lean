-- Printed for this claim by drive.py (a program of this session's) through the kit's print program; not trusted: Lean checks it.
import Derived.Test.YtajgpilcbaoneaaDoorP0
namespace Go.Proofs.YtajgpilcbaoneaaDoor.P
open Go.RowKit Go.Proofs.YtajgpilcbaoneaaDoorW.PrintWords Go.Proofs.YtajgpilcbaoneaaDoorW.PrintLast Go.Proofs.YtajgpilcbaoneaaDoorW.PrintMore
attribute [local go_sem] max2_int min2_int max_two min_two max_three min_three max_four min_four   -- for this text's walks alone
set_option linter.unusedVariables false
set_option linter.unusedSimpArgs false

/-! ### headroomref24_Words: function 11 -/
def headroomref24_Words.l0 : Nat → ByteArray → Int → List ByteArray → List Int → Option (List ByteArray × List Int)
  | 0, _, _, _, _ => none
  | k + 1, x0, x4, x123000, x123001 => if x4 < (x0.size : Int) then (if 0 ≤ x4 then (if (bt x0 x4) = 32 then (headroomref24_Words.l0 k x0 (wrap64 (x4 + 1)) x123000 x123001) else (if x4 = 0 then (if x123000.length < 8796093022208 then ((some (x123000 ++ [(⟨#[]⟩ : ByteArray)] : List ByteArray)).bind fun y123 => (if x123001.length < 17592186044416 then (if 0 ≤ (wrap64 ((y123.length : Int) - 1)) then (if (wrap64 ((y123.length : Int) - 1)) < (y123.length : Int) then (if x4 ≤ (wrap64 (x4 + 1)) then (if (wrap64 (x4 + 1)) ≤ (x0.size : Int) then (if (rdOf ByteArray.empty y123 (wrap64 ((y123.length : Int) - 1))).size + (x0.extract (x4 : Int).toNat ((wrap64 (x4 + 1)) : Int).toNat).size ≤ 9223372036854775807 then (headroomref24_Words.l0 k x0 (wrap64 (x4 + 1)) (y123.set ((wrap64 ((y123.length : Int) - 1)) : Int).toNat ((rdOf ByteArray.empty y123 (wrap64 ((y123.length : Int) - 1))) ++ (x0.extract (x4 : Int).toNat ((wrap64 (x4 + 1)) : Int).toNat))) (x123001 ++ [x4])) else (none)) else (none)) else (none)) else (none)) else (none)) else (none))) else (none)) else (if 0 ≤ (wrap64 (x4 - 1)) then (if (wrap64 (x4 - 1)) < (x0.size : Int) then (if (bt x0 (wrap64 (x4 - 1))) = 32 then (if x123000.length < 8796093022208 then ((some (x123000 ++ [(⟨#[]⟩ : ByteArray)] : List ByteArray)).bind fun y131 => (if x123001.length < 17592186044416 then (if 0 ≤ (wrap64 ((y131.length : Int) - 1)) then (if (wrap64 ((y131.length : Int) - 1)) < (y131.length : Int) then (if x4 ≤ (wrap64 (x4 + 1)) then (if (wrap64 (x4 + 1)) ≤ (x0.size : Int) then (if (rdOf ByteArray.empty y131 (wrap64 ((y131.length : Int) - 1))).size + (x0.extract (x4 : Int).toNat ((wrap64 (x4 + 1)) : Int).toNat).size ≤ 9223372036854775807 then (headroomref24_Words.l0 k x0 (wrap64 (x4 + 1)) (y131.set ((wrap64 ((y131.length : Int) - 1)) : Int).toNat ((rdOf ByteArray.empty y131 (wrap64 ((y131.length : Int) - 1))) ++ (x0.extract (x4 : Int).toNat ((wrap64 (x4 + 1)) : Int).toNat))) (x123001 ++ [x4])) else (none)) else (none)) else (none)) else (none)) else (none)) else (none))) else (none)) else (if 0 ≤ (wrap64 ((x123000.length : Int) - 1)) then (if (wrap64 ((x123000.length : Int) - 1)) < (x123000.length : Int) then (if x4 ≤ (wrap64 (x4 + 1)) then (if (wrap64 (x4 + 1)) ≤ (x0.size : Int) then (if (rdOf ByteArray.empty x123000 (wrap64 ((x123000.length : Int) - 1))).size + (x0.extract (x4 : Int).toNat ((wrap64 (x4 + 1)) : Int).toNat).size ≤ 9223372036854775807 then (headroomref24_Words.l0 k x0 (wrap64 (x4 + 1)) (x123000.set ((wrap64 ((x123000.length : Int) - 1)) : Int).toNat ((rdOf ByteArray.empty x123000 (wrap64 ((x123000.length : Int) - 1))) ++ (x0.extract (x4 : Int).toNat ((wrap64 (x4 + 1)) : Int).toNat))) x123001) else (none)) else (none)) else (none)) else (none)) else (none))) else (none)) else (none)))) else (none)) else (some (x123000, x123001))
def headroomref24_Words.f (k : Nat) (a0 : ByteArray) : Option (List ByteArray × List Int) := headroomref24_Words.l0 k a0 0 ([] : List ByteArray) ([] : List Int)
theorem headroomref24_Words.mono_l : ∀ k, (∀ y0 y1 y2 y3, LeO (headroomref24_Words.l0 k y0 y1 y2 y3) (headroomref24_Words.l0 (k + 1) y0 y1 y2 y3))
  | 0 => fun _ _ _ _ r h => by simp [headroomref24_Words.l0] at h
  | k + 1 => by
    have ih0 := headroomref24_Words.mono_l k
    · intro y0 y1 y2 y3
      unfold headroomref24_Words.l0
      repeat' first
      | (with_reducible exact ih0 _ _ _ _)
      | (with_reducible exact LeO.refl _)
      | (with_reducible exact LeO.none _)
      | (with_reducible refine LeO.ite ?_ ?_)
      | (with_reducible refine LeO.bind ?_ (fun _ => ?_))
      | exact ih0 _ _ _ _
      | exact LeO.none _
      | refine LeO.ite ?_ ?_
      | refine LeO.bind ?_ (fun _ => ?_)
theorem headroomref24_Words.mono : ∀ a0 k, LeO (headroomref24_Words.f k a0) (headroomref24_Words.f (k + 1) a0) := by
  intro a0 k
  have ih0 := headroomref24_Words.mono_l k
  unfold headroomref24_Words.f
  repeat' first
      | (with_reducible exact ih0 _ _ _ _)
      | (with_reducible exact LeO.refl _)
      | (with_reducible exact LeO.none _)
      | (with_reducible refine LeO.ite ?_ ?_)
      | (with_reducible refine LeO.bind ?_ (fun _ => ?_))
      | exact ih0 _ _ _ _
      | exact LeO.none _
      | refine LeO.ite ?_ ?_
      | refine LeO.bind ?_ (fun _ => ?_)
def headroomref24_Words.T10 : Bool × List (List Nat × List Nat) := (true, [([], []), ([0], [0]), ([], []), ([], []), ([3], [3]), ([], []), ([4, 5], [4, 5]), ([6], [6]), ([], []), ([], []), ([], []), ([10], [10]), ([8, 9, 11], [8, 9, 11]), ([7, 12], [7, 12]), ([1, 2, 0, 1, 2, 3, 4, 5, 6, 7, 8, 9, 10, 11, 12, 13], [1, 2]), ([14, 13, 0, 1, 2, 3, 4, 5, 6, 7, 8, 9, 10, 11, 12, 13], [13, 14])])
def headroomref24_Words.B10 : List Nat := [0, 1, 0, 0, 8, 0, 56, 120, 0, 0, 0, 1024, 3840, 8184, 16383, 32767]
theorem headroomref24_Words.tab10 : rtab .any (opsOf Tryd.f11 10) = headroomref24_Words.T10 := by kernel_rfl
theorem headroomref24_Words.bits10 : waitsOk headroomref24_Words.T10.2 headroomref24_Words.B10 = true := by kernel_rfl
set_option maxHeartbeats 8000000 in
set_option maxRecDepth 100000 in
theorem headroomref24_Words.calls (k : Nat) (a0 : ByteArray) (r1 : List ByteArray) (r2 : List Int) (w : World) (h : headroomref24_Words.f k a0 = some (r1, r2)) :
    Calls Tryd.prog 11 #[.string a0] w fun e w' => ∃ v0_ v1_ : Value, e = .returned (.agg #[v0_, v1_]) ∧ Kd.R Kd.string 9 w' w.heap.size (fun _ => True) v0_ r1 ∧ Kd.R (Kd.int .i64) 3 w' w.heap.size (fun _ => True) v1_ r2 ∧ Below w.heap.size w w' := by
  have hu39 := Tryd.underlying39
  have HB := Aside0.mk (Below.refl w.heap.size w)
  have H : (headroomref24_Words.l0 k a0 0 ([] : List ByteArray) ([] : List Int)) = some (r1, r2) := h
  clear h
  have H' := Aside0.mk H
  clear H
  go_enter Tryd.func11, Tryd.ntmps11
  go_wp2_with (first | ((with_reducible refine gate_dst (N := 2) rfl ?_); refine box_event ?hg (N := 2) ?hd (cs := #[.slice none 0 0, .slice none 0 0]) (t := 39) ?hr ?_; (case hd => rfl); (case hg => rfl); (case hr => first | (go_simp; done) | (go_simp; rfl)); intro gb121 hg w2 hbox hb; have n0_ := Aside0.mk (below_step (by repeat (first | (with_reducible first | exact HB.out | apply below_alloc | apply pw_below_drewN | apply below_drew1) | exact HB.out)) hb); have n1_ := Aside0.mk (hbox); have n2_ := Aside0.mk ((by rw [hg]; exact (below_size (by repeat (first | (with_reducible first | exact HB.out | apply below_alloc | apply pw_below_drewN | apply below_drew1) | exact HB.out))) : w.heap.size ≤ gb121)); have n3_ := Aside0.mk ((by rw [hg]; exact (below_size (by repeat (first | (with_reducible first | exact HB.out | apply below_alloc | apply pw_below_drewN | apply below_drew1) | exact HB.out))) : w.heap.size ≤ gb121)); clear HB; have HB := n0_; have BK121 := n1_; have GW121 := n2_; have GE121 := n3_; clear n0_ n1_ n2_ n3_; clear hb hbox hg) | ((with_reducible refine gate_dst (N := 3) rfl ?_); refine box_event ?hg (N := 3) ?hd (cs := #[.slice none 0 0, .slice none 0 0]) (t := 39) ?hr ?_; (case hd => rfl); (case hg => rfl); (case hr => first | (go_simp; done) | (go_simp; rfl)); intro gb122 hg w3 hbox hb; have n0_ := Aside0.mk (blk_below (g := gb121) (o := .cells #[.slice none 0 0, .slice none 0 0] 39 (0, 0)) (by (with_reducible repeat (first | refine blk_drewN ?_ _ | refine blk_drew ?_ | refine blk_alloc ?_ _)); exact BK121.out) hb); have n1_ := Aside0.mk (below_step (by repeat (first | (with_reducible first | exact HB.out | apply below_alloc | apply pw_below_drewN | apply below_drew1 | refine below_set ?_ GE121.out) | exact HB.out)) hb); have n2_ := Aside0.mk (hbox); have n3_ := Aside0.mk ((by rw [hg]; exact (below_size (by repeat (first | (with_reducible first | exact HB.out | apply below_alloc | apply pw_below_drewN | apply below_drew1 | refine below_set ?_ GE121.out) | exact HB.out))) : w.heap.size ≤ gb122)); have n4_ := Aside0.mk ((by rw [hg]; exact (below_size (by repeat (first | (with_reducible first | exact HB.out | apply below_alloc | apply pw_below_drewN | apply below_drew1 | refine below_set ?_ GE121.out) | exact HB.out))) : w.heap.size ≤ gb122)); have n5_ := Aside0.mk ((by rw [hg]; exact Nat.ne_of_lt (blk_lt (g := gb121) (o := .cells #[.slice none 0 0, .slice none 0 0] 39 (0, 0)) (by (with_reducible repeat (first | refine blk_drewN ?_ _ | refine blk_drew ?_ | refine blk_alloc ?_ _)); exact BK121.out)) : gb121 ≠ gb122)); have n6_ := Aside0.mk ((by rw [hg]; exact Nat.ne_of_gt (blk_lt (g := gb121) (o := .cells #[.slice none 0 0, .slice none 0 0] 39 (0, 0)) (by (with_reducible repeat (first | refine blk_drewN ?_ _ | refine blk_drew ?_ | refine blk_alloc ?_ _)); exact BK121.out)) : gb122 ≠ gb121)); clear BK121; clear HB; have BK121 := n0_; have HB := n1_; have BK122 := n2_; have GW122 := n3_; have GE122 := n4_; have NB121_122 := n5_; have NB122_121 := n6_; clear n0_ n1_ n2_ n3_ n4_ n5_ n6_; clear hb hbox hg; have hnb4 := NB122_121.out; have hnc4 := NB121_122.out; have hcz5_0 : w3.cell? ⟨gb122, 0, none⟩ = some (.slice none 0 0) := (blk_cell BK122.out 0).trans rfl; have hcz5_1 : w3.cell? ⟨gb122, 1, none⟩ = some (.slice none 0 0) := (blk_cell BK122.out 1).trans rfl; have hfz5_0 := blk_frozen BK122.out 0; have hfz5_1 := blk_frozen BK122.out 1))
  go_loopg [4] k (fun kq v4 w' => ∃ (x4_1 : Int) (x123000_1 : List ByteArray) (x123001_1 : List Int) (u123000 : Value) (u123001 : Value), v4 = .int .i64 x4_1 ∧ Aside0 (headroomref24_Words.l0 kq a0 x4_1 x123000_1 x123001_1 = some (r1, r2)) ∧ Aside0 (kq ≤ k) ∧ Aside0 (Kd.R Kd.string 9 w' w.heap.size (fun _ => True) u123000 x123000_1) ∧ Aside0 (Kd.R (Kd.int .i64) 3 w' w.heap.size (fun _ => True) u123001 x123001_1) ∧ Aside0 (w'.heap[gb121]? = some (.cells #[(.slice none 0 0), (.slice none 0 0)] 39 (0, 0))) ∧ Aside0 (w'.heap[gb122]? = some (.cells #[u123000, u123001] 39 (0, 0))) ∧ Aside0 (Below w.heap.size w w'))
  case atStart => exact ⟨(0), (([] : List ByteArray)), (([] : List Int)), (.slice none 0 0), (.slice none 0 0), (by first | rfl | (simp; done) | (simp [*]; done)), H', ⟨Nat.le_refl _⟩, ⟨by first | exact Kd.R_nil _ _ _ _ _ | exact Kd.N_nil _ _ _ _ _ | exact Kd.V_nil _ _ _ _ _ | exact Kd.Q_nil _ _ _ _ _ | exact Kd.S_nil _ _ _ _ _⟩, ⟨by first | exact Kd.R_nil _ _ _ _ _ | exact Kd.N_nil _ _ _ _ _ | exact Kd.V_nil _ _ _ _ _ | exact Kd.Q_nil _ _ _ _ _ | exact Kd.S_nil _ _ _ _ _⟩, ⟨by (with_reducible repeat (first | refine blk_drewN ?_ _ | refine blk_drew ?_ | refine blk_alloc ?_ _)); refine blk_far ?_ NB121_122.out _; (with_reducible repeat (first | refine blk_drewN ?_ _ | refine blk_drew ?_ | refine blk_alloc ?_ _)); refine blk_far ?_ NB121_122.out _; (with_reducible repeat (first | refine blk_drewN ?_ _ | refine blk_drew ?_ | refine blk_alloc ?_ _)); exact BK121.out⟩, ⟨by (with_reducible repeat (first | refine blk_drewN ?_ _ | refine blk_drew ?_ | refine blk_alloc ?_ _)); refine blk_put (cs := #[.slice none 0 0, .slice none 0 0]) ?_ 1 _ rfl; (with_reducible repeat (first | refine blk_drewN ?_ _ | refine blk_drew ?_ | refine blk_alloc ?_ _)); refine blk_put (cs := #[.slice none 0 0, .slice none 0 0]) ?_ 0 _ rfl; (with_reducible repeat (first | refine blk_drewN ?_ _ | refine blk_drew ?_ | refine blk_alloc ?_ _)); exact BK122.out⟩, ⟨by repeat (first | (with_reducible first | exact HB.out | apply below_alloc | apply pw_below_drewN | apply below_drew1 | refine below_set ?_ GE121.out | refine below_set ?_ GE122.out) | exact HB.out)⟩⟩
  case round =>
    clear H'
    try clear c1
    try clear p2
    try clear c4
    try clear hcz5_0
    try clear hcz5_1
    try clear hfz5_0
    try clear hfz5_1
    obtain ⟨x4_1, x123000_1, x123001_1, u123000, u123001, rfl, HA, HK1, HO_123000, HO_123001, BK121, BK122, HB⟩ := hrel
    cases gk with
    | zero => exact absurd HA.out (by simp [headroomref24_Words.l0])
    | succ k1 =>
      have H := HA.out
      clear HA
      simp only [headroomref24_Words.l0] at H
      by_cases c6 : x4_1 < (a0.size : Int)
      · rw [if_pos c6] at H
        have c6b0 : decide (x4_1 < (a0.size : Int)) = true := decide_eq_true c6
        clear c6
        by_cases c7 : 0 ≤ x4_1
        · rw [if_pos c7] at H
          have c7b0 : decide (0 ≤ x4_1) = true := decide_eq_true c7
          clear c7
          by_cases c9 : (bt a0 x4_1) = 32
          · rw [if_pos c9] at H
            have c9b0 : ((bt a0 x4_1) == 32) = true := beq_iff_eq.mpr c9
            have c9b1 : ((bt a0 x4_1) != 32) = false := bne_eq_false_iff_eq.mpr c9
            clear c9
            have H' := Aside0.mk H
            clear H
            have p8 : 0 ≤ (x4_1 : Int) := of_decide_eq_true (by first | (with_reducible assumption) | assumption)
            have q8 : x4_1 < (a0.size : Int) := of_decide_eq_true (by first | (with_reducible assumption) | assumption)
            have hx8 := bt_at a0 x4_1
            replace p8 := eq_true p8
            replace q8 := eq_true q8
            go_wp2
            go_roundg k1
            case measure => have := HK1.out; omega
            case rel => exact ⟨(wrap64 (x4_1 + 1)), (x123000_1), (x123001_1), (u123000), (u123001), (by first | rfl | (simp; done) | (simp [*]; done)), H', ⟨by have := HK1.out; omega⟩, ⟨by (with_reducible repeat (first | apply Kd.R_alloc | apply Kd.R_drewN | apply Kd.R_drew)); exact HO_123000.out⟩, ⟨by (with_reducible repeat (first | apply Kd.R_alloc | apply Kd.R_drewN | apply Kd.R_drew)); exact HO_123001.out⟩, ⟨by (with_reducible repeat (first | refine blk_drewN ?_ _ | refine blk_drew ?_ | refine blk_alloc ?_ _)); exact BK121.out⟩, ⟨by (with_reducible repeat (first | refine blk_drewN ?_ _ | refine blk_drew ?_ | refine blk_alloc ?_ _)); exact BK122.out⟩, ⟨by repeat (first | (with_reducible first | exact HB.out | apply below_alloc | apply pw_below_drewN | apply below_drew1 | refine below_set ?_ GE121.out | refine below_set ?_ GE122.out) | exact HB.out)⟩⟩
          · rw [if_neg c9] at H
            have c9b0 : ((bt a0 x4_1) == 32) = false := beq_eq_false_iff_ne.mpr c9
            have c9b1 : ((bt a0 x4_1) != 32) = true := bne_iff_ne.mpr c9
            by_cases c10 : x4_1 = 0
            · rw [if_pos c10] at H
              have c10b0 : (x4_1 == 0) = true := beq_iff_eq.mpr c10
              have c10b1 : (x4_1 != 0) = false := bne_eq_false_iff_eq.mpr c10
              clear c10
              by_cases c11 : x123000_1.length < 8796093022208
              · rw [if_pos c11] at H
                have LMc11 := Aside0.mk c11
                clear c11
                obtain ⟨y123, hy123⟩ : ∃ y_ : List ByteArray, y_ = (x123000_1 ++ [(⟨#[]⟩ : ByteArray)]) := ⟨_, rfl⟩
                replace H : (if x123001_1.length < 17592186044416 then (if 0 ≤ (wrap64 ((y123.length : Int) - 1)) then (if (wrap64 ((y123.length : Int) - 1)) < (y123.length : Int) then (if x4_1 ≤ (wrap64 (x4_1 + 1)) then (if (wrap64 (x4_1 + 1)) ≤ (a0.size : Int) then (if (rdOf ByteArray.empty y123 (wrap64 ((y123.length : Int) - 1))).size + (a0.extract (x4_1 : Int).toNat ((wrap64 (x4_1 + 1)) : Int).toNat).size ≤ 9223372036854775807 then (headroomref24_Words.l0 k1 a0 (wrap64 (x4_1 + 1)) (y123.set ((wrap64 ((y123.length : Int) - 1)) : Int).toNat ((rdOf ByteArray.empty y123 (wrap64 ((y123.length : Int) - 1))) ++ (a0.extract (x4_1 : Int).toNat ((wrap64 (x4_1 + 1)) : Int).toNat))) (x123001_1 ++ [x4_1])) else (none)) else (none)) else (none)) else (none)) else (none)) else (none)) = some (r1, r2) := by first | (rw [hy123]; with_reducible exact H) | (have H2_ := (Option.bind_some _ _).symm.trans H; rw [hy123]; with_reducible exact H2_) | (have H2_ := (Option.bind_some _ _).symm.trans H; with_reducible exact H2_) | with_reducible exact H | (rw [hy123]; exact H) | exact H
                have Ny123 := Aside0.mk hy123
                clear hy123
                by_cases c12 : x123001_1.length < 17592186044416
                · rw [if_pos c12] at H
                  have LMc12 := Aside0.mk c12
                  clear c12
                  obtain ⟨y126, hy126⟩ : ∃ y_ : List Int, y_ = (x123001_1 ++ [x4_1]) := ⟨_, rfl⟩
                  replace H : (if 0 ≤ (wrap64 ((y123.length : Int) - 1)) then (if (wrap64 ((y123.length : Int) - 1)) < (y123.length : Int) then (if x4_1 ≤ (wrap64 (x4_1 + 1)) then (if (wrap64 (x4_1 + 1)) ≤ (a0.size : Int) then (if (rdOf ByteArray.empty y123 (wrap64 ((y123.length : Int) - 1))).size + (a0.extract (x4_1 : Int).toNat ((wrap64 (x4_1 + 1)) : Int).toNat).size ≤ 9223372036854775807 then (headroomref24_Words.l0 k1 a0 (wrap64 (x4_1 + 1)) (y123.set ((wrap64 ((y123.length : Int) - 1)) : Int).toNat ((rdOf ByteArray.empty y123 (wrap64 ((y123.length : Int) - 1))) ++ (a0.extract (x4_1 : Int).toNat ((wrap64 (x4_1 + 1)) : Int).toNat))) y126) else (none)) else (none)) else (none)) else (none)) else (none)) = some (r1, r2) := by first | (rw [hy126]; with_reducible exact H) | (have H2_ := (Option.bind_some _ _).symm.trans H; rw [hy126]; with_reducible exact H2_) | (have H2_ := (Option.bind_some _ _).symm.trans H; with_reducible exact H2_) | with_reducible exact H | (rw [hy126]; exact H) | exact H
                  have Ny126 := Aside0.mk hy126
                  clear hy126
                  obtain ⟨ji13, hji13⟩ : ∃ j_ : Int, (wrap64 ((y123.length : Int) - 1)) = j_ := ⟨_, rfl⟩
                  replace H : (if 0 ≤ (ji13) then (if (ji13) < (y123.length : Int) then (if x4_1 ≤ (wrap64 (x4_1 + 1)) then (if (wrap64 (x4_1 + 1)) ≤ (a0.size : Int) then (if (rdOf ByteArray.empty y123 (ji13)).size + (a0.extract (x4_1 : Int).toNat ((wrap64 (x4_1 + 1)) : Int).toNat).size ≤ 9223372036854775807 then (headroomref24_Words.l0 k1 a0 (wrap64 (x4_1 + 1)) (y123.set ((ji13) : Int).toNat ((rdOf ByteArray.empty y123 (ji13)) ++ (a0.extract (x4_1 : Int).toNat ((wrap64 (x4_1 + 1)) : Int).toNat))) y126) else (none)) else (none)) else (none)) else (none)) else (none)) = some (r1, r2) := by first | (rw [hji13] at H; exact H) | (simp only [hji13] at H ⊢; exact H)
                  have hji13w : (IntKind.i64.wrap ((y123.length : Int) - 1)) = ji13 := (i64_w _).trans hji13
                  by_cases c14 : 0 ≤ (ji13)
                  · rw [if_pos c14] at H
                    have c14b0 : decide (0 ≤ (ji13)) = true := decide_eq_true c14
                    clear c14
                    by_cases c15 : (ji13) < (y123.length : Int)
                    · rw [if_pos c15] at H
                      have c15b0 : decide ((ji13) < (y123.length : Int)) = true := decide_eq_true c15
                      clear c15
                      have c16b0 := eq_true (of_decide_eq_true (by first | (with_reducible assumption) | assumption) : 0 ≤ x4_1)
                      by_cases c17 : x4_1 ≤ (wrap64 (x4_1 + 1))
                      · rw [if_pos c17] at H
                        have c17b0 := eq_true c17
                        have c17b1 : decide (x4_1 ≤ (wrap64 (x4_1 + 1))) = true := decide_eq_true c17
                        by_cases c18 : (wrap64 (x4_1 + 1)) ≤ (a0.size : Int)
                        · rw [if_pos c18] at H
                          have c18b0 := eq_true c18
                          have c18b1 : decide ((wrap64 (x4_1 + 1)) ≤ (a0.size : Int)) = true := decide_eq_true c18
                          by_cases c19 : (rdOf ByteArray.empty y123 (ji13)).size + (a0.extract (x4_1 : Int).toNat ((wrap64 (x4_1 + 1)) : Int).toNat).size ≤ 9223372036854775807
                          · rw [if_pos c19] at H
                            have c19b0 := eq_true c19
                            have c19b1 : decide ((rdOf ByteArray.empty y123 (ji13)).size + (a0.extract (x4_1 : Int).toNat ((wrap64 (x4_1 + 1)) : Int).toNat).size ≤ 9223372036854775807) = true := decide_eq_true c19
                            try have c19b2 : (9223372036854775807 < (rdOf ByteArray.empty y123 (ji13)).size + (a0.extract (x4_1 : Int).toNat ((wrap64 (x4_1 + 1)) : Int).toNat).size) = False := eq_false (Nat.not_lt.2 c19)
                            have c19b3 : (9223372036854775807 < (rdOf ByteArray.empty y123 (ji13)).size + (((wrap64 (x4_1 + 1) : Int)).toNat - (x4_1 : Int).toNat)) = False := eq_false (Nat.not_lt.2 (by have h_ : (wrap64 (x4_1 + 1) : Int) ≤ (a0.size : Int) := of_decide_eq_true (by assumption); have e_ : (a0.extract (x4_1 : Int).toNat (wrap64 (x4_1 + 1) : Int).toNat).size = (wrap64 (x4_1 + 1) : Int).toNat - (x4_1 : Int).toNat := (by rw [ByteArray.size_extract]; omega); rw [← e_]; exact c19))
                            obtain ⟨y130, hy130⟩ : ∃ y_ : List ByteArray, y_ = (y123.set ((ji13) : Int).toNat ((rdOf ByteArray.empty y123 (ji13)) ++ (a0.extract (x4_1 : Int).toNat ((wrap64 (x4_1 + 1)) : Int).toNat))) := ⟨_, rfl⟩
                            replace H : (headroomref24_Words.l0 k1 a0 (wrap64 (x4_1 + 1)) y130 y126) = some (r1, r2) := by first | (rw [hy130]; with_reducible exact H) | (have H2_ := (Option.bind_some _ _).symm.trans H; rw [hy130]; with_reducible exact H2_) | (have H2_ := (Option.bind_some _ _).symm.trans H; with_reducible exact H2_) | with_reducible exact H | (rw [hy130]; exact H) | exact H
                            have Ny130 := Aside0.mk hy130
                            clear hy130
                            have H' := Aside0.mk H
                            clear H
                            have p8 : 0 ≤ (x4_1 : Int) := of_decide_eq_true (by first | (with_reducible assumption) | assumption)
                            have q8 : x4_1 < (a0.size : Int) := of_decide_eq_true (by first | (with_reducible assumption) | assumption)
                            have hx8 := bt_at a0 x4_1
                            replace p8 := eq_true p8
                            replace q8 := eq_true q8
                            have hnb21 := NB122_121.out
                            have hnc21 := NB121_122.out
                            have hcz22_0 : wr.cell? ⟨gb122, 0, none⟩ = some (u123000) := (blk_cell BK122.out 0).trans rfl
                            have hcz22_1 : wr.cell? ⟨gb122, 1, none⟩ = some (u123001) := (blk_cell BK122.out 1).trans rfl
                            have hfz22_0 := blk_frozen BK122.out 0
                            have hfz22_1 := blk_frozen BK122.out 1
                            try go_wp2_with (first | ((with_reducible refine gate_builtin (b := .append) (xs := #[.tmp 27, .tmp 28]) rfl ?_); at_builtin; refine Kd.R_append Kd.string (w0 := w) w.heap.size rfl (.tmp 27) (.tmp 28) 34 9 (.string ⟨#[]⟩) 16 rfl Tryd.underlying34 info9 rfl (by decide) (by omega) u123000 x123000_1 (⟨#[]⟩ : ByteArray) [.string (⟨#[]⟩ : ByteArray)] (fun _ => True) (fun _ => False) rfl rfl ?aP (fun _ hk => hk.elim) ?aF ?aO ?aB ?aS ?aL ?_; (case aP => exact rfl); (case aB => exact (by repeat (first | (with_reducible first | exact HB.out | apply below_alloc | apply pw_below_drewN | apply below_drew1 | refine below_set ?_ GE121.out | refine below_set ?_ GE122.out) | exact HB.out))); (case aF => exact (fun _ _ => trivial)); (case aO => exact (by (with_reducible repeat (first | apply Kd.R_alloc | apply Kd.R_drewN | apply Kd.R_drew)); exact HO_123000.out)); (case aS => exact (below_size (by repeat (first | (with_reducible first | exact HB.out | apply below_alloc | apply pw_below_drewN | apply below_drew1 | refine below_set ?_ GE121.out | refine below_set ?_ GE122.out) | exact HB.out)))); (case aL => have := LMc11.out; omega); intro v124 w23 ho hb hg hat; rw [← Ny123.out] at ho; have n0_ := Aside0.mk (Kd.R_over' (by (with_reducible repeat (first | apply Kd.R_alloc | apply Kd.R_drewN | apply Kd.R_drew)); exact HO_123001.out) (Kd.R_typed (by (with_reducible repeat (first | apply Kd.R_alloc | apply Kd.R_drewN | apply Kd.R_drew)); exact HO_123000.out)) (by decide) hg); have n1_ := Aside0.mk (blk_grown (g := gb121) (o := .cells #[.slice none 0 0, .slice none 0 0] 39 (0, 0)) (by (with_reducible repeat (first | refine blk_drewN ?_ _ | refine blk_drew ?_ | refine blk_alloc ?_ _)); exact BK121.out) hg (Kd.R_ne HO_123000.out BK121.out (by decide))); have n2_ := Aside0.mk (blk_grown (g := gb122) (o := .cells #[u123000, u123001] 39 (0, 0)) (by (with_reducible repeat (first | refine blk_drewN ?_ _ | refine blk_drew ?_ | refine blk_alloc ?_ _)); exact BK122.out) hg (Kd.R_ne HO_123000.out BK122.out (by decide))); have n3_ := Aside0.mk (hb); have n4_ := Aside0.mk (ho); clear HO_123001; clear BK121; clear BK122; clear HB; clear HO_123000; have HO_123001 := n0_; have BK121 := n1_; have BK122 := n2_; have HB := n3_; have HO125 := n4_; clear n0_ n1_ n2_ n3_ n4_; clear ho hb hg hat; obtain ⟨Ao24, co24, eo24⟩ := Kd.R_slice HO125.out; subst eo24; have hcz25_0 : w23.cell? ⟨gb122, 0, none⟩ = some (u123000) := (blk_cell BK122.out 0).trans rfl; have hcz25_1 : w23.cell? ⟨gb122, 1, none⟩ = some (u123001) := (blk_cell BK122.out 1).trans rfl; have hfz25_0 := blk_frozen BK122.out 0; have hfz25_1 := blk_frozen BK122.out 1) | ((with_reducible refine gate_builtin (b := .append) (xs := #[.tmp 32, .tmp 34]) rfl ?_); at_builtin; refine Kd.R_append (Kd.int .i64) (w0 := w) w.heap.size rfl (.tmp 32) (.tmp 34) 35 3 (.int .i64 0) 8 rfl Tryd.underlying35 info3 rfl (by decide) (by omega) u123001 x123001_1 x4_1 [.int .i64 x4_1] (fun _ => True) (fun _ => False) rfl (by first | (go_simp; done) | (go_simp; rfl)) ?aP (fun _ hk => hk.elim) ?aF ?aO ?aB ?aS ?aL ?_; (case aP => exact rfl); (case aB => exact (by repeat (first | (with_reducible first | exact HB.out | apply below_alloc | apply pw_below_drewN | apply below_drew1 | refine below_set ?_ GE121.out | refine below_set ?_ GE122.out) | exact HB.out))); (case aF => exact (fun _ _ => trivial)); (case aO => exact (by (with_reducible repeat (first | apply Kd.R_alloc | apply Kd.R_drewN | apply Kd.R_drew)); exact Kd.R_mono (Kd.R_far (p := ⟨gb122, 0, none⟩) (Kd.R_types HO_123001.out BK122.out (by decide)) (fun _ hk => hk.2) (.slice Ao24 y123.length co24)) (fun _ hk => trivial))); (case aS => exact (below_size (by repeat (first | (with_reducible first | exact HB.out | apply below_alloc | apply pw_below_drewN | apply below_drew1 | refine below_set ?_ GE121.out | refine below_set ?_ GE122.out) | exact HB.out)))); (case aL => have := LMc12.out; omega); intro v127 w26 ho hb hg hat; rw [← Ny126.out] at ho; have n0_ := Aside0.mk (blk_grown (g := gb121) (o := .cells #[.slice none 0 0, .slice none 0 0] 39 (0, 0)) (by (with_reducible repeat (first | refine blk_drewN ?_ _ | refine blk_drew ?_ | refine blk_alloc ?_ _)); refine blk_far ?_ NB121_122.out _; (with_reducible repeat (first | refine blk_drewN ?_ _ | refine blk_drew ?_ | refine blk_alloc ?_ _)); exact BK121.out) hg (Kd.R_ne HO_123001.out BK121.out (by decide))); have n1_ := Aside0.mk (blk_grown (g := gb122) (o := .cells #[.slice Ao24 y123.length co24, u123001] 39 (0, 0)) (by (with_reducible repeat (first | refine blk_drewN ?_ _ | refine blk_drew ?_ | refine blk_alloc ?_ _)); refine blk_put (cs := #[u123000, u123001]) ?_ 0 _ rfl; (with_reducible repeat (first | refine blk_drewN ?_ _ | refine blk_drew ?_ | refine blk_alloc ?_ _)); exact BK122.out) hg (Kd.R_ne HO_123001.out BK122.out (by decide))); have n2_ := Aside0.mk (Kd.R_over' (by (with_reducible repeat (first | apply Kd.R_alloc | apply Kd.R_drewN | apply Kd.R_drew)); exact (Kd.R_mono (Kd.R_far (p := ⟨gb122, 0, none⟩) (Kd.R_types HO125.out BK122.out (by decide)) (fun _ hk => hk.2) (.slice Ao24 y123.length co24)) (fun _ h_ => h_.1))) (Kd.R_typed (by (with_reducible repeat (first | apply Kd.R_alloc | apply Kd.R_drewN | apply Kd.R_drew)); exact (Kd.R_mono (Kd.R_far (p := ⟨gb122, 0, none⟩) (Kd.R_types HO_123001.out BK122.out (by decide)) (fun _ hk => hk.2) (.slice Ao24 y123.length co24)) (fun _ h_ => h_.1)))) (by decide) hg); have n3_ := Aside0.mk (hb); have n4_ := Aside0.mk (ho); clear BK121; clear BK122; clear HO125; clear HB; clear HO_123001; have BK121 := n0_; have BK122 := n1_; have HO125 := n2_; have HB := n3_; have HO128 := n4_; clear n0_ n1_ n2_ n3_ n4_; clear ho hb hg hat; obtain ⟨Ao27, co27, eo27⟩ := Kd.R_slice HO128.out; subst eo27; have hcz28_0 : w26.cell? ⟨gb122, 0, none⟩ = some (.slice Ao24 y123.length co24) := (blk_cell BK122.out 0).trans rfl; have hcz28_1 : w26.cell? ⟨gb122, 1, none⟩ = some (u123001) := (blk_cell BK122.out 1).trans rfl; have hfz28_0 := blk_frozen BK122.out 0; have hfz28_1 := blk_frozen BK122.out 1))
                            have n0_ : Aside0 (Kd.R Kd.string 9 (w26.setCell ⟨gb122, 1, none⟩ (.slice Ao27 y126.length co27)) w.heap.size (fun _ => True) (.slice Ao24 y123.length co24) y123) := ⟨by (with_reducible repeat (first | apply Kd.R_alloc | apply Kd.R_drewN | apply Kd.R_drew)); exact Kd.R_mono (Kd.R_far (p := ⟨gb122, 1, none⟩) (Kd.R_types HO125.out BK122.out (by decide)) (fun _ hk => hk.2) (.slice Ao27 y126.length co27)) (fun _ hk => trivial)⟩
                            have n1_ : Aside0 (Kd.R (Kd.int .i64) 3 (w26.setCell ⟨gb122, 1, none⟩ (.slice Ao27 y126.length co27)) w.heap.size (fun _ => True) (.slice Ao27 y126.length co27) y126) := ⟨by (with_reducible repeat (first | apply Kd.R_alloc | apply Kd.R_drewN | apply Kd.R_drew)); exact Kd.R_mono (Kd.R_far (p := ⟨gb122, 1, none⟩) (Kd.R_types HO128.out BK122.out (by decide)) (fun _ hk => hk.2) (.slice Ao27 y126.length co27)) (fun _ hk => trivial)⟩
                            have n2_ : Aside0 ((w26.setCell ⟨gb122, 1, none⟩ (.slice Ao27 y126.length co27)).heap[gb121]? = some (.cells #[.slice none 0 0, .slice none 0 0] 39 (0, 0))) := ⟨by (with_reducible repeat (first | refine blk_drewN ?_ _ | refine blk_drew ?_ | refine blk_alloc ?_ _)); refine blk_far ?_ NB121_122.out _; (with_reducible repeat (first | refine blk_drewN ?_ _ | refine blk_drew ?_ | refine blk_alloc ?_ _)); exact BK121.out⟩
                            have n3_ : Aside0 ((w26.setCell ⟨gb122, 1, none⟩ (.slice Ao27 y126.length co27)).heap[gb122]? = some (.cells #[.slice Ao24 y123.length co24, .slice Ao27 y126.length co27] 39 (0, 0))) := ⟨by (with_reducible repeat (first | refine blk_drewN ?_ _ | refine blk_drew ?_ | refine blk_alloc ?_ _)); refine blk_put (cs := #[.slice Ao24 y123.length co24, u123001]) ?_ 1 _ rfl; (with_reducible repeat (first | refine blk_drewN ?_ _ | refine blk_drew ?_ | refine blk_alloc ?_ _)); exact BK122.out⟩
                            have n4_ : Aside0 (Below w.heap.size w (w26.setCell ⟨gb122, 1, none⟩ (.slice Ao27 y126.length co27))) := ⟨by repeat (first | (with_reducible first | exact HB.out | apply below_alloc | apply pw_below_drewN | apply below_drew1 | refine below_set ?_ GE121.out | refine below_set ?_ GE122.out) | exact HB.out)⟩
                            (try clear HO125)
                            (try clear HO128)
                            (try clear BK121)
                            (try clear BK122)
                            (try clear HB)
                            generalize (w26.setCell ⟨gb122, 1, none⟩ (.slice Ao27 y126.length co27)) = w29 at n0_ n1_ n2_ n3_ n4_ ⊢
                            have HO125 := n0_
                            have HO128 := n1_
                            have BK121 := n2_
                            have BK122 := n3_
                            have HB := n4_
                            clear n0_ n1_ n2_ n3_ n4_
                            have n0_ := Aside0.mk (Kd.R_drew HO125.out)
                            have n1_ := Aside0.mk (Kd.R_drew HO128.out)
                            have n2_ := Aside0.mk (blk_drew BK121.out)
                            have n3_ := Aside0.mk (blk_drew BK122.out)
                            have n4_ := Aside0.mk (below_drew1 HB.out)
                            clear HO125
                            clear HO128
                            clear BK121
                            clear BK122
                            clear HB
                            have HO125 := n0_
                            have HO128 := n1_
                            have BK121 := n2_
                            have BK122 := n3_
                            have HB := n4_
                            clear n0_ n1_ n2_ n3_ n4_
                            have p129 : 0 ≤ ((ji13) : Int) := of_decide_eq_true (by first | (with_reducible assumption) | assumption)
                            have q129 : (ji13) < (y123.length : Int) := of_decide_eq_true (by first | (with_reducible assumption) | assumption)
                            obtain ⟨ad129, e129, hx129_0⟩ := Kd.at_string (Kd.R_reads' HO125.out).2.2 (ji13) p129 q129
                            cases e129
                            replace p129 := eq_true p129
                            replace q129 := eq_true q129
                            have p20 : 0 ≤ ((ji13) : Int) := of_decide_eq_true (by first | (with_reducible assumption) | assumption)
                            have q20 : ((ji13) : Int) < ((y123.length : Int) : Int) := of_decide_eq_true (by first | (with_reducible assumption) | assumption)
                            obtain ⟨go20, co20, eo20, gb20, gl20, cl20, HG20⟩ := Kd.R_form HO125.out (by omega)
                            (first | cases eo20 | (injection eo20 with ea_ en_ ec_; (first | subst ea_ | (injection ea_ with ea_; subst ea_)); subst ec_; clear en_))
                            have GB20 := Aside0.mk gb20
                            have GG20 := Aside0.mk HG20
                            clear gb20 gl20 HG20
                            (first | simp only [add_plain] at hx129_0 | skip)
                            obtain ⟨hx20_0, hf20_0⟩ := Kd.R_celln (⟨#[]⟩ : ByteArray) HO125.out ((ji13) : Int) p20 q20
                            replace p20 := eq_true p20
                            replace q20 := eq_true q20
                            have HP31 := Kd.R_putn HO125.out ((ji13) : Int) ((rdOf ByteArray.empty y123 (ji13)) ++ (a0.extract (x4_1 : Int).toNat ((wrap64 (x4_1 + 1)) : Int).toNat))
                            rw [← Ny130.out] at HP31
                            have HQ31 := Aside0.mk HP31
                            clear HP31
                            refine start_ (n := 16) (S := fun w' => w'.cell? ⟨gb122, 0, none⟩ = some (.slice (some ⟨go20, 0, none⟩) y123.length co24) ∧ w'.cell? ⟨gb122, 1, none⟩ = some (.slice Ao27 y126.length co27) ∧ w'.cell? ⟨go20, ((ji13)).toNat, none⟩ = some (.string (rdOf ByteArray.empty y123 (ji13)))) (ds := [15]) #[false, false, false, false, false, false, false, false, false, false, false, false, false, false, false, false] (by kernel_rfl) rfl rfl ⟨(blk_cell BK122.out 0).trans rfl, (blk_cell BK122.out 1).trans rfl, hx129_0⟩ (fun hHeld => ?_); refine with_tabW headroomref24_Words.tab10 headroomref24_Words.bits10 (fun HT_ HW_ => ?_)
                            generalize w29.drew = w30 at HO125 HO128 BK121 BK122 HB GG20 HQ31 hf20_0 hx129_0 hx20_0 hHeld ⊢
                            refine pure_ (i := 0) (N := some 41) (v := ?_) (a' := ?_) #[true, false, false, false, false, false, false, false, false, false, false, false, false, false, false, false] rfl rfl (any_of HT_.out (by kernel_rfl)) (fun _ _ _ h => h) (Or.inl ⟨by rfl, ?_⟩) ?_ ?_
                            rotate_left
                            · intro w'
                              go_simp
                              with_reducible rfl
                            rotate_left
                            · simp only [Act.put, List.setIfInBounds_toArray, List.set_cons_zero, List.set_cons_succ, i64_w, i32_w]
                              rfl
                            refine pure_ (i := 2) (N := some 43) (v := ?_) (a' := ?_) #[true, false, true, false, false, false, false, false, false, false, false, false, false, false, false, false] rfl rfl (any_of HT_.out (by kernel_rfl)) (fun _ _ _ h => h) (Or.inl ⟨by rfl, ?_⟩) ?_ ?_
                            rotate_left
                            · intro w'
                              go_simp
                              with_reducible rfl
                            rotate_left
                            · simp only [Act.put, List.setIfInBounds_toArray, List.set_cons_zero, List.set_cons_succ, i64_w, i32_w]
                              rfl
                            refine pure_ (i := 3) (N := some 44) (v := ?_) (a' := ?_) #[true, false, true, true, false, false, false, false, false, false, false, false, false, false, false, false] rfl rfl (any_of HT_.out (by kernel_rfl)) (fun _ _ _ h => h) (Or.inl ⟨by rfl, ?_⟩) ?_ ?_
                            rotate_left
                            · intro w'
                              go_simp
                              with_reducible rfl
                            rotate_left
                            · simp only [Act.put, List.setIfInBounds_toArray, List.set_cons_zero, List.set_cons_succ, i64_w, i32_w]
                              rfl
                            refine pure_ (i := 5) (N := some 46) (v := ?_) (a' := ?_) #[true, false, true, true, false, true, false, false, false, false, false, false, false, false, false, false] rfl rfl (any_of HT_.out (by kernel_rfl)) (fun _ _ _ h => h) (Or.inl ⟨by rfl, ?_⟩) ?_ ?_
                            rotate_left
                            · intro w'
                              go_simp
                              with_reducible rfl
                            rotate_left
                            · simp only [Act.put, List.setIfInBounds_toArray, List.set_cons_zero, List.set_cons_succ, i64_w, i32_w]
                              rfl
                            refine pure_ (i := 8) (N := some 49) (v := ?_) (a' := ?_) #[true, false, true, true, false, true, false, false, true, false, false, false, false, false, false, false] rfl rfl (any_of HT_.out (by kernel_rfl)) (fun _ _ _ h => h) (Or.inl ⟨by rfl, ?_⟩) ?_ ?_
                            rotate_left
                            · intro w'
                              go_simp
                              with_reducible rfl
                            rotate_left
                            · simp only [Act.put, List.setIfInBounds_toArray, List.set_cons_zero, List.set_cons_succ, i64_w, i32_w]
                              rfl
                            refine pure_ (i := 9) (N := some 50) (v := ?_) (a' := ?_) #[true, false, true, true, false, true, false, false, true, true, false, false, false, false, false, false] rfl rfl (any_of HT_.out (by kernel_rfl)) (fun _ _ _ h => h) (Or.inl ⟨by rfl, ?_⟩) ?_ ?_
                            rotate_left
                            · intro w'
                              go_simp
                              with_reducible rfl
                            rotate_left
                            · simp only [Act.put, List.setIfInBounds_toArray, List.set_cons_zero, List.set_cons_succ, i64_w, i32_w]
                              rfl
                            refine pure_ (i := 10) (N := some 51) (v := ?_) (a' := ?_) #[true, false, true, true, false, true, false, false, true, true, true, false, false, false, false, false] rfl rfl (any_of HT_.out (by kernel_rfl)) (fun _ _ _ h => h) (Or.inl ⟨by rfl, ?_⟩) ?_ ?_
                            rotate_left
                            · intro w'
                              go_simp
                              with_reducible rfl
                            rotate_left
                            · simp only [Act.put, List.setIfInBounds_toArray, List.set_cons_zero, List.set_cons_succ, i64_w, i32_w]
                              rfl
                            refine pure_ (i := 11) (N := some 52) (v := ?_) (a' := ?_) #[true, false, true, true, false, true, false, false, true, true, true, true, false, false, false, false] rfl rfl (any_of HT_.out (by kernel_rfl)) (fun _ _ _ h => h) (Or.inl ⟨by rfl, ?_⟩) ?_ ?_
                            rotate_left
                            · intro w'
                              go_simp
                              with_reducible rfl
                            rotate_left
                            · simp only [Act.put, List.setIfInBounds_toArray, List.set_cons_zero, List.set_cons_succ, i64_w, i32_w]
                              rfl
                            refine pure_ (i := 12) (N := some 53) (v := ?_) (a' := ?_) #[true, false, true, true, false, true, false, false, true, true, true, true, true, false, false, false] rfl rfl (any_of HT_.out (by kernel_rfl)) (fun _ _ _ h => h) (Or.inl ⟨by rfl, ?_⟩) ?_ ?_
                            rotate_left
                            · intro w'
                              go_simp
                              with_reducible rfl
                            rotate_left
                            · simp only [Act.put, List.setIfInBounds_toArray, List.set_cons_zero, List.set_cons_succ, i64_w, i32_w]
                              rfl
                            refine take_ (i := 1) (N := some 42) (v := ?_) (a' := ?_) #[true, true, true, true, false, true, false, false, true, true, true, true, true, false, false, false] rfl rfl (take_ofW HT_.out HW_.out (by kernel_rfl)) (fun _ _ _ h => h) (Or.inl ⟨by rfl, ?_⟩) hHeld ?_ ?_
                            rotate_left
                            · rintro w' ⟨s0, s1, s2⟩
                              go_simp
                              with_reducible rfl
                            rotate_left
                            · simp only [Act.put, List.setIfInBounds_toArray, List.set_cons_zero, List.set_cons_succ, i64_w, i32_w]
                              rfl
                            refine take_ (i := 4) (N := some 45) (v := ?_) (a' := ?_) #[true, true, true, true, true, true, false, false, true, true, true, true, true, false, false, false] rfl rfl (take_ofW HT_.out HW_.out (by kernel_rfl)) (fun _ _ _ h => h) (Or.inl ⟨by rfl, ?_⟩) hHeld ?_ ?_
                            rotate_left
                            · rintro w' ⟨s0, s1, s2⟩
                              go_simp
                              with_reducible rfl
                            rotate_left
                            · simp only [Act.put, List.setIfInBounds_toArray, List.set_cons_zero, List.set_cons_succ, i64_w, i32_w]
                              rfl
                            refine pure_ (i := 6) (N := some 47) (v := ?_) (a' := ?_) #[true, true, true, true, true, true, true, false, true, true, true, true, true, false, false, false] rfl rfl (any_of HT_.out (by kernel_rfl)) (fun _ _ _ h => h) (Or.inl ⟨by rfl, ?_⟩) ?_ ?_
                            rotate_left
                            · intro w'
                              go_simp
                              with_reducible rfl
                            rotate_left
                            · simp only [Act.put, List.setIfInBounds_toArray, List.set_cons_zero, List.set_cons_succ, i64_w, i32_w]
                              rfl
                            refine take_ (i := 7) (N := some 48) (v := ?_) (a' := ?_) #[true, true, true, true, true, true, true, true, true, true, true, true, true, false, false, false] rfl rfl (take_ofW HT_.out HW_.out (by kernel_rfl)) (fun _ _ _ h => h) (Or.inl ⟨by rfl, ?_⟩) hHeld ?_ ?_
                            rotate_left
                            · rintro w' ⟨s0, s1, s2⟩
                              go_simp
                              with_reducible rfl
                            rotate_left
                            · simp only [Act.put, List.setIfInBounds_toArray, List.set_cons_zero, List.set_cons_succ, i64_w, i32_w]
                              rfl
                            refine pure_ (i := 13) (N := some 54) (v := ?_) (a' := ?_) #[true, true, true, true, true, true, true, true, true, true, true, true, true, true, false, false] rfl rfl (any_of HT_.out (by kernel_rfl)) (fun _ _ _ h => h) (Or.inl ⟨by rfl, ?_⟩) ?_ ?_
                            rotate_left
                            · intro w'
                              go_simp
                              with_reducible rfl
                            rotate_left
                            · simp only [Act.put, List.setIfInBounds_toArray, List.set_cons_zero, List.set_cons_succ, i64_w, i32_w]
                              rfl
                            refine pure_ (i := 14) (N := some 55) (v := ?_) (a' := ?_) #[true, true, true, true, true, true, true, true, true, true, true, true, true, true, true, false] rfl rfl (any_of HT_.out (by kernel_rfl)) (fun _ _ _ h => h) (Or.inl ⟨by rfl, ?_⟩) ?_ ?_
                            rotate_left
                            · intro w'
                              go_simp
                              with_reducible rfl
                            rotate_left
                            · simp only [Act.put, List.setIfInBounds_toArray, List.set_cons_zero, List.set_cons_succ, i64_w, i32_w]
                              rfl
                            refine last_ (i := 15) (N := none) #[true, true, true, true, true, true, true, true, true, true, true, true, true, true, true, true] rfl rfl (one_of HT_.out (by kernel_rfl)) (by decide) (fun K hK => ?_)
                            refine skip_ (w1 := ?_) (by rfl) rfl ?_ ?_
                            rotate_left
                            · go_simp
                              rfl
                            refine hK.out _ _ ?_
                            clear hK K
                            refine done_ (done_of HT_.out (by kernel_rfl)) ?_
                            try go_wp2
                            go_roundg k1
                            case measure => have := HK1.out; omega
                            case rel => exact ⟨(wrap64 (x4_1 + 1)), (y130), (y126), (.slice (some ⟨go20, 0, none⟩) y123.length co24), (.slice Ao27 y126.length co27), (by first | rfl | (simp; done) | (simp [*]; done)), H', ⟨by have := HK1.out; omega⟩, ⟨by (with_reducible repeat (first | apply Kd.R_alloc | apply Kd.R_drewN | apply Kd.R_drew)); exact HQ31.out⟩, ⟨by (with_reducible repeat (first | apply Kd.R_alloc | apply Kd.R_drewN | apply Kd.R_drew)); exact Kd.R_mono (Kd.R_far (p := ⟨go20, ((ji13) : Int).toNat, none⟩) (Kd.R_types HO128.out GG20.out (by decide)) (fun _ hk => hk.2) (.string ((rdOf ByteArray.empty y123 (ji13)) ++ (a0.extract (x4_1 : Int).toNat ((wrap64 (x4_1 + 1)) : Int).toNat)))) (fun _ hk => trivial)⟩, ⟨by (with_reducible repeat (first | refine blk_drewN ?_ _ | refine blk_drew ?_ | refine blk_alloc ?_ _)); refine blk_far ?_ (by have h_ := Kd.R_ne HO125.out BK121.out (by decide); intro e_; exact h_ (by rw [e_]; rfl)) _; (with_reducible repeat (first | refine blk_drewN ?_ _ | refine blk_drew ?_ | refine blk_alloc ?_ _)); exact BK121.out⟩, ⟨by (with_reducible repeat (first | refine blk_drewN ?_ _ | refine blk_drew ?_ | refine blk_alloc ?_ _)); refine blk_far ?_ (by have h_ := Kd.R_ne HO125.out BK122.out (by decide); intro e_; exact h_ (by rw [e_]; rfl)) _; (with_reducible repeat (first | refine blk_drewN ?_ _ | refine blk_drew ?_ | refine blk_alloc ?_ _)); exact BK122.out⟩, ⟨by repeat (first | (with_reducible first | exact HB.out | apply below_alloc | apply pw_below_drewN | apply below_drew1 | refine below_set ?_ GB20.out | refine below_set ?_ GE121.out | refine below_set ?_ GE122.out) | exact HB.out)⟩⟩
                          · rw [if_neg c19] at H
                            exact absurd H (by simp)
                        · rw [if_neg c18] at H
                          exact absurd H (by simp)
                      · rw [if_neg c17] at H
                        exact absurd H (by simp)
                    · rw [if_neg c15] at H
                      exact absurd H (by simp)
                  · rw [if_neg c14] at H
                    exact absurd H (by simp)
                · rw [if_neg c12] at H
                  exact absurd H (by simp)
              · rw [if_neg c11] at H
                exact absurd H (by simp)
            · rw [if_neg c10] at H
              have c10b0 : (x4_1 == 0) = false := beq_eq_false_iff_ne.mpr c10
              have c10b1 : (x4_1 != 0) = true := bne_iff_ne.mpr c10
              obtain ⟨ji32, hji32⟩ : ∃ j_ : Int, (wrap64 (x4_1 - 1)) = j_ := ⟨_, rfl⟩
              replace H : (if 0 ≤ (ji32) then (if (ji32) < (a0.size : Int) then (if (bt a0 (ji32)) = 32 then (if x123000_1.length < 8796093022208 then ((some (x123000_1 ++ [(⟨#[]⟩ : ByteArray)] : List ByteArray)).bind fun y131 => (if x123001_1.length < 17592186044416 then (if 0 ≤ (wrap64 ((y131.length : Int) - 1)) then (if (wrap64 ((y131.length : Int) - 1)) < (y131.length : Int) then (if x4_1 ≤ (wrap64 (x4_1 + 1)) then (if (wrap64 (x4_1 + 1)) ≤ (a0.size : Int) then (if (rdOf ByteArray.empty y131 (wrap64 ((y131.length : Int) - 1))).size + (a0.extract (x4_1 : Int).toNat ((wrap64 (x4_1 + 1)) : Int).toNat).size ≤ 9223372036854775807 then (headroomref24_Words.l0 k1 a0 (wrap64 (x4_1 + 1)) (y131.set ((wrap64 ((y131.length : Int) - 1)) : Int).toNat ((rdOf ByteArray.empty y131 (wrap64 ((y131.length : Int) - 1))) ++ (a0.extract (x4_1 : Int).toNat ((wrap64 (x4_1 + 1)) : Int).toNat))) (x123001_1 ++ [x4_1])) else (none)) else (none)) else (none)) else (none)) else (none)) else (none))) else (none)) else (if 0 ≤ (wrap64 ((x123000_1.length : Int) - 1)) then (if (wrap64 ((x123000_1.length : Int) - 1)) < (x123000_1.length : Int) then (if x4_1 ≤ (wrap64 (x4_1 + 1)) then (if (wrap64 (x4_1 + 1)) ≤ (a0.size : Int) then (if (rdOf ByteArray.empty x123000_1 (wrap64 ((x123000_1.length : Int) - 1))).size + (a0.extract (x4_1 : Int).toNat ((wrap64 (x4_1 + 1)) : Int).toNat).size ≤ 9223372036854775807 then (headroomref24_Words.l0 k1 a0 (wrap64 (x4_1 + 1)) (x123000_1.set ((wrap64 ((x123000_1.length : Int) - 1)) : Int).toNat ((rdOf ByteArray.empty x123000_1 (wrap64 ((x123000_1.length : Int) - 1))) ++ (a0.extract (x4_1 : Int).toNat ((wrap64 (x4_1 + 1)) : Int).toNat))) x123001_1) else (none)) else (none)) else (none)) else (none)) else (none))) else (none)) else (none)) = some (r1, r2) := by first | (rw [hji32] at H; exact H) | (simp only [hji32] at H ⊢; exact H)
              have hji32w : (IntKind.i64.wrap (x4_1 - 1)) = ji32 := (i64_w _).trans hji32
              by_cases c33 : 0 ≤ (ji32)
              · rw [if_pos c33] at H
                have c33b0 : decide (0 ≤ (ji32)) = true := decide_eq_true c33
                clear c33
                by_cases c34 : (ji32) < (a0.size : Int)
                · rw [if_pos c34] at H
                  have c34b0 : decide ((ji32) < (a0.size : Int)) = true := decide_eq_true c34
                  clear c34
                  by_cases c36 : (bt a0 (ji32)) = 32
                  · rw [if_pos c36] at H
                    have c36b0 : ((bt a0 (ji32)) == 32) = true := beq_iff_eq.mpr c36
                    have c36b1 : ((bt a0 (ji32)) != 32) = false := bne_eq_false_iff_eq.mpr c36
                    clear c36
                    by_cases c37 : x123000_1.length < 8796093022208
                    · rw [if_pos c37] at H
                      have LMc37 := Aside0.mk c37
                      clear c37
                      obtain ⟨y131, hy131⟩ : ∃ y_ : List ByteArray, y_ = (x123000_1 ++ [(⟨#[]⟩ : ByteArray)]) := ⟨_, rfl⟩
                      replace H : (if x123001_1.length < 17592186044416 then (if 0 ≤ (wrap64 ((y131.length : Int) - 1)) then (if (wrap64 ((y131.length : Int) - 1)) < (y131.length : Int) then (if x4_1 ≤ (wrap64 (x4_1 + 1)) then (if (wrap64 (x4_1 + 1)) ≤ (a0.size : Int) then (if (rdOf ByteArray.empty y131 (wrap64 ((y131.length : Int) - 1))).size + (a0.extract (x4_1 : Int).toNat ((wrap64 (x4_1 + 1)) : Int).toNat).size ≤ 9223372036854775807 then (headroomref24_Words.l0 k1 a0 (wrap64 (x4_1 + 1)) (y131.set ((wrap64 ((y131.length : Int) - 1)) : Int).toNat ((rdOf ByteArray.empty y131 (wrap64 ((y131.length : Int) - 1))) ++ (a0.extract (x4_1 : Int).toNat ((wrap64 (x4_1 + 1)) : Int).toNat))) (x123001_1 ++ [x4_1])) else (none)) else (none)) else (none)) else (none)) else (none)) else (none)) = some (r1, r2) := by first | (rw [hy131]; with_reducible exact H) | (have H2_ := (Option.bind_some _ _).symm.trans H; rw [hy131]; with_reducible exact H2_) | (have H2_ := (Option.bind_some _ _).symm.trans H; with_reducible exact H2_) | with_reducible exact H | (rw [hy131]; exact H) | exact H
                      have Ny131 := Aside0.mk hy131
                      clear hy131
                      by_cases c38 : x123001_1.length < 17592186044416
                      · rw [if_pos c38] at H
                        have LMc38 := Aside0.mk c38
                        clear c38
                        obtain ⟨y134, hy134⟩ : ∃ y_ : List Int, y_ = (x123001_1 ++ [x4_1]) := ⟨_, rfl⟩
                        replace H : (if 0 ≤ (wrap64 ((y131.length : Int) - 1)) then (if (wrap64 ((y131.length : Int) - 1)) < (y131.length : Int) then (if x4_1 ≤ (wrap64 (x4_1 + 1)) then (if (wrap64 (x4_1 + 1)) ≤ (a0.size : Int) then (if (rdOf ByteArray.empty y131 (wrap64 ((y131.length : Int) - 1))).size + (a0.extract (x4_1 : Int).toNat ((wrap64 (x4_1 + 1)) : Int).toNat).size ≤ 9223372036854775807 then (headroomref24_Words.l0 k1 a0 (wrap64 (x4_1 + 1)) (y131.set ((wrap64 ((y131.length : Int) - 1)) : Int).toNat ((rdOf ByteArray.empty y131 (wrap64 ((y131.length : Int) - 1))) ++ (a0.extract (x4_1 : Int).toNat ((wrap64 (x4_1 + 1)) : Int).toNat))) y134) else (none)) else (none)) else (none)) else (none)) else (none)) = some (r1, r2) := by first | (rw [hy134]; with_reducible exact H) | (have H2_ := (Option.bind_some _ _).symm.trans H; rw [hy134]; with_reducible exact H2_) | (have H2_ := (Option.bind_some _ _).symm.trans H; with_reducible exact H2_) | with_reducible exact H | (rw [hy134]; exact H) | exact H
                        have Ny134 := Aside0.mk hy134
                        clear hy134
                        obtain ⟨ji39, hji39⟩ : ∃ j_ : Int, (wrap64 ((y131.length : Int) - 1)) = j_ := ⟨_, rfl⟩
                        replace H : (if 0 ≤ (ji39) then (if (ji39) < (y131.length : Int) then (if x4_1 ≤ (wrap64 (x4_1 + 1)) then (if (wrap64 (x4_1 + 1)) ≤ (a0.size : Int) then (if (rdOf ByteArray.empty y131 (ji39)).size + (a0.extract (x4_1 : Int).toNat ((wrap64 (x4_1 + 1)) : Int).toNat).size ≤ 9223372036854775807 then (headroomref24_Words.l0 k1 a0 (wrap64 (x4_1 + 1)) (y131.set ((ji39) : Int).toNat ((rdOf ByteArray.empty y131 (ji39)) ++ (a0.extract (x4_1 : Int).toNat ((wrap64 (x4_1 + 1)) : Int).toNat))) y134) else (none)) else (none)) else (none)) else (none)) else (none)) = some (r1, r2) := by first | (rw [hji39] at H; exact H) | (simp only [hji39] at H ⊢; exact H)
                        have hji39w : (IntKind.i64.wrap ((y131.length : Int) - 1)) = ji39 := (i64_w _).trans hji39
                        by_cases c40 : 0 ≤ (ji39)
                        · rw [if_pos c40] at H
                          have c40b0 : decide (0 ≤ (ji39)) = true := decide_eq_true c40
                          clear c40
                          by_cases c41 : (ji39) < (y131.length : Int)
                          · rw [if_pos c41] at H
                            have c41b0 : decide ((ji39) < (y131.length : Int)) = true := decide_eq_true c41
                            clear c41
                            have c42b0 := eq_true (of_decide_eq_true (by first | (with_reducible assumption) | assumption) : 0 ≤ x4_1)
                            by_cases c43 : x4_1 ≤ (wrap64 (x4_1 + 1))
                            · rw [if_pos c43] at H
                              have c43b0 := eq_true c43
                              have c43b1 : decide (x4_1 ≤ (wrap64 (x4_1 + 1))) = true := decide_eq_true c43
                              by_cases c44 : (wrap64 (x4_1 + 1)) ≤ (a0.size : Int)
                              · rw [if_pos c44] at H
                                have c44b0 := eq_true c44
                                have c44b1 : decide ((wrap64 (x4_1 + 1)) ≤ (a0.size : Int)) = true := decide_eq_true c44
                                by_cases c45 : (rdOf ByteArray.empty y131 (ji39)).size + (a0.extract (x4_1 : Int).toNat ((wrap64 (x4_1 + 1)) : Int).toNat).size ≤ 9223372036854775807
                                · rw [if_pos c45] at H
                                  have c45b0 := eq_true c45
                                  have c45b1 : decide ((rdOf ByteArray.empty y131 (ji39)).size + (a0.extract (x4_1 : Int).toNat ((wrap64 (x4_1 + 1)) : Int).toNat).size ≤ 9223372036854775807) = true := decide_eq_true c45
                                  try have c45b2 : (9223372036854775807 < (rdOf ByteArray.empty y131 (ji39)).size + (a0.extract (x4_1 : Int).toNat ((wrap64 (x4_1 + 1)) : Int).toNat).size) = False := eq_false (Nat.not_lt.2 c45)
                                  have c45b3 : (9223372036854775807 < (rdOf ByteArray.empty y131 (ji39)).size + (((wrap64 (x4_1 + 1) : Int)).toNat - (x4_1 : Int).toNat)) = False := eq_false (Nat.not_lt.2 (by have h_ : (wrap64 (x4_1 + 1) : Int) ≤ (a0.size : Int) := of_decide_eq_true (by assumption); have e_ : (a0.extract (x4_1 : Int).toNat (wrap64 (x4_1 + 1) : Int).toNat).size = (wrap64 (x4_1 + 1) : Int).toNat - (x4_1 : Int).toNat := (by rw [ByteArray.size_extract]; omega); rw [← e_]; exact c45))
                                  obtain ⟨y138, hy138⟩ : ∃ y_ : List ByteArray, y_ = (y131.set ((ji39) : Int).toNat ((rdOf ByteArray.empty y131 (ji39)) ++ (a0.extract (x4_1 : Int).toNat ((wrap64 (x4_1 + 1)) : Int).toNat))) := ⟨_, rfl⟩
                                  replace H : (headroomref24_Words.l0 k1 a0 (wrap64 (x4_1 + 1)) y138 y134) = some (r1, r2) := by first | (rw [hy138]; with_reducible exact H) | (have H2_ := (Option.bind_some _ _).symm.trans H; rw [hy138]; with_reducible exact H2_) | (have H2_ := (Option.bind_some _ _).symm.trans H; with_reducible exact H2_) | with_reducible exact H | (rw [hy138]; exact H) | exact H
                                  have Ny138 := Aside0.mk hy138
                                  clear hy138
                                  have H' := Aside0.mk H
                                  clear H
                                  have p8 : 0 ≤ (x4_1 : Int) := of_decide_eq_true (by first | (with_reducible assumption) | assumption)
                                  have q8 : x4_1 < (a0.size : Int) := of_decide_eq_true (by first | (with_reducible assumption) | assumption)
                                  have hx8 := bt_at a0 x4_1
                                  replace p8 := eq_true p8
                                  replace q8 := eq_true q8
                                  have p35 : 0 ≤ ((ji32) : Int) := of_decide_eq_true (by first | (with_reducible assumption) | assumption)
                                  have q35 : (ji32) < (a0.size : Int) := of_decide_eq_true (by first | (with_reducible assumption) | assumption)
                                  have hx35 := bt_at a0 (ji32)
                                  replace p35 := eq_true p35
                                  replace q35 := eq_true q35
                                  have hnb47 := NB122_121.out
                                  have hnc47 := NB121_122.out
                                  have hcz48_0 : wr.cell? ⟨gb122, 0, none⟩ = some (u123000) := (blk_cell BK122.out 0).trans rfl
                                  have hcz48_1 : wr.cell? ⟨gb122, 1, none⟩ = some (u123001) := (blk_cell BK122.out 1).trans rfl
                                  have hfz48_0 := blk_frozen BK122.out 0
                                  have hfz48_1 := blk_frozen BK122.out 1
                                  try go_wp2_with (first | ((with_reducible refine gate_builtin (b := .append) (xs := #[.tmp 27, .tmp 28]) rfl ?_); at_builtin; refine Kd.R_append Kd.string (w0 := w) w.heap.size rfl (.tmp 27) (.tmp 28) 34 9 (.string ⟨#[]⟩) 16 rfl Tryd.underlying34 info9 rfl (by decide) (by omega) u123000 x123000_1 (⟨#[]⟩ : ByteArray) [.string (⟨#[]⟩ : ByteArray)] (fun _ => True) (fun _ => False) rfl rfl ?aP (fun _ hk => hk.elim) ?aF ?aO ?aB ?aS ?aL ?_; (case aP => exact rfl); (case aB => exact (by repeat (first | (with_reducible first | exact HB.out | apply below_alloc | apply pw_below_drewN | apply below_drew1 | refine below_set ?_ GE121.out | refine below_set ?_ GE122.out) | exact HB.out))); (case aF => exact (fun _ _ => trivial)); (case aO => exact (by (with_reducible repeat (first | apply Kd.R_alloc | apply Kd.R_drewN | apply Kd.R_drew)); exact HO_123000.out)); (case aS => exact (below_size (by repeat (first | (with_reducible first | exact HB.out | apply below_alloc | apply pw_below_drewN | apply below_drew1 | refine below_set ?_ GE121.out | refine below_set ?_ GE122.out) | exact HB.out)))); (case aL => have := LMc37.out; omega); intro v132 w49 ho hb hg hat; rw [← Ny131.out] at ho; have n0_ := Aside0.mk (Kd.R_over' (by (with_reducible repeat (first | apply Kd.R_alloc | apply Kd.R_drewN | apply Kd.R_drew)); exact HO_123001.out) (Kd.R_typed (by (with_reducible repeat (first | apply Kd.R_alloc | apply Kd.R_drewN | apply Kd.R_drew)); exact HO_123000.out)) (by decide) hg); have n1_ := Aside0.mk (blk_grown (g := gb121) (o := .cells #[.slice none 0 0, .slice none 0 0] 39 (0, 0)) (by (with_reducible repeat (first | refine blk_drewN ?_ _ | refine blk_drew ?_ | refine blk_alloc ?_ _)); exact BK121.out) hg (Kd.R_ne HO_123000.out BK121.out (by decide))); have n2_ := Aside0.mk (blk_grown (g := gb122) (o := .cells #[u123000, u123001] 39 (0, 0)) (by (with_reducible repeat (first | refine blk_drewN ?_ _ | refine blk_drew ?_ | refine blk_alloc ?_ _)); exact BK122.out) hg (Kd.R_ne HO_123000.out BK122.out (by decide))); have n3_ := Aside0.mk (hb); have n4_ := Aside0.mk (ho); clear HO_123001; clear BK121; clear BK122; clear HB; clear HO_123000; have HO_123001 := n0_; have BK121 := n1_; have BK122 := n2_; have HB := n3_; have HO133 := n4_; clear n0_ n1_ n2_ n3_ n4_; clear ho hb hg hat; obtain ⟨Ao50, co50, eo50⟩ := Kd.R_slice HO133.out; subst eo50; have hcz51_0 : w49.cell? ⟨gb122, 0, none⟩ = some (u123000) := (blk_cell BK122.out 0).trans rfl; have hcz51_1 : w49.cell? ⟨gb122, 1, none⟩ = some (u123001) := (blk_cell BK122.out 1).trans rfl; have hfz51_0 := blk_frozen BK122.out 0; have hfz51_1 := blk_frozen BK122.out 1) | ((with_reducible refine gate_builtin (b := .append) (xs := #[.tmp 32, .tmp 34]) rfl ?_); at_builtin; refine Kd.R_append (Kd.int .i64) (w0 := w) w.heap.size rfl (.tmp 32) (.tmp 34) 35 3 (.int .i64 0) 8 rfl Tryd.underlying35 info3 rfl (by decide) (by omega) u123001 x123001_1 x4_1 [.int .i64 x4_1] (fun _ => True) (fun _ => False) rfl (by first | (go_simp; done) | (go_simp; rfl)) ?aP (fun _ hk => hk.elim) ?aF ?aO ?aB ?aS ?aL ?_; (case aP => exact rfl); (case aB => exact (by repeat (first | (with_reducible first | exact HB.out | apply below_alloc | apply pw_below_drewN | apply below_drew1 | refine below_set ?_ GE121.out | refine below_set ?_ GE122.out) | exact HB.out))); (case aF => exact (fun _ _ => trivial)); (case aO => exact (by (with_reducible repeat (first | apply Kd.R_alloc | apply Kd.R_drewN | apply Kd.R_drew)); exact Kd.R_mono (Kd.R_far (p := ⟨gb122, 0, none⟩) (Kd.R_types HO_123001.out BK122.out (by decide)) (fun _ hk => hk.2) (.slice Ao50 y131.length co50)) (fun _ hk => trivial))); (case aS => exact (below_size (by repeat (first | (with_reducible first | exact HB.out | apply below_alloc | apply pw_below_drewN | apply below_drew1 | refine below_set ?_ GE121.out | refine below_set ?_ GE122.out) | exact HB.out)))); (case aL => have := LMc38.out; omega); intro v135 w52 ho hb hg hat; rw [← Ny134.out] at ho; have n0_ := Aside0.mk (blk_grown (g := gb121) (o := .cells #[.slice none 0 0, .slice none 0 0] 39 (0, 0)) (by (with_reducible repeat (first | refine blk_drewN ?_ _ | refine blk_drew ?_ | refine blk_alloc ?_ _)); refine blk_far ?_ NB121_122.out _; (with_reducible repeat (first | refine blk_drewN ?_ _ | refine blk_drew ?_ | refine blk_alloc ?_ _)); exact BK121.out) hg (Kd.R_ne HO_123001.out BK121.out (by decide))); have n1_ := Aside0.mk (blk_grown (g := gb122) (o := .cells #[.slice Ao50 y131.length co50, u123001] 39 (0, 0)) (by (with_reducible repeat (first | refine blk_drewN ?_ _ | refine blk_drew ?_ | refine blk_alloc ?_ _)); refine blk_put (cs := #[u123000, u123001]) ?_ 0 _ rfl; (with_reducible repeat (first | refine blk_drewN ?_ _ | refine blk_drew ?_ | refine blk_alloc ?_ _)); exact BK122.out) hg (Kd.R_ne HO_123001.out BK122.out (by decide))); have n2_ := Aside0.mk (Kd.R_over' (by (with_reducible repeat (first | apply Kd.R_alloc | apply Kd.R_drewN | apply Kd.R_drew)); exact (Kd.R_mono (Kd.R_far (p := ⟨gb122, 0, none⟩) (Kd.R_types HO133.out BK122.out (by decide)) (fun _ hk => hk.2) (.slice Ao50 y131.length co50)) (fun _ h_ => h_.1))) (Kd.R_typed (by (with_reducible repeat (first | apply Kd.R_alloc | apply Kd.R_drewN | apply Kd.R_drew)); exact (Kd.R_mono (Kd.R_far (p := ⟨gb122, 0, none⟩) (Kd.R_types HO_123001.out BK122.out (by decide)) (fun _ hk => hk.2) (.slice Ao50 y131.length co50)) (fun _ h_ => h_.1)))) (by decide) hg); have n3_ := Aside0.mk (hb); have n4_ := Aside0.mk (ho); clear BK121; clear BK122; clear HO133; clear HB; clear HO_123001; have BK121 := n0_; have BK122 := n1_; have HO133 := n2_; have HB := n3_; have HO136 := n4_; clear n0_ n1_ n2_ n3_ n4_; clear ho hb hg hat; obtain ⟨Ao53, co53, eo53⟩ := Kd.R_slice HO136.out; subst eo53; have hcz54_0 : w52.cell? ⟨gb122, 0, none⟩ = some (.slice Ao50 y131.length co50) := (blk_cell BK122.out 0).trans rfl; have hcz54_1 : w52.cell? ⟨gb122, 1, none⟩ = some (u123001) := (blk_cell BK122.out 1).trans rfl; have hfz54_0 := blk_frozen BK122.out 0; have hfz54_1 := blk_frozen BK122.out 1))
                                  have n0_ : Aside0 (Kd.R Kd.string 9 (w52.setCell ⟨gb122, 1, none⟩ (.slice Ao53 y134.length co53)) w.heap.size (fun _ => True) (.slice Ao50 y131.length co50) y131) := ⟨by (with_reducible repeat (first | apply Kd.R_alloc | apply Kd.R_drewN | apply Kd.R_drew)); exact Kd.R_mono (Kd.R_far (p := ⟨gb122, 1, none⟩) (Kd.R_types HO133.out BK122.out (by decide)) (fun _ hk => hk.2) (.slice Ao53 y134.length co53)) (fun _ hk => trivial)⟩
                                  have n1_ : Aside0 (Kd.R (Kd.int .i64) 3 (w52.setCell ⟨gb122, 1, none⟩ (.slice Ao53 y134.length co53)) w.heap.size (fun _ => True) (.slice Ao53 y134.length co53) y134) := ⟨by (with_reducible repeat (first | apply Kd.R_alloc | apply Kd.R_drewN | apply Kd.R_drew)); exact Kd.R_mono (Kd.R_far (p := ⟨gb122, 1, none⟩) (Kd.R_types HO136.out BK122.out (by decide)) (fun _ hk => hk.2) (.slice Ao53 y134.length co53)) (fun _ hk => trivial)⟩
                                  have n2_ : Aside0 ((w52.setCell ⟨gb122, 1, none⟩ (.slice Ao53 y134.length co53)).heap[gb121]? = some (.cells #[.slice none 0 0, .slice none 0 0] 39 (0, 0))) := ⟨by (with_reducible repeat (first | refine blk_drewN ?_ _ | refine blk_drew ?_ | refine blk_alloc ?_ _)); refine blk_far ?_ NB121_122.out _; (with_reducible repeat (first | refine blk_drewN ?_ _ | refine blk_drew ?_ | refine blk_alloc ?_ _)); exact BK121.out⟩
                                  have n3_ : Aside0 ((w52.setCell ⟨gb122, 1, none⟩ (.slice Ao53 y134.length co53)).heap[gb122]? = some (.cells #[.slice Ao50 y131.length co50, .slice Ao53 y134.length co53] 39 (0, 0))) := ⟨by (with_reducible repeat (first | refine blk_drewN ?_ _ | refine blk_drew ?_ | refine blk_alloc ?_ _)); refine blk_put (cs := #[.slice Ao50 y131.length co50, u123001]) ?_ 1 _ rfl; (with_reducible repeat (first | refine blk_drewN ?_ _ | refine blk_drew ?_ | refine blk_alloc ?_ _)); exact BK122.out⟩
                                  have n4_ : Aside0 (Below w.heap.size w (w52.setCell ⟨gb122, 1, none⟩ (.slice Ao53 y134.length co53))) := ⟨by repeat (first | (with_reducible first | exact HB.out | apply below_alloc | apply pw_below_drewN | apply below_drew1 | refine below_set ?_ GE121.out | refine below_set ?_ GE122.out) | exact HB.out)⟩
                                  (try clear HO133)
                                  (try clear HO136)
                                  (try clear BK121)
                                  (try clear BK122)
                                  (try clear HB)
                                  generalize (w52.setCell ⟨gb122, 1, none⟩ (.slice Ao53 y134.length co53)) = w55 at n0_ n1_ n2_ n3_ n4_ ⊢
                                  have HO133 := n0_
                                  have HO136 := n1_
                                  have BK121 := n2_
                                  have BK122 := n3_
                                  have HB := n4_
                                  clear n0_ n1_ n2_ n3_ n4_
                                  have n0_ := Aside0.mk (Kd.R_drew HO133.out)
                                  have n1_ := Aside0.mk (Kd.R_drew HO136.out)
                                  have n2_ := Aside0.mk (blk_drew BK121.out)
                                  have n3_ := Aside0.mk (blk_drew BK122.out)
                                  have n4_ := Aside0.mk (below_drew1 HB.out)
                                  clear HO133
                                  clear HO136
                                  clear BK121
                                  clear BK122
                                  clear HB
                                  have HO133 := n0_
                                  have HO136 := n1_
                                  have BK121 := n2_
                                  have BK122 := n3_
                                  have HB := n4_
                                  clear n0_ n1_ n2_ n3_ n4_
                                  have p137 : 0 ≤ ((ji39) : Int) := of_decide_eq_true (by first | (with_reducible assumption) | assumption)
                                  have q137 : (ji39) < (y131.length : Int) := of_decide_eq_true (by first | (with_reducible assumption) | assumption)
                                  obtain ⟨ad137, e137, hx137_0⟩ := Kd.at_string (Kd.R_reads' HO133.out).2.2 (ji39) p137 q137
                                  cases e137
                                  replace p137 := eq_true p137
                                  replace q137 := eq_true q137
                                  have p46 : 0 ≤ ((ji39) : Int) := of_decide_eq_true (by first | (with_reducible assumption) | assumption)
                                  have q46 : ((ji39) : Int) < ((y131.length : Int) : Int) := of_decide_eq_true (by first | (with_reducible assumption) | assumption)
                                  obtain ⟨go46, co46, eo46, gb46, gl46, cl46, HG46⟩ := Kd.R_form HO133.out (by omega)
                                  (first | cases eo46 | (injection eo46 with ea_ en_ ec_; (first | subst ea_ | (injection ea_ with ea_; subst ea_)); subst ec_; clear en_))
                                  have GB46 := Aside0.mk gb46
                                  have GG46 := Aside0.mk HG46
                                  clear gb46 gl46 HG46
                                  (first | simp only [add_plain] at hx137_0 | skip)
                                  obtain ⟨hx46_0, hf46_0⟩ := Kd.R_celln (⟨#[]⟩ : ByteArray) HO133.out ((ji39) : Int) p46 q46
                                  replace p46 := eq_true p46
                                  replace q46 := eq_true q46
                                  have HP57 := Kd.R_putn HO133.out ((ji39) : Int) ((rdOf ByteArray.empty y131 (ji39)) ++ (a0.extract (x4_1 : Int).toNat ((wrap64 (x4_1 + 1)) : Int).toNat))
                                  rw [← Ny138.out] at HP57
                                  have HQ57 := Aside0.mk HP57
                                  clear HP57
                                  refine start_ (n := 16) (S := fun w' => w'.cell? ⟨gb122, 0, none⟩ = some (.slice (some ⟨go46, 0, none⟩) y131.length co50) ∧ w'.cell? ⟨gb122, 1, none⟩ = some (.slice Ao53 y134.length co53) ∧ w'.cell? ⟨go46, ((ji39)).toNat, none⟩ = some (.string (rdOf ByteArray.empty y131 (ji39)))) (ds := [15]) #[false, false, false, false, false, false, false, false, false, false, false, false, false, false, false, false] (by kernel_rfl) rfl rfl ⟨(blk_cell BK122.out 0).trans rfl, (blk_cell BK122.out 1).trans rfl, hx137_0⟩ (fun hHeld => ?_); refine with_tabW headroomref24_Words.tab10 headroomref24_Words.bits10 (fun HT_ HW_ => ?_)
                                  generalize w55.drew = w56 at HO133 HO136 BK121 BK122 HB GG46 HQ57 hf46_0 hx137_0 hx46_0 hHeld ⊢
                                  refine pure_ (i := 0) (N := some 41) (v := ?_) (a' := ?_) #[true, false, false, false, false, false, false, false, false, false, false, false, false, false, false, false] rfl rfl (any_of HT_.out (by kernel_rfl)) (fun _ _ _ h => h) (Or.inl ⟨by rfl, ?_⟩) ?_ ?_
                                  rotate_left
                                  · intro w'
                                    go_simp
                                    with_reducible rfl
                                  rotate_left
                                  · simp only [Act.put, List.setIfInBounds_toArray, List.set_cons_zero, List.set_cons_succ, i64_w, i32_w]
                                    rfl
                                  refine pure_ (i := 2) (N := some 43) (v := ?_) (a' := ?_) #[true, false, true, false, false, false, false, false, false, false, false, false, false, false, false, false] rfl rfl (any_of HT_.out (by kernel_rfl)) (fun _ _ _ h => h) (Or.inl ⟨by rfl, ?_⟩) ?_ ?_
                                  rotate_left
                                  · intro w'
                                    go_simp
                                    with_reducible rfl
                                  rotate_left
                                  · simp only [Act.put, List.setIfInBounds_toArray, List.set_cons_zero, List.set_cons_succ, i64_w, i32_w]
                                    rfl
                                  refine pure_ (i := 3) (N := some 44) (v := ?_) (a' := ?_) #[true, false, true, true, false, false, false, false, false, false, false, false, false, false, false, false] rfl rfl (any_of HT_.out (by kernel_rfl)) (fun _ _ _ h => h) (Or.inl ⟨by rfl, ?_⟩) ?_ ?_
                                  rotate_left
                                  · intro w'
                                    go_simp
                                    with_reducible rfl
                                  rotate_left
                                  · simp only [Act.put, List.setIfInBounds_toArray, List.set_cons_zero, List.set_cons_succ, i64_w, i32_w]
                                    rfl
                                  refine pure_ (i := 5) (N := some 46) (v := ?_) (a' := ?_) #[true, false, true, true, false, true, false, false, false, false, false, false, false, false, false, false] rfl rfl (any_of HT_.out (by kernel_rfl)) (fun _ _ _ h => h) (Or.inl ⟨by rfl, ?_⟩) ?_ ?_
                                  rotate_left
                                  · intro w'
                                    go_simp
                                    with_reducible rfl
                                  rotate_left
                                  · simp only [Act.put, List.setIfInBounds_toArray, List.set_cons_zero, List.set_cons_succ, i64_w, i32_w]
                                    rfl
                                  refine pure_ (i := 8) (N := some 49) (v := ?_) (a' := ?_) #[true, false, true, true, false, true, false, false, true, false, false, false, false, false, false, false] rfl rfl (any_of HT_.out (by kernel_rfl)) (fun _ _ _ h => h) (Or.inl ⟨by rfl, ?_⟩) ?_ ?_
                                  rotate_left
                                  · intro w'
                                    go_simp
                                    with_reducible rfl
                                  rotate_left
                                  · simp only [Act.put, List.setIfInBounds_toArray, List.set_cons_zero, List.set_cons_succ, i64_w, i32_w]
                                    rfl
                                  refine pure_ (i := 9) (N := some 50) (v := ?_) (a' := ?_) #[true, false, true, true, false, true, false, false, true, true, false, false, false, false, false, false] rfl rfl (any_of HT_.out (by kernel_rfl)) (fun _ _ _ h => h) (Or.inl ⟨by rfl, ?_⟩) ?_ ?_
                                  rotate_left
                                  · intro w'
                                    go_simp
                                    with_reducible rfl
                                  rotate_left
                                  · simp only [Act.put, List.setIfInBounds_toArray, List.set_cons_zero, List.set_cons_succ, i64_w, i32_w]
                                    rfl
                                  refine pure_ (i := 10) (N := some 51) (v := ?_) (a' := ?_) #[true, false, true, true, false, true, false, false, true, true, true, false, false, false, false, false] rfl rfl (any_of HT_.out (by kernel_rfl)) (fun _ _ _ h => h) (Or.inl ⟨by rfl, ?_⟩) ?_ ?_
                                  rotate_left
                                  · intro w'
                                    go_simp
                                    with_reducible rfl
                                  rotate_left
                                  · simp only [Act.put, List.setIfInBounds_toArray, List.set_cons_zero, List.set_cons_succ, i64_w, i32_w]
                                    rfl
                                  refine pure_ (i := 11) (N := some 52) (v := ?_) (a' := ?_) #[true, false, true, true, false, true, false, false, true, true, true, true, false, false, false, false] rfl rfl (any_of HT_.out (by kernel_rfl)) (fun _ _ _ h => h) (Or.inl ⟨by rfl, ?_⟩) ?_ ?_
                                  rotate_left
                                  · intro w'
                                    go_simp
                                    with_reducible rfl
                                  rotate_left
                                  · simp only [Act.put, List.setIfInBounds_toArray, List.set_cons_zero, List.set_cons_succ, i64_w, i32_w]
                                    rfl
                                  refine pure_ (i := 12) (N := some 53) (v := ?_) (a' := ?_) #[true, false, true, true, false, true, false, false, true, true, true, true, true, false, false, false] rfl rfl (any_of HT_.out (by kernel_rfl)) (fun _ _ _ h => h) (Or.inl ⟨by rfl, ?_⟩) ?_ ?_
                                  rotate_left
                                  · intro w'
                                    go_simp
                                    with_reducible rfl
                                  rotate_left
                                  · simp only [Act.put, List.setIfInBounds_toArray, List.set_cons_zero, List.set_cons_succ, i64_w, i32_w]
                                    rfl
                                  refine take_ (i := 1) (N := some 42) (v := ?_) (a' := ?_) #[true, true, true, true, false, true, false, false, true, true, true, true, true, false, false, false] rfl rfl (take_ofW HT_.out HW_.out (by kernel_rfl)) (fun _ _ _ h => h) (Or.inl ⟨by rfl, ?_⟩) hHeld ?_ ?_
                                  rotate_left
                                  · rintro w' ⟨s0, s1, s2⟩
                                    go_simp
                                    with_reducible rfl
                                  rotate_left
                                  · simp only [Act.put, List.setIfInBounds_toArray, List.set_cons_zero, List.set_cons_succ, i64_w, i32_w]
                                    rfl
                                  refine take_ (i := 4) (N := some 45) (v := ?_) (a' := ?_) #[true, true, true, true, true, true, false, false, true, true, true, true, true, false, false, false] rfl rfl (take_ofW HT_.out HW_.out (by kernel_rfl)) (fun _ _ _ h => h) (Or.inl ⟨by rfl, ?_⟩) hHeld ?_ ?_
                                  rotate_left
                                  · rintro w' ⟨s0, s1, s2⟩
                                    go_simp
                                    with_reducible rfl
                                  rotate_left
                                  · simp only [Act.put, List.setIfInBounds_toArray, List.set_cons_zero, List.set_cons_succ, i64_w, i32_w]
                                    rfl
                                  refine pure_ (i := 6) (N := some 47) (v := ?_) (a' := ?_) #[true, true, true, true, true, true, true, false, true, true, true, true, true, false, false, false] rfl rfl (any_of HT_.out (by kernel_rfl)) (fun _ _ _ h => h) (Or.inl ⟨by rfl, ?_⟩) ?_ ?_
                                  rotate_left
                                  · intro w'
                                    go_simp
                                    with_reducible rfl
                                  rotate_left
                                  · simp only [Act.put, List.setIfInBounds_toArray, List.set_cons_zero, List.set_cons_succ, i64_w, i32_w]
                                    rfl
                                  refine take_ (i := 7) (N := some 48) (v := ?_) (a' := ?_) #[true, true, true, true, true, true, true, true, true, true, true, true, true, false, false, false] rfl rfl (take_ofW HT_.out HW_.out (by kernel_rfl)) (fun _ _ _ h => h) (Or.inl ⟨by rfl, ?_⟩) hHeld ?_ ?_
                                  rotate_left
                                  · rintro w' ⟨s0, s1, s2⟩
                                    go_simp
                                    with_reducible rfl
                                  rotate_left
                                  · simp only [Act.put, List.setIfInBounds_toArray, List.set_cons_zero, List.set_cons_succ, i64_w, i32_w]
                                    rfl
                                  refine pure_ (i := 13) (N := some 54) (v := ?_) (a' := ?_) #[true, true, true, true, true, true, true, true, true, true, true, true, true, true, false, false] rfl rfl (any_of HT_.out (by kernel_rfl)) (fun _ _ _ h => h) (Or.inl ⟨by rfl, ?_⟩) ?_ ?_
                                  rotate_left
                                  · intro w'
                                    go_simp
                                    with_reducible rfl
                                  rotate_left
                                  · simp only [Act.put, List.setIfInBounds_toArray, List.set_cons_zero, List.set_cons_succ, i64_w, i32_w]
                                    rfl
                                  refine pure_ (i := 14) (N := some 55) (v := ?_) (a' := ?_) #[true, true, true, true, true, true, true, true, true, true, true, true, true, true, true, false] rfl rfl (any_of HT_.out (by kernel_rfl)) (fun _ _ _ h => h) (Or.inl ⟨by rfl, ?_⟩) ?_ ?_
                                  rotate_left
                                  · intro w'
                                    go_simp
                                    with_reducible rfl
                                  rotate_left
                                  · simp only [Act.put, List.setIfInBounds_toArray, List.set_cons_zero, List.set_cons_succ, i64_w, i32_w]
                                    rfl
                                  refine last_ (i := 15) (N := none) #[true, true, true, true, true, true, true, true, true, true, true, true, true, true, true, true] rfl rfl (one_of HT_.out (by kernel_rfl)) (by decide) (fun K hK => ?_)
                                  refine skip_ (w1 := ?_) (by rfl) rfl ?_ ?_
                                  rotate_left
                                  · go_simp
                                    rfl
                                  refine hK.out _ _ ?_
                                  clear hK K
                                  refine done_ (done_of HT_.out (by kernel_rfl)) ?_
                                  try go_wp2
                                  go_roundg k1
                                  case measure => have := HK1.out; omega
                                  case rel => exact ⟨(wrap64 (x4_1 + 1)), (y138), (y134), (.slice (some ⟨go46, 0, none⟩) y131.length co50), (.slice Ao53 y134.length co53), (by first | rfl | (simp; done) | (simp [*]; done)), H', ⟨by have := HK1.out; omega⟩, ⟨by (with_reducible repeat (first | apply Kd.R_alloc | apply Kd.R_drewN | apply Kd.R_drew)); exact HQ57.out⟩, ⟨by (with_reducible repeat (first | apply Kd.R_alloc | apply Kd.R_drewN | apply Kd.R_drew)); exact Kd.R_mono (Kd.R_far (p := ⟨go46, ((ji39) : Int).toNat, none⟩) (Kd.R_types HO136.out GG46.out (by decide)) (fun _ hk => hk.2) (.string ((rdOf ByteArray.empty y131 (ji39)) ++ (a0.extract (x4_1 : Int).toNat ((wrap64 (x4_1 + 1)) : Int).toNat)))) (fun _ hk => trivial)⟩, ⟨by (with_reducible repeat (first | refine blk_drewN ?_ _ | refine blk_drew ?_ | refine blk_alloc ?_ _)); refine blk_far ?_ (by have h_ := Kd.R_ne HO133.out BK121.out (by decide); intro e_; exact h_ (by rw [e_]; rfl)) _; (with_reducible repeat (first | refine blk_drewN ?_ _ | refine blk_drew ?_ | refine blk_alloc ?_ _)); exact BK121.out⟩, ⟨by (with_reducible repeat (first | refine blk_drewN ?_ _ | refine blk_drew ?_ | refine blk_alloc ?_ _)); refine blk_far ?_ (by have h_ := Kd.R_ne HO133.out BK122.out (by decide); intro e_; exact h_ (by rw [e_]; rfl)) _; (with_reducible repeat (first | refine blk_drewN ?_ _ | refine blk_drew ?_ | refine blk_alloc ?_ _)); exact BK122.out⟩, ⟨by repeat (first | (with_reducible first | exact HB.out | apply below_alloc | apply pw_below_drewN | apply below_drew1 | refine below_set ?_ GB46.out | refine below_set ?_ GE121.out | refine below_set ?_ GE122.out) | exact HB.out)⟩⟩
                                · rw [if_neg c45] at H
                                  exact absurd H (by simp)
                              · rw [if_neg c44] at H
                                exact absurd H (by simp)
                            · rw [if_neg c43] at H
                              exact absurd H (by simp)
                          · rw [if_neg c41] at H
                            exact absurd H (by simp)
                        · rw [if_neg c40] at H
                          exact absurd H (by simp)
                      · rw [if_neg c38] at H
                        exact absurd H (by simp)
                    · rw [if_neg c37] at H
                      exact absurd H (by simp)
                  · rw [if_neg c36] at H
                    have c36b0 : ((bt a0 (ji32)) == 32) = false := beq_eq_false_iff_ne.mpr c36
                    have c36b1 : ((bt a0 (ji32)) != 32) = true := bne_iff_ne.mpr c36
                    obtain ⟨ji58, hji58⟩ : ∃ j_ : Int, (wrap64 ((x123000_1.length : Int) - 1)) = j_ := ⟨_, rfl⟩
                    replace H : (if 0 ≤ (ji58) then (if (ji58) < (x123000_1.length : Int) then (if x4_1 ≤ (wrap64 (x4_1 + 1)) then (if (wrap64 (x4_1 + 1)) ≤ (a0.size : Int) then (if (rdOf ByteArray.empty x123000_1 (ji58)).size + (a0.extract (x4_1 : Int).toNat ((wrap64 (x4_1 + 1)) : Int).toNat).size ≤ 9223372036854775807 then (headroomref24_Words.l0 k1 a0 (wrap64 (x4_1 + 1)) (x123000_1.set ((ji58) : Int).toNat ((rdOf ByteArray.empty x123000_1 (ji58)) ++ (a0.extract (x4_1 : Int).toNat ((wrap64 (x4_1 + 1)) : Int).toNat))) x123001_1) else (none)) else (none)) else (none)) else (none)) else (none)) = some (r1, r2) := by first | (rw [hji58] at H; exact H) | (simp only [hji58] at H ⊢; exact H)
                    have hji58w : (IntKind.i64.wrap ((x123000_1.length : Int) - 1)) = ji58 := (i64_w _).trans hji58
                    by_cases c59 : 0 ≤ (ji58)
                    · rw [if_pos c59] at H
                      have c59b0 : decide (0 ≤ (ji58)) = true := decide_eq_true c59
                      clear c59
                      by_cases c60 : (ji58) < (x123000_1.length : Int)
                      · rw [if_pos c60] at H
                        have c60b0 : decide ((ji58) < (x123000_1.length : Int)) = true := decide_eq_true c60
                        clear c60
                        have c61b0 := eq_true (of_decide_eq_true (by first | (with_reducible assumption) | assumption) : 0 ≤ x4_1)
                        by_cases c62 : x4_1 ≤ (wrap64 (x4_1 + 1))
                        · rw [if_pos c62] at H
                          have c62b0 := eq_true c62
                          have c62b1 : decide (x4_1 ≤ (wrap64 (x4_1 + 1))) = true := decide_eq_true c62
                          by_cases c63 : (wrap64 (x4_1 + 1)) ≤ (a0.size : Int)
                          · rw [if_pos c63] at H
                            have c63b0 := eq_true c63
                            have c63b1 : decide ((wrap64 (x4_1 + 1)) ≤ (a0.size : Int)) = true := decide_eq_true c63
                            by_cases c64 : (rdOf ByteArray.empty x123000_1 (ji58)).size + (a0.extract (x4_1 : Int).toNat ((wrap64 (x4_1 + 1)) : Int).toNat).size ≤ 9223372036854775807
                            · rw [if_pos c64] at H
                              have c64b0 := eq_true c64
                              have c64b1 : decide ((rdOf ByteArray.empty x123000_1 (ji58)).size + (a0.extract (x4_1 : Int).toNat ((wrap64 (x4_1 + 1)) : Int).toNat).size ≤ 9223372036854775807) = true := decide_eq_true c64
                              try have c64b2 : (9223372036854775807 < (rdOf ByteArray.empty x123000_1 (ji58)).size + (a0.extract (x4_1 : Int).toNat ((wrap64 (x4_1 + 1)) : Int).toNat).size) = False := eq_false (Nat.not_lt.2 c64)
                              have c64b3 : (9223372036854775807 < (rdOf ByteArray.empty x123000_1 (ji58)).size + (((wrap64 (x4_1 + 1) : Int)).toNat - (x4_1 : Int).toNat)) = False := eq_false (Nat.not_lt.2 (by have h_ : (wrap64 (x4_1 + 1) : Int) ≤ (a0.size : Int) := of_decide_eq_true (by assumption); have e_ : (a0.extract (x4_1 : Int).toNat (wrap64 (x4_1 + 1) : Int).toNat).size = (wrap64 (x4_1 + 1) : Int).toNat - (x4_1 : Int).toNat := (by rw [ByteArray.size_extract]; omega); rw [← e_]; exact c64))
                              obtain ⟨y140, hy140⟩ : ∃ y_ : List ByteArray, y_ = (x123000_1.set ((ji58) : Int).toNat ((rdOf ByteArray.empty x123000_1 (ji58)) ++ (a0.extract (x4_1 : Int).toNat ((wrap64 (x4_1 + 1)) : Int).toNat))) := ⟨_, rfl⟩
                              replace H : (headroomref24_Words.l0 k1 a0 (wrap64 (x4_1 + 1)) y140 x123001_1) = some (r1, r2) := by first | (rw [hy140]; with_reducible exact H) | (have H2_ := (Option.bind_some _ _).symm.trans H; rw [hy140]; with_reducible exact H2_) | (have H2_ := (Option.bind_some _ _).symm.trans H; with_reducible exact H2_) | with_reducible exact H | (rw [hy140]; exact H) | exact H
                              have Ny140 := Aside0.mk hy140
                              clear hy140
                              have H' := Aside0.mk H
                              clear H
                              have p8 : 0 ≤ (x4_1 : Int) := of_decide_eq_true (by first | (with_reducible assumption) | assumption)
                              have q8 : x4_1 < (a0.size : Int) := of_decide_eq_true (by first | (with_reducible assumption) | assumption)
                              have hx8 := bt_at a0 x4_1
                              replace p8 := eq_true p8
                              replace q8 := eq_true q8
                              have p35 : 0 ≤ ((ji32) : Int) := of_decide_eq_true (by first | (with_reducible assumption) | assumption)
                              have q35 : (ji32) < (a0.size : Int) := of_decide_eq_true (by first | (with_reducible assumption) | assumption)
                              have hx35 := bt_at a0 (ji32)
                              replace p35 := eq_true p35
                              replace q35 := eq_true q35
                              have hnb66 := NB122_121.out
                              have hnc66 := NB121_122.out
                              have hcz67_0 : wr.cell? ⟨gb122, 0, none⟩ = some (u123000) := (blk_cell BK122.out 0).trans rfl
                              have hcz67_1 : wr.cell? ⟨gb122, 1, none⟩ = some (u123001) := (blk_cell BK122.out 1).trans rfl
                              have hfz67_0 := blk_frozen BK122.out 0
                              have hfz67_1 := blk_frozen BK122.out 1
                              obtain ⟨Ao68, co68, eo68⟩ := Kd.R_slice HO_123000.out
                              subst eo68
                              try go_wp2
                              have n0_ := Aside0.mk (Kd.R_drew HO_123000.out)
                              have n1_ := Aside0.mk (Kd.R_drew HO_123001.out)
                              have n2_ := Aside0.mk (blk_drew BK121.out)
                              have n3_ := Aside0.mk (blk_drew BK122.out)
                              have n4_ := Aside0.mk (below_drew1 HB.out)
                              clear HO_123000
                              clear HO_123001
                              clear BK121
                              clear BK122
                              clear HB
                              have HO_123000 := n0_
                              have HO_123001 := n1_
                              have BK121 := n2_
                              have BK122 := n3_
                              have HB := n4_
                              clear n0_ n1_ n2_ n3_ n4_
                              have p139 : 0 ≤ ((ji58) : Int) := of_decide_eq_true (by first | (with_reducible assumption) | assumption)
                              have q139 : (ji58) < (x123000_1.length : Int) := of_decide_eq_true (by first | (with_reducible assumption) | assumption)
                              obtain ⟨ad139, e139, hx139_0⟩ := Kd.at_string (Kd.R_reads' HO_123000.out).2.2 (ji58) p139 q139
                              cases e139
                              replace p139 := eq_true p139
                              replace q139 := eq_true q139
                              have p65 : 0 ≤ ((ji58) : Int) := of_decide_eq_true (by first | (with_reducible assumption) | assumption)
                              have q65 : ((ji58) : Int) < ((x123000_1.length : Int) : Int) := of_decide_eq_true (by first | (with_reducible assumption) | assumption)
                              obtain ⟨go65, co65, eo65, gb65, gl65, cl65, HG65⟩ := Kd.R_form HO_123000.out (by omega)
                              (first | cases eo65 | (injection eo65 with ea_ en_ ec_; (first | subst ea_ | (injection ea_ with ea_; subst ea_)); subst ec_; clear en_))
                              have GB65 := Aside0.mk gb65
                              have GG65 := Aside0.mk HG65
                              clear gb65 gl65 HG65
                              (first | simp only [add_plain] at hx139_0 | skip)
                              obtain ⟨hx65_0, hf65_0⟩ := Kd.R_celln (⟨#[]⟩ : ByteArray) HO_123000.out ((ji58) : Int) p65 q65
                              replace p65 := eq_true p65
                              replace q65 := eq_true q65
                              have HP70 := Kd.R_putn HO_123000.out ((ji58) : Int) ((rdOf ByteArray.empty x123000_1 (ji58)) ++ (a0.extract (x4_1 : Int).toNat ((wrap64 (x4_1 + 1)) : Int).toNat))
                              rw [← Ny140.out] at HP70
                              have HQ70 := Aside0.mk HP70
                              clear HP70
                              refine start_ (n := 16) (S := fun w' => w'.cell? ⟨gb122, 0, none⟩ = some (.slice (some ⟨go65, 0, none⟩) x123000_1.length co68) ∧ w'.cell? ⟨gb122, 1, none⟩ = some (u123001) ∧ w'.cell? ⟨go65, ((ji58)).toNat, none⟩ = some (.string (rdOf ByteArray.empty x123000_1 (ji58)))) (ds := [15]) #[false, false, false, false, false, false, false, false, false, false, false, false, false, false, false, false] (by kernel_rfl) rfl rfl ⟨(blk_cell BK122.out 0).trans rfl, (blk_cell BK122.out 1).trans rfl, hx139_0⟩ (fun hHeld => ?_); refine with_tabW headroomref24_Words.tab10 headroomref24_Words.bits10 (fun HT_ HW_ => ?_)
                              generalize wr.drew = w69 at HO_123000 HO_123001 BK121 BK122 HB GG65 HQ70 hf65_0 hx139_0 hx65_0 hHeld ⊢
                              refine pure_ (i := 0) (N := some 41) (v := ?_) (a' := ?_) #[true, false, false, false, false, false, false, false, false, false, false, false, false, false, false, false] rfl rfl (any_of HT_.out (by kernel_rfl)) (fun _ _ _ h => h) (Or.inl ⟨by rfl, ?_⟩) ?_ ?_
                              rotate_left
                              · intro w'
                                go_simp
                                with_reducible rfl
                              rotate_left
                              · simp only [Act.put, List.setIfInBounds_toArray, List.set_cons_zero, List.set_cons_succ, i64_w, i32_w]
                                rfl
                              refine pure_ (i := 2) (N := some 43) (v := ?_) (a' := ?_) #[true, false, true, false, false, false, false, false, false, false, false, false, false, false, false, false] rfl rfl (any_of HT_.out (by kernel_rfl)) (fun _ _ _ h => h) (Or.inl ⟨by rfl, ?_⟩) ?_ ?_
                              rotate_left
                              · intro w'
                                go_simp
                                with_reducible rfl
                              rotate_left
                              · simp only [Act.put, List.setIfInBounds_toArray, List.set_cons_zero, List.set_cons_succ, i64_w, i32_w]
                                rfl
                              refine pure_ (i := 3) (N := some 44) (v := ?_) (a' := ?_) #[true, false, true, true, false, false, false, false, false, false, false, false, false, false, false, false] rfl rfl (any_of HT_.out (by kernel_rfl)) (fun _ _ _ h => h) (Or.inl ⟨by rfl, ?_⟩) ?_ ?_
                              rotate_left
                              · intro w'
                                go_simp
                                with_reducible rfl
                              rotate_left
                              · simp only [Act.put, List.setIfInBounds_toArray, List.set_cons_zero, List.set_cons_succ, i64_w, i32_w]
                                rfl
                              refine pure_ (i := 5) (N := some 46) (v := ?_) (a' := ?_) #[true, false, true, true, false, true, false, false, false, false, false, false, false, false, false, false] rfl rfl (any_of HT_.out (by kernel_rfl)) (fun _ _ _ h => h) (Or.inl ⟨by rfl, ?_⟩) ?_ ?_
                              rotate_left
                              · intro w'
                                go_simp
                                with_reducible rfl
                              rotate_left
                              · simp only [Act.put, List.setIfInBounds_toArray, List.set_cons_zero, List.set_cons_succ, i64_w, i32_w]
                                rfl
                              refine pure_ (i := 8) (N := some 49) (v := ?_) (a' := ?_) #[true, false, true, true, false, true, false, false, true, false, false, false, false, false, false, false] rfl rfl (any_of HT_.out (by kernel_rfl)) (fun _ _ _ h => h) (Or.inl ⟨by rfl, ?_⟩) ?_ ?_
                              rotate_left
                              · intro w'
                                go_simp
                                with_reducible rfl
                              rotate_left
                              · simp only [Act.put, List.setIfInBounds_toArray, List.set_cons_zero, List.set_cons_succ, i64_w, i32_w]
                                rfl
                              refine pure_ (i := 9) (N := some 50) (v := ?_) (a' := ?_) #[true, false, true, true, false, true, false, false, true, true, false, false, false, false, false, false] rfl rfl (any_of HT_.out (by kernel_rfl)) (fun _ _ _ h => h) (Or.inl ⟨by rfl, ?_⟩) ?_ ?_
                              rotate_left
                              · intro w'
                                go_simp
                                with_reducible rfl
                              rotate_left
                              · simp only [Act.put, List.setIfInBounds_toArray, List.set_cons_zero, List.set_cons_succ, i64_w, i32_w]
                                rfl
                              refine pure_ (i := 10) (N := some 51) (v := ?_) (a' := ?_) #[true, false, true, true, false, true, false, false, true, true, true, false, false, false, false, false] rfl rfl (any_of HT_.out (by kernel_rfl)) (fun _ _ _ h => h) (Or.inl ⟨by rfl, ?_⟩) ?_ ?_
                              rotate_left
                              · intro w'
                                go_simp
                                with_reducible rfl
                              rotate_left
                              · simp only [Act.put, List.setIfInBounds_toArray, List.set_cons_zero, List.set_cons_succ, i64_w, i32_w]
                                rfl
                              refine pure_ (i := 11) (N := some 52) (v := ?_) (a' := ?_) #[true, false, true, true, false, true, false, false, true, true, true, true, false, false, false, false] rfl rfl (any_of HT_.out (by kernel_rfl)) (fun _ _ _ h => h) (Or.inl ⟨by rfl, ?_⟩) ?_ ?_
                              rotate_left
                              · intro w'
                                go_simp
                                with_reducible rfl
                              rotate_left
                              · simp only [Act.put, List.setIfInBounds_toArray, List.set_cons_zero, List.set_cons_succ, i64_w, i32_w]
                                rfl
                              refine pure_ (i := 12) (N := some 53) (v := ?_) (a' := ?_) #[true, false, true, true, false, true, false, false, true, true, true, true, true, false, false, false] rfl rfl (any_of HT_.out (by kernel_rfl)) (fun _ _ _ h => h) (Or.inl ⟨by rfl, ?_⟩) ?_ ?_
                              rotate_left
                              · intro w'
                                go_simp
                                with_reducible rfl
                              rotate_left
                              · simp only [Act.put, List.setIfInBounds_toArray, List.set_cons_zero, List.set_cons_succ, i64_w, i32_w]
                                rfl
                              refine take_ (i := 1) (N := some 42) (v := ?_) (a' := ?_) #[true, true, true, true, false, true, false, false, true, true, true, true, true, false, false, false] rfl rfl (take_ofW HT_.out HW_.out (by kernel_rfl)) (fun _ _ _ h => h) (Or.inl ⟨by rfl, ?_⟩) hHeld ?_ ?_
                              rotate_left
                              · rintro w' ⟨s0, s1, s2⟩
                                go_simp
                                with_reducible rfl
                              rotate_left
                              · simp only [Act.put, List.setIfInBounds_toArray, List.set_cons_zero, List.set_cons_succ, i64_w, i32_w]
                                rfl
                              refine take_ (i := 4) (N := some 45) (v := ?_) (a' := ?_) #[true, true, true, true, true, true, false, false, true, true, true, true, true, false, false, false] rfl rfl (take_ofW HT_.out HW_.out (by kernel_rfl)) (fun _ _ _ h => h) (Or.inl ⟨by rfl, ?_⟩) hHeld ?_ ?_
                              rotate_left
                              · rintro w' ⟨s0, s1, s2⟩
                                go_simp
                                with_reducible rfl
                              rotate_left
                              · simp only [Act.put, List.setIfInBounds_toArray, List.set_cons_zero, List.set_cons_succ, i64_w, i32_w]
                                rfl
                              refine pure_ (i := 6) (N := some 47) (v := ?_) (a' := ?_) #[true, true, true, true, true, true, true, false, true, true, true, true, true, false, false, false] rfl rfl (any_of HT_.out (by kernel_rfl)) (fun _ _ _ h => h) (Or.inl ⟨by rfl, ?_⟩) ?_ ?_
                              rotate_left
                              · intro w'
                                go_simp
                                with_reducible rfl
                              rotate_left
                              · simp only [Act.put, List.setIfInBounds_toArray, List.set_cons_zero, List.set_cons_succ, i64_w, i32_w]
                                rfl
                              refine take_ (i := 7) (N := some 48) (v := ?_) (a' := ?_) #[true, true, true, true, true, true, true, true, true, true, true, true, true, false, false, false] rfl rfl (take_ofW HT_.out HW_.out (by kernel_rfl)) (fun _ _ _ h => h) (Or.inl ⟨by rfl, ?_⟩) hHeld ?_ ?_
                              rotate_left
                              · rintro w' ⟨s0, s1, s2⟩
                                go_simp
                                with_reducible rfl
                              rotate_left
                              · simp only [Act.put, List.setIfInBounds_toArray, List.set_cons_zero, List.set_cons_succ, i64_w, i32_w]
                                rfl
                              refine pure_ (i := 13) (N := some 54) (v := ?_) (a' := ?_) #[true, true, true, true, true, true, true, true, true, true, true, true, true, true, false, false] rfl rfl (any_of HT_.out (by kernel_rfl)) (fun _ _ _ h => h) (Or.inl ⟨by rfl, ?_⟩) ?_ ?_
                              rotate_left
                              · intro w'
                                go_simp
                                with_reducible rfl
                              rotate_left
                              · simp only [Act.put, List.setIfInBounds_toArray, List.set_cons_zero, List.set_cons_succ, i64_w, i32_w]
                                rfl
                              refine pure_ (i := 14) (N := some 55) (v := ?_) (a' := ?_) #[true, true, true, true, true, true, true, true, true, true, true, true, true, true, true, false] rfl rfl (any_of HT_.out (by kernel_rfl)) (fun _ _ _ h => h) (Or.inl ⟨by rfl, ?_⟩) ?_ ?_
                              rotate_left
                              · intro w'
                                go_simp
                                with_reducible rfl
                              rotate_left
                              · simp only [Act.put, List.setIfInBounds_toArray, List.set_cons_zero, List.set_cons_succ, i64_w, i32_w]
                                rfl
                              refine last_ (i := 15) (N := none) #[true, true, true, true, true, true, true, true, true, true, true, true, true, true, true, true] rfl rfl (one_of HT_.out (by kernel_rfl)) (by decide) (fun K hK => ?_)
                              refine skip_ (w1 := ?_) (by rfl) rfl ?_ ?_
                              rotate_left
                              · go_simp
                                rfl
                              refine hK.out _ _ ?_
                              clear hK K
                              refine done_ (done_of HT_.out (by kernel_rfl)) ?_
                              try go_wp2
                              go_roundg k1
                              case measure => have := HK1.out; omega
                              case rel => exact ⟨(wrap64 (x4_1 + 1)), (y140), (x123001_1), (.slice (some ⟨go65, 0, none⟩) x123000_1.length co68), (u123001), (by first | rfl | (simp; done) | (simp [*]; done)), H', ⟨by have := HK1.out; omega⟩, ⟨by (with_reducible repeat (first | apply Kd.R_alloc | apply Kd.R_drewN | apply Kd.R_drew)); exact HQ70.out⟩, ⟨by (with_reducible repeat (first | apply Kd.R_alloc | apply Kd.R_drewN | apply Kd.R_drew)); exact Kd.R_mono (Kd.R_far (p := ⟨go65, ((ji58) : Int).toNat, none⟩) (Kd.R_types HO_123001.out GG65.out (by decide)) (fun _ hk => hk.2) (.string ((rdOf ByteArray.empty x123000_1 (ji58)) ++ (a0.extract (x4_1 : Int).toNat ((wrap64 (x4_1 + 1)) : Int).toNat)))) (fun _ hk => trivial)⟩, ⟨by (with_reducible repeat (first | refine blk_drewN ?_ _ | refine blk_drew ?_ | refine blk_alloc ?_ _)); refine blk_far ?_ (by have h_ := Kd.R_ne HO_123000.out BK121.out (by decide); intro e_; exact h_ (by rw [e_]; rfl)) _; (with_reducible repeat (first | refine blk_drewN ?_ _ | refine blk_drew ?_ | refine blk_alloc ?_ _)); exact BK121.out⟩, ⟨by (with_reducible repeat (first | refine blk_drewN ?_ _ | refine blk_drew ?_ | refine blk_alloc ?_ _)); refine blk_far ?_ (by have h_ := Kd.R_ne HO_123000.out BK122.out (by decide); intro e_; exact h_ (by rw [e_]; rfl)) _; (with_reducible repeat (first | refine blk_drewN ?_ _ | refine blk_drew ?_ | refine blk_alloc ?_ _)); exact BK122.out⟩, ⟨by repeat (first | (with_reducible first | exact HB.out | apply below_alloc | apply pw_below_drewN | apply below_drew1 | refine below_set ?_ GB65.out | refine below_set ?_ GE121.out | refine below_set ?_ GE122.out) | exact HB.out)⟩⟩
                            · rw [if_neg c64] at H
                              exact absurd H (by simp)
                          · rw [if_neg c63] at H
                            exact absurd H (by simp)
                        · rw [if_neg c62] at H
                          exact absurd H (by simp)
                      · rw [if_neg c60] at H
                        exact absurd H (by simp)
                    · rw [if_neg c59] at H
                      exact absurd H (by simp)
                · rw [if_neg c34] at H
                  exact absurd H (by simp)
              · rw [if_neg c33] at H
                exact absurd H (by simp)
        · rw [if_neg c7] at H
          exact absurd H (by simp)
      · rw [if_neg c6] at H
        have c6b0 : decide (x4_1 < (a0.size : Int)) = false := decide_eq_false c6
        clear c6
        simp only [Option.some.injEq, Prod.mk.injEq] at H
        obtain ⟨rfl, rfl⟩ := H
        have hnb71 := NB122_121.out
        have hnc71 := NB121_122.out
        have hcz72_0 : wr.cell? ⟨gb122, 0, none⟩ = some (u123000) := (blk_cell BK122.out 0).trans rfl
        have hcz72_1 : wr.cell? ⟨gb122, 1, none⟩ = some (u123001) := (blk_cell BK122.out 1).trans rfl
        have hfz72_0 := blk_frozen BK122.out 0
        have hfz72_1 := blk_frozen BK122.out 1
        obtain ⟨Ao73, co73, eo73⟩ := Kd.R_slice HO_123000.out
        subst eo73
        have hcz74_0 : wr.cell? ⟨gb121, 0, none⟩ = some (.slice none 0 0) := (blk_cell BK121.out 0).trans rfl
        have hcz74_1 : wr.cell? ⟨gb121, 1, none⟩ = some (.slice none 0 0) := (blk_cell BK121.out 1).trans rfl
        have hfz74_0 := blk_frozen BK121.out 0
        have hfz74_1 := blk_frozen BK121.out 1
        obtain ⟨Ao75, co75, eo75⟩ := Kd.R_slice HO_123001.out
        subst eo75
        go_wp2
        refine bodyPost_ret (results_cell_row rfl _ _ gb121 39 #[.slice Ao73 x123000_1.length co73, .slice Ao75 x123001_1.length co75] (0, 0) _ rfl (by (with_reducible repeat (first | refine blk_drewN ?_ _ | refine blk_drew ?_ | refine blk_alloc ?_ _)); refine blk_put (cs := #[.slice Ao73 x123000_1.length co73, .slice none 0 0]) ?_ 1 _ rfl; (with_reducible repeat (first | refine blk_drewN ?_ _ | refine blk_drew ?_ | refine blk_alloc ?_ _)); refine blk_put (cs := #[.slice none 0 0, .slice none 0 0]) ?_ 0 _ rfl; (with_reducible repeat (first | refine blk_drewN ?_ _ | refine blk_drew ?_ | refine blk_alloc ?_ _)); exact BK121.out) Tryd.underlying39 rfl (by kernel_rfl)) rfl ?_
        exact ⟨_, _, by first | rfl | (simp [errW_none, errW_some] <;> rfl) | (simp [*, errW_none, errW_some] <;> rfl), by (with_reducible repeat (first | apply Kd.R_alloc | apply Kd.R_drewN | apply Kd.R_drew)); exact Kd.R_mono (Kd.R_far (p := ⟨gb121, 1, none⟩) (Kd.R_far (p := ⟨gb121, 0, none⟩) (Kd.R_types HO_123000.out BK121.out (by decide)) (fun _ hk => hk.2) (.slice Ao73 x123000_1.length co73)) (fun _ hk => hk.2) (.slice Ao75 x123001_1.length co75)) (fun _ hk => trivial), by (with_reducible repeat (first | apply Kd.R_alloc | apply Kd.R_drewN | apply Kd.R_drew)); exact Kd.R_mono (Kd.R_far (p := ⟨gb121, 1, none⟩) (Kd.R_far (p := ⟨gb121, 0, none⟩) (Kd.R_types HO_123001.out BK121.out (by decide)) (fun _ hk => hk.2) (.slice Ao73 x123000_1.length co73)) (fun _ hk => hk.2) (.slice Ao75 x123001_1.length co75)) (fun _ hk => trivial), by repeat (first | (with_reducible first | exact HB.out | apply below_alloc | apply pw_below_drewN | apply below_drew1 | refine below_set ?_ GE121.out | refine below_set ?_ GE122.out) | exact HB.out)⟩

end Go.Proofs.YtajgpilcbaoneaaDoor.P
