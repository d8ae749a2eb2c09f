-- Printed for this claim by drive.py (a program of this session's) through the kit's print program; not trusted: Lean checks it.
import Derived.Test.YtajgpilcbaoneaaDoorP0
import Derived.Test.YtajgpilcbaoneaaDoorPf11
import Derived.Test.YtajgpilcbaoneaaDoorPf14
import Derived.Test.YtajgpilcbaoneaaDoorPf20
import Derived.Test.YtajgpilcbaoneaaDoorPg1
namespace Go.Proofs.YtajgpilcbaoneaaDoor.P
open Go.RowKit Go.Proofs.YtajgpilcbaoneaaDoorW.PrintWords Go.Proofs.YtajgpilcbaoneaaDoorW.PrintLast Go.Proofs.YtajgpilcbaoneaaDoorW.PrintMore
attribute [local go_sem] max2_int min2_int max_two min_two max_three min_three max_four min_four   -- for this text's walks alone
set_option linter.unusedVariables false
set_option linter.unusedSimpArgs false

theorem far6 {w : World} {g : Nat} {p : Addr} (h : p.block ≠ g) (v0 v1 v2 v3 v4 v5 : Value) : ((((((w.setCell ⟨g, 0, none⟩ v0).setCell ⟨g, 1, none⟩ v1).setCell ⟨g, 2, none⟩ v2).setCell ⟨g, 3, none⟩ v3).setCell ⟨g, 4, none⟩ v4).setCell ⟨g, 5, none⟩ v5).cell? p = w.cell? p :=
  (cell_far (p := ⟨g, 5, none⟩) h _).trans ((cell_far (p := ⟨g, 4, none⟩) h _).trans ((cell_far (p := ⟨g, 3, none⟩) h _).trans ((cell_far (p := ⟨g, 2, none⟩) h _).trans ((cell_far (p := ⟨g, 1, none⟩) h _).trans (cell_far (p := ⟨g, 0, none⟩) h _)))))
/-! ### headroomref24_Parse: function 7 -/
def headroomref24_Parse.l0 : Nat → ByteArray → List Int → List ByteArray → Int → Int → List ByteArray → List Int → Option (Int × Int × Int × Int × Int × Bool × Int × Int)
  | 0, _, _, _, _, _, _, _ => none
  | k + 1, x0, x4, x13, x14, x15, x176000, x176001 => if x15 < x14 then (if 0 ≤ x15 then (if x15 < (x13.length : Int) then ((headroomref24_May.f x15).bind fun t180 => ((headroomref24_find.f k t180 (rdOf ByteArray.empty x13 x15)).bind fun t183 => (if t183 < 0 then (if x15 < (x176001.length : Int) then (some (0, 0, 0, 0, 0, false, rd x176001 x15, 7)) else (none)) else (if x4.length < 17592186044416 then (headroomref24_Parse.l0 k x0 (x4 ++ [t183]) x13 x14 (wrap64 (x15 + 1)) x176000 x176001) else (none))))) else (none)) else (none)) else (if (x4.length : Int) < 6 then (some (0, 0, 0, 0, 0, false, (x0.size : Int), 7)) else (if 0 < (x4.length : Int) then (if 1 < (x4.length : Int) then (if 2 < (x4.length : Int) then (if 3 < (x4.length : Int) then (if 4 < (x4.length : Int) then (if 5 < (x4.length : Int) then ((headroomref13_Check.f k (rd x4 0) (wrap64 ((rd x4 1) + 2)) (rd x4 2) (rd x4 3) (rd x4 4) ((rd x4 5) == 1)).bind fun t195 => (if t195 = true then (some (rd x4 0, wrap64 ((rd x4 1) + 2), rd x4 2, rd x4 3, rd x4 4, ((rd x4 5) == 1), 0, 0)) else (some (0, 0, 0, 0, 0, false, 0, 4)))) else (none)) else (none)) else (none)) else (none)) else (none)) else (none)))
def headroomref24_Parse.f (k : Nat) (a0 : ByteArray) : Option (Int × Int × Int × Int × Int × Bool × Int × Int) := (headroomref24_Words.f k a0).bind fun bt169 => (headroomref24_Parse.l0 k a0 (([] : List Int)) bt169.1 (bt169.1.length : Int) 0 bt169.1 bt169.2)
theorem headroomref24_Parse.mono_l : ∀ k, (∀ y0 y1 y2 y3 y4 y5 y6, LeO (headroomref24_Parse.l0 k y0 y1 y2 y3 y4 y5 y6) (headroomref24_Parse.l0 (k + 1) y0 y1 y2 y3 y4 y5 y6))
  | 0 => fun _ _ _ _ _ _ _ r h => by simp [headroomref24_Parse.l0] at h
  | k + 1 => by
    have ih0 := headroomref24_Parse.mono_l k
    · intro y0 y1 y2 y3 y4 y5 y6
      unfold headroomref24_Parse.l0
      repeat' first
      | (with_reducible exact ih0 _ _ _ _ _ _ _)
      | (with_reducible exact headroomref13_Check.mono _ _ _ _ _ _ _)
      | (with_reducible exact headroomref24_Words.mono _ _)
      | (with_reducible exact headroomref24_find.mono _ _ _)
      | (with_reducible exact LeO.refl _)
      | (with_reducible exact LeO.none _)
      | (with_reducible refine LeO.ite ?_ ?_)
      | (with_reducible refine LeO.bind ?_ (fun _ => ?_))
      | exact ih0 _ _ _ _ _ _ _
      | exact headroomref13_Check.mono _ _ _ _ _ _ _
      | exact headroomref24_Words.mono _ _
      | exact headroomref24_find.mono _ _ _
      | exact LeO.none _
      | refine LeO.ite ?_ ?_
      | refine LeO.bind ?_ (fun _ => ?_)
theorem headroomref24_Parse.mono : ∀ a0 k, LeO (headroomref24_Parse.f k a0) (headroomref24_Parse.f (k + 1) a0) := by
  intro a0 k
  have ih0 := headroomref24_Parse.mono_l k
  unfold headroomref24_Parse.f
  repeat' first
      | (with_reducible exact ih0 _ _ _ _ _ _ _)
      | (with_reducible exact headroomref13_Check.mono _ _ _ _ _ _ _)
      | (with_reducible exact headroomref24_Words.mono _ _)
      | (with_reducible exact headroomref24_find.mono _ _ _)
      | (with_reducible exact LeO.refl _)
      | (with_reducible exact LeO.none _)
      | (with_reducible refine LeO.ite ?_ ?_)
      | (with_reducible refine LeO.bind ?_ (fun _ => ?_))
      | exact ih0 _ _ _ _ _ _ _
      | exact headroomref13_Check.mono _ _ _ _ _ _ _
      | exact headroomref24_Words.mono _ _
      | exact headroomref24_find.mono _ _ _
      | exact LeO.none _
      | refine LeO.ite ?_ ?_
      | refine LeO.bind ?_ (fun _ => ?_)
def headroomref24_Parse.T13 : Bool × List (List Nat × List Nat) := (true, [([], []), ([0], [0]), ([1], [1]), ([], []), ([3], [3]), ([4], [4]), ([5], [5]), ([], []), ([7], [7]), ([8], [8]), ([], []), ([10], [10]), ([11], [11]), ([], []), ([13], [13]), ([14], [14]), ([], []), ([16], [16]), ([17], [17]), ([18], [18]), ([2, 6, 9, 12, 15, 19], [2, 6, 9, 12, 15, 19]), ([], []), ([21, 20, 0, 1, 2, 3, 4, 5, 6, 7, 8, 9, 10, 11, 12, 13, 14, 15, 16, 17, 18, 19, 20, 21], [20, 21])])
def headroomref24_Parse.B13 : List Nat := [0, 1, 3, 0, 8, 24, 56, 0, 128, 384, 0, 1024, 3072, 0, 8192, 24576, 0, 65536, 196608, 458752, 1048575, 0, 4194303]
theorem headroomref24_Parse.tab13 : rtab .any (opsOf Tryd.f7 13) = headroomref24_Parse.T13 := by kernel_rfl
theorem headroomref24_Parse.bits13 : waitsOk headroomref24_Parse.T13.2 headroomref24_Parse.B13 = true := by kernel_rfl
set_option maxHeartbeats 8000000 in
set_option maxRecDepth 100000 in
theorem headroomref24_Parse.calls (k : Nat) (a0 : ByteArray) (r1 : Int) (r2 : Int) (r3 : Int) (r4 : Int) (r5 : Int) (r6 : Bool) (r7 : Int) (r8 : Int) (w : World) (h : headroomref24_Parse.f k a0 = some (r1, r2, r3, r4, r5, r6, r7, r8)) :
    Calls Tryd.prog 7 #[.string a0] w fun e w' => e = .returned (.agg #[.int .i64 r1, .int .i64 r2, .int .i64 r3, .int .i64 r4, .int .i64 r5, .bool r6, .int .i64 r7, .int .i64 r8]) ∧ Below w.heap.size w w' := by
  have hu28 := Tryd.underlying28
  have hu39 := Tryd.underlying39
  have hu23 := Tryd.underlying23
  have HB := Aside0.mk (Below.refl w.heap.size w)
  have H : ((headroomref24_Words.f k a0).bind fun bt169 => (headroomref24_Parse.l0 k a0 (([] : List Int)) bt169.1 (bt169.1.length : Int) 0 bt169.1 bt169.2)) = some (r1, r2, r3, r4, r5, r6, r7, r8) := h
  clear h
  replace H := Option.bind_eq_some_iff.mp H
  obtain ⟨⟨t169, t172⟩, A20, H⟩ := H
  replace H : (headroomref24_Parse.l0 k a0 (([] : List Int)) t169 (t169.length : Int) 0 t169 t172) = some (r1, r2, r3, r4, r5, r6, r7, r8) := H
  have A2 := Aside0.mk A20
  clear A20
  obtain ⟨y176, hy176⟩ : ∃ y_ : List Int, y_ = (([] : List Int)) := ⟨_, rfl⟩
  replace H : (headroomref24_Parse.l0 k a0 y176 t169 (t169.length : Int) 0 t169 t172) = some (r1, r2, r3, r4, r5, r6, r7, r8) := by first | (rw [hy176]; with_reducible exact H) | (have H2_ := (Option.bind_some _ _).symm.trans H; rw [hy176]; with_reducible exact H2_) | (have H2_ := (Option.bind_some _ _).symm.trans H; with_reducible exact H2_) | with_reducible exact H | (rw [hy176]; exact H) | exact H
  have Ny176 := Aside0.mk hy176
  clear hy176
  have H' := Aside0.mk H
  clear H
  go_enter Tryd.func7, Tryd.ntmps7
  go_wp2_with (first | ((with_reducible refine gate_dst (N := 2) rfl ?_); refine box_event ?hg (N := 2) ?hd (cs := #[.int .i64 0, .int .i64 0, .int .i64 0, .int .i64 0, .int .i64 0, .bool false, .int .i64 0, .int .i64 0]) (t := 28) ?hr ?_; (case hd => rfl); (case hg => rfl); (case hr => first | (go_simp; done) | (go_simp; rfl)); intro gb168 hg w3 hbox hb; have n0_ := Aside0.mk (below_step (by repeat (first | (with_reducible first | exact HB.out | apply below_alloc | apply pw_below_drewN | apply below_drew1) | exact HB.out)) hb); have n1_ := Aside0.mk (hbox); have n2_ := Aside0.mk ((by rw [hg]; exact (below_size (by repeat (first | (with_reducible first | exact HB.out | apply below_alloc | apply pw_below_drewN | apply below_drew1) | exact HB.out))) : w.heap.size ≤ gb168)); have n3_ := Aside0.mk ((by rw [hg]; exact (below_size (by repeat (first | (with_reducible first | exact HB.out | apply below_alloc | apply pw_below_drewN | apply below_drew1) | exact HB.out))) : w.heap.size ≤ gb168)); clear HB; have HB := n0_; have BK168 := n1_; have GW168 := n2_; have GE168 := n3_; clear n0_ n1_ n2_ n3_; clear hb hbox hg) | ((with_reducible refine gate_callee (f := 11) rfl ?_); refine goesL_ (some 10) rfl rfl Tryd.func11 (by kernel_rfl) rfl #[.string a0] rfl (by (try simp only [List.map_toArray, List.map_cons, List.map_nil]); first | done | rfl | (simp only [List.length_drop, List.length_take]; rfl)) ?_; (with_reducible refine (headroomref24_Words.calls k a0 t169 t172 _ A2.out).mono ?_); rintro e w4 ⟨v170, v173, rfl, ho0, ho1, hb⟩; refine ⟨_, rfl, ?_⟩; have n0_ := Aside0.mk (Kd.R_lower ho0 (below_size (by repeat (first | (with_reducible first | exact HB.out | apply below_alloc | apply pw_below_drewN | apply below_drew1 | refine below_set ?_ GE168.out) | exact HB.out)))); have n1_ := Aside0.mk (Kd.R_lower ho1 (below_size (by repeat (first | (with_reducible first | exact HB.out | apply below_alloc | apply pw_below_drewN | apply below_drew1 | refine below_set ?_ GE168.out) | exact HB.out)))); have n2_ := Aside0.mk (blk_below (g := gb168) (o := .cells #[.int .i64 0, .int .i64 0, .int .i64 0, .int .i64 0, .int .i64 0, .bool false, .int .i64 0, .int .i64 0] 28 (0, 0)) (by (with_reducible repeat (first | refine blk_drewN ?_ _ | refine blk_drew ?_ | refine blk_alloc ?_ _)); exact BK168.out) hb); have n3_ := Aside0.mk (below_step (by repeat (first | (with_reducible first | exact HB.out | apply below_alloc | apply pw_below_drewN | apply below_drew1 | refine below_set ?_ GE168.out) | exact HB.out)) hb); clear BK168; clear HB; have HO171 := n0_; have HO174 := n1_; have BK168 := n2_; have HB := n3_; clear n0_ n1_ n2_ n3_; (try clear hb); (try clear hb2); (try clear hk); (try clear hi); (try clear ho0); (try clear ho1)) | ((with_reducible refine gate_dst (N := 3) rfl ?_); refine box_event ?hg (N := 3) ?hd (cs := #[.slice none 0 0, .slice none 0 0]) (t := 39) ?hr ?_; (case hd => rfl); (case hg => rfl); (case hr => first | (go_simp; done) | (go_simp; rfl)); intro gb175 hg w5 hbox hb; have n0_ := Aside0.mk (Kd.R_below (by (with_reducible repeat (first | apply Kd.R_alloc | apply Kd.R_drewN | apply Kd.R_drew)); exact HO171.out) hb); have n1_ := Aside0.mk (Kd.R_below (by (with_reducible repeat (first | apply Kd.R_alloc | apply Kd.R_drewN | apply Kd.R_drew)); exact HO174.out) hb); have n2_ := Aside0.mk (blk_below (g := gb168) (o := .cells #[.int .i64 0, .int .i64 0, .int .i64 0, .int .i64 0, .int .i64 0, .bool false, .int .i64 0, .int .i64 0] 28 (0, 0)) (by (with_reducible repeat (first | refine blk_drewN ?_ _ | refine blk_drew ?_ | refine blk_alloc ?_ _)); exact BK168.out) hb); have n3_ := Aside0.mk (below_step (by repeat (first | (with_reducible first | exact HB.out | apply below_alloc | apply pw_below_drewN | apply below_drew1 | refine below_set ?_ GE168.out) | exact HB.out)) hb); have n4_ := Aside0.mk (hbox); have n5_ := Aside0.mk ((by rw [hg]; exact (below_size (by repeat (first | (with_reducible first | exact HB.out | apply below_alloc | apply pw_below_drewN | apply below_drew1 | refine below_set ?_ GE168.out) | exact HB.out))) : w.heap.size ≤ gb175)); have n6_ := Aside0.mk ((by rw [hg]; exact (below_size (by repeat (first | (with_reducible first | exact HB.out | apply below_alloc | apply pw_below_drewN | apply below_drew1 | refine below_set ?_ GE168.out) | exact HB.out))) : w.heap.size ≤ gb175)); have n7_ := Aside0.mk ((by rw [hg]; exact Nat.ne_of_lt (blk_lt (g := gb168) (o := .cells #[.int .i64 0, .int .i64 0, .int .i64 0, .int .i64 0, .int .i64 0, .bool false, .int .i64 0, .int .i64 0] 28 (0, 0)) (by (with_reducible repeat (first | refine blk_drewN ?_ _ | refine blk_drew ?_ | refine blk_alloc ?_ _)); exact BK168.out)) : gb168 ≠ gb175)); have n8_ := Aside0.mk ((by rw [hg]; exact Nat.ne_of_gt (blk_lt (g := gb168) (o := .cells #[.int .i64 0, .int .i64 0, .int .i64 0, .int .i64 0, .int .i64 0, .bool false, .int .i64 0, .int .i64 0] 28 (0, 0)) (by (with_reducible repeat (first | refine blk_drewN ?_ _ | refine blk_drew ?_ | refine blk_alloc ?_ _)); exact BK168.out)) : gb175 ≠ gb168)); clear HO171; clear HO174; clear BK168; clear HB; have HO171 := n0_; have HO174 := n1_; have BK168 := n2_; have HB := n3_; have BK175 := n4_; have GW175 := n5_; have GE175 := n6_; have NB168_175 := n7_; have NB175_168 := n8_; clear n0_ n1_ n2_ n3_ n4_ n5_ n6_ n7_ n8_; clear hb hbox hg; obtain ⟨Ao6, co6, eo6⟩ := Kd.R_slice HO171.out; subst eo6; have hnb7 := NB175_168.out; have hnc7 := NB168_175.out; have hcz8_0 : w5.cell? ⟨gb175, 0, none⟩ = some (.slice none 0 0) := (blk_cell BK175.out 0).trans rfl; have hcz8_1 : w5.cell? ⟨gb175, 1, none⟩ = some (.slice none 0 0) := (blk_cell BK175.out 1).trans rfl; have hfz8_0 := blk_frozen BK175.out 0; have hfz8_1 := blk_frozen BK175.out 1; obtain ⟨Ao9, co9, eo9⟩ := Kd.R_slice HO174.out; subst eo9) | ((with_reducible refine gate_dst (N := 11) rfl ?_); refine Kd.R_lit (Kd.int .i64) _ 3 ?hg (N := 11) ?hd (xs := ([] : List Int)) (inner := []) (ok := fun _ => True) (okp := fun _ => True) ?hr ?hp (fun _ hk => hk) trivial (Below.refl _ _) (Nat.le_refl _) (by simp) ?_; (case hd => rfl); (case hg => rfl); (case hr => first | (go_simp; done) | (go_simp; rfl)); (case hp => exact (Reps.none _ _)); intro v177 w10 ho11 hb hg_ hnew_; clear hg_ hnew_; (first | rw [← Ny176.out] at ho11 | (simp only [Int.reduceToNat] at ho11; rw [← Ny176.out] at ho11)); have n0_ := Aside0.mk (Kd.R_below (by (with_reducible repeat (first | apply Kd.R_alloc | apply Kd.R_drewN | apply Kd.R_drew)); exact (Kd.R_mono (Kd.R_far (p := ⟨gb175, 1, none⟩) (Kd.R_far (p := ⟨gb175, 0, none⟩) (Kd.R_types HO171.out BK175.out (by decide)) (fun _ hk => hk.2) (.slice Ao6 t169.length co6)) (fun _ hk => hk.2) (.slice Ao9 t172.length co9)) (fun _ h_ => h_.1))) hb); have n1_ := Aside0.mk (Kd.R_elder' (by (with_reducible repeat (first | apply Kd.R_alloc | apply Kd.R_drewN | apply Kd.R_drew)); exact (Kd.R_mono (Kd.R_far (p := ⟨gb175, 1, none⟩) (Kd.R_far (p := ⟨gb175, 0, none⟩) (Kd.R_types HO174.out BK175.out (by decide)) (fun _ hk => hk.2) (.slice Ao6 t169.length co6)) (fun _ hk => hk.2) (.slice Ao9 t172.length co9)) (fun _ h_ => h_.1))) (Kd.R_base ho11) hb); have n2_ := Aside0.mk (Kd.R_lower (Kd.R_new' ho11 (Kd.R_lt (by (with_reducible repeat (first | apply Kd.R_alloc | apply Kd.R_drewN | apply Kd.R_drew)); exact (Kd.R_mono (Kd.R_far (p := ⟨gb175, 1, none⟩) (Kd.R_far (p := ⟨gb175, 0, none⟩) (Kd.R_types HO174.out BK175.out (by decide)) (fun _ hk => hk.2) (.slice Ao6 t169.length co6)) (fun _ hk => hk.2) (.slice Ao9 t172.length co9)) (fun _ h_ => h_.1))))) (below_size (by repeat (first | (with_reducible first | exact HB.out | apply below_alloc | apply pw_below_drewN | apply below_drew1 | refine below_set ?_ GE168.out | refine below_set ?_ GE175.out) | exact HB.out)))); have n3_ := Aside0.mk (blk_below (g := gb168) (o := .cells #[.int .i64 0, .int .i64 0, .int .i64 0, .int .i64 0, .int .i64 0, .bool false, .int .i64 0, .int .i64 0] 28 (0, 0)) (by (with_reducible repeat (first | refine blk_drewN ?_ _ | refine blk_drew ?_ | refine blk_alloc ?_ _)); refine blk_far ?_ NB168_175.out _; (with_reducible repeat (first | refine blk_drewN ?_ _ | refine blk_drew ?_ | refine blk_alloc ?_ _)); refine blk_far ?_ NB168_175.out _; (with_reducible repeat (first | refine blk_drewN ?_ _ | refine blk_drew ?_ | refine blk_alloc ?_ _)); exact BK168.out) hb); have n4_ := Aside0.mk (blk_below (g := gb175) (o := .cells #[.slice Ao6 t169.length co6, .slice Ao9 t172.length co9] 39 (0, 0)) (by (with_reducible repeat (first | refine blk_drewN ?_ _ | refine blk_drew ?_ | refine blk_alloc ?_ _)); refine blk_put (cs := #[.slice Ao6 t169.length co6, .slice none 0 0]) ?_ 1 _ rfl; (with_reducible repeat (first | refine blk_drewN ?_ _ | refine blk_drew ?_ | refine blk_alloc ?_ _)); refine blk_put (cs := #[.slice none 0 0, .slice none 0 0]) ?_ 0 _ rfl; (with_reducible repeat (first | refine blk_drewN ?_ _ | refine blk_drew ?_ | refine blk_alloc ?_ _)); exact BK175.out) hb); have n5_ := Aside0.mk (below_step (by repeat (first | (with_reducible first | exact HB.out | apply below_alloc | apply pw_below_drewN | apply below_drew1 | refine below_set ?_ GE168.out | refine below_set ?_ GE175.out) | exact HB.out)) hb); clear HO171; clear HO174; clear BK168; clear BK175; clear HB; have HO171 := n0_; have HO174 := n1_; have HO178 := n2_; have BK168 := n3_; have BK175 := n4_; have HB := n5_; clear n0_ n1_ n2_ n3_ n4_ n5_; clear hb ho11; have hcz12_0 : w10.cell? ⟨gb175, 0, none⟩ = some (.slice Ao6 t169.length co6) := (blk_cell BK175.out 0).trans rfl; have hcz12_1 : w10.cell? ⟨gb175, 1, none⟩ = some (.slice Ao9 t172.length co9) := (blk_cell BK175.out 1).trans rfl; have hfz12_0 := blk_frozen BK175.out 0; have hfz12_1 := blk_frozen BK175.out 1))
  go_loopg [4, 15] k (fun kq v4 v15 w' => ∃ (x4_1 : List Int) (x15_1 : Int) (x169000_1 : Int) (x169001_1 : Int) (x169002_1 : Int) (x169003_1 : Int) (x169004_1 : Int) (x169005_1 : Bool) (x169006_1 : Int) (x169007_1 : Int), v15 = .int .i64 x15_1 ∧ Aside0 (headroomref24_Parse.l0 kq a0 x4_1 t169 (t169.length : Int) x15_1 t169 t172 = some (r1, r2, r3, r4, r5, r6, r7, r8)) ∧ Aside0 (kq ≤ k) ∧ Aside0 (Kd.R (Kd.int .i64) 3 w' w.heap.size (fun k_ => some k_ ≠ ((.slice Ao9 t172.length co9) : Value).ownBlock) v4 x4_1) ∧ Aside0 (Kd.R Kd.string 9 w' w.heap.size (fun _ => True) (.slice Ao6 t169.length co6) t169) ∧ Aside0 (Kd.R Kd.string 9 w' w.heap.size (fun _ => True) (.slice Ao6 t169.length co6) t169) ∧ Aside0 (Kd.R (Kd.int .i64) 3 w' w.heap.size (fun k_ => some k_ ≠ (v4 : Value).ownBlock) (.slice Ao9 t172.length co9) t172) ∧ Aside0 (w'.heap[gb168]? = some (.cells #[.int .i64 x169000_1, .int .i64 x169001_1, .int .i64 x169002_1, .int .i64 x169003_1, .int .i64 x169004_1, .bool x169005_1, .int .i64 x169006_1, .int .i64 x169007_1] 28 (0, 0))) ∧ Aside0 (w'.heap[gb175]? = some (.cells #[(.slice Ao6 t169.length co6), (.slice Ao9 t172.length co9)] 39 (0, 0))) ∧ Aside0 (Below w.heap.size w w'))
  case atStart => exact ⟨(y176), (0), (0), (0), (0), (0), (0), (false), (0), (0), (by first | rfl | (simp; done) | (simp [*]; done)), H', ⟨Nat.le_refl _⟩, ⟨by (with_reducible repeat (first | apply Kd.R_alloc | apply Kd.R_drewN | apply Kd.R_drew)); exact Kd.R_mono HO178.out (fun _ hk => hk.2)⟩, ⟨by (with_reducible repeat (first | apply Kd.R_alloc | apply Kd.R_drewN | apply Kd.R_drew)); exact HO171.out⟩, ⟨by (with_reducible repeat (first | apply Kd.R_alloc | apply Kd.R_drewN | apply Kd.R_drew)); exact HO171.out⟩, ⟨by (with_reducible repeat (first | apply Kd.R_alloc | apply Kd.R_drewN | apply Kd.R_drew)); exact Kd.R_mono HO174.out (fun _ hk => hk.2)⟩, ⟨by (with_reducible repeat (first | refine blk_drewN ?_ _ | refine blk_drew ?_ | refine blk_alloc ?_ _)); exact BK168.out⟩, ⟨by (with_reducible repeat (first | refine blk_drewN ?_ _ | refine blk_drew ?_ | refine blk_alloc ?_ _)); exact BK175.out⟩, ⟨by repeat (first | (with_reducible first | exact HB.out | apply below_alloc | apply pw_below_drewN | apply below_drew1 | refine below_set ?_ GE168.out | refine below_set ?_ GE175.out) | exact HB.out)⟩⟩
  case round =>
    clear H'
    try clear c1
    try clear p2
    try clear c7
    try clear c11
    try clear hcz12_0
    try clear hcz12_1
    try clear hcz8_0
    try clear hcz8_1
    try clear hfz12_0
    try clear hfz12_1
    try clear hfz8_0
    try clear hfz8_1
    obtain ⟨x4_1, x15_1, x169000_1, x169001_1, x169002_1, x169003_1, x169004_1, x169005_1, x169006_1, x169007_1, rfl, HA, HK1, HO_4, HO_13, HO_176000, HO_176001, BK168, BK175, HB⟩ := hrel
    cases gk with
    | zero => exact absurd HA.out (by simp [headroomref24_Parse.l0])
    | succ k1 =>
      have H := HA.out
      clear HA
      simp only [headroomref24_Parse.l0] at H
      by_cases c13 : x15_1 < (t169.length : Int)
      · rw [if_pos c13] at H
        have c13b0 : decide (x15_1 < (t169.length : Int)) = true := decide_eq_true c13
        clear c13
        by_cases c14 : 0 ≤ x15_1
        · rw [if_pos c14] at H
          have c14b0 : decide (0 ≤ x15_1) = true := decide_eq_true c14
          clear c14
          by_cases c15 : x15_1 < (t169.length : Int)
          · rw [if_pos c15] at H
            have c15b0 : decide (x15_1 < (t169.length : Int)) = true := decide_eq_true c15
            clear c15
            replace H := Option.bind_eq_some_iff.mp H
            obtain ⟨t180, A160, H⟩ := H
            replace H : ((headroomref24_find.f k1 t180 (rdOf ByteArray.empty t169 x15_1)).bind fun t183 => (if t183 < 0 then (if x15_1 < (t172.length : Int) then (some (0, 0, 0, 0, 0, false, rd t172 x15_1, 7)) else (none)) else (if x4_1.length < 17592186044416 then (headroomref24_Parse.l0 k1 a0 (x4_1 ++ [t183]) t169 (t169.length : Int) (wrap64 (x15_1 + 1)) t169 t172) else (none)))) = some (r1, r2, r3, r4, r5, r6, r7, r8) := H
            have A16 := Aside0.mk A160
            clear A160
            replace H := Option.bind_eq_some_iff.mp H
            obtain ⟨t183, A170, H⟩ := H
            replace H : (if t183 < 0 then (if x15_1 < (t172.length : Int) then (some (0, 0, 0, 0, 0, false, rd t172 x15_1, 7)) else (none)) else (if x4_1.length < 17592186044416 then (headroomref24_Parse.l0 k1 a0 (x4_1 ++ [t183]) t169 (t169.length : Int) (wrap64 (x15_1 + 1)) t169 t172) else (none))) = some (r1, r2, r3, r4, r5, r6, r7, r8) := H
            have A17 := Aside0.mk A170
            clear A170
            by_cases c18 : t183 < 0
            · rw [if_pos c18] at H
              have c18b0 : decide (t183 < 0) = true := decide_eq_true c18
              clear c18
              by_cases c19 : x15_1 < (t172.length : Int)
              · rw [if_pos c19] at H
                have c19b0 : decide (x15_1 < (t172.length : Int)) = true := decide_eq_true c19
                clear c19
                simp only [Option.some.injEq, Prod.mk.injEq] at H
                obtain ⟨rfl, rfl, rfl, rfl, rfl, rfl, rfl, rfl⟩ := H
                have p179 : 0 ≤ (x15_1 : Int) := of_decide_eq_true (by first | (with_reducible assumption) | assumption)
                have q179 : x15_1 < (t169.length : Int) := of_decide_eq_true (by first | (with_reducible assumption) | assumption)
                obtain ⟨ad179, e179, hx179_0⟩ := Kd.at_string (Kd.R_reads' HO_13.out).2.2 x15_1 p179 q179
                cases e179
                replace p179 := eq_true p179
                replace q179 := eq_true q179
                go_wp2_with (first | ((with_reducible refine gate_callee (f := 20) rfl ?_); refine goesL_ (some 21) rfl rfl Tryd.func20 (by kernel_rfl) rfl #[.int .i64 x15_1] rfl (by (try simp only [List.map_toArray, List.map_cons, List.map_nil]); first | done | rfl | (simp only [List.length_drop, List.length_take]; rfl)) ?_; (with_reducible refine (headroomref24_May.calls x15_1 t180 _ A16.out).mono ?_); rintro e w20 ⟨v181, rfl, ho0, hb⟩; refine ⟨_, rfl, ?_⟩; have n0_ := Aside0.mk (Kd.R_below (by (with_reducible repeat (first | apply Kd.R_alloc | apply Kd.R_drewN | apply Kd.R_drew)); exact HO_4.out) hb); have n1_ := Aside0.mk (Kd.R_elder' (by (with_reducible repeat (first | apply Kd.R_alloc | apply Kd.R_drewN | apply Kd.R_drew)); exact HO_13.out) (Kd.R_base ho0) hb); have n2_ := Aside0.mk (Kd.R_elder' (by (with_reducible repeat (first | apply Kd.R_alloc | apply Kd.R_drewN | apply Kd.R_drew)); exact HO_176000.out) (Kd.R_base ho0) hb); have n3_ := Aside0.mk (Kd.R_below (by (with_reducible repeat (first | apply Kd.R_alloc | apply Kd.R_drewN | apply Kd.R_drew)); exact HO_176001.out) hb); have n4_ := Aside0.mk (Kd.R_lower (Kd.R_new' (Kd.R_new' ho0 (Kd.R_lt (by (with_reducible repeat (first | apply Kd.R_alloc | apply Kd.R_drewN | apply Kd.R_drew)); exact HO_13.out))) (Kd.R_lt (by (with_reducible repeat (first | apply Kd.R_alloc | apply Kd.R_drewN | apply Kd.R_drew)); exact HO_176000.out))) (below_size (by repeat (first | (with_reducible first | exact HB.out | apply below_alloc | apply pw_below_drewN | apply below_drew1 | refine below_set ?_ GE168.out | refine below_set ?_ GE175.out) | exact HB.out)))); have n5_ := Aside0.mk (blk_below (g := gb168) (o := .cells #[.int .i64 x169000_1, .int .i64 x169001_1, .int .i64 x169002_1, .int .i64 x169003_1, .int .i64 x169004_1, .bool x169005_1, .int .i64 x169006_1, .int .i64 x169007_1] 28 (0, 0)) (by (with_reducible repeat (first | refine blk_drewN ?_ _ | refine blk_drew ?_ | refine blk_alloc ?_ _)); exact BK168.out) hb); have n6_ := Aside0.mk (blk_below (g := gb175) (o := .cells #[.slice (some ad179) t169.length co6, .slice Ao9 t172.length co9] 39 (0, 0)) (by (with_reducible repeat (first | refine blk_drewN ?_ _ | refine blk_drew ?_ | refine blk_alloc ?_ _)); exact BK175.out) hb); have n7_ := Aside0.mk (below_step (by repeat (first | (with_reducible first | exact HB.out | apply below_alloc | apply pw_below_drewN | apply below_drew1 | refine below_set ?_ GE168.out | refine below_set ?_ GE175.out) | exact HB.out)) hb); clear HO_4; clear HO_13; clear HO_176000; clear HO_176001; clear BK168; clear BK175; clear HB; have HO_4 := n0_; have HO_13 := n1_; have HO_176000 := n2_; have HO_176001 := n3_; have HO182 := n4_; have BK168 := n5_; have BK175 := n6_; have HB := n7_; clear n0_ n1_ n2_ n3_ n4_ n5_ n6_ n7_; (try clear hb); (try clear hb2); (try clear hk); (try clear hi); (try clear ho0); obtain ⟨Ao21, co21, eo21⟩ := Kd.R_slice HO182.out; subst eo21) | ((with_reducible refine gate_callee (f := 19) rfl ?_); refine goesL_ (some 23) rfl rfl Tryd.func19 (by kernel_rfl) rfl #[.slice Ao21 t180.length co21, .string (rdOf ByteArray.empty t169 x15_1)] rfl (by (try simp only [List.map_toArray, List.map_cons, List.map_nil]); first | done | rfl | (simp only [List.length_drop, List.length_take]; rfl)) ?_; (with_reducible refine (headroomref24_find.calls k1 _ _ t180 (rdOf ByteArray.empty t169 x15_1) t183 _ ?side1 ?side2 A17.out).mono ?_); (case side1 => repeat (first | exact (Kd.R_reads' HO182.out).2.2 | (with_reducible refine Kd.C_alloc ?_ _) | (with_reducible refine Kd.C_drewN ?_ _) | (with_reducible refine Kd.C_drew ?_))); (case side2 => exact (Kd.R_reads' HO182.out).2.1); rintro e w' ⟨rfl, ⟨nd, rfl⟩⟩; refine ⟨_, rfl, ?_⟩; (try (rw [drewN_self w20]; generalize hq_ : World.drewN w20 _ = w20; have n0_ : Aside0 (Kd.R Kd.string 9 w20 w.heap.size (fun k_ => some k_ ≠ (.slice (some ad179) t169.length co6 : Value).ownBlock ∧ some k_ ≠ (.slice (some ad179) t169.length co6 : Value).ownBlock) (.slice Ao21 t180.length co21) t180) := ⟨by rw [← hq_]; exact (by (with_reducible repeat (first | apply Kd.R_alloc | apply Kd.R_drewN | apply Kd.R_drew)); exact Kd.R_mono HO182.out (fun _ hk => ⟨hk.1.2, hk.2⟩))⟩; have n1_ : Aside0 (Kd.R Kd.string 9 w20 w.heap.size (fun k_ => some k_ ≠ (.slice Ao21 t180.length co21 : Value).ownBlock) (.slice (some ad179) t169.length co6) t169) := ⟨by rw [← hq_]; exact (by (with_reducible repeat (first | apply Kd.R_alloc | apply Kd.R_drewN | apply Kd.R_drew)); exact Kd.R_mono HO_13.out (fun _ hk => hk.2))⟩; have n2_ : Aside0 (Kd.R Kd.string 9 w20 w.heap.size (fun k_ => some k_ ≠ (.slice Ao21 t180.length co21 : Value).ownBlock) (.slice (some ad179) t169.length co6) t169) := ⟨by rw [← hq_]; exact (by (with_reducible repeat (first | apply Kd.R_alloc | apply Kd.R_drewN | apply Kd.R_drew)); exact Kd.R_mono HO_176000.out (fun _ hk => hk.2))⟩; have n3_ : Aside0 (Kd.R (Kd.int .i64) 3 w20 w.heap.size (fun k_ => some k_ ≠ (u4 : Value).ownBlock) (.slice Ao9 t172.length co9) t172) := ⟨by rw [← hq_]; exact (by (with_reducible repeat (first | apply Kd.R_alloc | apply Kd.R_drewN | apply Kd.R_drew)); exact HO_176001.out)⟩; have n4_ : Aside0 (Kd.R (Kd.int .i64) 3 w20 w.heap.size (fun k_ => some k_ ≠ (.slice Ao9 t172.length co9 : Value).ownBlock) u4 x4_1) := ⟨by rw [← hq_]; exact (by (with_reducible repeat (first | apply Kd.R_alloc | apply Kd.R_drewN | apply Kd.R_drew)); exact HO_4.out)⟩; have n5_ : Aside0 (w20.heap[gb168]? = some (.cells #[.int .i64 x169000_1, .int .i64 x169001_1, .int .i64 x169002_1, .int .i64 x169003_1, .int .i64 x169004_1, .bool x169005_1, .int .i64 x169006_1, .int .i64 x169007_1] 28 (0, 0))) := ⟨by rw [← hq_]; exact (by (with_reducible repeat (first | refine blk_drewN ?_ _ | refine blk_drew ?_ | refine blk_alloc ?_ _)); exact BK168.out)⟩; have n6_ : Aside0 (w20.heap[gb175]? = some (.cells #[.slice (some ad179) t169.length co6, .slice Ao9 t172.length co9] 39 (0, 0))) := ⟨by rw [← hq_]; exact (by (with_reducible repeat (first | refine blk_drewN ?_ _ | refine blk_drew ?_ | refine blk_alloc ?_ _)); exact BK175.out)⟩; have n7_ : Aside0 (Below w.heap.size w w20) := ⟨by rw [← hq_]; exact (by repeat (first | (with_reducible first | exact HB.out | apply below_alloc | apply pw_below_drewN | apply below_drew1 | refine below_set ?_ GE168.out | refine below_set ?_ GE175.out) | exact HB.out))⟩; clear HO182 HO_13 HO_176000 HO_176001 HO_4 BK168 BK175 HB hq_; have HO182 := n0_; have HO_13 := n1_; have HO_176000 := n2_; have HO_176001 := n3_; have HO_4 := n4_; have BK168 := n5_; have BK175 := n6_; have HB := n7_; clear n0_ n1_ n2_ n3_ n4_ n5_ n6_ n7_)); have hnb22 := NB175_168.out; have hnc22 := NB168_175.out; have hcz23_0 : w20.cell? ⟨gb175, 0, none⟩ = some (.slice (some ad179) t169.length co6) := (blk_cell BK175.out 0).trans rfl; have hcz23_1 : w20.cell? ⟨gb175, 1, none⟩ = some (.slice Ao9 t172.length co9) := (blk_cell BK175.out 1).trans rfl; have hfz23_0 := blk_frozen BK175.out 0; have hfz23_1 := blk_frozen BK175.out 1; have p184 : 0 ≤ (x15_1 : Int) := of_decide_eq_true (by first | (with_reducible assumption) | assumption); have q184 : x15_1 < (t172.length : Int) := of_decide_eq_true (by first | (with_reducible assumption) | assumption); obtain ⟨ad184, e184, hx184_0⟩ := Kd.at_int (Kd.R_reads' HO_176001.out).2.2 x15_1 p184 q184; cases e184; replace p184 := eq_true p184; replace q184 := eq_true q184; have hcz24_0 : w20.cell? ⟨gb168, 0, none⟩ = some (.int .i64 x169000_1) := (blk_cell BK168.out 0).trans rfl; have hcz24_1 : w20.cell? ⟨gb168, 1, none⟩ = some (.int .i64 x169001_1) := (blk_cell BK168.out 1).trans rfl; have hcz24_2 : w20.cell? ⟨gb168, 2, none⟩ = some (.int .i64 x169002_1) := (blk_cell BK168.out 2).trans rfl; have hcz24_3 : w20.cell? ⟨gb168, 3, none⟩ = some (.int .i64 x169003_1) := (blk_cell BK168.out 3).trans rfl; have hcz24_4 : w20.cell? ⟨gb168, 4, none⟩ = some (.int .i64 x169004_1) := (blk_cell BK168.out 4).trans rfl; have hcz24_5 : w20.cell? ⟨gb168, 5, none⟩ = some (.bool x169005_1) := (blk_cell BK168.out 5).trans rfl; have hcz24_6 : w20.cell? ⟨gb168, 6, none⟩ = some (.int .i64 x169006_1) := (blk_cell BK168.out 6).trans rfl; have hcz24_7 : w20.cell? ⟨gb168, 7, none⟩ = some (.int .i64 x169007_1) := (blk_cell BK168.out 7).trans rfl; have hfz24_0 := blk_frozen BK168.out 0; have hfz24_1 := blk_frozen BK168.out 1; have hfz24_2 := blk_frozen BK168.out 2; have hfz24_3 := blk_frozen BK168.out 3; have hfz24_4 := blk_frozen BK168.out 4; have hfz24_5 := blk_frozen BK168.out 5; have hfz24_6 := blk_frozen BK168.out 6; have hfz24_7 := blk_frozen BK168.out 7))
                refine bodyPost_ret (results_cell_row rfl _ _ gb168 28 #[.int .i64 0, .int .i64 0, .int .i64 0, .int .i64 0, .int .i64 0, .bool false, .int .i64 (rd t172 x15_1), .int .i64 7] (0, 0) _ rfl (by (with_reducible repeat (first | refine blk_drewN ?_ _ | refine blk_drew ?_ | refine blk_alloc ?_ _)); refine blk_put (cs := #[.int .i64 0, .int .i64 0, .int .i64 0, .int .i64 0, .int .i64 0, .bool false, .int .i64 (rd t172 x15_1), .int .i64 x169007_1]) ?_ 7 _ rfl; (with_reducible repeat (first | refine blk_drewN ?_ _ | refine blk_drew ?_ | refine blk_alloc ?_ _)); refine blk_put (cs := #[.int .i64 0, .int .i64 0, .int .i64 0, .int .i64 0, .int .i64 0, .bool false, .int .i64 x169006_1, .int .i64 x169007_1]) ?_ 6 _ rfl; (with_reducible repeat (first | refine blk_drewN ?_ _ | refine blk_drew ?_ | refine blk_alloc ?_ _)); refine blk_put (cs := #[.int .i64 0, .int .i64 0, .int .i64 0, .int .i64 0, .int .i64 0, .bool x169005_1, .int .i64 x169006_1, .int .i64 x169007_1]) ?_ 5 _ rfl; (with_reducible repeat (first | refine blk_drewN ?_ _ | refine blk_drew ?_ | refine blk_alloc ?_ _)); refine blk_put (cs := #[.int .i64 0, .int .i64 0, .int .i64 0, .int .i64 0, .int .i64 x169004_1, .bool x169005_1, .int .i64 x169006_1, .int .i64 x169007_1]) ?_ 4 _ rfl; (with_reducible repeat (first | refine blk_drewN ?_ _ | refine blk_drew ?_ | refine blk_alloc ?_ _)); refine blk_put (cs := #[.int .i64 0, .int .i64 0, .int .i64 0, .int .i64 x169003_1, .int .i64 x169004_1, .bool x169005_1, .int .i64 x169006_1, .int .i64 x169007_1]) ?_ 3 _ rfl; (with_reducible repeat (first | refine blk_drewN ?_ _ | refine blk_drew ?_ | refine blk_alloc ?_ _)); refine blk_put (cs := #[.int .i64 0, .int .i64 0, .int .i64 x169002_1, .int .i64 x169003_1, .int .i64 x169004_1, .bool x169005_1, .int .i64 x169006_1, .int .i64 x169007_1]) ?_ 2 _ rfl; (with_reducible repeat (first | refine blk_drewN ?_ _ | refine blk_drew ?_ | refine blk_alloc ?_ _)); refine blk_put (cs := #[.int .i64 0, .int .i64 x169001_1, .int .i64 x169002_1, .int .i64 x169003_1, .int .i64 x169004_1, .bool x169005_1, .int .i64 x169006_1, .int .i64 x169007_1]) ?_ 1 _ rfl; (with_reducible repeat (first | refine blk_drewN ?_ _ | refine blk_drew ?_ | refine blk_alloc ?_ _)); refine blk_put (cs := #[.int .i64 x169000_1, .int .i64 x169001_1, .int .i64 x169002_1, .int .i64 x169003_1, .int .i64 x169004_1, .bool x169005_1, .int .i64 x169006_1, .int .i64 x169007_1]) ?_ 0 _ rfl; (with_reducible repeat (first | refine blk_drewN ?_ _ | refine blk_drew ?_ | refine blk_alloc ?_ _)); exact BK168.out) Tryd.underlying28 rfl (by kernel_rfl)) rfl ?_
                exact ⟨by first | rfl | (simp [errW_none, errW_some] <;> rfl) | (simp [*, errW_none, errW_some] <;> rfl), by repeat (first | (with_reducible first | exact HB.out | apply below_alloc | apply pw_below_drewN | apply below_drew1 | refine below_set ?_ GE168.out | refine below_set ?_ GE175.out) | exact HB.out)⟩
              · rw [if_neg c19] at H
                exact absurd H (by simp)
            · rw [if_neg c18] at H
              have c18b0 : decide (t183 < 0) = false := decide_eq_false c18
              clear c18
              by_cases c25 : x4_1.length < 17592186044416
              · rw [if_pos c25] at H
                have LMc25 := Aside0.mk c25
                clear c25
                obtain ⟨y185, hy185⟩ : ∃ y_ : List Int, y_ = (x4_1 ++ [t183]) := ⟨_, rfl⟩
                replace H : (headroomref24_Parse.l0 k1 a0 y185 t169 (t169.length : Int) (wrap64 (x15_1 + 1)) t169 t172) = some (r1, r2, r3, r4, r5, r6, r7, r8) := by first | (rw [hy185]; with_reducible exact H) | (have H2_ := (Option.bind_some _ _).symm.trans H; rw [hy185]; with_reducible exact H2_) | (have H2_ := (Option.bind_some _ _).symm.trans H; with_reducible exact H2_) | with_reducible exact H | (rw [hy185]; exact H) | exact H
                have Ny185 := Aside0.mk hy185
                clear hy185
                have H' := Aside0.mk H
                clear H
                have p179 : 0 ≤ (x15_1 : Int) := of_decide_eq_true (by first | (with_reducible assumption) | assumption)
                have q179 : x15_1 < (t169.length : Int) := of_decide_eq_true (by first | (with_reducible assumption) | assumption)
                obtain ⟨ad179, e179, hx179_0⟩ := Kd.at_string (Kd.R_reads' HO_13.out).2.2 x15_1 p179 q179
                cases e179
                replace p179 := eq_true p179
                replace q179 := eq_true q179
                go_wp2_with (first | ((with_reducible refine gate_callee (f := 20) rfl ?_); refine goesL_ (some 21) rfl rfl Tryd.func20 (by kernel_rfl) rfl #[.int .i64 x15_1] rfl (by (try simp only [List.map_toArray, List.map_cons, List.map_nil]); first | done | rfl | (simp only [List.length_drop, List.length_take]; rfl)) ?_; (with_reducible refine (headroomref24_May.calls x15_1 t180 _ A16.out).mono ?_); rintro e w26 ⟨v181, rfl, ho0, hb⟩; refine ⟨_, rfl, ?_⟩; have n0_ := Aside0.mk (Kd.R_below (by (with_reducible repeat (first | apply Kd.R_alloc | apply Kd.R_drewN | apply Kd.R_drew)); exact HO_4.out) hb); have n1_ := Aside0.mk (Kd.R_elder' (by (with_reducible repeat (first | apply Kd.R_alloc | apply Kd.R_drewN | apply Kd.R_drew)); exact HO_13.out) (Kd.R_base ho0) hb); have n2_ := Aside0.mk (Kd.R_elder' (by (with_reducible repeat (first | apply Kd.R_alloc | apply Kd.R_drewN | apply Kd.R_drew)); exact HO_176000.out) (Kd.R_base ho0) hb); have n3_ := Aside0.mk (Kd.R_below (by (with_reducible repeat (first | apply Kd.R_alloc | apply Kd.R_drewN | apply Kd.R_drew)); exact HO_176001.out) hb); have n4_ := Aside0.mk (Kd.R_lower (Kd.R_new' (Kd.R_new' ho0 (Kd.R_lt (by (with_reducible repeat (first | apply Kd.R_alloc | apply Kd.R_drewN | apply Kd.R_drew)); exact HO_13.out))) (Kd.R_lt (by (with_reducible repeat (first | apply Kd.R_alloc | apply Kd.R_drewN | apply Kd.R_drew)); exact HO_176000.out))) (below_size (by repeat (first | (with_reducible first | exact HB.out | apply below_alloc | apply pw_below_drewN | apply below_drew1 | refine below_set ?_ GE168.out | refine below_set ?_ GE175.out) | exact HB.out)))); have n5_ := Aside0.mk (blk_below (g := gb168) (o := .cells #[.int .i64 x169000_1, .int .i64 x169001_1, .int .i64 x169002_1, .int .i64 x169003_1, .int .i64 x169004_1, .bool x169005_1, .int .i64 x169006_1, .int .i64 x169007_1] 28 (0, 0)) (by (with_reducible repeat (first | refine blk_drewN ?_ _ | refine blk_drew ?_ | refine blk_alloc ?_ _)); exact BK168.out) hb); have n6_ := Aside0.mk (blk_below (g := gb175) (o := .cells #[.slice (some ad179) t169.length co6, .slice Ao9 t172.length co9] 39 (0, 0)) (by (with_reducible repeat (first | refine blk_drewN ?_ _ | refine blk_drew ?_ | refine blk_alloc ?_ _)); exact BK175.out) hb); have n7_ := Aside0.mk (below_step (by repeat (first | (with_reducible first | exact HB.out | apply below_alloc | apply pw_below_drewN | apply below_drew1 | refine below_set ?_ GE168.out | refine below_set ?_ GE175.out) | exact HB.out)) hb); clear HO_4; clear HO_13; clear HO_176000; clear HO_176001; clear BK168; clear BK175; clear HB; have HO_4 := n0_; have HO_13 := n1_; have HO_176000 := n2_; have HO_176001 := n3_; have HO182 := n4_; have BK168 := n5_; have BK175 := n6_; have HB := n7_; clear n0_ n1_ n2_ n3_ n4_ n5_ n6_ n7_; (try clear hb); (try clear hb2); (try clear hk); (try clear hi); (try clear ho0); obtain ⟨Ao27, co27, eo27⟩ := Kd.R_slice HO182.out; subst eo27) | ((with_reducible refine gate_callee (f := 19) rfl ?_); refine goesL_ (some 23) rfl rfl Tryd.func19 (by kernel_rfl) rfl #[.slice Ao27 t180.length co27, .string (rdOf ByteArray.empty t169 x15_1)] rfl (by (try simp only [List.map_toArray, List.map_cons, List.map_nil]); first | done | rfl | (simp only [List.length_drop, List.length_take]; rfl)) ?_; (with_reducible refine (headroomref24_find.calls k1 _ _ t180 (rdOf ByteArray.empty t169 x15_1) t183 _ ?side1 ?side2 A17.out).mono ?_); (case side1 => repeat (first | exact (Kd.R_reads' HO182.out).2.2 | (with_reducible refine Kd.C_alloc ?_ _) | (with_reducible refine Kd.C_drewN ?_ _) | (with_reducible refine Kd.C_drew ?_))); (case side2 => exact (Kd.R_reads' HO182.out).2.1); rintro e w' ⟨rfl, ⟨nd, rfl⟩⟩; refine ⟨_, rfl, ?_⟩) | ((with_reducible refine gate_builtin (b := .append) (xs := #[.tmp 32, .tmp 34]) rfl ?_); at_builtin; refine Kd.R_append (Kd.int .i64) (w0 := w) w.heap.size rfl (.tmp 32) (.tmp 34) 35 3 (.int .i64 0) 8 rfl Tryd.underlying35 info3 rfl (by decide) (by omega) u4 x4_1 t183 [.int .i64 t183] (fun k_ => some k_ ≠ (.slice Ao9 t172.length co9 : Value).ownBlock) (fun _ => False) rfl rfl ?aP (fun _ hk => hk.elim) ?aF ?aO ?aB ?aS ?aL ?_; (case aP => exact rfl); (case aB => exact (by repeat (first | (with_reducible first | exact HB.out | apply below_alloc | apply pw_below_drewN | apply below_drew1 | refine below_set ?_ GE168.out | refine below_set ?_ GE175.out) | exact HB.out))); (case aF => exact (fun k_ hk => Kd.fresh' (Kd.R_lt (by (with_reducible repeat (first | apply Kd.R_alloc | apply Kd.R_drewN | apply Kd.R_drew)); exact HO_176001.out)) k_ hk)); (case aO => exact (by (with_reducible repeat (first | apply Kd.R_alloc | apply Kd.R_drewN | apply Kd.R_drew)); exact HO_4.out)); (case aS => exact (below_size (by repeat (first | (with_reducible first | exact HB.out | apply below_alloc | apply pw_below_drewN | apply below_drew1 | refine below_set ?_ GE168.out | refine below_set ?_ GE175.out) | exact HB.out)))); (case aL => have := LMc25.out; omega); intro v186 w28 ho hb hg hat; rw [← Ny185.out] at ho; have n0_ := Aside0.mk (Kd.R_over' (by (with_reducible repeat (first | apply Kd.R_alloc | apply Kd.R_drewN | apply Kd.R_drew)); exact HO_13.out) (Kd.R_typed (by (with_reducible repeat (first | apply Kd.R_alloc | apply Kd.R_drewN | apply Kd.R_drew)); exact HO_4.out)) (by decide) hg); have n1_ := Aside0.mk (Kd.R_over' (by (with_reducible repeat (first | apply Kd.R_alloc | apply Kd.R_drewN | apply Kd.R_drew)); exact HO_176000.out) (Kd.R_typed (by (with_reducible repeat (first | apply Kd.R_alloc | apply Kd.R_drewN | apply Kd.R_drew)); exact HO_4.out)) (by decide) hg); have n2_ := Aside0.mk (Kd.R_after (ok := (fun _ => True)) (by (with_reducible repeat (first | apply Kd.R_alloc | apply Kd.R_drewN | apply Kd.R_drew)); exact Kd.R_mono HO_176001.out (fun _ hk => ⟨trivial, hk⟩)) hg hat); have n3_ := Aside0.mk (blk_grown (g := gb168) (o := .cells #[.int .i64 x169000_1, .int .i64 x169001_1, .int .i64 x169002_1, .int .i64 x169003_1, .int .i64 x169004_1, .bool x169005_1, .int .i64 x169006_1, .int .i64 x169007_1] 28 (0, 0)) (by (with_reducible repeat (first | refine blk_drewN ?_ _ | refine blk_drew ?_ | refine blk_alloc ?_ _)); exact BK168.out) hg (Kd.R_ne HO_4.out BK168.out (by decide))); have n4_ := Aside0.mk (blk_grown (g := gb175) (o := .cells #[.slice (some ad179) t169.length co6, .slice Ao9 t172.length co9] 39 (0, 0)) (by (with_reducible repeat (first | refine blk_drewN ?_ _ | refine blk_drew ?_ | refine blk_alloc ?_ _)); exact BK175.out) hg (Kd.R_ne HO_4.out BK175.out (by decide))); have n5_ := Aside0.mk (Kd.R_over' (by (with_reducible repeat (first | apply Kd.R_alloc | apply Kd.R_drewN | apply Kd.R_drew)); exact HO182.out) (Kd.R_typed (by (with_reducible repeat (first | apply Kd.R_alloc | apply Kd.R_drewN | apply Kd.R_drew)); exact HO_4.out)) (by decide) hg); have n6_ := Aside0.mk (hb); have n7_ := Aside0.mk (ho); clear HO_13; clear HO_176000; clear HO_176001; clear BK168; clear BK175; clear HO182; clear HB; clear HO_4; have HO_13 := n0_; have HO_176000 := n1_; have HO_176001 := n2_; have BK168 := n3_; have BK175 := n4_; have HO182 := n5_; have HB := n6_; have HO187 := n7_; clear n0_ n1_ n2_ n3_ n4_ n5_ n6_ n7_; clear ho hb hg hat))
                go_roundg k1
                case measure => have := HK1.out; omega
                case rel => exact ⟨(y185), (wrap64 (x15_1 + 1)), (x169000_1), (x169001_1), (x169002_1), (x169003_1), (x169004_1), (x169005_1), (x169006_1), (x169007_1), (by first | rfl | (simp; done) | (simp [*]; done)), H', ⟨by have := HK1.out; omega⟩, ⟨by (with_reducible repeat (first | apply Kd.R_alloc | apply Kd.R_drewN | apply Kd.R_drew)); exact HO187.out⟩, ⟨by (with_reducible repeat (first | apply Kd.R_alloc | apply Kd.R_drewN | apply Kd.R_drew)); exact Kd.R_mono HO_13.out (fun _ hk => trivial)⟩, ⟨by (with_reducible repeat (first | apply Kd.R_alloc | apply Kd.R_drewN | apply Kd.R_drew)); exact Kd.R_mono HO_176000.out (fun _ hk => trivial)⟩, ⟨by (with_reducible repeat (first | apply Kd.R_alloc | apply Kd.R_drewN | apply Kd.R_drew)); exact Kd.R_mono HO_176001.out (fun _ hk => hk.2)⟩, ⟨by (with_reducible repeat (first | refine blk_drewN ?_ _ | refine blk_drew ?_ | refine blk_alloc ?_ _)); exact BK168.out⟩, ⟨by (with_reducible repeat (first | refine blk_drewN ?_ _ | refine blk_drew ?_ | refine blk_alloc ?_ _)); exact BK175.out⟩, ⟨by repeat (first | (with_reducible first | exact HB.out | apply below_alloc | apply pw_below_drewN | apply below_drew1 | refine below_set ?_ GE168.out | refine below_set ?_ GE175.out) | exact HB.out)⟩⟩
              · rw [if_neg c25] at H
                exact absurd H (by simp)
          · rw [if_neg c15] at H
            exact absurd H (by simp)
        · rw [if_neg c14] at H
          exact absurd H (by simp)
      · rw [if_neg c13] at H
        have c13b0 : decide (x15_1 < (t169.length : Int)) = false := decide_eq_false c13
        clear c13
        by_cases c29 : (x4_1.length : Int) < 6
        · rw [if_pos c29] at H
          have c29b0 : decide ((x4_1.length : Int) < 6) = true := decide_eq_true c29
          have c29b1 : decide (x4_1.length < 6) = true := decide_eq_true (by omega)
          clear c29
          simp only [Option.some.injEq, Prod.mk.injEq] at H
          obtain ⟨rfl, rfl, rfl, rfl, rfl, rfl, rfl, rfl⟩ := H
          obtain ⟨Ao30, co30, eo30⟩ := Kd.R_slice HO_4.out
          subst eo30
          have hnb31 := NB168_175.out
          have hnc31 := NB175_168.out
          have hcz32_0 : wr.cell? ⟨gb168, 0, none⟩ = some (.int .i64 x169000_1) := (blk_cell BK168.out 0).trans rfl
          have hcz32_1 : wr.cell? ⟨gb168, 1, none⟩ = some (.int .i64 x169001_1) := (blk_cell BK168.out 1).trans rfl
          have hcz32_2 : wr.cell? ⟨gb168, 2, none⟩ = some (.int .i64 x169002_1) := (blk_cell BK168.out 2).trans rfl
          have hcz32_3 : wr.cell? ⟨gb168, 3, none⟩ = some (.int .i64 x169003_1) := (blk_cell BK168.out 3).trans rfl
          have hcz32_4 : wr.cell? ⟨gb168, 4, none⟩ = some (.int .i64 x169004_1) := (blk_cell BK168.out 4).trans rfl
          have hcz32_5 : wr.cell? ⟨gb168, 5, none⟩ = some (.bool x169005_1) := (blk_cell BK168.out 5).trans rfl
          have hcz32_6 : wr.cell? ⟨gb168, 6, none⟩ = some (.int .i64 x169006_1) := (blk_cell BK168.out 6).trans rfl
          have hcz32_7 : wr.cell? ⟨gb168, 7, none⟩ = some (.int .i64 x169007_1) := (blk_cell BK168.out 7).trans rfl
          have hfz32_0 := blk_frozen BK168.out 0
          have hfz32_1 := blk_frozen BK168.out 1
          have hfz32_2 := blk_frozen BK168.out 2
          have hfz32_3 := blk_frozen BK168.out 3
          have hfz32_4 := blk_frozen BK168.out 4
          have hfz32_5 := blk_frozen BK168.out 5
          have hfz32_6 := blk_frozen BK168.out 6
          have hfz32_7 := blk_frozen BK168.out 7
          go_wp2
          refine bodyPost_ret (results_cell_row rfl _ _ gb168 28 #[.int .i64 0, .int .i64 0, .int .i64 0, .int .i64 0, .int .i64 0, .bool false, .int .i64 (a0.size : Int), .int .i64 7] (0, 0) _ rfl (by (with_reducible repeat (first | refine blk_drewN ?_ _ | refine blk_drew ?_ | refine blk_alloc ?_ _)); refine blk_put (cs := #[.int .i64 0, .int .i64 0, .int .i64 0, .int .i64 0, .int .i64 0, .bool false, .int .i64 (a0.size : Int), .int .i64 x169007_1]) ?_ 7 _ rfl; (with_reducible repeat (first | refine blk_drewN ?_ _ | refine blk_drew ?_ | refine blk_alloc ?_ _)); refine blk_put (cs := #[.int .i64 0, .int .i64 0, .int .i64 0, .int .i64 0, .int .i64 0, .bool false, .int .i64 x169006_1, .int .i64 x169007_1]) ?_ 6 _ rfl; (with_reducible repeat (first | refine blk_drewN ?_ _ | refine blk_drew ?_ | refine blk_alloc ?_ _)); refine blk_put (cs := #[.int .i64 0, .int .i64 0, .int .i64 0, .int .i64 0, .int .i64 0, .bool x169005_1, .int .i64 x169006_1, .int .i64 x169007_1]) ?_ 5 _ rfl; (with_reducible repeat (first | refine blk_drewN ?_ _ | refine blk_drew ?_ | refine blk_alloc ?_ _)); refine blk_put (cs := #[.int .i64 0, .int .i64 0, .int .i64 0, .int .i64 0, .int .i64 x169004_1, .bool x169005_1, .int .i64 x169006_1, .int .i64 x169007_1]) ?_ 4 _ rfl; (with_reducible repeat (first | refine blk_drewN ?_ _ | refine blk_drew ?_ | refine blk_alloc ?_ _)); refine blk_put (cs := #[.int .i64 0, .int .i64 0, .int .i64 0, .int .i64 x169003_1, .int .i64 x169004_1, .bool x169005_1, .int .i64 x169006_1, .int .i64 x169007_1]) ?_ 3 _ rfl; (with_reducible repeat (first | refine blk_drewN ?_ _ | refine blk_drew ?_ | refine blk_alloc ?_ _)); refine blk_put (cs := #[.int .i64 0, .int .i64 0, .int .i64 x169002_1, .int .i64 x169003_1, .int .i64 x169004_1, .bool x169005_1, .int .i64 x169006_1, .int .i64 x169007_1]) ?_ 2 _ rfl; (with_reducible repeat (first | refine blk_drewN ?_ _ | refine blk_drew ?_ | refine blk_alloc ?_ _)); refine blk_put (cs := #[.int .i64 0, .int .i64 x169001_1, .int .i64 x169002_1, .int .i64 x169003_1, .int .i64 x169004_1, .bool x169005_1, .int .i64 x169006_1, .int .i64 x169007_1]) ?_ 1 _ rfl; (with_reducible repeat (first | refine blk_drewN ?_ _ | refine blk_drew ?_ | refine blk_alloc ?_ _)); refine blk_put (cs := #[.int .i64 x169000_1, .int .i64 x169001_1, .int .i64 x169002_1, .int .i64 x169003_1, .int .i64 x169004_1, .bool x169005_1, .int .i64 x169006_1, .int .i64 x169007_1]) ?_ 0 _ rfl; (with_reducible repeat (first | refine blk_drewN ?_ _ | refine blk_drew ?_ | refine blk_alloc ?_ _)); exact BK168.out) Tryd.underlying28 rfl (by kernel_rfl)) rfl ?_
          exact ⟨by first | rfl | (simp [errW_none, errW_some] <;> rfl) | (simp [*, errW_none, errW_some] <;> rfl), by repeat (first | (with_reducible first | exact HB.out | apply below_alloc | apply pw_below_drewN | apply below_drew1 | refine below_set ?_ GE168.out | refine below_set ?_ GE175.out) | exact HB.out)⟩
        · rw [if_neg c29] at H
          have c29b0 : decide ((x4_1.length : Int) < 6) = false := decide_eq_false c29
          have c29b1 : decide (x4_1.length < 6) = false := decide_eq_false (by omega)
          clear c29
          by_cases c33 : 0 < (x4_1.length : Int)
          · rw [if_pos c33] at H
            have c33b0 : decide (0 < (x4_1.length : Int)) = true := decide_eq_true c33
            have c33b1 : decide (0 < x4_1.length) = true := decide_eq_true (by omega)
            clear c33
            by_cases c34 : 1 < (x4_1.length : Int)
            · rw [if_pos c34] at H
              have c34b0 : decide (1 < (x4_1.length : Int)) = true := decide_eq_true c34
              have c34b1 : decide (1 < x4_1.length) = true := decide_eq_true (by omega)
              clear c34
              by_cases c35 : 2 < (x4_1.length : Int)
              · rw [if_pos c35] at H
                have c35b0 : decide (2 < (x4_1.length : Int)) = true := decide_eq_true c35
                have c35b1 : decide (2 < x4_1.length) = true := decide_eq_true (by omega)
                clear c35
                by_cases c36 : 3 < (x4_1.length : Int)
                · rw [if_pos c36] at H
                  have c36b0 : decide (3 < (x4_1.length : Int)) = true := decide_eq_true c36
                  have c36b1 : decide (3 < x4_1.length) = true := decide_eq_true (by omega)
                  clear c36
                  by_cases c37 : 4 < (x4_1.length : Int)
                  · rw [if_pos c37] at H
                    have c37b0 : decide (4 < (x4_1.length : Int)) = true := decide_eq_true c37
                    have c37b1 : decide (4 < x4_1.length) = true := decide_eq_true (by omega)
                    clear c37
                    by_cases c38 : 5 < (x4_1.length : Int)
                    · rw [if_pos c38] at H
                      have c38b0 : decide (5 < (x4_1.length : Int)) = true := decide_eq_true c38
                      have c38b1 : decide (5 < x4_1.length) = true := decide_eq_true (by omega)
                      clear c38
                      replace H := Option.bind_eq_some_iff.mp H
                      obtain ⟨t195, A390, H⟩ := H
                      replace H : (if t195 = true then (some (rd x4_1 0, wrap64 ((rd x4_1 1) + 2), rd x4_1 2, rd x4_1 3, rd x4_1 4, ((rd x4_1 5) == 1), 0, 0)) else (some (0, 0, 0, 0, 0, false, 0, 4))) = some (r1, r2, r3, r4, r5, r6, r7, r8) := H
                      have A39 := Aside0.mk A390
                      clear A390
                      by_cases c40 : t195 = true
                      · subst c40
                        have H1 : (some (rd x4_1 0, wrap64 ((rd x4_1 1) + 2), rd x4_1 2, rd x4_1 3, rd x4_1 4, ((rd x4_1 5) == 1), 0, 0)) = some (r1, r2, r3, r4, r5, r6, r7, r8) := by rw [if_pos rfl] at H; exact H
                        clear H
                        have H := H1
                        clear H1
                        simp only [Option.some.injEq, Prod.mk.injEq] at H
                        obtain ⟨rfl, rfl, rfl, rfl, rfl, rfl, rfl, rfl⟩ := H
                        obtain ⟨Ao41, co41, eo41⟩ := Kd.R_slice HO_4.out
                        subst eo41
                        try go_wp2
                        have n0_ := Aside0.mk (Kd.R_drew HO_4.out)
                        have n1_ := Aside0.mk (Kd.R_drew HO_13.out)
                        have n2_ := Aside0.mk (Kd.R_drew HO_176000.out)
                        have n3_ := Aside0.mk (Kd.R_drew HO_176001.out)
                        have n4_ := Aside0.mk (blk_drew BK168.out)
                        have n5_ := Aside0.mk (blk_drew BK175.out)
                        have n6_ := Aside0.mk (below_drew1 HB.out)
                        clear HO_4
                        clear HO_13
                        clear HO_176000
                        clear HO_176001
                        clear BK168
                        clear BK175
                        clear HB
                        have HO_4 := n0_
                        have HO_13 := n1_
                        have HO_176000 := n2_
                        have HO_176001 := n3_
                        have BK168 := n4_
                        have BK175 := n5_
                        have HB := n6_
                        clear n0_ n1_ n2_ n3_ n4_ n5_ n6_
                        have p188 : 0 ≤ (0 : Int) := (by omega)
                        have q188 : 0 < (x4_1.length : Int) := of_decide_eq_true (by first | (with_reducible assumption) | assumption)
                        obtain ⟨ad188, e188, hx188_0⟩ := Kd.at_int (Kd.R_reads' HO_4.out).2.2 0 p188 q188
                        cases e188
                        have qi188 : (0 < x4_1.length) = True := eq_true (by omega)
                        (try rw [show ((0 : Int)).toNat = 0 from rfl] at hx188_0)
                        (try rw [Addr.add_zero'] at hx188_0)
                        replace p188 := eq_true p188
                        replace q188 := eq_true q188
                        have p189 : 0 ≤ (1 : Int) := (by omega)
                        have q189 : 1 < (x4_1.length : Int) := of_decide_eq_true (by first | (with_reducible assumption) | assumption)
                        obtain ⟨ad189, e189, hx189_0⟩ := Kd.at_int (Kd.R_reads' HO_4.out).2.2 1 p189 q189
                        obtain rfl : ad188 = ad189 := (by injection e189)
                        (try simp only [show (1 : Int).toNat = 1 from rfl, Nat.reduceMul, Nat.reduceEqDiff, Go.Addr.add, ↓reduceIte] at hx189_0)
                        have qi189 : (1 < x4_1.length) = True := eq_true (by omega)
                        (try rw [show ((1 : Int)).toNat = 1 from rfl] at hx189_0)
                        replace p189 := eq_true p189
                        replace q189 := eq_true q189
                        have p190 : 0 ≤ (2 : Int) := (by omega)
                        have q190 : 2 < (x4_1.length : Int) := of_decide_eq_true (by first | (with_reducible assumption) | assumption)
                        obtain ⟨ad190, e190, hx190_0⟩ := Kd.at_int (Kd.R_reads' HO_4.out).2.2 2 p190 q190
                        obtain rfl : ad188 = ad190 := (by injection e190)
                        (try simp only [show (2 : Int).toNat = 2 from rfl, Nat.reduceMul, Nat.reduceEqDiff, Go.Addr.add, ↓reduceIte] at hx190_0)
                        have qi190 : (2 < x4_1.length) = True := eq_true (by omega)
                        (try rw [show ((2 : Int)).toNat = 2 from rfl] at hx190_0)
                        replace p190 := eq_true p190
                        replace q190 := eq_true q190
                        have p191 : 0 ≤ (3 : Int) := (by omega)
                        have q191 : 3 < (x4_1.length : Int) := of_decide_eq_true (by first | (with_reducible assumption) | assumption)
                        obtain ⟨ad191, e191, hx191_0⟩ := Kd.at_int (Kd.R_reads' HO_4.out).2.2 3 p191 q191
                        obtain rfl : ad188 = ad191 := (by injection e191)
                        (try simp only [show (3 : Int).toNat = 3 from rfl, Nat.reduceMul, Nat.reduceEqDiff, Go.Addr.add, ↓reduceIte] at hx191_0)
                        have qi191 : (3 < x4_1.length) = True := eq_true (by omega)
                        (try rw [show ((3 : Int)).toNat = 3 from rfl] at hx191_0)
                        replace p191 := eq_true p191
                        replace q191 := eq_true q191
                        have p192 : 0 ≤ (4 : Int) := (by omega)
                        have q192 : 4 < (x4_1.length : Int) := of_decide_eq_true (by first | (with_reducible assumption) | assumption)
                        obtain ⟨ad192, e192, hx192_0⟩ := Kd.at_int (Kd.R_reads' HO_4.out).2.2 4 p192 q192
                        obtain rfl : ad188 = ad192 := (by injection e192)
                        (try simp only [show (4 : Int).toNat = 4 from rfl, Nat.reduceMul, Nat.reduceEqDiff, Go.Addr.add, ↓reduceIte] at hx192_0)
                        have qi192 : (4 < x4_1.length) = True := eq_true (by omega)
                        (try rw [show ((4 : Int)).toNat = 4 from rfl] at hx192_0)
                        replace p192 := eq_true p192
                        replace q192 := eq_true q192
                        have p193 : 0 ≤ (5 : Int) := (by omega)
                        have q193 : 5 < (x4_1.length : Int) := of_decide_eq_true (by first | (with_reducible assumption) | assumption)
                        obtain ⟨ad193, e193, hx193_0⟩ := Kd.at_int (Kd.R_reads' HO_4.out).2.2 5 p193 q193
                        obtain rfl : ad188 = ad193 := (by injection e193)
                        (try simp only [show (5 : Int).toNat = 5 from rfl, Nat.reduceMul, Nat.reduceEqDiff, Go.Addr.add, ↓reduceIte] at hx193_0)
                        have qi193 : (5 < x4_1.length) = True := eq_true (by omega)
                        (try rw [show ((5 : Int)).toNat = 5 from rfl] at hx193_0)
                        replace p193 := eq_true p193
                        replace q193 := eq_true q193
                        refine start_ (n := 23) (S := fun w' => w'.cell? ad188 = some (.int .i64 (rd x4_1 0)) ∧ w'.cell? ⟨ad188.block, ad188.off + 1, none⟩ = some (.int .i64 (rd x4_1 1)) ∧ w'.cell? ⟨ad188.block, ad188.off + 2, none⟩ = some (.int .i64 (rd x4_1 2)) ∧ w'.cell? ⟨ad188.block, ad188.off + 3, none⟩ = some (.int .i64 (rd x4_1 3)) ∧ w'.cell? ⟨ad188.block, ad188.off + 4, none⟩ = some (.int .i64 (rd x4_1 4)) ∧ w'.cell? ⟨ad188.block, ad188.off + 5, none⟩ = some (.int .i64 (rd x4_1 5))) (ds := []) #[false, false, false, false, false, false, false, false, false, false, false, false, false, false, false, false, false, false, false, false, false, false, false] (by kernel_rfl) rfl rfl ⟨hx188_0, hx189_0, hx190_0, hx191_0, hx192_0, hx193_0⟩ (fun hHeld => ?_); refine with_tabW headroomref24_Parse.tab13 headroomref24_Parse.bits13 (fun HT_ HW_ => ?_)
                        generalize wr.drew = w42 at HO_4 HO_13 HO_176000 HO_176001 BK168 BK175 HB hx188_0 hx189_0 hx190_0 hx191_0 hx192_0 hx193_0 hHeld ⊢
                        refine pure_ (i := 0) (N := some 43) (v := ?_) (a' := ?_) #[true, false, false, false, false, false, false, false, false, false, false, false, false, false, false, false, false, false, false, false, false, false, false] rfl rfl (any_of HT_.out (by kernel_rfl)) (fun _ _ _ h => h) (Or.inl ⟨by rfl, ?_⟩) ?_ ?_
                        rotate_left
                        · intro w'
                          go_simp
                          with_reducible rfl
                        rotate_left
                        · simp only [Act.put, List.setIfInBounds_toArray, List.set_cons_zero, List.set_cons_succ, i64_w, i32_w]
                          rfl
                        refine pure_ (i := 1) (N := some 44) (v := ?_) (a' := ?_) #[true, true, false, false, false, false, false, false, false, false, false, false, false, false, false, false, false, false, false, false, false, false, false] rfl rfl (any_of HT_.out (by kernel_rfl)) (fun _ _ _ h => h) (Or.inl ⟨by rfl, ?_⟩) ?_ ?_
                        rotate_left
                        · intro w'
                          go_simp
                          with_reducible rfl
                        rotate_left
                        · simp only [Act.put, List.setIfInBounds_toArray, List.set_cons_zero, List.set_cons_succ, i64_w, i32_w]
                          rfl
                        refine pure_ (i := 3) (N := some 46) (v := ?_) (a' := ?_) #[true, true, false, true, false, false, false, false, false, false, false, false, false, false, false, false, false, false, false, false, false, false, false] rfl rfl (any_of HT_.out (by kernel_rfl)) (fun _ _ _ h => h) (Or.inl ⟨by rfl, ?_⟩) ?_ ?_
                        rotate_left
                        · intro w'
                          go_simp
                          with_reducible rfl
                        rotate_left
                        · simp only [Act.put, List.setIfInBounds_toArray, List.set_cons_zero, List.set_cons_succ, i64_w, i32_w]
                          rfl
                        refine pure_ (i := 4) (N := some 47) (v := ?_) (a' := ?_) #[true, true, false, true, true, false, false, false, false, false, false, false, false, false, false, false, false, false, false, false, false, false, false] rfl rfl (any_of HT_.out (by kernel_rfl)) (fun _ _ _ h => h) (Or.inl ⟨by rfl, ?_⟩) ?_ ?_
                        rotate_left
                        · intro w'
                          go_simp
                          with_reducible rfl
                        rotate_left
                        · simp only [Act.put, List.setIfInBounds_toArray, List.set_cons_zero, List.set_cons_succ, i64_w, i32_w]
                          rfl
                        refine pure_ (i := 7) (N := some 50) (v := ?_) (a' := ?_) #[true, true, false, true, true, false, false, true, false, false, false, false, false, false, false, false, false, false, false, false, false, false, false] rfl rfl (any_of HT_.out (by kernel_rfl)) (fun _ _ _ h => h) (Or.inl ⟨by rfl, ?_⟩) ?_ ?_
                        rotate_left
                        · intro w'
                          go_simp
                          with_reducible rfl
                        rotate_left
                        · simp only [Act.put, List.setIfInBounds_toArray, List.set_cons_zero, List.set_cons_succ, i64_w, i32_w]
                          rfl
                        refine pure_ (i := 8) (N := some 51) (v := ?_) (a' := ?_) #[true, true, false, true, true, false, false, true, true, false, false, false, false, false, false, false, false, false, false, false, false, false, false] rfl rfl (any_of HT_.out (by kernel_rfl)) (fun _ _ _ h => h) (Or.inl ⟨by rfl, ?_⟩) ?_ ?_
                        rotate_left
                        · intro w'
                          go_simp
                          with_reducible rfl
                        rotate_left
                        · simp only [Act.put, List.setIfInBounds_toArray, List.set_cons_zero, List.set_cons_succ, i64_w, i32_w]
                          rfl
                        refine pure_ (i := 10) (N := some 53) (v := ?_) (a' := ?_) #[true, true, false, true, true, false, false, true, true, false, true, false, false, false, false, false, false, false, false, false, false, false, false] rfl rfl (any_of HT_.out (by kernel_rfl)) (fun _ _ _ h => h) (Or.inl ⟨by rfl, ?_⟩) ?_ ?_
                        rotate_left
                        · intro w'
                          go_simp
                          with_reducible rfl
                        rotate_left
                        · simp only [Act.put, List.setIfInBounds_toArray, List.set_cons_zero, List.set_cons_succ, i64_w, i32_w]
                          rfl
                        refine pure_ (i := 11) (N := some 54) (v := ?_) (a' := ?_) #[true, true, false, true, true, false, false, true, true, false, true, true, false, false, false, false, false, false, false, false, false, false, false] rfl rfl (any_of HT_.out (by kernel_rfl)) (fun _ _ _ h => h) (Or.inl ⟨by rfl, ?_⟩) ?_ ?_
                        rotate_left
                        · intro w'
                          go_simp
                          with_reducible rfl
                        rotate_left
                        · simp only [Act.put, List.setIfInBounds_toArray, List.set_cons_zero, List.set_cons_succ, i64_w, i32_w]
                          rfl
                        refine pure_ (i := 13) (N := some 56) (v := ?_) (a' := ?_) #[true, true, false, true, true, false, false, true, true, false, true, true, false, true, false, false, false, false, false, false, false, false, false] rfl rfl (any_of HT_.out (by kernel_rfl)) (fun _ _ _ h => h) (Or.inl ⟨by rfl, ?_⟩) ?_ ?_
                        rotate_left
                        · intro w'
                          go_simp
                          with_reducible rfl
                        rotate_left
                        · simp only [Act.put, List.setIfInBounds_toArray, List.set_cons_zero, List.set_cons_succ, i64_w, i32_w]
                          rfl
                        refine pure_ (i := 14) (N := some 57) (v := ?_) (a' := ?_) #[true, true, false, true, true, false, false, true, true, false, true, true, false, true, true, false, false, false, false, false, false, false, false] rfl rfl (any_of HT_.out (by kernel_rfl)) (fun _ _ _ h => h) (Or.inl ⟨by rfl, ?_⟩) ?_ ?_
                        rotate_left
                        · intro w'
                          go_simp
                          with_reducible rfl
                        rotate_left
                        · simp only [Act.put, List.setIfInBounds_toArray, List.set_cons_zero, List.set_cons_succ, i64_w, i32_w]
                          rfl
                        refine pure_ (i := 16) (N := some 59) (v := ?_) (a' := ?_) #[true, true, false, true, true, false, false, true, true, false, true, true, false, true, true, false, true, false, false, false, false, false, false] rfl rfl (any_of HT_.out (by kernel_rfl)) (fun _ _ _ h => h) (Or.inl ⟨by rfl, ?_⟩) ?_ ?_
                        rotate_left
                        · intro w'
                          go_simp
                          with_reducible rfl
                        rotate_left
                        · simp only [Act.put, List.setIfInBounds_toArray, List.set_cons_zero, List.set_cons_succ, i64_w, i32_w]
                          rfl
                        refine pure_ (i := 17) (N := some 60) (v := ?_) (a' := ?_) #[true, true, false, true, true, false, false, true, true, false, true, true, false, true, true, false, true, true, false, false, false, false, false] rfl rfl (any_of HT_.out (by kernel_rfl)) (fun _ _ _ h => h) (Or.inl ⟨by rfl, ?_⟩) ?_ ?_
                        rotate_left
                        · intro w'
                          go_simp
                          with_reducible rfl
                        rotate_left
                        · simp only [Act.put, List.setIfInBounds_toArray, List.set_cons_zero, List.set_cons_succ, i64_w, i32_w]
                          rfl
                        refine take_ (i := 2) (N := some 45) (v := ?_) (a' := ?_) #[true, true, true, true, true, false, false, true, true, false, true, true, false, true, true, false, true, true, false, false, false, false, false] rfl rfl (take_ofW HT_.out HW_.out (by kernel_rfl)) (fun _ _ _ h => h) (Or.inl ⟨by rfl, ?_⟩) hHeld ?_ ?_
                        rotate_left
                        · rintro w' ⟨s0, s1, s2, s3, s4, s5⟩
                          go_simp
                          with_reducible rfl
                        rotate_left
                        · simp only [Act.put, List.setIfInBounds_toArray, List.set_cons_zero, List.set_cons_succ, i64_w, i32_w]
                          rfl
                        refine take_ (i := 5) (N := some 48) (v := ?_) (a' := ?_) #[true, true, true, true, true, true, false, true, true, false, true, true, false, true, true, false, true, true, false, false, false, false, false] rfl rfl (take_ofW HT_.out HW_.out (by kernel_rfl)) (fun _ _ _ h => h) (Or.inl ⟨by rfl, ?_⟩) hHeld ?_ ?_
                        rotate_left
                        · rintro w' ⟨s0, s1, s2, s3, s4, s5⟩
                          go_simp
                          with_reducible rfl
                        rotate_left
                        · simp only [Act.put, List.setIfInBounds_toArray, List.set_cons_zero, List.set_cons_succ, i64_w, i32_w]
                          rfl
                        refine pure_ (i := 6) (N := some 49) (v := ?_) (a' := ?_) #[true, true, true, true, true, true, true, true, true, false, true, true, false, true, true, false, true, true, false, false, false, false, false] rfl rfl (any_of HT_.out (by kernel_rfl)) (fun _ _ _ h => h) (Or.inl ⟨by rfl, ?_⟩) ?_ ?_
                        rotate_left
                        · intro w'
                          go_simp
                          with_reducible rfl
                        rotate_left
                        · simp only [Act.put, List.setIfInBounds_toArray, List.set_cons_zero, List.set_cons_succ, i64_w, i32_w]
                          rfl
                        refine take_ (i := 9) (N := some 52) (v := ?_) (a' := ?_) #[true, true, true, true, true, true, true, true, true, true, true, true, false, true, true, false, true, true, false, false, false, false, false] rfl rfl (take_ofW HT_.out HW_.out (by kernel_rfl)) (fun _ _ _ h => h) (Or.inl ⟨by rfl, ?_⟩) hHeld ?_ ?_
                        rotate_left
                        · rintro w' ⟨s0, s1, s2, s3, s4, s5⟩
                          go_simp
                          with_reducible rfl
                        rotate_left
                        · simp only [Act.put, List.setIfInBounds_toArray, List.set_cons_zero, List.set_cons_succ, i64_w, i32_w]
                          rfl
                        refine take_ (i := 12) (N := some 55) (v := ?_) (a' := ?_) #[true, true, true, true, true, true, true, true, true, true, true, true, true, true, true, false, true, true, false, false, false, false, false] rfl rfl (take_ofW HT_.out HW_.out (by kernel_rfl)) (fun _ _ _ h => h) (Or.inl ⟨by rfl, ?_⟩) hHeld ?_ ?_
                        rotate_left
                        · rintro w' ⟨s0, s1, s2, s3, s4, s5⟩
                          go_simp
                          with_reducible rfl
                        rotate_left
                        · simp only [Act.put, List.setIfInBounds_toArray, List.set_cons_zero, List.set_cons_succ, i64_w, i32_w]
                          rfl
                        refine take_ (i := 15) (N := some 58) (v := ?_) (a' := ?_) #[true, true, true, true, true, true, true, true, true, true, true, true, true, true, true, true, true, true, false, false, false, false, false] rfl rfl (take_ofW HT_.out HW_.out (by kernel_rfl)) (fun _ _ _ h => h) (Or.inl ⟨by rfl, ?_⟩) hHeld ?_ ?_
                        rotate_left
                        · rintro w' ⟨s0, s1, s2, s3, s4, s5⟩
                          go_simp
                          with_reducible rfl
                        rotate_left
                        · simp only [Act.put, List.setIfInBounds_toArray, List.set_cons_zero, List.set_cons_succ, i64_w, i32_w]
                          rfl
                        refine take_ (i := 18) (N := some 61) (v := ?_) (a' := ?_) #[true, true, true, true, true, true, true, true, true, true, true, true, true, true, true, true, true, true, true, false, false, false, false] rfl rfl (take_ofW HT_.out HW_.out (by kernel_rfl)) (fun _ _ _ h => h) (Or.inl ⟨by rfl, ?_⟩) hHeld ?_ ?_
                        rotate_left
                        · rintro w' ⟨s0, s1, s2, s3, s4, s5⟩
                          go_simp
                          with_reducible rfl
                        rotate_left
                        · simp only [Act.put, List.setIfInBounds_toArray, List.set_cons_zero, List.set_cons_succ, i64_w, i32_w]
                          rfl
                        refine pure_ (i := 19) (N := some 62) (v := ?_) (a' := ?_) #[true, true, true, true, true, true, true, true, true, true, true, true, true, true, true, true, true, true, true, true, false, false, false] rfl rfl (any_of HT_.out (by kernel_rfl)) (fun _ _ _ h => h) (Or.inl ⟨by rfl, ?_⟩) ?_ ?_
                        rotate_left
                        · intro w'
                          go_simp
                          with_reducible rfl
                        rotate_left
                        · simp only [Act.put, List.setIfInBounds_toArray, List.set_cons_zero, List.set_cons_succ, i64_w, i32_w]
                          rfl
                        refine pure_ (i := 20) (N := some 63) (v := ?_) (a' := ?_) #[true, true, true, true, true, true, true, true, true, true, true, true, true, true, true, true, true, true, true, true, true, false, false] rfl rfl (any_of HT_.out (by kernel_rfl)) (fun _ _ _ h => h) (Or.inl ⟨by rfl, ?_⟩) ?_ ?_
                        rotate_left
                        · intro w'
                          go_simp
                          with_reducible rfl
                        rotate_left
                        · simp only [Act.put, List.setIfInBounds_toArray, List.set_cons_zero, List.set_cons_succ, i64_w, i32_w]
                          rfl
                        refine one_ (i := 21) (N := some 8) #[true, true, true, true, true, true, true, true, true, true, true, true, true, true, true, true, true, true, true, true, true, true, false] rfl rfl (one_of HT_.out (by kernel_rfl)) (by decide) (fun K hK => ?_)
                        refine box_step ?hg (N := 8) ?hd (cs := #[.int .i64 0, .int .i64 0, .int .i64 0, .int .i64 0, .int .i64 0, .bool false]) (t := 23) ?hr ?_; (case hd => rfl); (case hg => rfl); (case hr => first | (go_simp; done) | (go_simp; rfl))
                        intro gb194 hg w43 hbox hb
                        have HS0_ := (hb.cell (World.block_lt_of_cell? _ _ (hHeld.1))).trans (hHeld.1)
                        have HS1_ := (hb.cell (World.block_lt_of_cell? _ _ (hHeld.2.1))).trans (hHeld.2.1)
                        have HS2_ := (hb.cell (World.block_lt_of_cell? _ _ (hHeld.2.2.1))).trans (hHeld.2.2.1)
                        have HS3_ := (hb.cell (World.block_lt_of_cell? _ _ (hHeld.2.2.2.1))).trans (hHeld.2.2.2.1)
                        have HS4_ := (hb.cell (World.block_lt_of_cell? _ _ (hHeld.2.2.2.2.1))).trans (hHeld.2.2.2.2.1)
                        have HS5_ := (hb.cell (World.block_lt_of_cell? _ _ (hHeld.2.2.2.2.2))).trans (hHeld.2.2.2.2.2)
                        have n0_ := Aside0.mk (Kd.R_below (by (with_reducible repeat (first | apply Kd.R_alloc | apply Kd.R_drewN | apply Kd.R_drew)); exact HO_4.out) hb)
                        have n1_ := Aside0.mk (Kd.R_below (by (with_reducible repeat (first | apply Kd.R_alloc | apply Kd.R_drewN | apply Kd.R_drew)); exact HO_13.out) hb)
                        have n2_ := Aside0.mk (Kd.R_below (by (with_reducible repeat (first | apply Kd.R_alloc | apply Kd.R_drewN | apply Kd.R_drew)); exact HO_176000.out) hb)
                        have n3_ := Aside0.mk (Kd.R_below (by (with_reducible repeat (first | apply Kd.R_alloc | apply Kd.R_drewN | apply Kd.R_drew)); exact HO_176001.out) hb)
                        have n4_ := Aside0.mk (blk_below (g := gb168) (o := .cells #[.int .i64 x169000_1, .int .i64 x169001_1, .int .i64 x169002_1, .int .i64 x169003_1, .int .i64 x169004_1, .bool x169005_1, .int .i64 x169006_1, .int .i64 x169007_1] 28 (0, 0)) (by (with_reducible repeat (first | refine blk_drewN ?_ _ | refine blk_drew ?_ | refine blk_alloc ?_ _)); exact BK168.out) hb)
                        have n5_ := Aside0.mk (blk_below (g := gb175) (o := .cells #[.slice Ao6 t169.length co6, .slice Ao9 t172.length co9] 39 (0, 0)) (by (with_reducible repeat (first | refine blk_drewN ?_ _ | refine blk_drew ?_ | refine blk_alloc ?_ _)); exact BK175.out) hb)
                        have n6_ := Aside0.mk (below_step (by repeat (first | (with_reducible first | exact HB.out | apply below_alloc | apply pw_below_drewN | apply below_drew1 | refine below_set ?_ GE168.out | refine below_set ?_ GE175.out) | exact HB.out)) hb)
                        have n7_ := Aside0.mk (hbox)
                        have n8_ := Aside0.mk ((by rw [hg]; exact (below_size (by repeat (first | (with_reducible first | exact HB.out | apply below_alloc | apply pw_below_drewN | apply below_drew1 | refine below_set ?_ GE168.out | refine below_set ?_ GE175.out) | exact HB.out))) : w.heap.size ≤ gb194))
                        have n9_ := Aside0.mk ((by rw [hg]; exact (below_size (by repeat (first | (with_reducible first | exact HB.out | apply below_alloc | apply pw_below_drewN | apply below_drew1 | refine below_set ?_ GE168.out | refine below_set ?_ GE175.out) | exact HB.out))) : w.heap.size ≤ gb194))
                        have n10_ := Aside0.mk ((by rw [hg]; exact Nat.ne_of_lt (blk_lt (g := gb168) (o := .cells #[.int .i64 x169000_1, .int .i64 x169001_1, .int .i64 x169002_1, .int .i64 x169003_1, .int .i64 x169004_1, .bool x169005_1, .int .i64 x169006_1, .int .i64 x169007_1] 28 (0, 0)) (by (with_reducible repeat (first | refine blk_drewN ?_ _ | refine blk_drew ?_ | refine blk_alloc ?_ _)); exact BK168.out)) : gb168 ≠ gb194))
                        have n11_ := Aside0.mk ((by rw [hg]; exact Nat.ne_of_gt (blk_lt (g := gb168) (o := .cells #[.int .i64 x169000_1, .int .i64 x169001_1, .int .i64 x169002_1, .int .i64 x169003_1, .int .i64 x169004_1, .bool x169005_1, .int .i64 x169006_1, .int .i64 x169007_1] 28 (0, 0)) (by (with_reducible repeat (first | refine blk_drewN ?_ _ | refine blk_drew ?_ | refine blk_alloc ?_ _)); exact BK168.out)) : gb194 ≠ gb168))
                        have n12_ := Aside0.mk ((by rw [hg]; exact Nat.ne_of_lt (blk_lt (g := gb175) (o := .cells #[.slice Ao6 t169.length co6, .slice Ao9 t172.length co9] 39 (0, 0)) (by (with_reducible repeat (first | refine blk_drewN ?_ _ | refine blk_drew ?_ | refine blk_alloc ?_ _)); exact BK175.out)) : gb175 ≠ gb194))
                        have n13_ := Aside0.mk ((by rw [hg]; exact Nat.ne_of_gt (blk_lt (g := gb175) (o := .cells #[.slice Ao6 t169.length co6, .slice Ao9 t172.length co9] 39 (0, 0)) (by (with_reducible repeat (first | refine blk_drewN ?_ _ | refine blk_drew ?_ | refine blk_alloc ?_ _)); exact BK175.out)) : gb194 ≠ gb175))
                        clear HO_4
                        clear HO_13
                        clear HO_176000
                        clear HO_176001
                        clear BK168
                        clear BK175
                        clear HB
                        have HO_4 := n0_
                        have HO_13 := n1_
                        have HO_176000 := n2_
                        have HO_176001 := n3_
                        have BK168 := n4_
                        have BK175 := n5_
                        have HB := n6_
                        have BK194 := n7_
                        have GW194 := n8_
                        have GE194 := n9_
                        have NB168_194 := n10_
                        have NB194_168 := n11_
                        have NB175_194 := n12_
                        have NB194_175 := n13_
                        clear n0_ n1_ n2_ n3_ n4_ n5_ n6_ n7_ n8_ n9_ n10_ n11_ n12_ n13_
                        clear hb hbox hg
                        refine hK.out _ _ ⟨HS0_, HS1_, HS2_, HS3_, HS4_, HS5_⟩ (fun hHeld => ?_)
                        clear hK K
                        refine norm_ (a' := ?_) ?_ ?_
                        rotate_left
                        · show Act.put _ (some 8) _ = _
                          simp only [Act.put, List.setIfInBounds_toArray, List.set_cons_zero, List.set_cons_succ, i64_w, i32_w]
                          rfl
                        refine one_ (i := 22) (N := none) #[true, true, true, true, true, true, true, true, true, true, true, true, true, true, true, true, true, true, true, true, true, true, true] rfl rfl (one_of HT_.out (by kernel_rfl)) (by decide) (fun K hK => ?_)
                        have hs44 : w43.cell? ⟨gb194, 0, none⟩ = some (.int .i64 0) := (blk_cell BK194.out 0).trans rfl
                        have hfs44 := blk_frozen BK194.out 0
                        have hns44_0 := NB168_194.out
                        have hns44_1 := NB175_194.out
                        have hms44_0 := NB194_168.out
                        have hms44_1 := NB194_175.out
                        have hs45 : w43.cell? ⟨gb194, 1, none⟩ = some (.int .i64 0) := (blk_cell BK194.out 1).trans rfl
                        have hfs45 := blk_frozen BK194.out 1
                        have hns45_0 := NB168_194.out
                        have hns45_1 := NB175_194.out
                        have hms45_0 := NB194_168.out
                        have hms45_1 := NB194_175.out
                        have hs46 : w43.cell? ⟨gb194, 2, none⟩ = some (.int .i64 0) := (blk_cell BK194.out 2).trans rfl
                        have hfs46 := blk_frozen BK194.out 2
                        have hns46_0 := NB168_194.out
                        have hns46_1 := NB175_194.out
                        have hms46_0 := NB194_168.out
                        have hms46_1 := NB194_175.out
                        have hs47 : w43.cell? ⟨gb194, 3, none⟩ = some (.int .i64 0) := (blk_cell BK194.out 3).trans rfl
                        have hfs47 := blk_frozen BK194.out 3
                        have hns47_0 := NB168_194.out
                        have hns47_1 := NB175_194.out
                        have hms47_0 := NB194_168.out
                        have hms47_1 := NB194_175.out
                        have hs48 : w43.cell? ⟨gb194, 4, none⟩ = some (.int .i64 0) := (blk_cell BK194.out 4).trans rfl
                        have hfs48 := blk_frozen BK194.out 4
                        have hns48_0 := NB168_194.out
                        have hns48_1 := NB175_194.out
                        have hms48_0 := NB194_168.out
                        have hms48_1 := NB194_175.out
                        have hs49 : w43.cell? ⟨gb194, 5, none⟩ = some (.bool false) := (blk_cell BK194.out 5).trans rfl
                        have hfs49 := blk_frozen BK194.out 5
                        have hns49_0 := NB168_194.out
                        have hns49_1 := NB175_194.out
                        have hms49_0 := NB194_168.out
                        have hms49_1 := NB194_175.out
                        refine skip_ (w1 := ?_) (by rfl) rfl ?_ ?_
                        rotate_left
                        · go_simp
                          rfl
                        have HN_ : ad188.block ≠ gb194 := Kd.own_blk (Kd.R_ne HO_4.out BK194.out (by decide))
                        refine hK.out _ _ ?_ (fun hHeld => ?_)
                        · refine ⟨?_, ?_, ?_, ?_, ?_, ?_⟩
                          · rw [far6 HN_]; exact hHeld.1
                          · rw [far6 (p := ⟨ad188.block, ad188.off + 1, none⟩) HN_]; exact hHeld.2.1
                          · rw [far6 (p := ⟨ad188.block, ad188.off + 2, none⟩) HN_]; exact hHeld.2.2.1
                          · rw [far6 (p := ⟨ad188.block, ad188.off + 3, none⟩) HN_]; exact hHeld.2.2.2.1
                          · rw [far6 (p := ⟨ad188.block, ad188.off + 4, none⟩) HN_]; exact hHeld.2.2.2.2.1
                          · rw [far6 (p := ⟨ad188.block, ad188.off + 5, none⟩) HN_]; exact hHeld.2.2.2.2.2
                        clear hK K
                        refine done_ (done_of HT_.out (by kernel_rfl)) ?_
                        have hnb50 := NB194_168.out
                        have hnc50 := NB168_194.out
                        have hnb51 := NB194_175.out
                        have hnc51 := NB175_194.out
                        have hcz52_0 : w43.cell? ⟨gb194, 0, none⟩ = some (.int .i64 0) := (blk_cell BK194.out 0).trans rfl
                        have hcz52_1 : w43.cell? ⟨gb194, 1, none⟩ = some (.int .i64 0) := (blk_cell BK194.out 1).trans rfl
                        have hcz52_2 : w43.cell? ⟨gb194, 2, none⟩ = some (.int .i64 0) := (blk_cell BK194.out 2).trans rfl
                        have hcz52_3 : w43.cell? ⟨gb194, 3, none⟩ = some (.int .i64 0) := (blk_cell BK194.out 3).trans rfl
                        have hcz52_4 : w43.cell? ⟨gb194, 4, none⟩ = some (.int .i64 0) := (blk_cell BK194.out 4).trans rfl
                        have hcz52_5 : w43.cell? ⟨gb194, 5, none⟩ = some (.bool false) := (blk_cell BK194.out 5).trans rfl
                        have hfz52_0 := blk_frozen BK194.out 0
                        have hfz52_1 := blk_frozen BK194.out 1
                        have hfz52_2 := blk_frozen BK194.out 2
                        have hfz52_3 := blk_frozen BK194.out 3
                        have hfz52_4 := blk_frozen BK194.out 4
                        have hfz52_5 := blk_frozen BK194.out 5
                        try go_wp2_with (first | ((with_reducible refine gate_callee (f := 14) rfl ?_); refine goesL_ (some 65) rfl rfl Tryd.func14 (by kernel_rfl) rfl #[.agg #[.int .i64 (rd x4_1 0), .int .i64 (wrap64 ((rd x4_1 1) + 2)), .int .i64 (rd x4_1 2), .int .i64 (rd x4_1 3), .int .i64 (rd x4_1 4), .bool ((rd x4_1 5) == 1)]] rfl (by (try simp only [List.map_toArray, List.map_cons, List.map_nil]); first | done | rfl | (simp only [List.length_drop, List.length_take]; rfl)) ?_; (with_reducible refine (headroomref13_Check.calls k1 (rd x4_1 0) (wrap64 ((rd x4_1 1) + 2)) (rd x4_1 2) (rd x4_1 3) (rd x4_1 4) ((rd x4_1 5) == 1) true _ A39.out).mono ?_); rintro e w53 ⟨rfl, hb⟩; refine ⟨_, rfl, ?_⟩; have n0_ := Aside0.mk (Kd.R_below (by (with_reducible repeat (first | apply Kd.R_alloc | apply Kd.R_drewN | apply Kd.R_drew)); exact (Kd.R_mono (Kd.R_far (p := ⟨gb194, 5, none⟩) (Kd.R_far (p := ⟨gb194, 4, none⟩) (Kd.R_far (p := ⟨gb194, 3, none⟩) (Kd.R_far (p := ⟨gb194, 2, none⟩) (Kd.R_far (p := ⟨gb194, 1, none⟩) (Kd.R_far (p := ⟨gb194, 0, none⟩) (Kd.R_types HO_4.out BK194.out (by decide)) (fun _ hk => hk.2) (.int .i64 (rd x4_1 0))) (fun _ hk => hk.2) (.int .i64 (wrap64 ((rd x4_1 1) + 2)))) (fun _ hk => hk.2) (.int .i64 (rd x4_1 2))) (fun _ hk => hk.2) (.int .i64 (rd x4_1 3))) (fun _ hk => hk.2) (.int .i64 (rd x4_1 4))) (fun _ hk => hk.2) (.bool ((rd x4_1 5) == 1))) (fun _ h_ => h_.1))) hb); have n1_ := Aside0.mk (Kd.R_below (by (with_reducible repeat (first | apply Kd.R_alloc | apply Kd.R_drewN | apply Kd.R_drew)); exact (Kd.R_mono (Kd.R_far (p := ⟨gb194, 5, none⟩) (Kd.R_far (p := ⟨gb194, 4, none⟩) (Kd.R_far (p := ⟨gb194, 3, none⟩) (Kd.R_far (p := ⟨gb194, 2, none⟩) (Kd.R_far (p := ⟨gb194, 1, none⟩) (Kd.R_far (p := ⟨gb194, 0, none⟩) (Kd.R_types HO_13.out BK194.out (by decide)) (fun _ hk => hk.2) (.int .i64 (rd x4_1 0))) (fun _ hk => hk.2) (.int .i64 (wrap64 ((rd x4_1 1) + 2)))) (fun _ hk => hk.2) (.int .i64 (rd x4_1 2))) (fun _ hk => hk.2) (.int .i64 (rd x4_1 3))) (fun _ hk => hk.2) (.int .i64 (rd x4_1 4))) (fun _ hk => hk.2) (.bool ((rd x4_1 5) == 1))) (fun _ h_ => h_.1))) hb); have n2_ := Aside0.mk (Kd.R_below (by (with_reducible repeat (first | apply Kd.R_alloc | apply Kd.R_drewN | apply Kd.R_drew)); exact (Kd.R_mono (Kd.R_far (p := ⟨gb194, 5, none⟩) (Kd.R_far (p := ⟨gb194, 4, none⟩) (Kd.R_far (p := ⟨gb194, 3, none⟩) (Kd.R_far (p := ⟨gb194, 2, none⟩) (Kd.R_far (p := ⟨gb194, 1, none⟩) (Kd.R_far (p := ⟨gb194, 0, none⟩) (Kd.R_types HO_176000.out BK194.out (by decide)) (fun _ hk => hk.2) (.int .i64 (rd x4_1 0))) (fun _ hk => hk.2) (.int .i64 (wrap64 ((rd x4_1 1) + 2)))) (fun _ hk => hk.2) (.int .i64 (rd x4_1 2))) (fun _ hk => hk.2) (.int .i64 (rd x4_1 3))) (fun _ hk => hk.2) (.int .i64 (rd x4_1 4))) (fun _ hk => hk.2) (.bool ((rd x4_1 5) == 1))) (fun _ h_ => h_.1))) hb); have n3_ := Aside0.mk (Kd.R_below (by (with_reducible repeat (first | apply Kd.R_alloc | apply Kd.R_drewN | apply Kd.R_drew)); exact (Kd.R_mono (Kd.R_far (p := ⟨gb194, 5, none⟩) (Kd.R_far (p := ⟨gb194, 4, none⟩) (Kd.R_far (p := ⟨gb194, 3, none⟩) (Kd.R_far (p := ⟨gb194, 2, none⟩) (Kd.R_far (p := ⟨gb194, 1, none⟩) (Kd.R_far (p := ⟨gb194, 0, none⟩) (Kd.R_types HO_176001.out BK194.out (by decide)) (fun _ hk => hk.2) (.int .i64 (rd x4_1 0))) (fun _ hk => hk.2) (.int .i64 (wrap64 ((rd x4_1 1) + 2)))) (fun _ hk => hk.2) (.int .i64 (rd x4_1 2))) (fun _ hk => hk.2) (.int .i64 (rd x4_1 3))) (fun _ hk => hk.2) (.int .i64 (rd x4_1 4))) (fun _ hk => hk.2) (.bool ((rd x4_1 5) == 1))) (fun _ h_ => h_.1))) hb); have n4_ := Aside0.mk (blk_below (g := gb168) (o := .cells #[.int .i64 x169000_1, .int .i64 x169001_1, .int .i64 x169002_1, .int .i64 x169003_1, .int .i64 x169004_1, .bool x169005_1, .int .i64 x169006_1, .int .i64 x169007_1] 28 (0, 0)) (by (with_reducible repeat (first | refine blk_drewN ?_ _ | refine blk_drew ?_ | refine blk_alloc ?_ _)); refine blk_far ?_ NB168_194.out _; (with_reducible repeat (first | refine blk_drewN ?_ _ | refine blk_drew ?_ | refine blk_alloc ?_ _)); refine blk_far ?_ NB168_194.out _; (with_reducible repeat (first | refine blk_drewN ?_ _ | refine blk_drew ?_ | refine blk_alloc ?_ _)); refine blk_far ?_ NB168_194.out _; (with_reducible repeat (first | refine blk_drewN ?_ _ | refine blk_drew ?_ | refine blk_alloc ?_ _)); refine blk_far ?_ NB168_194.out _; (with_reducible repeat (first | refine blk_drewN ?_ _ | refine blk_drew ?_ | refine blk_alloc ?_ _)); refine blk_far ?_ NB168_194.out _; (with_reducible repeat (first | refine blk_drewN ?_ _ | refine blk_drew ?_ | refine blk_alloc ?_ _)); refine blk_far ?_ NB168_194.out _; (with_reducible repeat (first | refine blk_drewN ?_ _ | refine blk_drew ?_ | refine blk_alloc ?_ _)); exact BK168.out) hb); have n5_ := Aside0.mk (blk_below (g := gb175) (o := .cells #[.slice Ao6 t169.length co6, .slice Ao9 t172.length co9] 39 (0, 0)) (by (with_reducible repeat (first | refine blk_drewN ?_ _ | refine blk_drew ?_ | refine blk_alloc ?_ _)); refine blk_far ?_ NB175_194.out _; (with_reducible repeat (first | refine blk_drewN ?_ _ | refine blk_drew ?_ | refine blk_alloc ?_ _)); refine blk_far ?_ NB175_194.out _; (with_reducible repeat (first | refine blk_drewN ?_ _ | refine blk_drew ?_ | refine blk_alloc ?_ _)); refine blk_far ?_ NB175_194.out _; (with_reducible repeat (first | refine blk_drewN ?_ _ | refine blk_drew ?_ | refine blk_alloc ?_ _)); refine blk_far ?_ NB175_194.out _; (with_reducible repeat (first | refine blk_drewN ?_ _ | refine blk_drew ?_ | refine blk_alloc ?_ _)); refine blk_far ?_ NB175_194.out _; (with_reducible repeat (first | refine blk_drewN ?_ _ | refine blk_drew ?_ | refine blk_alloc ?_ _)); refine blk_far ?_ NB175_194.out _; (with_reducible repeat (first | refine blk_drewN ?_ _ | refine blk_drew ?_ | refine blk_alloc ?_ _)); exact BK175.out) hb); have n6_ := Aside0.mk (blk_below (g := gb194) (o := .cells #[.int .i64 (rd x4_1 0), .int .i64 (wrap64 ((rd x4_1 1) + 2)), .int .i64 (rd x4_1 2), .int .i64 (rd x4_1 3), .int .i64 (rd x4_1 4), .bool ((rd x4_1 5) == 1)] 23 (0, 0)) (by (with_reducible repeat (first | refine blk_drewN ?_ _ | refine blk_drew ?_ | refine blk_alloc ?_ _)); refine blk_put (cs := #[.int .i64 (rd x4_1 0), .int .i64 (wrap64 ((rd x4_1 1) + 2)), .int .i64 (rd x4_1 2), .int .i64 (rd x4_1 3), .int .i64 (rd x4_1 4), .bool false]) ?_ 5 _ rfl; (with_reducible repeat (first | refine blk_drewN ?_ _ | refine blk_drew ?_ | refine blk_alloc ?_ _)); refine blk_put (cs := #[.int .i64 (rd x4_1 0), .int .i64 (wrap64 ((rd x4_1 1) + 2)), .int .i64 (rd x4_1 2), .int .i64 (rd x4_1 3), .int .i64 0, .bool false]) ?_ 4 _ rfl; (with_reducible repeat (first | refine blk_drewN ?_ _ | refine blk_drew ?_ | refine blk_alloc ?_ _)); refine blk_put (cs := #[.int .i64 (rd x4_1 0), .int .i64 (wrap64 ((rd x4_1 1) + 2)), .int .i64 (rd x4_1 2), .int .i64 0, .int .i64 0, .bool false]) ?_ 3 _ rfl; (with_reducible repeat (first | refine blk_drewN ?_ _ | refine blk_drew ?_ | refine blk_alloc ?_ _)); refine blk_put (cs := #[.int .i64 (rd x4_1 0), .int .i64 (wrap64 ((rd x4_1 1) + 2)), .int .i64 0, .int .i64 0, .int .i64 0, .bool false]) ?_ 2 _ rfl; (with_reducible repeat (first | refine blk_drewN ?_ _ | refine blk_drew ?_ | refine blk_alloc ?_ _)); refine blk_put (cs := #[.int .i64 (rd x4_1 0), .int .i64 0, .int .i64 0, .int .i64 0, .int .i64 0, .bool false]) ?_ 1 _ rfl; (with_reducible repeat (first | refine blk_drewN ?_ _ | refine blk_drew ?_ | refine blk_alloc ?_ _)); refine blk_put (cs := #[.int .i64 0, .int .i64 0, .int .i64 0, .int .i64 0, .int .i64 0, .bool false]) ?_ 0 _ rfl; (with_reducible repeat (first | refine blk_drewN ?_ _ | refine blk_drew ?_ | refine blk_alloc ?_ _)); exact BK194.out) hb); have n7_ := Aside0.mk (below_step (by repeat (first | (with_reducible first | exact HB.out | apply below_alloc | apply pw_below_drewN | apply below_drew1 | refine below_set ?_ GE168.out | refine below_set ?_ GE175.out | refine below_set ?_ GE194.out) | exact HB.out)) hb); clear HO_4; clear HO_13; clear HO_176000; clear HO_176001; clear BK168; clear BK175; clear BK194; clear HB; have HO_4 := n0_; have HO_13 := n1_; have HO_176000 := n2_; have HO_176001 := n3_; have BK168 := n4_; have BK175 := n5_; have BK194 := n6_; have HB := n7_; clear n0_ n1_ n2_ n3_ n4_ n5_ n6_ n7_; (try clear hb); (try clear hb2); (try clear hk); (try clear hi); have hcz54_0 : w53.cell? ⟨gb194, 0, none⟩ = some (.int .i64 (rd x4_1 0)) := (blk_cell BK194.out 0).trans rfl; have hcz54_1 : w53.cell? ⟨gb194, 1, none⟩ = some (.int .i64 (wrap64 ((rd x4_1 1) + 2))) := (blk_cell BK194.out 1).trans rfl; have hcz54_2 : w53.cell? ⟨gb194, 2, none⟩ = some (.int .i64 (rd x4_1 2)) := (blk_cell BK194.out 2).trans rfl; have hcz54_3 : w53.cell? ⟨gb194, 3, none⟩ = some (.int .i64 (rd x4_1 3)) := (blk_cell BK194.out 3).trans rfl; have hcz54_4 : w53.cell? ⟨gb194, 4, none⟩ = some (.int .i64 (rd x4_1 4)) := (blk_cell BK194.out 4).trans rfl; have hcz54_5 : w53.cell? ⟨gb194, 5, none⟩ = some (.bool ((rd x4_1 5) == 1)) := (blk_cell BK194.out 5).trans rfl; have hfz54_0 := blk_frozen BK194.out 0; have hfz54_1 := blk_frozen BK194.out 1; have hfz54_2 := blk_frozen BK194.out 2; have hfz54_3 := blk_frozen BK194.out 3; have hfz54_4 := blk_frozen BK194.out 4; have hfz54_5 := blk_frozen BK194.out 5; have hnb55 := NB168_175.out; have hnc55 := NB175_168.out; have hcz56_0 : w53.cell? ⟨gb168, 0, none⟩ = some (.int .i64 x169000_1) := (blk_cell BK168.out 0).trans rfl; have hcz56_1 : w53.cell? ⟨gb168, 1, none⟩ = some (.int .i64 x169001_1) := (blk_cell BK168.out 1).trans rfl; have hcz56_2 : w53.cell? ⟨gb168, 2, none⟩ = some (.int .i64 x169002_1) := (blk_cell BK168.out 2).trans rfl; have hcz56_3 : w53.cell? ⟨gb168, 3, none⟩ = some (.int .i64 x169003_1) := (blk_cell BK168.out 3).trans rfl; have hcz56_4 : w53.cell? ⟨gb168, 4, none⟩ = some (.int .i64 x169004_1) := (blk_cell BK168.out 4).trans rfl; have hcz56_5 : w53.cell? ⟨gb168, 5, none⟩ = some (.bool x169005_1) := (blk_cell BK168.out 5).trans rfl; have hcz56_6 : w53.cell? ⟨gb168, 6, none⟩ = some (.int .i64 x169006_1) := (blk_cell BK168.out 6).trans rfl; have hcz56_7 : w53.cell? ⟨gb168, 7, none⟩ = some (.int .i64 x169007_1) := (blk_cell BK168.out 7).trans rfl; have hfz56_0 := blk_frozen BK168.out 0; have hfz56_1 := blk_frozen BK168.out 1; have hfz56_2 := blk_frozen BK168.out 2; have hfz56_3 := blk_frozen BK168.out 3; have hfz56_4 := blk_frozen BK168.out 4; have hfz56_5 := blk_frozen BK168.out 5; have hfz56_6 := blk_frozen BK168.out 6; have hfz56_7 := blk_frozen BK168.out 7))
                        refine bodyPost_ret (results_cell_row rfl _ _ gb168 28 #[.int .i64 (rd x4_1 0), .int .i64 (wrap64 ((rd x4_1 1) + 2)), .int .i64 (rd x4_1 2), .int .i64 (rd x4_1 3), .int .i64 (rd x4_1 4), .bool ((rd x4_1 5) == 1), .int .i64 0, .int .i64 0] (0, 0) _ rfl (by (with_reducible repeat (first | refine blk_drewN ?_ _ | refine blk_drew ?_ | refine blk_alloc ?_ _)); refine blk_put (cs := #[.int .i64 (rd x4_1 0), .int .i64 (wrap64 ((rd x4_1 1) + 2)), .int .i64 (rd x4_1 2), .int .i64 (rd x4_1 3), .int .i64 (rd x4_1 4), .bool ((rd x4_1 5) == 1), .int .i64 0, .int .i64 x169007_1]) ?_ 7 _ rfl; (with_reducible repeat (first | refine blk_drewN ?_ _ | refine blk_drew ?_ | refine blk_alloc ?_ _)); refine blk_put (cs := #[.int .i64 (rd x4_1 0), .int .i64 (wrap64 ((rd x4_1 1) + 2)), .int .i64 (rd x4_1 2), .int .i64 (rd x4_1 3), .int .i64 (rd x4_1 4), .bool ((rd x4_1 5) == 1), .int .i64 x169006_1, .int .i64 x169007_1]) ?_ 6 _ rfl; (with_reducible repeat (first | refine blk_drewN ?_ _ | refine blk_drew ?_ | refine blk_alloc ?_ _)); refine blk_put (cs := #[.int .i64 (rd x4_1 0), .int .i64 (wrap64 ((rd x4_1 1) + 2)), .int .i64 (rd x4_1 2), .int .i64 (rd x4_1 3), .int .i64 (rd x4_1 4), .bool x169005_1, .int .i64 x169006_1, .int .i64 x169007_1]) ?_ 5 _ rfl; (with_reducible repeat (first | refine blk_drewN ?_ _ | refine blk_drew ?_ | refine blk_alloc ?_ _)); refine blk_put (cs := #[.int .i64 (rd x4_1 0), .int .i64 (wrap64 ((rd x4_1 1) + 2)), .int .i64 (rd x4_1 2), .int .i64 (rd x4_1 3), .int .i64 x169004_1, .bool x169005_1, .int .i64 x169006_1, .int .i64 x169007_1]) ?_ 4 _ rfl; (with_reducible repeat (first | refine blk_drewN ?_ _ | refine blk_drew ?_ | refine blk_alloc ?_ _)); refine blk_put (cs := #[.int .i64 (rd x4_1 0), .int .i64 (wrap64 ((rd x4_1 1) + 2)), .int .i64 (rd x4_1 2), .int .i64 x169003_1, .int .i64 x169004_1, .bool x169005_1, .int .i64 x169006_1, .int .i64 x169007_1]) ?_ 3 _ rfl; (with_reducible repeat (first | refine blk_drewN ?_ _ | refine blk_drew ?_ | refine blk_alloc ?_ _)); refine blk_put (cs := #[.int .i64 (rd x4_1 0), .int .i64 (wrap64 ((rd x4_1 1) + 2)), .int .i64 x169002_1, .int .i64 x169003_1, .int .i64 x169004_1, .bool x169005_1, .int .i64 x169006_1, .int .i64 x169007_1]) ?_ 2 _ rfl; (with_reducible repeat (first | refine blk_drewN ?_ _ | refine blk_drew ?_ | refine blk_alloc ?_ _)); refine blk_put (cs := #[.int .i64 (rd x4_1 0), .int .i64 x169001_1, .int .i64 x169002_1, .int .i64 x169003_1, .int .i64 x169004_1, .bool x169005_1, .int .i64 x169006_1, .int .i64 x169007_1]) ?_ 1 _ rfl; (with_reducible repeat (first | refine blk_drewN ?_ _ | refine blk_drew ?_ | refine blk_alloc ?_ _)); refine blk_put (cs := #[.int .i64 x169000_1, .int .i64 x169001_1, .int .i64 x169002_1, .int .i64 x169003_1, .int .i64 x169004_1, .bool x169005_1, .int .i64 x169006_1, .int .i64 x169007_1]) ?_ 0 _ rfl; (with_reducible repeat (first | refine blk_drewN ?_ _ | refine blk_drew ?_ | refine blk_alloc ?_ _)); exact BK168.out) Tryd.underlying28 rfl (by kernel_rfl)) rfl ?_
                        exact ⟨by first | rfl | (simp [errW_none, errW_some] <;> rfl) | (simp [*, errW_none, errW_some] <;> rfl), by repeat (first | (with_reducible first | exact HB.out | apply below_alloc | apply pw_below_drewN | apply below_drew1 | refine below_set ?_ GE168.out | refine below_set ?_ GE175.out | refine below_set ?_ GE194.out) | exact HB.out)⟩
                      · replace c40 := Bool.eq_false_iff.mpr c40
                        subst c40
                        have H1 : (some (0, 0, 0, 0, 0, false, 0, 4)) = some (r1, r2, r3, r4, r5, r6, r7, r8) := by rw [if_neg (show ¬ (false = true) by decide)] at H; exact H
                        clear H
                        have H := H1
                        clear H1
                        simp only [Option.some.injEq, Prod.mk.injEq] at H
                        obtain ⟨rfl, rfl, rfl, rfl, rfl, rfl, rfl, rfl⟩ := H
                        obtain ⟨Ao57, co57, eo57⟩ := Kd.R_slice HO_4.out
                        subst eo57
                        try go_wp2
                        have n0_ := Aside0.mk (Kd.R_drew HO_4.out)
                        have n1_ := Aside0.mk (Kd.R_drew HO_13.out)
                        have n2_ := Aside0.mk (Kd.R_drew HO_176000.out)
                        have n3_ := Aside0.mk (Kd.R_drew HO_176001.out)
                        have n4_ := Aside0.mk (blk_drew BK168.out)
                        have n5_ := Aside0.mk (blk_drew BK175.out)
                        have n6_ := Aside0.mk (below_drew1 HB.out)
                        clear HO_4
                        clear HO_13
                        clear HO_176000
                        clear HO_176001
                        clear BK168
                        clear BK175
                        clear HB
                        have HO_4 := n0_
                        have HO_13 := n1_
                        have HO_176000 := n2_
                        have HO_176001 := n3_
                        have BK168 := n4_
                        have BK175 := n5_
                        have HB := n6_
                        clear n0_ n1_ n2_ n3_ n4_ n5_ n6_
                        have p188 : 0 ≤ (0 : Int) := (by omega)
                        have q188 : 0 < (x4_1.length : Int) := of_decide_eq_true (by first | (with_reducible assumption) | assumption)
                        obtain ⟨ad188, e188, hx188_0⟩ := Kd.at_int (Kd.R_reads' HO_4.out).2.2 0 p188 q188
                        cases e188
                        have qi188 : (0 < x4_1.length) = True := eq_true (by omega)
                        (try rw [show ((0 : Int)).toNat = 0 from rfl] at hx188_0)
                        (try rw [Addr.add_zero'] at hx188_0)
                        replace p188 := eq_true p188
                        replace q188 := eq_true q188
                        have p189 : 0 ≤ (1 : Int) := (by omega)
                        have q189 : 1 < (x4_1.length : Int) := of_decide_eq_true (by first | (with_reducible assumption) | assumption)
                        obtain ⟨ad189, e189, hx189_0⟩ := Kd.at_int (Kd.R_reads' HO_4.out).2.2 1 p189 q189
                        obtain rfl : ad188 = ad189 := (by injection e189)
                        (try simp only [show (1 : Int).toNat = 1 from rfl, Nat.reduceMul, Nat.reduceEqDiff, Go.Addr.add, ↓reduceIte] at hx189_0)
                        have qi189 : (1 < x4_1.length) = True := eq_true (by omega)
                        (try rw [show ((1 : Int)).toNat = 1 from rfl] at hx189_0)
                        replace p189 := eq_true p189
                        replace q189 := eq_true q189
                        have p190 : 0 ≤ (2 : Int) := (by omega)
                        have q190 : 2 < (x4_1.length : Int) := of_decide_eq_true (by first | (with_reducible assumption) | assumption)
                        obtain ⟨ad190, e190, hx190_0⟩ := Kd.at_int (Kd.R_reads' HO_4.out).2.2 2 p190 q190
                        obtain rfl : ad188 = ad190 := (by injection e190)
                        (try simp only [show (2 : Int).toNat = 2 from rfl, Nat.reduceMul, Nat.reduceEqDiff, Go.Addr.add, ↓reduceIte] at hx190_0)
                        have qi190 : (2 < x4_1.length) = True := eq_true (by omega)
                        (try rw [show ((2 : Int)).toNat = 2 from rfl] at hx190_0)
                        replace p190 := eq_true p190
                        replace q190 := eq_true q190
                        have p191 : 0 ≤ (3 : Int) := (by omega)
                        have q191 : 3 < (x4_1.length : Int) := of_decide_eq_true (by first | (with_reducible assumption) | assumption)
                        obtain ⟨ad191, e191, hx191_0⟩ := Kd.at_int (Kd.R_reads' HO_4.out).2.2 3 p191 q191
                        obtain rfl : ad188 = ad191 := (by injection e191)
                        (try simp only [show (3 : Int).toNat = 3 from rfl, Nat.reduceMul, Nat.reduceEqDiff, Go.Addr.add, ↓reduceIte] at hx191_0)
                        have qi191 : (3 < x4_1.length) = True := eq_true (by omega)
                        (try rw [show ((3 : Int)).toNat = 3 from rfl] at hx191_0)
                        replace p191 := eq_true p191
                        replace q191 := eq_true q191
                        have p192 : 0 ≤ (4 : Int) := (by omega)
                        have q192 : 4 < (x4_1.length : Int) := of_decide_eq_true (by first | (with_reducible assumption) | assumption)
                        obtain ⟨ad192, e192, hx192_0⟩ := Kd.at_int (Kd.R_reads' HO_4.out).2.2 4 p192 q192
                        obtain rfl : ad188 = ad192 := (by injection e192)
                        (try simp only [show (4 : Int).toNat = 4 from rfl, Nat.reduceMul, Nat.reduceEqDiff, Go.Addr.add, ↓reduceIte] at hx192_0)
                        have qi192 : (4 < x4_1.length) = True := eq_true (by omega)
                        (try rw [show ((4 : Int)).toNat = 4 from rfl] at hx192_0)
                        replace p192 := eq_true p192
                        replace q192 := eq_true q192
                        have p193 : 0 ≤ (5 : Int) := (by omega)
                        have q193 : 5 < (x4_1.length : Int) := of_decide_eq_true (by first | (with_reducible assumption) | assumption)
                        obtain ⟨ad193, e193, hx193_0⟩ := Kd.at_int (Kd.R_reads' HO_4.out).2.2 5 p193 q193
                        obtain rfl : ad188 = ad193 := (by injection e193)
                        (try simp only [show (5 : Int).toNat = 5 from rfl, Nat.reduceMul, Nat.reduceEqDiff, Go.Addr.add, ↓reduceIte] at hx193_0)
                        have qi193 : (5 < x4_1.length) = True := eq_true (by omega)
                        (try rw [show ((5 : Int)).toNat = 5 from rfl] at hx193_0)
                        replace p193 := eq_true p193
                        replace q193 := eq_true q193
                        refine start_ (n := 23) (S := fun w' => w'.cell? ad188 = some (.int .i64 (rd x4_1 0)) ∧ w'.cell? ⟨ad188.block, ad188.off + 1, none⟩ = some (.int .i64 (rd x4_1 1)) ∧ w'.cell? ⟨ad188.block, ad188.off + 2, none⟩ = some (.int .i64 (rd x4_1 2)) ∧ w'.cell? ⟨ad188.block, ad188.off + 3, none⟩ = some (.int .i64 (rd x4_1 3)) ∧ w'.cell? ⟨ad188.block, ad188.off + 4, none⟩ = some (.int .i64 (rd x4_1 4)) ∧ w'.cell? ⟨ad188.block, ad188.off + 5, none⟩ = some (.int .i64 (rd x4_1 5))) (ds := []) #[false, false, false, false, false, false, false, false, false, false, false, false, false, false, false, false, false, false, false, false, false, false, false] (by kernel_rfl) rfl rfl ⟨hx188_0, hx189_0, hx190_0, hx191_0, hx192_0, hx193_0⟩ (fun hHeld => ?_); refine with_tabW headroomref24_Parse.tab13 headroomref24_Parse.bits13 (fun HT_ HW_ => ?_)
                        generalize wr.drew = w58 at HO_4 HO_13 HO_176000 HO_176001 BK168 BK175 HB hx188_0 hx189_0 hx190_0 hx191_0 hx192_0 hx193_0 hHeld ⊢
                        refine pure_ (i := 0) (N := some 43) (v := ?_) (a' := ?_) #[true, false, false, false, false, false, false, false, false, false, false, false, false, false, false, false, false, false, false, false, false, false, false] rfl rfl (any_of HT_.out (by kernel_rfl)) (fun _ _ _ h => h) (Or.inl ⟨by rfl, ?_⟩) ?_ ?_
                        rotate_left
                        · intro w'
                          go_simp
                          with_reducible rfl
                        rotate_left
                        · simp only [Act.put, List.setIfInBounds_toArray, List.set_cons_zero, List.set_cons_succ, i64_w, i32_w]
                          rfl
                        refine pure_ (i := 1) (N := some 44) (v := ?_) (a' := ?_) #[true, true, false, false, false, false, false, false, false, false, false, false, false, false, false, false, false, false, false, false, false, false, false] rfl rfl (any_of HT_.out (by kernel_rfl)) (fun _ _ _ h => h) (Or.inl ⟨by rfl, ?_⟩) ?_ ?_
                        rotate_left
                        · intro w'
                          go_simp
                          with_reducible rfl
                        rotate_left
                        · simp only [Act.put, List.setIfInBounds_toArray, List.set_cons_zero, List.set_cons_succ, i64_w, i32_w]
                          rfl
                        refine pure_ (i := 3) (N := some 46) (v := ?_) (a' := ?_) #[true, true, false, true, false, false, false, false, false, false, false, false, false, false, false, false, false, false, false, false, false, false, false] rfl rfl (any_of HT_.out (by kernel_rfl)) (fun _ _ _ h => h) (Or.inl ⟨by rfl, ?_⟩) ?_ ?_
                        rotate_left
                        · intro w'
                          go_simp
                          with_reducible rfl
                        rotate_left
                        · simp only [Act.put, List.setIfInBounds_toArray, List.set_cons_zero, List.set_cons_succ, i64_w, i32_w]
                          rfl
                        refine pure_ (i := 4) (N := some 47) (v := ?_) (a' := ?_) #[true, true, false, true, true, false, false, false, false, false, false, false, false, false, false, false, false, false, false, false, false, false, false] rfl rfl (any_of HT_.out (by kernel_rfl)) (fun _ _ _ h => h) (Or.inl ⟨by rfl, ?_⟩) ?_ ?_
                        rotate_left
                        · intro w'
                          go_simp
                          with_reducible rfl
                        rotate_left
                        · simp only [Act.put, List.setIfInBounds_toArray, List.set_cons_zero, List.set_cons_succ, i64_w, i32_w]
                          rfl
                        refine pure_ (i := 7) (N := some 50) (v := ?_) (a' := ?_) #[true, true, false, true, true, false, false, true, false, false, false, false, false, false, false, false, false, false, false, false, false, false, false] rfl rfl (any_of HT_.out (by kernel_rfl)) (fun _ _ _ h => h) (Or.inl ⟨by rfl, ?_⟩) ?_ ?_
                        rotate_left
                        · intro w'
                          go_simp
                          with_reducible rfl
                        rotate_left
                        · simp only [Act.put, List.setIfInBounds_toArray, List.set_cons_zero, List.set_cons_succ, i64_w, i32_w]
                          rfl
                        refine pure_ (i := 8) (N := some 51) (v := ?_) (a' := ?_) #[true, true, false, true, true, false, false, true, true, false, false, false, false, false, false, false, false, false, false, false, false, false, false] rfl rfl (any_of HT_.out (by kernel_rfl)) (fun _ _ _ h => h) (Or.inl ⟨by rfl, ?_⟩) ?_ ?_
                        rotate_left
                        · intro w'
                          go_simp
                          with_reducible rfl
                        rotate_left
                        · simp only [Act.put, List.setIfInBounds_toArray, List.set_cons_zero, List.set_cons_succ, i64_w, i32_w]
                          rfl
                        refine pure_ (i := 10) (N := some 53) (v := ?_) (a' := ?_) #[true, true, false, true, true, false, false, true, true, false, true, false, false, false, false, false, false, false, false, false, false, false, false] rfl rfl (any_of HT_.out (by kernel_rfl)) (fun _ _ _ h => h) (Or.inl ⟨by rfl, ?_⟩) ?_ ?_
                        rotate_left
                        · intro w'
                          go_simp
                          with_reducible rfl
                        rotate_left
                        · simp only [Act.put, List.setIfInBounds_toArray, List.set_cons_zero, List.set_cons_succ, i64_w, i32_w]
                          rfl
                        refine pure_ (i := 11) (N := some 54) (v := ?_) (a' := ?_) #[true, true, false, true, true, false, false, true, true, false, true, true, false, false, false, false, false, false, false, false, false, false, false] rfl rfl (any_of HT_.out (by kernel_rfl)) (fun _ _ _ h => h) (Or.inl ⟨by rfl, ?_⟩) ?_ ?_
                        rotate_left
                        · intro w'
                          go_simp
                          with_reducible rfl
                        rotate_left
                        · simp only [Act.put, List.setIfInBounds_toArray, List.set_cons_zero, List.set_cons_succ, i64_w, i32_w]
                          rfl
                        refine pure_ (i := 13) (N := some 56) (v := ?_) (a' := ?_) #[true, true, false, true, true, false, false, true, true, false, true, true, false, true, false, false, false, false, false, false, false, false, false] rfl rfl (any_of HT_.out (by kernel_rfl)) (fun _ _ _ h => h) (Or.inl ⟨by rfl, ?_⟩) ?_ ?_
                        rotate_left
                        · intro w'
                          go_simp
                          with_reducible rfl
                        rotate_left
                        · simp only [Act.put, List.setIfInBounds_toArray, List.set_cons_zero, List.set_cons_succ, i64_w, i32_w]
                          rfl
                        refine pure_ (i := 14) (N := some 57) (v := ?_) (a' := ?_) #[true, true, false, true, true, false, false, true, true, false, true, true, false, true, true, false, false, false, false, false, false, false, false] rfl rfl (any_of HT_.out (by kernel_rfl)) (fun _ _ _ h => h) (Or.inl ⟨by rfl, ?_⟩) ?_ ?_
                        rotate_left
                        · intro w'
                          go_simp
                          with_reducible rfl
                        rotate_left
                        · simp only [Act.put, List.setIfInBounds_toArray, List.set_cons_zero, List.set_cons_succ, i64_w, i32_w]
                          rfl
                        refine pure_ (i := 16) (N := some 59) (v := ?_) (a' := ?_) #[true, true, false, true, true, false, false, true, true, false, true, true, false, true, true, false, true, false, false, false, false, false, false] rfl rfl (any_of HT_.out (by kernel_rfl)) (fun _ _ _ h => h) (Or.inl ⟨by rfl, ?_⟩) ?_ ?_
                        rotate_left
                        · intro w'
                          go_simp
                          with_reducible rfl
                        rotate_left
                        · simp only [Act.put, List.setIfInBounds_toArray, List.set_cons_zero, List.set_cons_succ, i64_w, i32_w]
                          rfl
                        refine pure_ (i := 17) (N := some 60) (v := ?_) (a' := ?_) #[true, true, false, true, true, false, false, true, true, false, true, true, false, true, true, false, true, true, false, false, false, false, false] rfl rfl (any_of HT_.out (by kernel_rfl)) (fun _ _ _ h => h) (Or.inl ⟨by rfl, ?_⟩) ?_ ?_
                        rotate_left
                        · intro w'
                          go_simp
                          with_reducible rfl
                        rotate_left
                        · simp only [Act.put, List.setIfInBounds_toArray, List.set_cons_zero, List.set_cons_succ, i64_w, i32_w]
                          rfl
                        refine take_ (i := 2) (N := some 45) (v := ?_) (a' := ?_) #[true, true, true, true, true, false, false, true, true, false, true, true, false, true, true, false, true, true, false, false, false, false, false] rfl rfl (take_ofW HT_.out HW_.out (by kernel_rfl)) (fun _ _ _ h => h) (Or.inl ⟨by rfl, ?_⟩) hHeld ?_ ?_
                        rotate_left
                        · rintro w' ⟨s0, s1, s2, s3, s4, s5⟩
                          go_simp
                          with_reducible rfl
                        rotate_left
                        · simp only [Act.put, List.setIfInBounds_toArray, List.set_cons_zero, List.set_cons_succ, i64_w, i32_w]
                          rfl
                        refine take_ (i := 5) (N := some 48) (v := ?_) (a' := ?_) #[true, true, true, true, true, true, false, true, true, false, true, true, false, true, true, false, true, true, false, false, false, false, false] rfl rfl (take_ofW HT_.out HW_.out (by kernel_rfl)) (fun _ _ _ h => h) (Or.inl ⟨by rfl, ?_⟩) hHeld ?_ ?_
                        rotate_left
                        · rintro w' ⟨s0, s1, s2, s3, s4, s5⟩
                          go_simp
                          with_reducible rfl
                        rotate_left
                        · simp only [Act.put, List.setIfInBounds_toArray, List.set_cons_zero, List.set_cons_succ, i64_w, i32_w]
                          rfl
                        refine pure_ (i := 6) (N := some 49) (v := ?_) (a' := ?_) #[true, true, true, true, true, true, true, true, true, false, true, true, false, true, true, false, true, true, false, false, false, false, false] rfl rfl (any_of HT_.out (by kernel_rfl)) (fun _ _ _ h => h) (Or.inl ⟨by rfl, ?_⟩) ?_ ?_
                        rotate_left
                        · intro w'
                          go_simp
                          with_reducible rfl
                        rotate_left
                        · simp only [Act.put, List.setIfInBounds_toArray, List.set_cons_zero, List.set_cons_succ, i64_w, i32_w]
                          rfl
                        refine take_ (i := 9) (N := some 52) (v := ?_) (a' := ?_) #[true, true, true, true, true, true, true, true, true, true, true, true, false, true, true, false, true, true, false, false, false, false, false] rfl rfl (take_ofW HT_.out HW_.out (by kernel_rfl)) (fun _ _ _ h => h) (Or.inl ⟨by rfl, ?_⟩) hHeld ?_ ?_
                        rotate_left
                        · rintro w' ⟨s0, s1, s2, s3, s4, s5⟩
                          go_simp
                          with_reducible rfl
                        rotate_left
                        · simp only [Act.put, List.setIfInBounds_toArray, List.set_cons_zero, List.set_cons_succ, i64_w, i32_w]
                          rfl
                        refine take_ (i := 12) (N := some 55) (v := ?_) (a' := ?_) #[true, true, true, true, true, true, true, true, true, true, true, true, true, true, true, false, true, true, false, false, false, false, false] rfl rfl (take_ofW HT_.out HW_.out (by kernel_rfl)) (fun _ _ _ h => h) (Or.inl ⟨by rfl, ?_⟩) hHeld ?_ ?_
                        rotate_left
                        · rintro w' ⟨s0, s1, s2, s3, s4, s5⟩
                          go_simp
                          with_reducible rfl
                        rotate_left
                        · simp only [Act.put, List.setIfInBounds_toArray, List.set_cons_zero, List.set_cons_succ, i64_w, i32_w]
                          rfl
                        refine take_ (i := 15) (N := some 58) (v := ?_) (a' := ?_) #[true, true, true, true, true, true, true, true, true, true, true, true, true, true, true, true, true, true, false, false, false, false, false] rfl rfl (take_ofW HT_.out HW_.out (by kernel_rfl)) (fun _ _ _ h => h) (Or.inl ⟨by rfl, ?_⟩) hHeld ?_ ?_
                        rotate_left
                        · rintro w' ⟨s0, s1, s2, s3, s4, s5⟩
                          go_simp
                          with_reducible rfl
                        rotate_left
                        · simp only [Act.put, List.setIfInBounds_toArray, List.set_cons_zero, List.set_cons_succ, i64_w, i32_w]
                          rfl
                        refine take_ (i := 18) (N := some 61) (v := ?_) (a' := ?_) #[true, true, true, true, true, true, true, true, true, true, true, true, true, true, true, true, true, true, true, false, false, false, false] rfl rfl (take_ofW HT_.out HW_.out (by kernel_rfl)) (fun _ _ _ h => h) (Or.inl ⟨by rfl, ?_⟩) hHeld ?_ ?_
                        rotate_left
                        · rintro w' ⟨s0, s1, s2, s3, s4, s5⟩
                          go_simp
                          with_reducible rfl
                        rotate_left
                        · simp only [Act.put, List.setIfInBounds_toArray, List.set_cons_zero, List.set_cons_succ, i64_w, i32_w]
                          rfl
                        refine pure_ (i := 19) (N := some 62) (v := ?_) (a' := ?_) #[true, true, true, true, true, true, true, true, true, true, true, true, true, true, true, true, true, true, true, true, false, false, false] rfl rfl (any_of HT_.out (by kernel_rfl)) (fun _ _ _ h => h) (Or.inl ⟨by rfl, ?_⟩) ?_ ?_
                        rotate_left
                        · intro w'
                          go_simp
                          with_reducible rfl
                        rotate_left
                        · simp only [Act.put, List.setIfInBounds_toArray, List.set_cons_zero, List.set_cons_succ, i64_w, i32_w]
                          rfl
                        refine pure_ (i := 20) (N := some 63) (v := ?_) (a' := ?_) #[true, true, true, true, true, true, true, true, true, true, true, true, true, true, true, true, true, true, true, true, true, false, false] rfl rfl (any_of HT_.out (by kernel_rfl)) (fun _ _ _ h => h) (Or.inl ⟨by rfl, ?_⟩) ?_ ?_
                        rotate_left
                        · intro w'
                          go_simp
                          with_reducible rfl
                        rotate_left
                        · simp only [Act.put, List.setIfInBounds_toArray, List.set_cons_zero, List.set_cons_succ, i64_w, i32_w]
                          rfl
                        refine one_ (i := 21) (N := some 8) #[true, true, true, true, true, true, true, true, true, true, true, true, true, true, true, true, true, true, true, true, true, true, false] rfl rfl (one_of HT_.out (by kernel_rfl)) (by decide) (fun K hK => ?_)
                        refine box_step ?hg (N := 8) ?hd (cs := #[.int .i64 0, .int .i64 0, .int .i64 0, .int .i64 0, .int .i64 0, .bool false]) (t := 23) ?hr ?_; (case hd => rfl); (case hg => rfl); (case hr => first | (go_simp; done) | (go_simp; rfl))
                        intro gb194 hg w59 hbox hb
                        have HS0_ := (hb.cell (World.block_lt_of_cell? _ _ (hHeld.1))).trans (hHeld.1)
                        have HS1_ := (hb.cell (World.block_lt_of_cell? _ _ (hHeld.2.1))).trans (hHeld.2.1)
                        have HS2_ := (hb.cell (World.block_lt_of_cell? _ _ (hHeld.2.2.1))).trans (hHeld.2.2.1)
                        have HS3_ := (hb.cell (World.block_lt_of_cell? _ _ (hHeld.2.2.2.1))).trans (hHeld.2.2.2.1)
                        have HS4_ := (hb.cell (World.block_lt_of_cell? _ _ (hHeld.2.2.2.2.1))).trans (hHeld.2.2.2.2.1)
                        have HS5_ := (hb.cell (World.block_lt_of_cell? _ _ (hHeld.2.2.2.2.2))).trans (hHeld.2.2.2.2.2)
                        have n0_ := Aside0.mk (Kd.R_below (by (with_reducible repeat (first | apply Kd.R_alloc | apply Kd.R_drewN | apply Kd.R_drew)); exact HO_4.out) hb)
                        have n1_ := Aside0.mk (Kd.R_below (by (with_reducible repeat (first | apply Kd.R_alloc | apply Kd.R_drewN | apply Kd.R_drew)); exact HO_13.out) hb)
                        have n2_ := Aside0.mk (Kd.R_below (by (with_reducible repeat (first | apply Kd.R_alloc | apply Kd.R_drewN | apply Kd.R_drew)); exact HO_176000.out) hb)
                        have n3_ := Aside0.mk (Kd.R_below (by (with_reducible repeat (first | apply Kd.R_alloc | apply Kd.R_drewN | apply Kd.R_drew)); exact HO_176001.out) hb)
                        have n4_ := Aside0.mk (blk_below (g := gb168) (o := .cells #[.int .i64 x169000_1, .int .i64 x169001_1, .int .i64 x169002_1, .int .i64 x169003_1, .int .i64 x169004_1, .bool x169005_1, .int .i64 x169006_1, .int .i64 x169007_1] 28 (0, 0)) (by (with_reducible repeat (first | refine blk_drewN ?_ _ | refine blk_drew ?_ | refine blk_alloc ?_ _)); exact BK168.out) hb)
                        have n5_ := Aside0.mk (blk_below (g := gb175) (o := .cells #[.slice Ao6 t169.length co6, .slice Ao9 t172.length co9] 39 (0, 0)) (by (with_reducible repeat (first | refine blk_drewN ?_ _ | refine blk_drew ?_ | refine blk_alloc ?_ _)); exact BK175.out) hb)
                        have n6_ := Aside0.mk (below_step (by repeat (first | (with_reducible first | exact HB.out | apply below_alloc | apply pw_below_drewN | apply below_drew1 | refine below_set ?_ GE168.out | refine below_set ?_ GE175.out) | exact HB.out)) hb)
                        have n7_ := Aside0.mk (hbox)
                        have n8_ := Aside0.mk ((by rw [hg]; exact (below_size (by repeat (first | (with_reducible first | exact HB.out | apply below_alloc | apply pw_below_drewN | apply below_drew1 | refine below_set ?_ GE168.out | refine below_set ?_ GE175.out) | exact HB.out))) : w.heap.size ≤ gb194))
                        have n9_ := Aside0.mk ((by rw [hg]; exact (below_size (by repeat (first | (with_reducible first | exact HB.out | apply below_alloc | apply pw_below_drewN | apply below_drew1 | refine below_set ?_ GE168.out | refine below_set ?_ GE175.out) | exact HB.out))) : w.heap.size ≤ gb194))
                        have n10_ := Aside0.mk ((by rw [hg]; exact Nat.ne_of_lt (blk_lt (g := gb168) (o := .cells #[.int .i64 x169000_1, .int .i64 x169001_1, .int .i64 x169002_1, .int .i64 x169003_1, .int .i64 x169004_1, .bool x169005_1, .int .i64 x169006_1, .int .i64 x169007_1] 28 (0, 0)) (by (with_reducible repeat (first | refine blk_drewN ?_ _ | refine blk_drew ?_ | refine blk_alloc ?_ _)); exact BK168.out)) : gb168 ≠ gb194))
                        have n11_ := Aside0.mk ((by rw [hg]; exact Nat.ne_of_gt (blk_lt (g := gb168) (o := .cells #[.int .i64 x169000_1, .int .i64 x169001_1, .int .i64 x169002_1, .int .i64 x169003_1, .int .i64 x169004_1, .bool x169005_1, .int .i64 x169006_1, .int .i64 x169007_1] 28 (0, 0)) (by (with_reducible repeat (first | refine blk_drewN ?_ _ | refine blk_drew ?_ | refine blk_alloc ?_ _)); exact BK168.out)) : gb194 ≠ gb168))
                        have n12_ := Aside0.mk ((by rw [hg]; exact Nat.ne_of_lt (blk_lt (g := gb175) (o := .cells #[.slice Ao6 t169.length co6, .slice Ao9 t172.length co9] 39 (0, 0)) (by (with_reducible repeat (first | refine blk_drewN ?_ _ | refine blk_drew ?_ | refine blk_alloc ?_ _)); exact BK175.out)) : gb175 ≠ gb194))
                        have n13_ := Aside0.mk ((by rw [hg]; exact Nat.ne_of_gt (blk_lt (g := gb175) (o := .cells #[.slice Ao6 t169.length co6, .slice Ao9 t172.length co9] 39 (0, 0)) (by (with_reducible repeat (first | refine blk_drewN ?_ _ | refine blk_drew ?_ | refine blk_alloc ?_ _)); exact BK175.out)) : gb194 ≠ gb175))
                        clear HO_4
                        clear HO_13
                        clear HO_176000
                        clear HO_176001
                        clear BK168
                        clear BK175
                        clear HB
                        have HO_4 := n0_
                        have HO_13 := n1_
                        have HO_176000 := n2_
                        have HO_176001 := n3_
                        have BK168 := n4_
                        have BK175 := n5_
                        have HB := n6_
                        have BK194 := n7_
                        have GW194 := n8_
                        have GE194 := n9_
                        have NB168_194 := n10_
                        have NB194_168 := n11_
                        have NB175_194 := n12_
                        have NB194_175 := n13_
                        clear n0_ n1_ n2_ n3_ n4_ n5_ n6_ n7_ n8_ n9_ n10_ n11_ n12_ n13_
                        clear hb hbox hg
                        refine hK.out _ _ ⟨HS0_, HS1_, HS2_, HS3_, HS4_, HS5_⟩ (fun hHeld => ?_)
                        clear hK K
                        refine norm_ (a' := ?_) ?_ ?_
                        rotate_left
                        · show Act.put _ (some 8) _ = _
                          simp only [Act.put, List.setIfInBounds_toArray, List.set_cons_zero, List.set_cons_succ, i64_w, i32_w]
                          rfl
                        refine one_ (i := 22) (N := none) #[true, true, true, true, true, true, true, true, true, true, true, true, true, true, true, true, true, true, true, true, true, true, true] rfl rfl (one_of HT_.out (by kernel_rfl)) (by decide) (fun K hK => ?_)
                        have hs60 : w59.cell? ⟨gb194, 0, none⟩ = some (.int .i64 0) := (blk_cell BK194.out 0).trans rfl
                        have hfs60 := blk_frozen BK194.out 0
                        have hns60_0 := NB168_194.out
                        have hns60_1 := NB175_194.out
                        have hms60_0 := NB194_168.out
                        have hms60_1 := NB194_175.out
                        have hs61 : w59.cell? ⟨gb194, 1, none⟩ = some (.int .i64 0) := (blk_cell BK194.out 1).trans rfl
                        have hfs61 := blk_frozen BK194.out 1
                        have hns61_0 := NB168_194.out
                        have hns61_1 := NB175_194.out
                        have hms61_0 := NB194_168.out
                        have hms61_1 := NB194_175.out
                        have hs62 : w59.cell? ⟨gb194, 2, none⟩ = some (.int .i64 0) := (blk_cell BK194.out 2).trans rfl
                        have hfs62 := blk_frozen BK194.out 2
                        have hns62_0 := NB168_194.out
                        have hns62_1 := NB175_194.out
                        have hms62_0 := NB194_168.out
                        have hms62_1 := NB194_175.out
                        have hs63 : w59.cell? ⟨gb194, 3, none⟩ = some (.int .i64 0) := (blk_cell BK194.out 3).trans rfl
                        have hfs63 := blk_frozen BK194.out 3
                        have hns63_0 := NB168_194.out
                        have hns63_1 := NB175_194.out
                        have hms63_0 := NB194_168.out
                        have hms63_1 := NB194_175.out
                        have hs64 : w59.cell? ⟨gb194, 4, none⟩ = some (.int .i64 0) := (blk_cell BK194.out 4).trans rfl
                        have hfs64 := blk_frozen BK194.out 4
                        have hns64_0 := NB168_194.out
                        have hns64_1 := NB175_194.out
                        have hms64_0 := NB194_168.out
                        have hms64_1 := NB194_175.out
                        have hs65 : w59.cell? ⟨gb194, 5, none⟩ = some (.bool false) := (blk_cell BK194.out 5).trans rfl
                        have hfs65 := blk_frozen BK194.out 5
                        have hns65_0 := NB168_194.out
                        have hns65_1 := NB175_194.out
                        have hms65_0 := NB194_168.out
                        have hms65_1 := NB194_175.out
                        refine skip_ (w1 := ?_) (by rfl) rfl ?_ ?_
                        rotate_left
                        · go_simp
                          rfl
                        have HN_ : ad188.block ≠ gb194 := Kd.own_blk (Kd.R_ne HO_4.out BK194.out (by decide))
                        refine hK.out _ _ ?_ (fun hHeld => ?_)
                        · refine ⟨?_, ?_, ?_, ?_, ?_, ?_⟩
                          · rw [far6 HN_]; exact hHeld.1
                          · rw [far6 (p := ⟨ad188.block, ad188.off + 1, none⟩) HN_]; exact hHeld.2.1
                          · rw [far6 (p := ⟨ad188.block, ad188.off + 2, none⟩) HN_]; exact hHeld.2.2.1
                          · rw [far6 (p := ⟨ad188.block, ad188.off + 3, none⟩) HN_]; exact hHeld.2.2.2.1
                          · rw [far6 (p := ⟨ad188.block, ad188.off + 4, none⟩) HN_]; exact hHeld.2.2.2.2.1
                          · rw [far6 (p := ⟨ad188.block, ad188.off + 5, none⟩) HN_]; exact hHeld.2.2.2.2.2
                        clear hK K
                        refine done_ (done_of HT_.out (by kernel_rfl)) ?_
                        have hnb66 := NB194_168.out
                        have hnc66 := NB168_194.out
                        have hnb67 := NB194_175.out
                        have hnc67 := NB175_194.out
                        have hcz68_0 : w59.cell? ⟨gb194, 0, none⟩ = some (.int .i64 0) := (blk_cell BK194.out 0).trans rfl
                        have hcz68_1 : w59.cell? ⟨gb194, 1, none⟩ = some (.int .i64 0) := (blk_cell BK194.out 1).trans rfl
                        have hcz68_2 : w59.cell? ⟨gb194, 2, none⟩ = some (.int .i64 0) := (blk_cell BK194.out 2).trans rfl
                        have hcz68_3 : w59.cell? ⟨gb194, 3, none⟩ = some (.int .i64 0) := (blk_cell BK194.out 3).trans rfl
                        have hcz68_4 : w59.cell? ⟨gb194, 4, none⟩ = some (.int .i64 0) := (blk_cell BK194.out 4).trans rfl
                        have hcz68_5 : w59.cell? ⟨gb194, 5, none⟩ = some (.bool false) := (blk_cell BK194.out 5).trans rfl
                        have hfz68_0 := blk_frozen BK194.out 0
                        have hfz68_1 := blk_frozen BK194.out 1
                        have hfz68_2 := blk_frozen BK194.out 2
                        have hfz68_3 := blk_frozen BK194.out 3
                        have hfz68_4 := blk_frozen BK194.out 4
                        have hfz68_5 := blk_frozen BK194.out 5
                        try go_wp2_with (first | ((with_reducible refine gate_callee (f := 14) rfl ?_); refine goesL_ (some 65) rfl rfl Tryd.func14 (by kernel_rfl) rfl #[.agg #[.int .i64 (rd x4_1 0), .int .i64 (wrap64 ((rd x4_1 1) + 2)), .int .i64 (rd x4_1 2), .int .i64 (rd x4_1 3), .int .i64 (rd x4_1 4), .bool ((rd x4_1 5) == 1)]] rfl (by (try simp only [List.map_toArray, List.map_cons, List.map_nil]); first | done | rfl | (simp only [List.length_drop, List.length_take]; rfl)) ?_; (with_reducible refine (headroomref13_Check.calls k1 (rd x4_1 0) (wrap64 ((rd x4_1 1) + 2)) (rd x4_1 2) (rd x4_1 3) (rd x4_1 4) ((rd x4_1 5) == 1) false _ A39.out).mono ?_); rintro e w69 ⟨rfl, hb⟩; refine ⟨_, rfl, ?_⟩; have n0_ := Aside0.mk (Kd.R_below (by (with_reducible repeat (first | apply Kd.R_alloc | apply Kd.R_drewN | apply Kd.R_drew)); exact (Kd.R_mono (Kd.R_far (p := ⟨gb194, 5, none⟩) (Kd.R_far (p := ⟨gb194, 4, none⟩) (Kd.R_far (p := ⟨gb194, 3, none⟩) (Kd.R_far (p := ⟨gb194, 2, none⟩) (Kd.R_far (p := ⟨gb194, 1, none⟩) (Kd.R_far (p := ⟨gb194, 0, none⟩) (Kd.R_types HO_4.out BK194.out (by decide)) (fun _ hk => hk.2) (.int .i64 (rd x4_1 0))) (fun _ hk => hk.2) (.int .i64 (wrap64 ((rd x4_1 1) + 2)))) (fun _ hk => hk.2) (.int .i64 (rd x4_1 2))) (fun _ hk => hk.2) (.int .i64 (rd x4_1 3))) (fun _ hk => hk.2) (.int .i64 (rd x4_1 4))) (fun _ hk => hk.2) (.bool ((rd x4_1 5) == 1))) (fun _ h_ => h_.1))) hb); have n1_ := Aside0.mk (Kd.R_below (by (with_reducible repeat (first | apply Kd.R_alloc | apply Kd.R_drewN | apply Kd.R_drew)); exact (Kd.R_mono (Kd.R_far (p := ⟨gb194, 5, none⟩) (Kd.R_far (p := ⟨gb194, 4, none⟩) (Kd.R_far (p := ⟨gb194, 3, none⟩) (Kd.R_far (p := ⟨gb194, 2, none⟩) (Kd.R_far (p := ⟨gb194, 1, none⟩) (Kd.R_far (p := ⟨gb194, 0, none⟩) (Kd.R_types HO_13.out BK194.out (by decide)) (fun _ hk => hk.2) (.int .i64 (rd x4_1 0))) (fun _ hk => hk.2) (.int .i64 (wrap64 ((rd x4_1 1) + 2)))) (fun _ hk => hk.2) (.int .i64 (rd x4_1 2))) (fun _ hk => hk.2) (.int .i64 (rd x4_1 3))) (fun _ hk => hk.2) (.int .i64 (rd x4_1 4))) (fun _ hk => hk.2) (.bool ((rd x4_1 5) == 1))) (fun _ h_ => h_.1))) hb); have n2_ := Aside0.mk (Kd.R_below (by (with_reducible repeat (first | apply Kd.R_alloc | apply Kd.R_drewN | apply Kd.R_drew)); exact (Kd.R_mono (Kd.R_far (p := ⟨gb194, 5, none⟩) (Kd.R_far (p := ⟨gb194, 4, none⟩) (Kd.R_far (p := ⟨gb194, 3, none⟩) (Kd.R_far (p := ⟨gb194, 2, none⟩) (Kd.R_far (p := ⟨gb194, 1, none⟩) (Kd.R_far (p := ⟨gb194, 0, none⟩) (Kd.R_types HO_176000.out BK194.out (by decide)) (fun _ hk => hk.2) (.int .i64 (rd x4_1 0))) (fun _ hk => hk.2) (.int .i64 (wrap64 ((rd x4_1 1) + 2)))) (fun _ hk => hk.2) (.int .i64 (rd x4_1 2))) (fun _ hk => hk.2) (.int .i64 (rd x4_1 3))) (fun _ hk => hk.2) (.int .i64 (rd x4_1 4))) (fun _ hk => hk.2) (.bool ((rd x4_1 5) == 1))) (fun _ h_ => h_.1))) hb); have n3_ := Aside0.mk (Kd.R_below (by (with_reducible repeat (first | apply Kd.R_alloc | apply Kd.R_drewN | apply Kd.R_drew)); exact (Kd.R_mono (Kd.R_far (p := ⟨gb194, 5, none⟩) (Kd.R_far (p := ⟨gb194, 4, none⟩) (Kd.R_far (p := ⟨gb194, 3, none⟩) (Kd.R_far (p := ⟨gb194, 2, none⟩) (Kd.R_far (p := ⟨gb194, 1, none⟩) (Kd.R_far (p := ⟨gb194, 0, none⟩) (Kd.R_types HO_176001.out BK194.out (by decide)) (fun _ hk => hk.2) (.int .i64 (rd x4_1 0))) (fun _ hk => hk.2) (.int .i64 (wrap64 ((rd x4_1 1) + 2)))) (fun _ hk => hk.2) (.int .i64 (rd x4_1 2))) (fun _ hk => hk.2) (.int .i64 (rd x4_1 3))) (fun _ hk => hk.2) (.int .i64 (rd x4_1 4))) (fun _ hk => hk.2) (.bool ((rd x4_1 5) == 1))) (fun _ h_ => h_.1))) hb); have n4_ := Aside0.mk (blk_below (g := gb168) (o := .cells #[.int .i64 x169000_1, .int .i64 x169001_1, .int .i64 x169002_1, .int .i64 x169003_1, .int .i64 x169004_1, .bool x169005_1, .int .i64 x169006_1, .int .i64 x169007_1] 28 (0, 0)) (by (with_reducible repeat (first | refine blk_drewN ?_ _ | refine blk_drew ?_ | refine blk_alloc ?_ _)); refine blk_far ?_ NB168_194.out _; (with_reducible repeat (first | refine blk_drewN ?_ _ | refine blk_drew ?_ | refine blk_alloc ?_ _)); refine blk_far ?_ NB168_194.out _; (with_reducible repeat (first | refine blk_drewN ?_ _ | refine blk_drew ?_ | refine blk_alloc ?_ _)); refine blk_far ?_ NB168_194.out _; (with_reducible repeat (first | refine blk_drewN ?_ _ | refine blk_drew ?_ | refine blk_alloc ?_ _)); refine blk_far ?_ NB168_194.out _; (with_reducible repeat (first | refine blk_drewN ?_ _ | refine blk_drew ?_ | refine blk_alloc ?_ _)); refine blk_far ?_ NB168_194.out _; (with_reducible repeat (first | refine blk_drewN ?_ _ | refine blk_drew ?_ | refine blk_alloc ?_ _)); refine blk_far ?_ NB168_194.out _; (with_reducible repeat (first | refine blk_drewN ?_ _ | refine blk_drew ?_ | refine blk_alloc ?_ _)); exact BK168.out) hb); have n5_ := Aside0.mk (blk_below (g := gb175) (o := .cells #[.slice Ao6 t169.length co6, .slice Ao9 t172.length co9] 39 (0, 0)) (by (with_reducible repeat (first | refine blk_drewN ?_ _ | refine blk_drew ?_ | refine blk_alloc ?_ _)); refine blk_far ?_ NB175_194.out _; (with_reducible repeat (first | refine blk_drewN ?_ _ | refine blk_drew ?_ | refine blk_alloc ?_ _)); refine blk_far ?_ NB175_194.out _; (with_reducible repeat (first | refine blk_drewN ?_ _ | refine blk_drew ?_ | refine blk_alloc ?_ _)); refine blk_far ?_ NB175_194.out _; (with_reducible repeat (first | refine blk_drewN ?_ _ | refine blk_drew ?_ | refine blk_alloc ?_ _)); refine blk_far ?_ NB175_194.out _; (with_reducible repeat (first | refine blk_drewN ?_ _ | refine blk_drew ?_ | refine blk_alloc ?_ _)); refine blk_far ?_ NB175_194.out _; (with_reducible repeat (first | refine blk_drewN ?_ _ | refine blk_drew ?_ | refine blk_alloc ?_ _)); refine blk_far ?_ NB175_194.out _; (with_reducible repeat (first | refine blk_drewN ?_ _ | refine blk_drew ?_ | refine blk_alloc ?_ _)); exact BK175.out) hb); have n6_ := Aside0.mk (blk_below (g := gb194) (o := .cells #[.int .i64 (rd x4_1 0), .int .i64 (wrap64 ((rd x4_1 1) + 2)), .int .i64 (rd x4_1 2), .int .i64 (rd x4_1 3), .int .i64 (rd x4_1 4), .bool ((rd x4_1 5) == 1)] 23 (0, 0)) (by (with_reducible repeat (first | refine blk_drewN ?_ _ | refine blk_drew ?_ | refine blk_alloc ?_ _)); refine blk_put (cs := #[.int .i64 (rd x4_1 0), .int .i64 (wrap64 ((rd x4_1 1) + 2)), .int .i64 (rd x4_1 2), .int .i64 (rd x4_1 3), .int .i64 (rd x4_1 4), .bool false]) ?_ 5 _ rfl; (with_reducible repeat (first | refine blk_drewN ?_ _ | refine blk_drew ?_ | refine blk_alloc ?_ _)); refine blk_put (cs := #[.int .i64 (rd x4_1 0), .int .i64 (wrap64 ((rd x4_1 1) + 2)), .int .i64 (rd x4_1 2), .int .i64 (rd x4_1 3), .int .i64 0, .bool false]) ?_ 4 _ rfl; (with_reducible repeat (first | refine blk_drewN ?_ _ | refine blk_drew ?_ | refine blk_alloc ?_ _)); refine blk_put (cs := #[.int .i64 (rd x4_1 0), .int .i64 (wrap64 ((rd x4_1 1) + 2)), .int .i64 (rd x4_1 2), .int .i64 0, .int .i64 0, .bool false]) ?_ 3 _ rfl; (with_reducible repeat (first | refine blk_drewN ?_ _ | refine blk_drew ?_ | refine blk_alloc ?_ _)); refine blk_put (cs := #[.int .i64 (rd x4_1 0), .int .i64 (wrap64 ((rd x4_1 1) + 2)), .int .i64 0, .int .i64 0, .int .i64 0, .bool false]) ?_ 2 _ rfl; (with_reducible repeat (first | refine blk_drewN ?_ _ | refine blk_drew ?_ | refine blk_alloc ?_ _)); refine blk_put (cs := #[.int .i64 (rd x4_1 0), .int .i64 0, .int .i64 0, .int .i64 0, .int .i64 0, .bool false]) ?_ 1 _ rfl; (with_reducible repeat (first | refine blk_drewN ?_ _ | refine blk_drew ?_ | refine blk_alloc ?_ _)); refine blk_put (cs := #[.int .i64 0, .int .i64 0, .int .i64 0, .int .i64 0, .int .i64 0, .bool false]) ?_ 0 _ rfl; (with_reducible repeat (first | refine blk_drewN ?_ _ | refine blk_drew ?_ | refine blk_alloc ?_ _)); exact BK194.out) hb); have n7_ := Aside0.mk (below_step (by repeat (first | (with_reducible first | exact HB.out | apply below_alloc | apply pw_below_drewN | apply below_drew1 | refine below_set ?_ GE168.out | refine below_set ?_ GE175.out | refine below_set ?_ GE194.out) | exact HB.out)) hb); clear HO_4; clear HO_13; clear HO_176000; clear HO_176001; clear BK168; clear BK175; clear BK194; clear HB; have HO_4 := n0_; have HO_13 := n1_; have HO_176000 := n2_; have HO_176001 := n3_; have BK168 := n4_; have BK175 := n5_; have BK194 := n6_; have HB := n7_; clear n0_ n1_ n2_ n3_ n4_ n5_ n6_ n7_; (try clear hb); (try clear hb2); (try clear hk); (try clear hi); have hnb70 := NB168_175.out; have hnc70 := NB175_168.out; have hcz71_0 : w69.cell? ⟨gb168, 0, none⟩ = some (.int .i64 x169000_1) := (blk_cell BK168.out 0).trans rfl; have hcz71_1 : w69.cell? ⟨gb168, 1, none⟩ = some (.int .i64 x169001_1) := (blk_cell BK168.out 1).trans rfl; have hcz71_2 : w69.cell? ⟨gb168, 2, none⟩ = some (.int .i64 x169002_1) := (blk_cell BK168.out 2).trans rfl; have hcz71_3 : w69.cell? ⟨gb168, 3, none⟩ = some (.int .i64 x169003_1) := (blk_cell BK168.out 3).trans rfl; have hcz71_4 : w69.cell? ⟨gb168, 4, none⟩ = some (.int .i64 x169004_1) := (blk_cell BK168.out 4).trans rfl; have hcz71_5 : w69.cell? ⟨gb168, 5, none⟩ = some (.bool x169005_1) := (blk_cell BK168.out 5).trans rfl; have hcz71_6 : w69.cell? ⟨gb168, 6, none⟩ = some (.int .i64 x169006_1) := (blk_cell BK168.out 6).trans rfl; have hcz71_7 : w69.cell? ⟨gb168, 7, none⟩ = some (.int .i64 x169007_1) := (blk_cell BK168.out 7).trans rfl; have hfz71_0 := blk_frozen BK168.out 0; have hfz71_1 := blk_frozen BK168.out 1; have hfz71_2 := blk_frozen BK168.out 2; have hfz71_3 := blk_frozen BK168.out 3; have hfz71_4 := blk_frozen BK168.out 4; have hfz71_5 := blk_frozen BK168.out 5; have hfz71_6 := blk_frozen BK168.out 6; have hfz71_7 := blk_frozen BK168.out 7))
                        refine bodyPost_ret (results_cell_row rfl _ _ gb168 28 #[.int .i64 0, .int .i64 0, .int .i64 0, .int .i64 0, .int .i64 0, .bool false, .int .i64 0, .int .i64 4] (0, 0) _ rfl (by (with_reducible repeat (first | refine blk_drewN ?_ _ | refine blk_drew ?_ | refine blk_alloc ?_ _)); refine blk_put (cs := #[.int .i64 0, .int .i64 0, .int .i64 0, .int .i64 0, .int .i64 0, .bool false, .int .i64 0, .int .i64 x169007_1]) ?_ 7 _ rfl; (with_reducible repeat (first | refine blk_drewN ?_ _ | refine blk_drew ?_ | refine blk_alloc ?_ _)); refine blk_put (cs := #[.int .i64 0, .int .i64 0, .int .i64 0, .int .i64 0, .int .i64 0, .bool false, .int .i64 x169006_1, .int .i64 x169007_1]) ?_ 6 _ rfl; (with_reducible repeat (first | refine blk_drewN ?_ _ | refine blk_drew ?_ | refine blk_alloc ?_ _)); refine blk_put (cs := #[.int .i64 0, .int .i64 0, .int .i64 0, .int .i64 0, .int .i64 0, .bool x169005_1, .int .i64 x169006_1, .int .i64 x169007_1]) ?_ 5 _ rfl; (with_reducible repeat (first | refine blk_drewN ?_ _ | refine blk_drew ?_ | refine blk_alloc ?_ _)); refine blk_put (cs := #[.int .i64 0, .int .i64 0, .int .i64 0, .int .i64 0, .int .i64 x169004_1, .bool x169005_1, .int .i64 x169006_1, .int .i64 x169007_1]) ?_ 4 _ rfl; (with_reducible repeat (first | refine blk_drewN ?_ _ | refine blk_drew ?_ | refine blk_alloc ?_ _)); refine blk_put (cs := #[.int .i64 0, .int .i64 0, .int .i64 0, .int .i64 x169003_1, .int .i64 x169004_1, .bool x169005_1, .int .i64 x169006_1, .int .i64 x169007_1]) ?_ 3 _ rfl; (with_reducible repeat (first | refine blk_drewN ?_ _ | refine blk_drew ?_ | refine blk_alloc ?_ _)); refine blk_put (cs := #[.int .i64 0, .int .i64 0, .int .i64 x169002_1, .int .i64 x169003_1, .int .i64 x169004_1, .bool x169005_1, .int .i64 x169006_1, .int .i64 x169007_1]) ?_ 2 _ rfl; (with_reducible repeat (first | refine blk_drewN ?_ _ | refine blk_drew ?_ | refine blk_alloc ?_ _)); refine blk_put (cs := #[.int .i64 0, .int .i64 x169001_1, .int .i64 x169002_1, .int .i64 x169003_1, .int .i64 x169004_1, .bool x169005_1, .int .i64 x169006_1, .int .i64 x169007_1]) ?_ 1 _ rfl; (with_reducible repeat (first | refine blk_drewN ?_ _ | refine blk_drew ?_ | refine blk_alloc ?_ _)); refine blk_put (cs := #[.int .i64 x169000_1, .int .i64 x169001_1, .int .i64 x169002_1, .int .i64 x169003_1, .int .i64 x169004_1, .bool x169005_1, .int .i64 x169006_1, .int .i64 x169007_1]) ?_ 0 _ rfl; (with_reducible repeat (first | refine blk_drewN ?_ _ | refine blk_drew ?_ | refine blk_alloc ?_ _)); exact BK168.out) Tryd.underlying28 rfl (by kernel_rfl)) rfl ?_
                        exact ⟨by first | rfl | (simp [errW_none, errW_some] <;> rfl) | (simp [*, errW_none, errW_some] <;> rfl), by repeat (first | (with_reducible first | exact HB.out | apply below_alloc | apply pw_below_drewN | apply below_drew1 | refine below_set ?_ GE168.out | refine below_set ?_ GE175.out | refine below_set ?_ GE194.out) | exact HB.out)⟩
                    · rw [if_neg c38] at H
                      exact absurd H (by simp)
                  · rw [if_neg c37] at H
                    exact absurd H (by simp)
                · rw [if_neg c36] at H
                  exact absurd H (by simp)
              · rw [if_neg c35] at H
                exact absurd H (by simp)
            · rw [if_neg c34] at H
              exact absurd H (by simp)
          · rw [if_neg c33] at H
            exact absurd H (by simp)

end Go.Proofs.YtajgpilcbaoneaaDoor.P
