-- Printed for this claim by drive.py (a program of this session's) through the kit's print program; not trusted: Lean checks it.
import Derived.Test.YtbpanbmjkfhcgaaP0
import Derived.Test.YtbpanbmjkfhcgaaPf46
namespace Go.Proofs.Ytbpanbmjkfhcgaa.P
open Go.RowKit Go.Proofs.YtbpanbmjkfhcgaaW.PrintWords Go.Proofs.YtbpanbmjkfhcgaaW.PrintLast Go.Proofs.YtbpanbmjkfhcgaaW.PrintMore
attribute [local go_sem] max2_int min2_int max_two min_two max_three min_three max_four min_four   -- for this text's walks alone
set_option linter.unusedVariables false
set_option linter.unusedSimpArgs false

/-! ### headroomref13_Every: function 21 -/
mutual
def headroomref13_Every.l0 : Nat → List (S23) → Int → Option ((List (S23)))
  | 0, _, _ => none
  | k + 1, x1, x2 => if x2 ≤ 1 then (headroomref13_Every.l1 k x1 x2 2) else (some x1)
def headroomref13_Every.l1 : Nat → List (S23) → Int → Int → Option ((List (S23)))
  | 0, _, _, _ => none
  | k + 1, x1, x2, x3 => if x3 ≤ 6 then (headroomref13_Every.l2 k x1 x2 x3 0) else (headroomref13_Every.l0 k x1 (wrap64 (x2 + 1)))
def headroomref13_Every.l2 : Nat → List (S23) → Int → Int → Int → Option ((List (S23)))
  | 0, _, _, _, _ => none
  | k + 1, x1, x2, x3, x4 => if x4 ≤ 2 then ((headroomref13_scales.f k x2 x3 x4 0 0 false).bind fun t196 => (if x1.length + t196.length < 2932031007402 then (headroomref13_Every.l2 k (x1 ++ t196) x2 x3 (wrap64 (x4 + 1))) else (none))) else (headroomref13_Every.l1 k x1 x2 (wrap64 (x3 + 1)))
end
def headroomref13_Every.f (k : Nat)  : Option ((List (S23))) := headroomref13_Every.l0 k (([] : List (S23))) 0
theorem headroomref13_Every.mono_l : ∀ k, (∀ y0 y1, LeO (headroomref13_Every.l0 k y0 y1) (headroomref13_Every.l0 (k + 1) y0 y1)) ∧ (∀ y0 y1 y2, LeO (headroomref13_Every.l1 k y0 y1 y2) (headroomref13_Every.l1 (k + 1) y0 y1 y2)) ∧ (∀ y0 y1 y2 y3, LeO (headroomref13_Every.l2 k y0 y1 y2 y3) (headroomref13_Every.l2 (k + 1) y0 y1 y2 y3))
  | 0 => ⟨fun _ _ r h => by simp [headroomref13_Every.l0] at h, fun _ _ _ r h => by simp [headroomref13_Every.l1] at h, fun _ _ _ _ r h => by simp [headroomref13_Every.l2] at h⟩
  | k + 1 => by
    obtain ⟨ih0, ih1, ih2⟩ := headroomref13_Every.mono_l k
    refine ⟨?_, ?_, ?_⟩
    · intro y0 y1
      unfold headroomref13_Every.l0
      repeat' first
      | (with_reducible exact ih0 _ _)
      | (with_reducible exact ih1 _ _ _)
      | (with_reducible exact ih2 _ _ _ _)
      | (with_reducible exact headroomref13_scales.mono _ _ _ _ _ _ _)
      | (with_reducible exact LeO.refl _)
      | (with_reducible exact LeO.none _)
      | (with_reducible refine LeO.ite ?_ ?_)
      | (with_reducible refine LeO.bind ?_ (fun _ => ?_))
      | exact ih0 _ _
      | exact ih1 _ _ _
      | exact ih2 _ _ _ _
      | exact headroomref13_scales.mono _ _ _ _ _ _ _
      | exact LeO.none _
      | refine LeO.ite ?_ ?_
      | refine LeO.bind ?_ (fun _ => ?_)
    · intro y0 y1 y2
      unfold headroomref13_Every.l1
      repeat' first
      | (with_reducible exact ih0 _ _)
      | (with_reducible exact ih1 _ _ _)
      | (with_reducible exact ih2 _ _ _ _)
      | (with_reducible exact headroomref13_scales.mono _ _ _ _ _ _ _)
      | (with_reducible exact LeO.refl _)
      | (with_reducible exact LeO.none _)
      | (with_reducible refine LeO.ite ?_ ?_)
      | (with_reducible refine LeO.bind ?_ (fun _ => ?_))
      | exact ih0 _ _
      | exact ih1 _ _ _
      | exact ih2 _ _ _ _
      | exact headroomref13_scales.mono _ _ _ _ _ _ _
      | exact LeO.none _
      | refine LeO.ite ?_ ?_
      | refine LeO.bind ?_ (fun _ => ?_)
    · intro y0 y1 y2 y3
      unfold headroomref13_Every.l2
      repeat' first
      | (with_reducible exact ih0 _ _)
      | (with_reducible exact ih1 _ _ _)
      | (with_reducible exact ih2 _ _ _ _)
      | (with_reducible exact headroomref13_scales.mono _ _ _ _ _ _ _)
      | (with_reducible exact LeO.refl _)
      | (with_reducible exact LeO.none _)
      | (with_reducible refine LeO.ite ?_ ?_)
      | (with_reducible refine LeO.bind ?_ (fun _ => ?_))
      | exact ih0 _ _
      | exact ih1 _ _ _
      | exact ih2 _ _ _ _
      | exact headroomref13_scales.mono _ _ _ _ _ _ _
      | exact LeO.none _
      | refine LeO.ite ?_ ?_
      | refine LeO.bind ?_ (fun _ => ?_)
theorem headroomref13_Every.mono : ∀ k, LeO (headroomref13_Every.f k ) (headroomref13_Every.f (k + 1) ) := by
  intro  k
  obtain ⟨ih0, ih1, ih2⟩ := headroomref13_Every.mono_l k
  unfold headroomref13_Every.f
  repeat' first
      | (with_reducible exact ih0 _ _)
      | (with_reducible exact ih1 _ _ _)
      | (with_reducible exact ih2 _ _ _ _)
      | (with_reducible exact headroomref13_scales.mono _ _ _ _ _ _ _)
      | (with_reducible exact LeO.refl _)
      | (with_reducible exact LeO.none _)
      | (with_reducible refine LeO.ite ?_ ?_)
      | (with_reducible refine LeO.bind ?_ (fun _ => ?_))
      | exact ih0 _ _
      | exact ih1 _ _ _
      | exact ih2 _ _ _ _
      | exact headroomref13_scales.mono _ _ _ _ _ _ _
      | exact LeO.none _
      | refine LeO.ite ?_ ?_
      | refine LeO.bind ?_ (fun _ => ?_)
set_option maxHeartbeats 8000000 in
set_option maxRecDepth 100000 in
theorem headroomref13_Every.calls (k : Nat)  (r : List (S23)) (w : World) (h : headroomref13_Every.f k  = some r) :
    Calls Try.prog 21 #[] w fun e w' => ∃ v0_ : Value, e = .returned (v0_) ∧ Kd.R k23 23 w' w.heap.size (fun _ => True) v0_ r ∧ Below w.heap.size w w' := by
  have hu23 := Try.underlying23
  have HB := Aside0.mk (Below.refl w.heap.size w)
  have H : (headroomref13_Every.l0 k (([] : List (S23))) 0) = some r := h
  clear h
  obtain ⟨y193, hy193⟩ : ∃ y_ : List (S23), y_ = (([] : List (S23))) := ⟨_, rfl⟩
  replace H : (headroomref13_Every.l0 k y193 0) = some r := by first | (rw [hy193]; with_reducible exact H) | (have H2_ := (Option.bind_some _ _).symm.trans H; rw [hy193]; with_reducible exact H2_) | (have H2_ := (Option.bind_some _ _).symm.trans H; with_reducible exact H2_) | with_reducible exact H | (rw [hy193]; exact H) | exact H
  have Ny193 := Aside0.mk hy193
  clear hy193
  have H' := Aside0.mk H
  clear H
  go_enter Try.func21, Try.ntmps21
  go_wp2_with (first | ((with_reducible refine gate_dst (N := 5) rfl ?_); refine Kd.R_lit k23 _ 23 ?hg (N := 5) ?hd (xs := ([] : List (S23))) (inner := []) (ok := fun _ => True) (okp := fun _ => True) ?hr ?hp (fun _ hk => hk) trivial (Below.refl _ _) (Nat.le_refl _) (by simp) ?_; (case hd => rfl); (case hg => rfl); (case hr => first | (go_simp; done) | (go_simp; rfl)); (case hp => exact (Reps.none _ _)); intro v194 w1 ho2 hb hg_ hnew_; clear hg_ hnew_; (first | rw [← Ny193.out] at ho2 | (simp only [Int.reduceToNat] at ho2; rw [← Ny193.out] at ho2)); have n0_ := Aside0.mk (Kd.R_lower ho2 (below_size (by repeat (first | (with_reducible first | exact HB.out | apply below_alloc | apply pw_below_drewN | apply below_drew1) | exact HB.out)))); have n1_ := Aside0.mk (below_step (by repeat (first | (with_reducible first | exact HB.out | apply below_alloc | apply pw_below_drewN | apply below_drew1) | exact HB.out)) hb); clear HB; have HO195 := n0_; have HB := n1_; clear n0_ n1_; clear hb ho2))
  go_loopg [1, 2] k (fun kq v1 v2 w' => ∃ (x1_1 : List (S23)) (x2_1 : Int), v2 = .int .i64 x2_1 ∧ Aside0 (headroomref13_Every.l0 kq x1_1 x2_1 = some r) ∧ Aside0 (kq ≤ k) ∧ Aside0 (Kd.R k23 23 w' w.heap.size (fun _ => True) v1 x1_1) ∧ Aside0 (Below w.heap.size w w'))
  case atStart => exact ⟨(y193), (0), (by first | rfl | (simp; done) | (simp [*]; done)), H', ⟨Nat.le_refl _⟩, ⟨by (with_reducible repeat (first | apply Kd.R_alloc | apply Kd.R_drewN | apply Kd.R_drew)); exact HO195.out⟩, ⟨by repeat (first | (with_reducible first | exact HB.out | apply below_alloc | apply pw_below_drewN | apply below_drew1) | exact HB.out)⟩⟩
  case round =>
    clear H'
    try clear c2
    try clear p2
    obtain ⟨x1_1, x2_1, rfl, HA, HK1, HO_1, HB⟩ := hrel
    cases gk with
    | zero => exact absurd HA.out (by simp [headroomref13_Every.l0])
    | succ k1 =>
      have H := HA.out
      clear HA
      simp only [headroomref13_Every.l0] at H
      by_cases c3 : x2_1 ≤ 1
      · rw [if_pos c3] at H
        have c3b0 : decide (x2_1 ≤ 1) = true := decide_eq_true c3
        clear c3
        have H' := Aside0.mk H
        clear H
        go_wp2
        go_loopg [1, 3] k1 (fun kq v1 v3 w' => ∃ (x1_2 : List (S23)) (x3_2 : Int), v3 = .int .i64 x3_2 ∧ Aside0 (headroomref13_Every.l1 kq x1_2 x2_1 x3_2 = some r) ∧ Aside0 (kq ≤ k1) ∧ Aside0 (Kd.R k23 23 w' w.heap.size (fun _ => True) v1 x1_2) ∧ Aside0 (Below w.heap.size w w'))
        case atStart => exact ⟨(x1_1), (2), (by first | rfl | (simp; done) | (simp [*]; done)), H', ⟨Nat.le_refl _⟩, ⟨by (with_reducible repeat (first | apply Kd.R_alloc | apply Kd.R_drewN | apply Kd.R_drew)); exact HO_1.out⟩, ⟨by repeat (first | (with_reducible first | exact HB.out | apply below_alloc | apply pw_below_drewN | apply below_drew1) | exact HB.out)⟩⟩
        case round =>
          clear H'
          try clear c2
          try clear p2
          try clear c3
          try clear c3b0
          try clear p2
          obtain ⟨x1_2, x3_2, rfl, HA, HK2, HO_1, HB⟩ := hrel
          cases gk with
          | zero => exact absurd HA.out (by simp [headroomref13_Every.l1])
          | succ k2 =>
            have H := HA.out
            clear HA
            simp only [headroomref13_Every.l1] at H
            by_cases c4 : x3_2 ≤ 6
            · rw [if_pos c4] at H
              have c4b0 : decide (x3_2 ≤ 6) = true := decide_eq_true c4
              clear c4
              have H' := Aside0.mk H
              clear H
              go_wp2
              go_loopg [1, 4] k2 (fun kq v1 v4 w' => ∃ (x1_3 : List (S23)) (x4_3 : Int), v4 = .int .i64 x4_3 ∧ Aside0 (headroomref13_Every.l2 kq x1_3 x2_1 x3_2 x4_3 = some r) ∧ Aside0 (kq ≤ k2) ∧ Aside0 (Kd.R k23 23 w' w.heap.size (fun _ => True) v1 x1_3) ∧ Aside0 (Below w.heap.size w w'))
              case atStart => exact ⟨(x1_2), (0), (by first | rfl | (simp; done) | (simp [*]; done)), H', ⟨Nat.le_refl _⟩, ⟨by (with_reducible repeat (first | apply Kd.R_alloc | apply Kd.R_drewN | apply Kd.R_drew)); exact HO_1.out⟩, ⟨by repeat (first | (with_reducible first | exact HB.out | apply below_alloc | apply pw_below_drewN | apply below_drew1) | exact HB.out)⟩⟩
              case round =>
                clear H'
                try clear c2
                try clear p2
                try clear c3
                try clear c3b0
                try clear c4
                try clear c4b0
                try clear p2
                obtain ⟨x1_3, x4_3, rfl, HA, HK3, HO_1, HB⟩ := hrel
                cases gk with
                | zero => exact absurd HA.out (by simp [headroomref13_Every.l2])
                | succ k3 =>
                  have H := HA.out
                  clear HA
                  simp only [headroomref13_Every.l2] at H
                  by_cases c5 : x4_3 ≤ 2
                  · rw [if_pos c5] at H
                    have c5b0 : decide (x4_3 ≤ 2) = true := decide_eq_true c5
                    clear c5
                    replace H := Option.bind_eq_some_iff.mp H
                    obtain ⟨t196, A60, H⟩ := H
                    replace H : (if x1_3.length + t196.length < 2932031007402 then (headroomref13_Every.l2 k3 (x1_3 ++ t196) x2_1 x3_2 (wrap64 (x4_3 + 1))) else (none)) = some r := H
                    have A6 := Aside0.mk A60
                    clear A60
                    by_cases c7 : x1_3.length + t196.length < 2932031007402
                    · rw [if_pos c7] at H
                      have LMc7 := Aside0.mk c7
                      clear c7
                      obtain ⟨y199, hy199⟩ : ∃ y_ : List (S23), y_ = (x1_3 ++ t196) := ⟨_, rfl⟩
                      replace H : (headroomref13_Every.l2 k3 y199 x2_1 x3_2 (wrap64 (x4_3 + 1))) = some r := by first | (rw [hy199]; with_reducible exact H) | (have H2_ := (Option.bind_some _ _).symm.trans H; rw [hy199]; with_reducible exact H2_) | (have H2_ := (Option.bind_some _ _).symm.trans H; with_reducible exact H2_) | with_reducible exact H | (rw [hy199]; exact H) | exact H
                      have Ny199 := Aside0.mk hy199
                      clear hy199
                      have H' := Aside0.mk H
                      clear H
                      go_wp2_with (first | ((with_reducible refine gate_callee (f := 46) rfl ?_); refine goesL_ (some 23) rfl rfl Try.func46 (by kernel_rfl) rfl #[.agg #[.int .i64 x2_1, .int .i64 x3_2, .int .i64 x4_3, .int .i64 0, .int .i64 0, .bool false]] rfl (by (try simp only [List.map_toArray, List.map_cons, List.map_nil]); first | done | rfl | (simp only [List.length_drop, List.length_take]; rfl)) ?_; (with_reducible refine (headroomref13_scales.calls k3 x2_1 x3_2 x4_3 0 0 false t196 _ A6.out).mono ?_); rintro e w8 ⟨v197, rfl, ho0, hb⟩; refine ⟨_, rfl, ?_⟩; have n0_ := Aside0.mk (Kd.R_elder' (by (with_reducible repeat (first | apply Kd.R_alloc | apply Kd.R_drewN | apply Kd.R_drew)); exact HO_1.out) (Kd.R_base ho0) hb); have n1_ := Aside0.mk (Kd.R_lower (Kd.R_new' ho0 (Kd.R_lt (by (with_reducible repeat (first | apply Kd.R_alloc | apply Kd.R_drewN | apply Kd.R_drew)); exact HO_1.out))) (below_size (by repeat (first | (with_reducible first | exact HB.out | apply below_alloc | apply pw_below_drewN | apply below_drew1) | exact HB.out)))); have n2_ := Aside0.mk (below_step (by repeat (first | (with_reducible first | exact HB.out | apply below_alloc | apply pw_below_drewN | apply below_drew1) | exact HB.out)) hb); clear HO_1; clear HB; have HO_1 := n0_; have HO198 := n1_; have HB := n2_; clear n0_ n1_ n2_; (try clear hb); (try clear hb2); (try clear hk); (try clear hi); (try clear ho0); obtain ⟨Ao10, co10, eo10⟩ := Kd.R_slice HO198.out; subst eo10) | ((with_reducible refine gate_builtin (b := .append) (xs := #[.tmp 18, .tmp 23]) rfl ?_); at_builtin; refine Kd.R_append_rows k23 (w0 := w) w.heap.size rfl (.tmp 18) (.tmp 23) 36 23 (.agg #[(.int .i64 0), (.int .i64 0), (.int .i64 0), (.int .i64 0), (.int .i64 0), (.bool false)]) 48 rfl Try.underlying36 info23 rfl (by decide) (by omega) u1 x1_3 t196 _ _ _ (fun k_ => some k_ ≠ (.slice Ao10 t196.length co10 : Value).ownBlock) (fun _ => False) rfl rfl ?aO ?aR (fun _ _ h => h) (fun _ h => h.elim) ?aF ?aB ?aS ?aL ?_; (case aR => repeat (first | exact (Kd.R_reads' HO198.out).2.2 | (with_reducible refine Kd.C_alloc ?_ _) | (with_reducible refine Kd.C_drewN ?_ _) | (with_reducible refine Kd.C_drew ?_))); (case aB => exact (by repeat (first | (with_reducible first | exact HB.out | apply below_alloc | apply pw_below_drewN | apply below_drew1) | exact HB.out))); (case aF => exact (fun k_ hk => Kd.fresh' (Kd.R_lt (by (with_reducible repeat (first | apply Kd.R_alloc | apply Kd.R_drewN | apply Kd.R_drew)); exact HO198.out)) k_ hk)); (case aO => exact (by (with_reducible repeat (first | apply Kd.R_alloc | apply Kd.R_drewN | apply Kd.R_drew)); exact Kd.R_mono HO_1.out (fun _ hk => hk.2))); (case aS => exact (below_size (by repeat (first | (with_reducible first | exact HB.out | apply below_alloc | apply pw_below_drewN | apply below_drew1) | exact HB.out)))); (case aL => have := LMc7.out; omega); intro v200 w9 ho hb hg hat; rw [← Ny199.out] at ho; have n0_ := Aside0.mk (Kd.R_after (ok := (fun _ => True)) (by (with_reducible repeat (first | apply Kd.R_alloc | apply Kd.R_drewN | apply Kd.R_drew)); exact HO198.out) hg hat); have n1_ := Aside0.mk (hb); have n2_ := Aside0.mk (ho); clear HO198; clear HB; clear HO_1; have HO198 := n0_; have HB := n1_; have HO201 := n2_; clear n0_ n1_ n2_; clear ho hb hg hat))
                      go_roundg k3
                      case measure => have := HK1.out; have := HK2.out; have := HK3.out; omega
                      case rel => exact ⟨(y199), (wrap64 (x4_3 + 1)), (by first | rfl | (simp; done) | (simp [*]; done)), H', ⟨by have := HK1.out; have := HK2.out; have := HK3.out; omega⟩, ⟨by (with_reducible repeat (first | apply Kd.R_alloc | apply Kd.R_drewN | apply Kd.R_drew)); exact Kd.R_mono HO201.out (fun _ hk => trivial)⟩, ⟨by repeat (first | (with_reducible first | exact HB.out | apply below_alloc | apply pw_below_drewN | apply below_drew1) | exact HB.out)⟩⟩
                    · rw [if_neg c7] at H
                      exact absurd H (by simp)
                  · rw [if_neg c5] at H
                    have c5b0 : decide (x4_3 ≤ 2) = false := decide_eq_false c5
                    clear c5
                    have H' := Aside0.mk H
                    clear H
                    go_wp2
                    go_roundg k3
                    case measure => have := HK1.out; have := HK2.out; have := HK3.out; omega
                    case rel => exact ⟨(x1_3), (wrap64 (x3_2 + 1)), (by first | rfl | (simp; done) | (simp [*]; done)), H', ⟨by have := HK1.out; have := HK2.out; have := HK3.out; omega⟩, ⟨by (with_reducible repeat (first | apply Kd.R_alloc | apply Kd.R_drewN | apply Kd.R_drew)); exact HO_1.out⟩, ⟨by repeat (first | (with_reducible first | exact HB.out | apply below_alloc | apply pw_below_drewN | apply below_drew1) | exact HB.out)⟩⟩
            · rw [if_neg c4] at H
              have c4b0 : decide (x3_2 ≤ 6) = false := decide_eq_false c4
              clear c4
              have H' := Aside0.mk H
              clear H
              go_wp2
              go_roundg k2
              case measure => have := HK1.out; have := HK2.out; omega
              case rel => exact ⟨(x1_2), (wrap64 (x2_1 + 1)), (by first | rfl | (simp; done) | (simp [*]; done)), H', ⟨by have := HK1.out; have := HK2.out; omega⟩, ⟨by (with_reducible repeat (first | apply Kd.R_alloc | apply Kd.R_drewN | apply Kd.R_drew)); exact HO_1.out⟩, ⟨by repeat (first | (with_reducible first | exact HB.out | apply below_alloc | apply pw_below_drewN | apply below_drew1) | exact HB.out)⟩⟩
      · rw [if_neg c3] at H
        have c3b0 : decide (x2_1 ≤ 1) = false := decide_eq_false c3
        clear c3
        obtain rfl := Option.some.inj H
        go_wp2
        go_ret
        exact ⟨_, by first | rfl | (simp [errW_none, errW_some] <;> rfl) | (simp [*, errW_none, errW_some] <;> rfl), by (with_reducible repeat (first | apply Kd.R_alloc | apply Kd.R_drewN | apply Kd.R_drew)); exact HO_1.out, by repeat (first | (with_reducible first | exact HB.out | apply below_alloc | apply pw_below_drewN | apply below_drew1) | exact HB.out)⟩

end Go.Proofs.Ytbpanbmjkfhcgaa.P
