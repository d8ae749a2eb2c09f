-- Printed for this claim by drive.py (a program of this session's) through the kit's print program; not trusted: Lean checks it.
import Derived.Test.YtajgpilcbaoneaaP0
import Derived.Test.YtajgpilcbaoneaaPg1
import Derived.Test.YtajgpilcbaoneaaPg3
import Derived.Test.YtajgpilcbaoneaaPcopy
namespace Go.Proofs.Ytajgpilcbaoneaa.P
open Go.RowKit Go.Proofs.YtajgpilcbaoneaaW.PrintWords Go.Proofs.YtajgpilcbaoneaaW.PrintLast Go.Proofs.YtajgpilcbaoneaaW.PrintMore
attribute [local go_sem] max2_int min2_int max_two min_two max_three min_three max_four min_four   -- for this text's walks alone
set_option linter.unusedVariables false
set_option linter.unusedSimpArgs false

/-! ### flip_Flip: function 19 -/
-- IMPORT Derived.Test.YtajgpilcbaoneaaPcopy
def flip_Flip.l0 : Nat → List (S45) → List Int → Int → Int → Option ((List (S45)) × Int)
  | 0, _, _, _, _ => none
  | k + 1, x8, x31, x32, x33 => if x33 < x32 then (if 0 ≤ x33 then (if x33 < (x31.length : Int) then (if x33 < (rd x31 x33) then (if 0 ≤ (rd x31 x33) then (if (rd x31 x33) < (x8.length : Int) then (if x33 < (x8.length : Int) then (flip_Flip.l0 k ((x8.set (x33 : Int).toNat (⟨(rd_T45 x8 (rd x31 x33)).f0, (rd_T45 x8 (rd x31 x33)).f1⟩ : S45)).set ((rd x31 x33) : Int).toNat (⟨(rd_T45 x8 x33).f0, (rd_T45 x8 x33).f1⟩ : S45)) x31 x32 (wrap64 (x33 + 1))) else (none)) else (none)) else (none)) else (flip_Flip.l0 k x8 x31 x32 (wrap64 (x33 + 1)))) else (none)) else (none)) else (some (x8, 0))
def flip_Flip.f (k : Nat) (l0 : List (S45)) : Option ((List (S45)) × Int) := (flip_Log.f k (l0.length : Int)).bind fun bt146 => (if bt146.2 = 0 then ((flip_Row.f k bt146.1).bind fun bt148 => (if 0 ≤ (l0.length : Int) then (if ((l0.length : Int) : Int).toNat ≤ 17592186044416 then (if (List.replicate ((l0.length : Int) : Int).toNat z45).length = l0.length then (flip_Flip.l0 k (l0) bt148.1 (bt148.1.length : Int) 0) else (none)) else (none)) else (none))) else (some (([] : List (S45)), bt146.2)))
theorem flip_Flip.mono_l : ∀ k, (∀ y0 y1 y2 y3, LeO (flip_Flip.l0 k y0 y1 y2 y3) (flip_Flip.l0 (k + 1) y0 y1 y2 y3))
  | 0 => fun _ _ _ _ r h => by simp [flip_Flip.l0] at h
  | k + 1 => by
    have ih0 := flip_Flip.mono_l k
    · intro y0 y1 y2 y3
      unfold flip_Flip.l0
      repeat' first
      | (with_reducible exact ih0 _ _ _ _)
      | (with_reducible exact flip_Log.mono _ _)
      | (with_reducible exact flip_Row.mono _ _)
      | (with_reducible exact LeO.refl _)
      | (with_reducible exact LeO.none _)
      | (with_reducible refine LeO.ite ?_ ?_)
      | (with_reducible refine LeO.bind ?_ (fun _ => ?_))
      | exact ih0 _ _ _ _
      | exact flip_Log.mono _ _
      | exact flip_Row.mono _ _
      | exact LeO.none _
      | refine LeO.ite ?_ ?_
      | refine LeO.bind ?_ (fun _ => ?_)
theorem flip_Flip.mono : ∀ a0 k, LeO (flip_Flip.f k a0) (flip_Flip.f (k + 1) a0) := by
  intro a0 k
  have ih0 := flip_Flip.mono_l k
  unfold flip_Flip.f
  repeat' first
      | (with_reducible exact ih0 _ _ _ _)
      | (with_reducible exact flip_Log.mono _ _)
      | (with_reducible exact flip_Row.mono _ _)
      | (with_reducible exact LeO.refl _)
      | (with_reducible exact LeO.none _)
      | (with_reducible refine LeO.ite ?_ ?_)
      | (with_reducible refine LeO.bind ?_ (fun _ => ?_))
      | exact ih0 _ _ _ _
      | exact flip_Log.mono _ _
      | exact flip_Row.mono _ _
      | exact LeO.none _
      | refine LeO.ite ?_ ?_
      | refine LeO.bind ?_ (fun _ => ?_)
def flip_Flip.T11 : Bool × List (List Nat × List Nat) := (true, [([], []), ([], []), ([], []), ([], []), ([], []), ([], []), ([4, 5], [4, 5]), ([6], [6]), ([], []), ([], []), ([8, 9], [8, 9]), ([10], [10]), ([0, 1, 0, 1, 4, 5, 6, 7, 11], [0, 1]), ([12, 7, 0, 1, 4, 5, 6, 7, 11], [7, 12]), ([2, 3, 0, 1, 2, 3, 4, 5, 6, 7, 8, 9, 10, 11, 12, 13], [2, 3]), ([14, 11, 13, 0, 1, 2, 3, 4, 5, 6, 7, 8, 9, 10, 11, 12, 13], [11, 14])])
def flip_Flip.B11 : List Nat := [0, 0, 0, 0, 0, 0, 48, 112, 0, 0, 768, 1792, 4083, 8179, 16383, 32767]
theorem flip_Flip.tab11 : rtab .any (opsOf Try.f19 11) = flip_Flip.T11 := by kernel_rfl
theorem flip_Flip.bits11 : waitsOk flip_Flip.T11.2 flip_Flip.B11 = true := by kernel_rfl
set_option maxHeartbeats 8000000 in
set_option maxRecDepth 100000 in
theorem flip_Flip.calls (k : Nat) (A0 : Option Addr) (c0 : Nat) (l0 : List (S45)) (r1 : List (S45)) (r2 : Int) (w : World) (hr0 : Kd.C k45 w A0 l0.length l0) (hc0 : l0.length ≤ c0) (h : flip_Flip.f k l0 = some (r1, r2)) :
    Calls Try.prog 19 #[.slice A0 l0.length c0] w fun e w' => ∃ v0_ : Value, e = .returned (.tuple #[v0_, .int .i64 r2]) ∧ Kd.R k45 45 w' w.heap.size (fun _ => True) v0_ r1 ∧ Below w.heap.size w w' := by
  have hu45 := Try.underlying45
  have HR0 := Aside0.mk hr0
  have HC0 := Aside0.mk hc0
  clear hr0 hc0
  have HB := Aside0.mk (Below.refl w.heap.size w)
  have H : ((flip_Log.f k (l0.length : Int)).bind fun bt146 => (if bt146.2 = 0 then ((flip_Row.f k bt146.1).bind fun bt148 => (if 0 ≤ (l0.length : Int) then (if ((l0.length : Int) : Int).toNat ≤ 17592186044416 then (if (List.replicate ((l0.length : Int) : Int).toNat z45).length = l0.length then (flip_Flip.l0 k (l0) bt148.1 (bt148.1.length : Int) 0) else (none)) else (none)) else (none))) else (some (([] : List (S45)), bt146.2)))) = some (r1, r2) := h
  clear h
  replace H := Option.bind_eq_some_iff.mp H
  obtain ⟨⟨t146, t147⟩, A20, H⟩ := H
  replace H : (if t147 = 0 then ((flip_Row.f k t146).bind fun bt148 => (if 0 ≤ (l0.length : Int) then (if ((l0.length : Int) : Int).toNat ≤ 17592186044416 then (if (List.replicate ((l0.length : Int) : Int).toNat z45).length = l0.length then (flip_Flip.l0 k (l0) bt148.1 (bt148.1.length : Int) 0) else (none)) else (none)) else (none))) else (some (([] : List (S45)), t147))) = some (r1, r2) := H
  have A2 := Aside0.mk A20
  clear A20
  by_cases c3 : t147 = 0
  · rw [if_pos c3] at H
    have c3b0 : (t147 == 0) = true := beq_iff_eq.mpr c3
    have c3b1 : (t147 != 0) = false := bne_eq_false_iff_eq.mpr c3
    clear c3
    replace H := Option.bind_eq_some_iff.mp H
    obtain ⟨⟨t148, t149⟩, A40, H⟩ := H
    replace H : (if 0 ≤ (l0.length : Int) then (if ((l0.length : Int) : Int).toNat ≤ 17592186044416 then (if (List.replicate ((l0.length : Int) : Int).toNat z45).length = l0.length then (flip_Flip.l0 k (l0) t148 (t148.length : Int) 0) else (none)) else (none)) else (none)) = some (r1, r2) := H
    have A4 := Aside0.mk A40
    clear A40
    by_cases c5 : 0 ≤ (l0.length : Int)
    · rw [if_pos c5] at H
      have c5b0 := eq_true c5
      have c5b1 : decide (0 ≤ (l0.length : Int)) = true := decide_eq_true c5
      clear c5
      by_cases c6 : ((l0.length : Int) : Int).toNat ≤ 17592186044416
      · rw [if_pos c6] at H
        have c6b0 := eq_true c6
        have c6b1 : decide (((l0.length : Int) : Int).toNat ≤ 17592186044416) = true := decide_eq_true c6
        clear c6
        obtain ⟨y152, hy152⟩ : ∃ y_ : List (S45), y_ = (List.replicate ((l0.length : Int) : Int).toNat z45) := ⟨_, rfl⟩
        replace H : (if y152.length = l0.length then (flip_Flip.l0 k (l0) t148 (t148.length : Int) 0) else (none)) = some (r1, r2) := by first | (rw [hy152]; with_reducible exact H) | (have H2_ := (Option.bind_some _ _).symm.trans H; rw [hy152]; with_reducible exact H2_) | (have H2_ := (Option.bind_some _ _).symm.trans H; with_reducible exact H2_) | with_reducible exact H | (rw [hy152]; exact H) | exact H
        have Ny152 := Aside0.mk hy152
        clear hy152
        by_cases c7 : y152.length = l0.length
        · rw [if_pos c7] at H
          have LMc7 := Aside0.mk c7
          clear c7
          obtain ⟨y155, hy155⟩ : ∃ y_ : List (S45), y_ = (l0) := ⟨_, rfl⟩
          replace H : (flip_Flip.l0 k y155 t148 (t148.length : Int) 0) = some (r1, r2) := by first | (rw [hy155]; with_reducible exact H) | (have H2_ := (Option.bind_some _ _).symm.trans H; rw [hy155]; with_reducible exact H2_) | (have H2_ := (Option.bind_some _ _).symm.trans H; with_reducible exact H2_) | with_reducible exact H | (rw [hy155]; exact H) | exact H
          have Ny155 := Aside0.mk hy155
          clear hy155
          have H' := Aside0.mk H
          clear H
          go_enter Try.func19, Try.ntmps19
          go_wp2_with (first | ((with_reducible refine gate_callee (f := 11) rfl ?_); refine goesL_ (some 14) rfl rfl Try.func11 (by kernel_rfl) rfl #[.int .i64 (l0.length : Int)] rfl (by (try simp only [List.map_toArray, List.map_cons, List.map_nil]); first | done | rfl | (simp only [List.length_drop, List.length_take]; rfl)) ?_; (with_reducible refine (flip_Log.calls k (l0.length : Int) t146 t147 _ A2.out).mono ?_); rintro e w' ⟨rfl, ⟨nd, rfl⟩⟩; refine ⟨_, rfl, ?_⟩) | ((with_reducible refine gate_callee (f := 10) rfl ?_); refine goesL_ (some 22) rfl rfl Try.func10 (by kernel_rfl) rfl #[.int .i64 t146] rfl (by (try simp only [List.map_toArray, List.map_cons, List.map_nil]); first | done | rfl | (simp only [List.length_drop, List.length_take]; rfl)) ?_; (with_reducible refine (flip_Row.calls k t146 t148 t149 _ A4.out).mono ?_); rintro e w8 ⟨v150, rfl, ho0, hb⟩; refine ⟨_, rfl, ?_⟩; have n0_ := Aside0.mk (Kd.R_lower ho0 (below_size (by repeat (first | (with_reducible first | exact HB.out | apply below_alloc | apply pw_below_drewN | apply below_drew1) | exact HB.out)))); have n1_ := Aside0.mk (below_step (by repeat (first | (with_reducible first | exact HB.out | apply below_alloc | apply pw_below_drewN | apply below_drew1) | exact HB.out)) hb); clear HB; have HO151 := n0_; have HB := n1_; clear n0_ n1_; (try clear hb); (try clear hb2); (try clear hk); (try clear hi); (try clear ho0)) | ((with_reducible refine gate_dst (N := 27) rfl ?_); refine Kd.R_make k45 _ 45 rfl (N := 27) rfl 37 _ _ rfl (l0.length : Int) rfl rfl Try.underlying37 (.agg #[(.int .i64 0), (.int .i64 0)]) 16 info45 rfl (by decide) (by omega) z45 (ok := fun _ => True) (okp := fun _ => True) (k45_mkM _ _ _ z45 ) (fun _ hk => hk) trivial (of_decide_eq_true (by first | (with_reducible assumption) | assumption)) (Nat.le_trans (Nat.mul_le_mul_right _ (of_decide_eq_true (by first | (with_reducible assumption) | assumption) : (l0.length : Int).toNat ≤ 17592186044416)) (by omega)) (Below.refl _ _) (Nat.le_refl _) ?_; intro v153 w9 ho10 hb hg_ hnew_; clear hg_ hnew_; (first | rw [← Ny152.out] at ho10 | (simp only [Int.reduceToNat] at ho10; rw [← Ny152.out] at ho10)); have n0_ := Aside0.mk (Kd.R_below (by (with_reducible repeat (first | apply Kd.R_alloc | apply Kd.R_drewN | apply Kd.R_drew)); exact HO151.out) hb); have n1_ := Aside0.mk (Kd.R_lower ho10 (below_size (by repeat (first | (with_reducible first | exact HB.out | apply below_alloc | apply pw_below_drewN | apply below_drew1) | exact HB.out)))); have n2_ := Aside0.mk (below_step (by repeat (first | (with_reducible first | exact HB.out | apply below_alloc | apply pw_below_drewN | apply below_drew1) | exact HB.out)) hb); clear HO151; clear HB; have HO151 := n0_; have HO154 := n1_; have HB := n2_; clear n0_ n1_ n2_; clear hb ho10) | ((with_reducible refine gate_builtin (b := .copy) (xs := #[.tmp 28, .tmp 29]) rfl ?_); refine copy_rows k45 (w0 := w) w.heap.size rfl (.tmp 28) (.tmp 29) 37 45 (.agg #[(.int .i64 0), (.int .i64 0)]) 16 rfl Try.underlying37 info45 rfl (by decide) (by omega) v153 y152 l0 _ _ _ (fun _ => True) (fun _ => False) rfl rfl ?aO ?aR (fun _ _ h => h) (fun _ h => h.elim) ?aF ?aB ?aS ?aL ?_; (case aR => repeat (first | exact (Kd.C_below HR0.out HB.out) | (with_reducible refine Kd.C_alloc ?_ _) | (with_reducible refine Kd.C_drewN ?_ _) | (with_reducible refine Kd.C_drew ?_))); (case aB => exact (by repeat (first | (with_reducible first | exact HB.out | apply below_alloc | apply pw_below_drewN | apply below_drew1) | exact HB.out))); (case aF => exact (fun _ _ => trivial)); (case aO => exact (by (with_reducible repeat (first | apply Kd.R_alloc | apply Kd.R_drewN | apply Kd.R_drew)); exact HO154.out)); (case aS => exact (below_size (by repeat (first | (with_reducible first | exact HB.out | apply below_alloc | apply pw_below_drewN | apply below_drew1) | exact HB.out)))); (case aL => have := LMc7.out; omega); intro w11 ho hb hg hat; rw [← Ny155.out] at ho; have n0_ := Aside0.mk (Kd.R_over' (by (with_reducible repeat (first | apply Kd.R_alloc | apply Kd.R_drewN | apply Kd.R_drew)); exact HO151.out) (Kd.R_typed (by (with_reducible repeat (first | apply Kd.R_alloc | apply Kd.R_drewN | apply Kd.R_drew)); exact HO154.out)) (by decide) hg); have n1_ := Aside0.mk (hb); have n2_ := Aside0.mk (ho); clear HO151; clear HB; clear HO154; have HO151 := n0_; have HB := n1_; have HO156 := n2_; clear n0_ n1_ n2_; clear ho hb hg hat; obtain ⟨Ao12, co12, eo12⟩ := Kd.R_slice HO151.out; subst eo12))
          go_loopg [33] k (fun kq v33 w' => ∃ (x8_1 : List (S45)) (x33_1 : Int), v33 = .int .i64 x33_1 ∧ Aside0 (flip_Flip.l0 kq x8_1 t148 (t148.length : Int) x33_1 = some (r1, r2)) ∧ Aside0 (kq ≤ k) ∧ Aside0 (Kd.R k45 45 w' w.heap.size (fun _ => True) v153 x8_1) ∧ Aside0 (Kd.R (Kd.int .i64) 3 w' w.heap.size (fun _ => True) (.slice Ao12 t148.length co12) t148) ∧ Aside0 (Below w.heap.size w w'))
          case atStart => exact ⟨(y155), (0), (by first | rfl | (simp; done) | (simp [*]; done)), H', ⟨Nat.le_refl _⟩, ⟨by (with_reducible repeat (first | apply Kd.R_alloc | apply Kd.R_drewN | apply Kd.R_drew)); exact HO156.out⟩, ⟨by (with_reducible repeat (first | apply Kd.R_alloc | apply Kd.R_drewN | apply Kd.R_drew)); exact HO151.out⟩, ⟨by repeat (first | (with_reducible first | exact HB.out | apply below_alloc | apply pw_below_drewN | apply below_drew1) | exact HB.out)⟩⟩
          case round =>
            clear H'
            try clear c1
            try clear p2
            try clear c3
            try clear c3b0
            try clear c3b1
            try clear c5
            try clear c5b0
            try clear c5b1
            try clear c6
            try clear c6b0
            try clear c6b1
            try clear c7
            try clear c10
            try clear c11
            obtain ⟨x8_1, x33_1, rfl, HA, HK1, HO_8, HO_31, HB⟩ := hrel
            cases gk with
            | zero => exact absurd HA.out (by simp [flip_Flip.l0])
            | succ k1 =>
              have H := HA.out
              clear HA
              simp only [flip_Flip.l0] at H
              by_cases c13 : x33_1 < (t148.length : Int)
              · rw [if_pos c13] at H
                have c13b0 : decide (x33_1 < (t148.length : Int)) = true := decide_eq_true c13
                clear c13
                by_cases c14 : 0 ≤ x33_1
                · rw [if_pos c14] at H
                  have c14b0 : decide (0 ≤ x33_1) = true := decide_eq_true c14
                  clear c14
                  by_cases c15 : x33_1 < (t148.length : Int)
                  · rw [if_pos c15] at H
                    have c15b0 : decide (x33_1 < (t148.length : Int)) = true := decide_eq_true c15
                    clear c15
                    by_cases c16 : x33_1 < (rd t148 x33_1)
                    · rw [if_pos c16] at H
                      have c16b0 : decide (x33_1 < (rd t148 x33_1)) = true := decide_eq_true c16
                      clear c16
                      by_cases c17 : 0 ≤ (rd t148 x33_1)
                      · rw [if_pos c17] at H
                        have c17b0 : decide (0 ≤ (rd t148 x33_1)) = true := decide_eq_true c17
                        clear c17
                        by_cases c18 : (rd t148 x33_1) < (x8_1.length : Int)
                        · rw [if_pos c18] at H
                          have c18b0 : decide ((rd t148 x33_1) < (x8_1.length : Int)) = true := decide_eq_true c18
                          clear c18
                          by_cases c19 : x33_1 < (x8_1.length : Int)
                          · rw [if_pos c19] at H
                            have c19b0 : decide (x33_1 < (x8_1.length : Int)) = true := decide_eq_true c19
                            clear c19
                            obtain ⟨y160, hy160⟩ : ∃ y_ : List (S45), y_ = (x8_1.set (x33_1 : Int).toNat (⟨(rd_T45 x8_1 (rd t148 x33_1)).f0, (rd_T45 x8_1 (rd t148 x33_1)).f1⟩ : S45)) := ⟨_, rfl⟩
                            replace H : (flip_Flip.l0 k1 (y160.set ((rd t148 x33_1) : Int).toNat (⟨(rd_T45 x8_1 x33_1).f0, (rd_T45 x8_1 x33_1).f1⟩ : S45)) t148 (t148.length : Int) (wrap64 (x33_1 + 1))) = some (r1, r2) := by first | (rw [hy160]; with_reducible exact H) | (have H2_ := (Option.bind_some _ _).symm.trans H; rw [hy160]; with_reducible exact H2_) | (have H2_ := (Option.bind_some _ _).symm.trans H; with_reducible exact H2_) | with_reducible exact H | (rw [hy160]; exact H) | exact H
                            have Ny160 := Aside0.mk hy160
                            clear hy160
                            obtain ⟨y161, hy161⟩ : ∃ y_ : List (S45), y_ = (y160.set ((rd t148 x33_1) : Int).toNat (⟨(rd_T45 x8_1 x33_1).f0, (rd_T45 x8_1 x33_1).f1⟩ : S45)) := ⟨_, rfl⟩
                            replace H : (flip_Flip.l0 k1 y161 t148 (t148.length : Int) (wrap64 (x33_1 + 1))) = some (r1, r2) := by first | (rw [hy161]; with_reducible exact H) | (have H2_ := (Option.bind_some _ _).symm.trans H; rw [hy161]; with_reducible exact H2_) | (have H2_ := (Option.bind_some _ _).symm.trans H; with_reducible exact H2_) | with_reducible exact H | (rw [hy161]; exact H) | exact H
                            have Ny161 := Aside0.mk hy161
                            clear hy161
                            have H' := Aside0.mk H
                            clear H
                            have p157 : 0 ≤ (x33_1 : Int) := of_decide_eq_true (by first | (with_reducible assumption) | assumption)
                            have q157 : x33_1 < (t148.length : Int) := of_decide_eq_true (by first | (with_reducible assumption) | assumption)
                            obtain ⟨ad157, e157, hx157_0⟩ := Kd.at_int (Kd.R_reads' HO_31.out).2.2 x33_1 p157 q157
                            cases e157
                            replace p157 := eq_true p157
                            replace q157 := eq_true q157
                            try go_wp2
                            have n0_ := Aside0.mk (Kd.R_drew HO_8.out)
                            have n1_ := Aside0.mk (Kd.R_drew HO_31.out)
                            have n2_ := Aside0.mk (below_drew1 HB.out)
                            clear HO_8
                            clear HO_31
                            clear HB
                            have HO_8 := n0_
                            have HO_31 := n1_
                            have HB := n2_
                            clear n0_ n1_ n2_
                            obtain ⟨Ao23, co23, eo23⟩ := Kd.R_slice HO_8.out
                            (first | subst eo23 | (injection eo23 with f1_ f2_ f3_; have f4_ := f1_.symm; have f5_ := f3_.symm; clear f1_ f2_ f3_; subst f4_; subst f5_))
                            have p158 : 0 ≤ ((rd t148 x33_1) : Int) := of_decide_eq_true (by first | (with_reducible assumption) | assumption)
                            have q158 : (rd t148 x33_1) < (x8_1.length : Int) := of_decide_eq_true (by first | (with_reducible assumption) | assumption)
                            obtain ⟨ad158, e158, hx158_0, hx158_1⟩ := at_T45 (Kd.R_reads' HO_8.out).2.2 (rd t148 x33_1) p158 q158
                            cases e158
                            replace p158 := eq_true p158
                            replace q158 := eq_true q158
                            have p159 : 0 ≤ (x33_1 : Int) := of_decide_eq_true (by first | (with_reducible assumption) | assumption)
                            have q159 : x33_1 < (x8_1.length : Int) := of_decide_eq_true (by first | (with_reducible assumption) | assumption)
                            obtain ⟨ad159, e159, hx159_0, hx159_1⟩ := at_T45 (Kd.R_reads' HO_8.out).2.2 x33_1 p159 q159
                            obtain rfl : ad158 = ad159 := (by injection e159)
                            replace p159 := eq_true p159
                            replace q159 := eq_true q159
                            have p20 : 0 ≤ (x33_1 : Int) := of_decide_eq_true (by first | (with_reducible assumption) | assumption)
                            have q20 : (x33_1 : Int) < ((x8_1.length : Int) : Int) := of_decide_eq_true (by first | (with_reducible assumption) | assumption)
                            obtain ⟨go20, co20, eo20, gb20, gl20, cl20, HG20⟩ := Kd.R_form HO_8.out (by omega)
                            (first | cases eo20 | (injection eo20 with ea_ en_ ec_; (first | subst ea_ | (injection ea_ with ea_; subst ea_)); subst ec_; clear en_))
                            have GB20 := Aside0.mk gb20
                            have GG20 := Aside0.mk HG20
                            clear gb20 gl20 HG20
                            (first | simp only [add_plain] at hx158_0 | skip)
                            (first | simp only [add_plain] at hx158_1 | skip)
                            (first | simp only [add_plain] at hx159_0 | skip)
                            (first | simp only [add_plain] at hx159_1 | skip)
                            obtain ⟨ce20, hcl20, hM20, hcc20, hfr20⟩ := Kd.R_elem HO_8.out z45 (x33_1 : Int) p20 q20
                            obtain rfl := k45_openM hM20
                            have hx20_0 : World.cell? _ ⟨go20, (x33_1 : Int).toNat * 2, none⟩ = some (.int .i64 ((rd_T45 x8_1 x33_1).f0)) := hcc20 0 _ rfl
                            have hx20_1 : World.cell? _ ⟨go20, (x33_1 : Int).toNat * 2 + 1, none⟩ = some (.int .i64 ((rd_T45 x8_1 x33_1).f1)) := hcc20 1 _ rfl
                            have hf20_0 : World.frozen? _ ⟨go20, (x33_1 : Int).toNat * 2, none⟩ = false := hfr20 0
                            have hf20_1 : World.frozen? _ ⟨go20, (x33_1 : Int).toNat * 2 + 1, none⟩ = false := hfr20 1
                            clear hcl20 hcc20 hfr20 hM20
                            replace p20 := eq_true p20
                            replace q20 := eq_true q20
                            obtain ⟨ce24, hcl24, hM24, hcc24, hfr24⟩ := Kd.R_elem HO_8.out z45 (x33_1 : Int) (of_decide_eq_true (by first | (with_reducible assumption) | assumption)) (by have h_ : (x33_1 : Int) < ((x8_1.length : Int) : Int) := of_decide_eq_true (by first | (with_reducible assumption) | assumption); first | exact h_ | (have e_ := (Kd.R_reads' HO_8.out).1; omega) | simpa using h_)
                            obtain rfl := k45_openM hM24
                            have HP24 := (Kd.R_seg HO_8.out (x33_1 : Int) (of_decide_eq_true (by first | (with_reducible assumption) | assumption)) (by have h_ : (x33_1 : Int) < ((x8_1.length : Int) : Int) := of_decide_eq_true (by first | (with_reducible assumption) | assumption); first | exact h_ | (have e_ := (Kd.R_reads' HO_8.out).1; omega) | simpa using h_) (seg := [.int .i64 ((rd_T45 x8_1 (rd t148 x33_1)).f0), .int .i64 ((rd_T45 x8_1 (rd t148 x33_1)).f1)]) (j := 0) hcl24 hcc24 (show 2 ≤ 2 from by decide) (x' := (⟨(rd_T45 x8_1 (rd t148 x33_1)).f0, (rd_T45 x8_1 (rd t148 x33_1)).f1⟩ : S45)) (k45_mkM _ _ _ (⟨(rd_T45 x8_1 (rd t148 x33_1)).f0, (rd_T45 x8_1 (rd t148 x33_1)).f1⟩ : S45) ) (fun _ hk => hk)).1
                            rw [← Ny160.out] at HP24
                            have HQ24 := Aside0.mk HP24
                            clear hcl24 hcc24 hfr24 hM24 HP24
                            have p21 : 0 ≤ ((rd t148 x33_1) : Int) := of_decide_eq_true (by first | (with_reducible assumption) | assumption)
                            have q21 : ((rd t148 x33_1) : Int) < ((x8_1.length : Int) : Int) := of_decide_eq_true (by first | (with_reducible assumption) | assumption)
                            obtain ⟨ce21, hcl21, hM21, hcc21, hfr21⟩ := Kd.R_elem HQ24.out z45 ((rd t148 x33_1) : Int) p21 q21
                            obtain rfl := k45_openM hM21
                            have hx21_0 : World.cell? _ ⟨go20, ((rd t148 x33_1) : Int).toNat * 2, none⟩ = some (.int .i64 ((rd_T45 y160 (rd t148 x33_1)).f0)) := hcc21 0 _ rfl
                            have hx21_1 : World.cell? _ ⟨go20, ((rd t148 x33_1) : Int).toNat * 2 + 1, none⟩ = some (.int .i64 ((rd_T45 y160 (rd t148 x33_1)).f1)) := hcc21 1 _ rfl
                            have hf21_0 : World.frozen? _ ⟨go20, ((rd t148 x33_1) : Int).toNat * 2, none⟩ = false := hfr21 0
                            have hf21_1 : World.frozen? _ ⟨go20, ((rd t148 x33_1) : Int).toNat * 2 + 1, none⟩ = false := hfr21 1
                            clear hcl21 hcc21 hfr21 hM21
                            replace p21 := eq_true p21
                            replace q21 := eq_true q21
                            obtain ⟨ce25, hcl25, hM25, hcc25, hfr25⟩ := Kd.R_elem HQ24.out z45 ((rd t148 x33_1) : Int) (of_decide_eq_true (by first | (with_reducible assumption) | assumption)) (by have h_ : ((rd t148 x33_1) : Int) < ((x8_1.length : Int) : Int) := of_decide_eq_true (by first | (with_reducible assumption) | assumption); first | exact h_ | (have e_ := (Kd.R_reads' HO_8.out).1; omega) | simpa using h_)
                            obtain rfl := k45_openM hM25
                            have HP25 := (Kd.R_seg HQ24.out ((rd t148 x33_1) : Int) (of_decide_eq_true (by first | (with_reducible assumption) | assumption)) (by have h_ : ((rd t148 x33_1) : Int) < ((x8_1.length : Int) : Int) := of_decide_eq_true (by first | (with_reducible assumption) | assumption); first | exact h_ | (have e_ := (Kd.R_reads' HO_8.out).1; omega) | simpa using h_) (seg := [.int .i64 ((rd_T45 x8_1 x33_1).f0), .int .i64 ((rd_T45 x8_1 x33_1).f1)]) (j := 0) hcl25 hcc25 (show 2 ≤ 2 from by decide) (x' := (⟨(rd_T45 x8_1 x33_1).f0, (rd_T45 x8_1 x33_1).f1⟩ : S45)) (k45_mkM _ _ _ (⟨(rd_T45 x8_1 x33_1).f0, (rd_T45 x8_1 x33_1).f1⟩ : S45) ) (fun _ hk => hk)).1
                            rw [← Ny161.out] at HP25
                            have HQ25 := Aside0.mk HP25
                            clear hcl25 hcc25 hfr25 hM25 HP25
                            refine start_ (n := 16) (S := fun w' => w'.cell? ⟨go20, (((rd t148 x33_1)).toNat * 2), none⟩ = some (.int .i64 ((rd_T45 x8_1 (rd t148 x33_1)).f0)) ∧ w'.cell? ⟨go20, (((rd t148 x33_1)).toNat * 2) + 1, none⟩ = some (.int .i64 ((rd_T45 x8_1 (rd t148 x33_1)).f1)) ∧ w'.cell? ⟨go20, ((x33_1).toNat * 2), none⟩ = some (.int .i64 ((rd_T45 x8_1 x33_1).f0)) ∧ w'.cell? ⟨go20, ((x33_1).toNat * 2) + 1, none⟩ = some (.int .i64 ((rd_T45 x8_1 x33_1).f1))) (ds := [13, 15]) #[false, false, false, false, false, false, false, false, false, false, false, false, false, false, false, false] (by kernel_rfl) rfl rfl ⟨hx158_0, hx158_1, hx159_0, hx159_1⟩ (fun hHeld => ?_); refine with_tabW flip_Flip.tab11 flip_Flip.bits11 (fun HT_ HW_ => ?_)
                            generalize wr.drew = w22 at HO_8 HO_31 HB GG20 HQ24 HQ25 hf20_0 hf20_1 hf21_0 hf21_1 hx158_0 hx158_1 hx159_0 hx159_1 hx20_0 hx20_1 hx21_0 hx21_1 hHeld ⊢
                            refine pure_ (i := 0) (N := some 41) (v := ?_) (a' := ?_) #[true, false, false, false, false, false, false, false, false, false, false, false, false, false, false, false] rfl rfl (any_of HT_.out (by kernel_rfl)) (fun _ _ _ h => h) (Or.inl ⟨by rfl, ?_⟩) ?_ ?_
                            rotate_left
                            · intro w'
                              go_simp
                              with_reducible rfl
                            rotate_left
                            · simp only [Act.put, List.setIfInBounds_toArray, List.set_cons_zero, List.set_cons_succ, i64_w, i32_w]
                              rfl
                            refine pure_ (i := 1) (N := some 42) (v := ?_) (a' := ?_) #[true, true, false, false, false, false, false, false, false, false, false, false, false, false, false, false] rfl rfl (any_of HT_.out (by kernel_rfl)) (fun _ _ _ h => h) (Or.inl ⟨by rfl, ?_⟩) ?_ ?_
                            rotate_left
                            · intro w'
                              go_simp
                              with_reducible rfl
                            rotate_left
                            · simp only [Act.put, List.setIfInBounds_toArray, List.set_cons_zero, List.set_cons_succ, i64_w, i32_w]
                              rfl
                            refine pure_ (i := 2) (N := some 43) (v := ?_) (a' := ?_) #[true, true, true, false, false, false, false, false, false, false, false, false, false, false, false, false] rfl rfl (any_of HT_.out (by kernel_rfl)) (fun _ _ _ h => h) (Or.inl ⟨by rfl, ?_⟩) ?_ ?_
                            rotate_left
                            · intro w'
                              go_simp
                              with_reducible rfl
                            rotate_left
                            · simp only [Act.put, List.setIfInBounds_toArray, List.set_cons_zero, List.set_cons_succ, i64_w, i32_w]
                              rfl
                            refine pure_ (i := 3) (N := some 44) (v := ?_) (a' := ?_) #[true, true, true, true, false, false, false, false, false, false, false, false, false, false, false, false] rfl rfl (any_of HT_.out (by kernel_rfl)) (fun _ _ _ h => h) (Or.inl ⟨by rfl, ?_⟩) ?_ ?_
                            rotate_left
                            · intro w'
                              go_simp
                              with_reducible rfl
                            rotate_left
                            · simp only [Act.put, List.setIfInBounds_toArray, List.set_cons_zero, List.set_cons_succ, i64_w, i32_w]
                              rfl
                            refine pure_ (i := 4) (N := some 45) (v := ?_) (a' := ?_) #[true, true, true, true, true, false, false, false, false, false, false, false, false, false, false, false] rfl rfl (any_of HT_.out (by kernel_rfl)) (fun _ _ _ h => h) (Or.inl ⟨by rfl, ?_⟩) ?_ ?_
                            rotate_left
                            · intro w'
                              go_simp
                              with_reducible rfl
                            rotate_left
                            · simp only [Act.put, List.setIfInBounds_toArray, List.set_cons_zero, List.set_cons_succ, i64_w, i32_w]
                              rfl
                            refine pure_ (i := 5) (N := some 46) (v := ?_) (a' := ?_) #[true, true, true, true, true, true, false, false, false, false, false, false, false, false, false, false] rfl rfl (any_of HT_.out (by kernel_rfl)) (fun _ _ _ h => h) (Or.inl ⟨by rfl, ?_⟩) ?_ ?_
                            rotate_left
                            · intro w'
                              go_simp
                              with_reducible rfl
                            rotate_left
                            · simp only [Act.put, List.setIfInBounds_toArray, List.set_cons_zero, List.set_cons_succ, i64_w, i32_w]
                              rfl
                            refine pure_ (i := 6) (N := some 47) (v := ?_) (a' := ?_) #[true, true, true, true, true, true, true, false, false, false, false, false, false, false, false, false] rfl rfl (any_of HT_.out (by kernel_rfl)) (fun _ _ _ h => h) (Or.inl ⟨by rfl, ?_⟩) ?_ ?_
                            rotate_left
                            · intro w'
                              go_simp
                              with_reducible rfl
                            rotate_left
                            · simp only [Act.put, List.setIfInBounds_toArray, List.set_cons_zero, List.set_cons_succ, i64_w, i32_w]
                              rfl
                            refine pure_ (i := 8) (N := some 49) (v := ?_) (a' := ?_) #[true, true, true, true, true, true, true, false, true, false, false, false, false, false, false, false] rfl rfl (any_of HT_.out (by kernel_rfl)) (fun _ _ _ h => h) (Or.inl ⟨by rfl, ?_⟩) ?_ ?_
                            rotate_left
                            · intro w'
                              go_simp
                              with_reducible rfl
                            rotate_left
                            · simp only [Act.put, List.setIfInBounds_toArray, List.set_cons_zero, List.set_cons_succ, i64_w, i32_w]
                              rfl
                            refine pure_ (i := 9) (N := some 50) (v := ?_) (a' := ?_) #[true, true, true, true, true, true, true, false, true, true, false, false, false, false, false, false] rfl rfl (any_of HT_.out (by kernel_rfl)) (fun _ _ _ h => h) (Or.inl ⟨by rfl, ?_⟩) ?_ ?_
                            rotate_left
                            · intro w'
                              go_simp
                              with_reducible rfl
                            rotate_left
                            · simp only [Act.put, List.setIfInBounds_toArray, List.set_cons_zero, List.set_cons_succ, i64_w, i32_w]
                              rfl
                            refine pure_ (i := 10) (N := some 51) (v := ?_) (a' := ?_) #[true, true, true, true, true, true, true, false, true, true, true, false, false, false, false, false] rfl rfl (any_of HT_.out (by kernel_rfl)) (fun _ _ _ h => h) (Or.inl ⟨by rfl, ?_⟩) ?_ ?_
                            rotate_left
                            · intro w'
                              go_simp
                              with_reducible rfl
                            rotate_left
                            · simp only [Act.put, List.setIfInBounds_toArray, List.set_cons_zero, List.set_cons_succ, i64_w, i32_w]
                              rfl
                            refine take_ (i := 7) (N := some 48) (v := ?_) (a' := ?_) #[true, true, true, true, true, true, true, true, true, true, true, false, false, false, false, false] rfl rfl (take_ofW HT_.out HW_.out (by kernel_rfl)) (fun _ _ _ h => h) (Or.inl ⟨by rfl, ?_⟩) hHeld ?_ ?_
                            rotate_left
                            · rintro w' ⟨s0, s1, s2, s3⟩
                              go_simp
                              with_reducible rfl
                            rotate_left
                            · simp only [Act.put, List.setIfInBounds_toArray, List.set_cons_zero, List.set_cons_succ, i64_w, i32_w]
                              rfl
                            refine take_ (i := 11) (N := some 52) (v := ?_) (a' := ?_) #[true, true, true, true, true, true, true, true, true, true, true, true, false, false, false, false] rfl rfl (take_ofW HT_.out HW_.out (by kernel_rfl)) (fun _ _ _ h => h) (Or.inl ⟨by rfl, ?_⟩) hHeld ?_ ?_
                            rotate_left
                            · rintro w' ⟨s0, s1, s2, s3⟩
                              go_simp
                              with_reducible rfl
                            rotate_left
                            · simp only [Act.put, List.setIfInBounds_toArray, List.set_cons_zero, List.set_cons_succ, i64_w, i32_w]
                              rfl
                            refine pure_ (i := 12) (N := some 53) (v := ?_) (a' := ?_) #[true, true, true, true, true, true, true, true, true, true, true, true, true, false, false, false] rfl rfl (any_of HT_.out (by kernel_rfl)) (fun _ _ _ h => h) (Or.inl ⟨by rfl, ?_⟩) ?_ ?_
                            rotate_left
                            · intro w'
                              go_simp
                              with_reducible rfl
                            rotate_left
                            · simp only [Act.put, List.setIfInBounds_toArray, List.set_cons_zero, List.set_cons_succ, i64_w, i32_w]
                              rfl
                            refine last_ (i := 13) (N := none) #[true, true, true, true, true, true, true, true, true, true, true, true, true, true, false, false] rfl rfl (one_of HT_.out (by kernel_rfl)) (by decide) (fun K hK => ?_)
                            refine skip_ (w1 := ?_) (by rfl) rfl ?_ ?_
                            rotate_left
                            · go_simp
                              rfl
                            refine hK.out _ _ ?_
                            clear hK K
                            refine pure_ (i := 14) (N := some 54) (v := ?_) (a' := ?_) #[true, true, true, true, true, true, true, true, true, true, true, true, true, true, true, false] rfl rfl (any_of HT_.out (by kernel_rfl)) (fun _ _ _ h => h) (Or.inl ⟨by rfl, ?_⟩) ?_ ?_
                            rotate_left
                            · intro w'
                              go_simp
                              with_reducible rfl
                            rotate_left
                            · simp only [Act.put, List.setIfInBounds_toArray, List.set_cons_zero, List.set_cons_succ, i64_w, i32_w]
                              rfl
                            refine last_ (i := 15) (N := none) #[true, true, true, true, true, true, true, true, true, true, true, true, true, true, true, true] rfl rfl (one_of HT_.out (by kernel_rfl)) (by decide) (fun K hK => ?_)
                            refine skip_ (w1 := ?_) (by rfl) rfl ?_ ?_
                            rotate_left
                            · have hne_ : ¬ ((rd t148 x33_1).toNat = x33_1.toNat) := by have h_ : x33_1 < rd t148 x33_1 := of_decide_eq_true (by assumption); have h2_ : 0 ≤ x33_1 := of_decide_eq_true (by assumption); omega
                              have hne2_ : ¬ (x33_1.toNat = (rd t148 x33_1).toNat) := fun h_ => hne_ h_.symm
                              have hf3_ := hf21_0
                              have hf4_ := hf21_1
                              simp only [World.frozen?_setCells, World.frozen?_setCell] at hf3_ hf4_
                              go_simp
                              rfl
                            refine hK.out _ _ ?_
                            clear hK K
                            refine done_ (done_of HT_.out (by kernel_rfl)) ?_
                            try go_wp2
                            go_roundg k1
                            case measure => have := HK1.out; omega
                            case rel => exact ⟨(y161), (wrap64 (x33_1 + 1)), (by first | rfl | (simp; done) | (simp [*]; done)), H', ⟨by have := HK1.out; omega⟩, ⟨by (with_reducible repeat (first | apply Kd.R_alloc | apply Kd.R_drewN | apply Kd.R_drew)); exact HQ25.out⟩, ⟨by (with_reducible repeat (first | apply Kd.R_alloc | apply Kd.R_drewN | apply Kd.R_drew)); exact Kd.R_mono (Kd.R_far (p := ⟨go20, ((rd t148 x33_1) : Int).toNat * 2 + 1, none⟩) (Kd.R_far (p := ⟨go20, ((rd t148 x33_1) : Int).toNat * 2, none⟩) (Kd.R_far (p := ⟨go20, (x33_1 : Int).toNat * 2 + 1, none⟩) (Kd.R_far (p := ⟨go20, (x33_1 : Int).toNat * 2, none⟩) (Kd.R_types HO_31.out GG20.out (by decide)) (fun _ hk => hk.2) (.int .i64 ((rd_T45 x8_1 (rd t148 x33_1)).f0))) (fun _ hk => hk.2) (.int .i64 ((rd_T45 x8_1 (rd t148 x33_1)).f1))) (fun _ hk => hk.2) (.int .i64 ((rd_T45 x8_1 x33_1).f0))) (fun _ hk => hk.2) (.int .i64 ((rd_T45 x8_1 x33_1).f1))) (fun _ hk => trivial)⟩, ⟨by repeat (first | (with_reducible first | exact HB.out | apply below_alloc | apply pw_below_drewN | apply below_drew1 | refine below_set ?_ GB20.out | refine below_set ?_ GB20.out | refine below_set ?_ GB20.out | refine below_set ?_ GB20.out) | exact HB.out)⟩⟩
                          · rw [if_neg c19] at H
                            exact absurd H (by simp)
                        · rw [if_neg c18] at H
                          exact absurd H (by simp)
                      · rw [if_neg c17] at H
                        exact absurd H (by simp)
                    · rw [if_neg c16] at H
                      have c16b0 : decide (x33_1 < (rd t148 x33_1)) = false := decide_eq_false c16
                      clear c16
                      have H' := Aside0.mk H
                      clear H
                      have p157 : 0 ≤ (x33_1 : Int) := of_decide_eq_true (by first | (with_reducible assumption) | assumption)
                      have q157 : x33_1 < (t148.length : Int) := of_decide_eq_true (by first | (with_reducible assumption) | assumption)
                      obtain ⟨ad157, e157, hx157_0⟩ := Kd.at_int (Kd.R_reads' HO_31.out).2.2 x33_1 p157 q157
                      cases e157
                      replace p157 := eq_true p157
                      replace q157 := eq_true q157
                      go_wp2
                      go_roundg k1
                      case measure => have := HK1.out; omega
                      case rel => exact ⟨(x8_1), (wrap64 (x33_1 + 1)), (by first | rfl | (simp; done) | (simp [*]; done)), H', ⟨by have := HK1.out; omega⟩, ⟨by (with_reducible repeat (first | apply Kd.R_alloc | apply Kd.R_drewN | apply Kd.R_drew)); exact HO_8.out⟩, ⟨by (with_reducible repeat (first | apply Kd.R_alloc | apply Kd.R_drewN | apply Kd.R_drew)); exact HO_31.out⟩, ⟨by repeat (first | (with_reducible first | exact HB.out | apply below_alloc | apply pw_below_drewN | apply below_drew1) | exact HB.out)⟩⟩
                  · rw [if_neg c15] at H
                    exact absurd H (by simp)
                · rw [if_neg c14] at H
                  exact absurd H (by simp)
              · rw [if_neg c13] at H
                have c13b0 : decide (x33_1 < (t148.length : Int)) = false := decide_eq_false c13
                clear c13
                simp only [Option.some.injEq, Prod.mk.injEq] at H
                obtain ⟨rfl, rfl⟩ := H
                go_wp2
                go_ret2
                exact ⟨_, by first | rfl | (simp [errW_none, errW_some] <;> rfl) | (simp [*, errW_none, errW_some] <;> rfl), by (with_reducible repeat (first | apply Kd.R_alloc | apply Kd.R_drewN | apply Kd.R_drew)); exact HO_8.out, by repeat (first | (with_reducible first | exact HB.out | apply below_alloc | apply pw_below_drewN | apply below_drew1) | exact HB.out)⟩
        · rw [if_neg c7] at H
          exact absurd H (by simp)
      · rw [if_neg c6] at H
        exact absurd H (by simp)
    · rw [if_neg c5] at H
      exact absurd H (by simp)
  · rw [if_neg c3] at H
    have c3b0 : (t147 == 0) = false := beq_eq_false_iff_ne.mpr c3
    have c3b1 : (t147 != 0) = true := bne_iff_ne.mpr c3
    simp only [Option.some.injEq, Prod.mk.injEq] at H
    obtain ⟨rfl, rfl⟩ := H
    go_enter Try.func19, Try.ntmps19
    go_wp2_with (first | ((with_reducible refine gate_callee (f := 11) rfl ?_); refine goesL_ (some 14) rfl rfl Try.func11 (by kernel_rfl) rfl #[.int .i64 (l0.length : Int)] rfl (by (try simp only [List.map_toArray, List.map_cons, List.map_nil]); first | done | rfl | (simp only [List.length_drop, List.length_take]; rfl)) ?_; (with_reducible refine (flip_Log.calls k (l0.length : Int) t146 t147 _ A2.out).mono ?_); rintro e w' ⟨rfl, ⟨nd, rfl⟩⟩; refine ⟨_, rfl, ?_⟩))
    go_ret2
    exact ⟨_, by first | rfl | (simp [errW_none, errW_some] <;> rfl) | (simp [*, errW_none, errW_some] <;> rfl), by first | exact Kd.R_nil _ _ _ _ _ | exact Kd.N_nil _ _ _ _ _ | exact Kd.V_nil _ _ _ _ _ | exact Kd.Q_nil _ _ _ _ _ | exact Kd.S_nil _ _ _ _ _, by repeat (first | (with_reducible first | exact HB.out | apply below_alloc | apply pw_below_drewN | apply below_drew1) | exact HB.out)⟩

end Go.Proofs.Ytajgpilcbaoneaa.P
