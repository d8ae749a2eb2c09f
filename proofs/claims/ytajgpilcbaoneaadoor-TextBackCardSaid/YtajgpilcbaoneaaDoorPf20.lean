-- Printed for this claim by drive.py (a program of this session's) through the kit's print program; not trusted: Lean checks it.
import Derived.Test.YtajgpilcbaoneaaDoorP0
namespace Go.Proofs.YtajgpilcbaoneaaDoor.P
open Go.RowKit Go.Proofs.YtajgpilcbaoneaaDoorW.PrintWords Go.Proofs.YtajgpilcbaoneaaDoorW.PrintLast Go.Proofs.YtajgpilcbaoneaaDoorW.PrintMore
attribute [local go_sem] max2_int min2_int max_two min_two max_three min_three max_four min_four   -- for this text's walks alone
set_option linter.unusedVariables false
set_option linter.unusedSimpArgs false

/-! ### headroomref24_May: function 20 -/
def headroomref24_May.f (a0 : Int) : Option (List ByteArray) := if a0 = 0 then (some (([(⟨#[113, 49, 53]⟩ : ByteArray), (⟨#[113, 51, 49]⟩ : ByteArray)] : List ByteArray))) else (if a0 = 1 then (some (([(⟨#[52]⟩ : ByteArray), (⟨#[56]⟩ : ByteArray), (⟨#[49, 54]⟩ : ByteArray), (⟨#[51, 50]⟩ : ByteArray), (⟨#[54, 52]⟩ : ByteArray)] : List ByteArray))) else (if a0 = 2 then (some (([(⟨#[116, 119, 111]⟩ : ByteArray), (⟨#[102, 111, 117, 114]⟩ : ByteArray), (⟨#[115, 112, 108, 105, 116]⟩ : ByteArray)] : List ByteArray))) else (if a0 = 3 then (some (([(⟨#[104, 97, 108, 102]⟩ : ByteArray), (⟨#[98, 108, 111, 99, 107]⟩ : ByteArray), (⟨#[110, 111, 110, 101]⟩ : ByteArray)] : List ByteArray))) else (if a0 = 4 then (some (([(⟨#[102, 108, 111, 111, 114]⟩ : ByteArray), (⟨#[117, 112]⟩ : ByteArray), (⟨#[101, 118, 101, 110]⟩ : ByteArray)] : List ByteArray))) else (if a0 = 5 then (some (([(⟨#[102, 111, 114, 119, 97, 114, 100]⟩ : ByteArray), (⟨#[105, 110, 118, 101, 114, 115, 101]⟩ : ByteArray)] : List ByteArray))) else (some (([] : List ByteArray))))))))
set_option maxHeartbeats 8000000 in
set_option maxRecDepth 100000 in
theorem headroomref24_May.calls (a0 : Int) (r : List ByteArray) (w : World) (h : headroomref24_May.f a0 = some r) :
    Calls Tryd.prog 20 #[.int .i64 a0] w fun e w' => ∃ v0_ : Value, e = .returned (v0_) ∧ Kd.R Kd.string 9 w' w.heap.size (fun _ => True) v0_ r ∧ Below w.heap.size w w' := by
  have HB := Aside0.mk (Below.refl w.heap.size w)
  have H : (if a0 = 0 then (some (([(⟨#[113, 49, 53]⟩ : ByteArray), (⟨#[113, 51, 49]⟩ : ByteArray)] : List ByteArray))) else (if a0 = 1 then (some (([(⟨#[52]⟩ : ByteArray), (⟨#[56]⟩ : ByteArray), (⟨#[49, 54]⟩ : ByteArray), (⟨#[51, 50]⟩ : ByteArray), (⟨#[54, 52]⟩ : ByteArray)] : List ByteArray))) else (if a0 = 2 then (some (([(⟨#[116, 119, 111]⟩ : ByteArray), (⟨#[102, 111, 117, 114]⟩ : ByteArray), (⟨#[115, 112, 108, 105, 116]⟩ : ByteArray)] : List ByteArray))) else (if a0 = 3 then (some (([(⟨#[104, 97, 108, 102]⟩ : ByteArray), (⟨#[98, 108, 111, 99, 107]⟩ : ByteArray), (⟨#[110, 111, 110, 101]⟩ : ByteArray)] : List ByteArray))) else (if a0 = 4 then (some (([(⟨#[102, 108, 111, 111, 114]⟩ : ByteArray), (⟨#[117, 112]⟩ : ByteArray), (⟨#[101, 118, 101, 110]⟩ : ByteArray)] : List ByteArray))) else (if a0 = 5 then (some (([(⟨#[102, 111, 114, 119, 97, 114, 100]⟩ : ByteArray), (⟨#[105, 110, 118, 101, 114, 115, 101]⟩ : ByteArray)] : List ByteArray))) else (some (([] : List ByteArray))))))))) = some r := h
  clear h
  by_cases c2 : a0 = 0
  · rw [if_pos c2] at H
    have c2b0 : (a0 == 0) = true := beq_iff_eq.mpr c2
    have c2b1 : (a0 != 0) = false := bne_eq_false_iff_eq.mpr c2
    clear c2
    obtain ⟨y147, hy147⟩ : ∃ y_ : List ByteArray, y_ = (([(⟨#[113, 49, 53]⟩ : ByteArray), (⟨#[113, 51, 49]⟩ : ByteArray)] : List ByteArray)) := ⟨_, rfl⟩
    replace H : (some y147) = some r := by first | (rw [hy147]; with_reducible exact H) | (have H2_ := (Option.bind_some _ _).symm.trans H; rw [hy147]; with_reducible exact H2_) | (have H2_ := (Option.bind_some _ _).symm.trans H; with_reducible exact H2_) | with_reducible exact H | (rw [hy147]; exact H) | exact H
    have Ny147 := Aside0.mk hy147
    clear hy147
    obtain rfl := Option.some.inj H
    go_enter Tryd.func20, Tryd.ntmps20
    go_wp2_with (first | ((with_reducible refine gate_dst (N := 5) rfl ?_); refine Kd.R_lit Kd.string _ 9 ?hg (N := 5) ?hd (xs := ([(⟨#[113, 49, 53]⟩ : ByteArray), (⟨#[113, 51, 49]⟩ : ByteArray)] : List ByteArray)) (inner := [.string (⟨#[113, 49, 53]⟩ : ByteArray), .string (⟨#[113, 51, 49]⟩ : ByteArray)]) (ok := fun _ => True) (okp := fun _ => True) ?hr ?hp (fun _ hk => hk) trivial (Below.refl _ _) (Nat.le_refl _) (by simp) ?_; (case hd => rfl); (case hg => rfl); (case hr => first | (go_simp; done) | (go_simp; rfl)); (case hp => exact (Reps.one (show Kd.M Kd.string _ _ _ (⟨#[113, 49, 53]⟩ : ByteArray) [.string (⟨#[113, 49, 53]⟩ : ByteArray)] from rfl) (Reps.one (show Kd.M Kd.string _ _ _ (⟨#[113, 51, 49]⟩ : ByteArray) [.string (⟨#[113, 51, 49]⟩ : ByteArray)] from rfl) (Reps.none _ _)))); intro v148 w3 ho4 hb hg_ hnew_; clear hg_ hnew_; (first | rw [← Ny147.out] at ho4 | (simp only [Int.reduceToNat] at ho4; rw [← Ny147.out] at ho4)); have n0_ := Aside0.mk (Kd.R_lower ho4 (below_size (by repeat (first | (with_reducible first | exact HB.out | apply below_alloc | apply pw_below_drewN | apply below_drew1) | exact HB.out)))); have n1_ := Aside0.mk (below_step (by repeat (first | (with_reducible first | exact HB.out | apply below_alloc | apply pw_below_drewN | apply below_drew1) | exact HB.out)) hb); clear HB; have HO149 := n0_; have HB := n1_; clear n0_ n1_; clear hb ho4))
    go_ret
    exact ⟨_, by first | rfl | (simp [errW_none, errW_some] <;> rfl) | (simp [*, errW_none, errW_some] <;> rfl), by (with_reducible repeat (first | apply Kd.R_alloc | apply Kd.R_drewN | apply Kd.R_drew)); exact HO149.out, by repeat (first | (with_reducible first | exact HB.out | apply below_alloc | apply pw_below_drewN | apply below_drew1) | exact HB.out)⟩
  · rw [if_neg c2] at H
    have c2b0 : (a0 == 0) = false := beq_eq_false_iff_ne.mpr c2
    have c2b1 : (a0 != 0) = true := bne_iff_ne.mpr c2
    by_cases c5 : a0 = 1
    · rw [if_pos c5] at H
      have c5b0 : (a0 == 1) = true := beq_iff_eq.mpr c5
      have c5b1 : (a0 != 1) = false := bne_eq_false_iff_eq.mpr c5
      clear c5
      obtain ⟨y150, hy150⟩ : ∃ y_ : List ByteArray, y_ = (([(⟨#[52]⟩ : ByteArray), (⟨#[56]⟩ : ByteArray), (⟨#[49, 54]⟩ : ByteArray), (⟨#[51, 50]⟩ : ByteArray), (⟨#[54, 52]⟩ : ByteArray)] : List ByteArray)) := ⟨_, rfl⟩
      replace H : (some y150) = some r := by first | (rw [hy150]; with_reducible exact H) | (have H2_ := (Option.bind_some _ _).symm.trans H; rw [hy150]; with_reducible exact H2_) | (have H2_ := (Option.bind_some _ _).symm.trans H; with_reducible exact H2_) | with_reducible exact H | (rw [hy150]; exact H) | exact H
      have Ny150 := Aside0.mk hy150
      clear hy150
      obtain rfl := Option.some.inj H
      go_enter Tryd.func20, Tryd.ntmps20
      go_wp2_with (first | ((with_reducible refine gate_dst (N := 8) rfl ?_); refine Kd.R_lit Kd.string _ 9 ?hg (N := 8) ?hd (xs := ([(⟨#[52]⟩ : ByteArray), (⟨#[56]⟩ : ByteArray), (⟨#[49, 54]⟩ : ByteArray), (⟨#[51, 50]⟩ : ByteArray), (⟨#[54, 52]⟩ : ByteArray)] : List ByteArray)) (inner := [.string (⟨#[52]⟩ : ByteArray), .string (⟨#[56]⟩ : ByteArray), .string (⟨#[49, 54]⟩ : ByteArray), .string (⟨#[51, 50]⟩ : ByteArray), .string (⟨#[54, 52]⟩ : ByteArray)]) (ok := fun _ => True) (okp := fun _ => True) ?hr ?hp (fun _ hk => hk) trivial (Below.refl _ _) (Nat.le_refl _) (by simp) ?_; (case hd => rfl); (case hg => rfl); (case hr => first | (go_simp; done) | (go_simp; rfl)); (case hp => exact (Reps.one (show Kd.M Kd.string _ _ _ (⟨#[52]⟩ : ByteArray) [.string (⟨#[52]⟩ : ByteArray)] from rfl) (Reps.one (show Kd.M Kd.string _ _ _ (⟨#[56]⟩ : ByteArray) [.string (⟨#[56]⟩ : ByteArray)] from rfl) (Reps.one (show Kd.M Kd.string _ _ _ (⟨#[49, 54]⟩ : ByteArray) [.string (⟨#[49, 54]⟩ : ByteArray)] from rfl) (Reps.one (show Kd.M Kd.string _ _ _ (⟨#[51, 50]⟩ : ByteArray) [.string (⟨#[51, 50]⟩ : ByteArray)] from rfl) (Reps.one (show Kd.M Kd.string _ _ _ (⟨#[54, 52]⟩ : ByteArray) [.string (⟨#[54, 52]⟩ : ByteArray)] from rfl) (Reps.none _ _))))))); intro v151 w6 ho7 hb hg_ hnew_; clear hg_ hnew_; (first | rw [← Ny150.out] at ho7 | (simp only [Int.reduceToNat] at ho7; rw [← Ny150.out] at ho7)); have n0_ := Aside0.mk (Kd.R_lower ho7 (below_size (by repeat (first | (with_reducible first | exact HB.out | apply below_alloc | apply pw_below_drewN | apply below_drew1) | exact HB.out)))); have n1_ := Aside0.mk (below_step (by repeat (first | (with_reducible first | exact HB.out | apply below_alloc | apply pw_below_drewN | apply below_drew1) | exact HB.out)) hb); clear HB; have HO152 := n0_; have HB := n1_; clear n0_ n1_; clear hb ho7))
      go_ret
      exact ⟨_, by first | rfl | (simp [errW_none, errW_some] <;> rfl) | (simp [*, errW_none, errW_some] <;> rfl), by (with_reducible repeat (first | apply Kd.R_alloc | apply Kd.R_drewN | apply Kd.R_drew)); exact HO152.out, by repeat (first | (with_reducible first | exact HB.out | apply below_alloc | apply pw_below_drewN | apply below_drew1) | exact HB.out)⟩
    · rw [if_neg c5] at H
      have c5b0 : (a0 == 1) = false := beq_eq_false_iff_ne.mpr c5
      have c5b1 : (a0 != 1) = true := bne_iff_ne.mpr c5
      by_cases c8 : a0 = 2
      · rw [if_pos c8] at H
        have c8b0 : (a0 == 2) = true := beq_iff_eq.mpr c8
        have c8b1 : (a0 != 2) = false := bne_eq_false_iff_eq.mpr c8
        clear c8
        obtain ⟨y153, hy153⟩ : ∃ y_ : List ByteArray, y_ = (([(⟨#[116, 119, 111]⟩ : ByteArray), (⟨#[102, 111, 117, 114]⟩ : ByteArray), (⟨#[115, 112, 108, 105, 116]⟩ : ByteArray)] : List ByteArray)) := ⟨_, rfl⟩
        replace H : (some y153) = some r := by first | (rw [hy153]; with_reducible exact H) | (have H2_ := (Option.bind_some _ _).symm.trans H; rw [hy153]; with_reducible exact H2_) | (have H2_ := (Option.bind_some _ _).symm.trans H; with_reducible exact H2_) | with_reducible exact H | (rw [hy153]; exact H) | exact H
        have Ny153 := Aside0.mk hy153
        clear hy153
        obtain rfl := Option.some.inj H
        go_enter Tryd.func20, Tryd.ntmps20
        go_wp2_with (first | ((with_reducible refine gate_dst (N := 11) rfl ?_); refine Kd.R_lit Kd.string _ 9 ?hg (N := 11) ?hd (xs := ([(⟨#[116, 119, 111]⟩ : ByteArray), (⟨#[102, 111, 117, 114]⟩ : ByteArray), (⟨#[115, 112, 108, 105, 116]⟩ : ByteArray)] : List ByteArray)) (inner := [.string (⟨#[116, 119, 111]⟩ : ByteArray), .string (⟨#[102, 111, 117, 114]⟩ : ByteArray), .string (⟨#[115, 112, 108, 105, 116]⟩ : ByteArray)]) (ok := fun _ => True) (okp := fun _ => True) ?hr ?hp (fun _ hk => hk) trivial (Below.refl _ _) (Nat.le_refl _) (by simp) ?_; (case hd => rfl); (case hg => rfl); (case hr => first | (go_simp; done) | (go_simp; rfl)); (case hp => exact (Reps.one (show Kd.M Kd.string _ _ _ (⟨#[116, 119, 111]⟩ : ByteArray) [.string (⟨#[116, 119, 111]⟩ : ByteArray)] from rfl) (Reps.one (show Kd.M Kd.string _ _ _ (⟨#[102, 111, 117, 114]⟩ : ByteArray) [.string (⟨#[102, 111, 117, 114]⟩ : ByteArray)] from rfl) (Reps.one (show Kd.M Kd.string _ _ _ (⟨#[115, 112, 108, 105, 116]⟩ : ByteArray) [.string (⟨#[115, 112, 108, 105, 116]⟩ : ByteArray)] from rfl) (Reps.none _ _))))); intro v154 w9 ho10 hb hg_ hnew_; clear hg_ hnew_; (first | rw [← Ny153.out] at ho10 | (simp only [Int.reduceToNat] at ho10; rw [← Ny153.out] at ho10)); have n0_ := Aside0.mk (Kd.R_lower ho10 (below_size (by repeat (first | (with_reducible first | exact HB.out | apply below_alloc | apply pw_below_drewN | apply below_drew1) | exact HB.out)))); have n1_ := Aside0.mk (below_step (by repeat (first | (with_reducible first | exact HB.out | apply below_alloc | apply pw_below_drewN | apply below_drew1) | exact HB.out)) hb); clear HB; have HO155 := n0_; have HB := n1_; clear n0_ n1_; clear hb ho10))
        go_ret
        exact ⟨_, by first | rfl | (simp [errW_none, errW_some] <;> rfl) | (simp [*, errW_none, errW_some] <;> rfl), by (with_reducible repeat (first | apply Kd.R_alloc | apply Kd.R_drewN | apply Kd.R_drew)); exact HO155.out, by repeat (first | (with_reducible first | exact HB.out | apply below_alloc | apply pw_below_drewN | apply below_drew1) | exact HB.out)⟩
      · rw [if_neg c8] at H
        have c8b0 : (a0 == 2) = false := beq_eq_false_iff_ne.mpr c8
        have c8b1 : (a0 != 2) = true := bne_iff_ne.mpr c8
        by_cases c11 : a0 = 3
        · rw [if_pos c11] at H
          have c11b0 : (a0 == 3) = true := beq_iff_eq.mpr c11
          have c11b1 : (a0 != 3) = false := bne_eq_false_iff_eq.mpr c11
          clear c11
          obtain ⟨y156, hy156⟩ : ∃ y_ : List ByteArray, y_ = (([(⟨#[104, 97, 108, 102]⟩ : ByteArray), (⟨#[98, 108, 111, 99, 107]⟩ : ByteArray), (⟨#[110, 111, 110, 101]⟩ : ByteArray)] : List ByteArray)) := ⟨_, rfl⟩
          replace H : (some y156) = some r := by first | (rw [hy156]; with_reducible exact H) | (have H2_ := (Option.bind_some _ _).symm.trans H; rw [hy156]; with_reducible exact H2_) | (have H2_ := (Option.bind_some _ _).symm.trans H; with_reducible exact H2_) | with_reducible exact H | (rw [hy156]; exact H) | exact H
          have Ny156 := Aside0.mk hy156
          clear hy156
          obtain rfl := Option.some.inj H
          go_enter Tryd.func20, Tryd.ntmps20
          go_wp2_with (first | ((with_reducible refine gate_dst (N := 14) rfl ?_); refine Kd.R_lit Kd.string _ 9 ?hg (N := 14) ?hd (xs := ([(⟨#[104, 97, 108, 102]⟩ : ByteArray), (⟨#[98, 108, 111, 99, 107]⟩ : ByteArray), (⟨#[110, 111, 110, 101]⟩ : ByteArray)] : List ByteArray)) (inner := [.string (⟨#[104, 97, 108, 102]⟩ : ByteArray), .string (⟨#[98, 108, 111, 99, 107]⟩ : ByteArray), .string (⟨#[110, 111, 110, 101]⟩ : ByteArray)]) (ok := fun _ => True) (okp := fun _ => True) ?hr ?hp (fun _ hk => hk) trivial (Below.refl _ _) (Nat.le_refl _) (by simp) ?_; (case hd => rfl); (case hg => rfl); (case hr => first | (go_simp; done) | (go_simp; rfl)); (case hp => exact (Reps.one (show Kd.M Kd.string _ _ _ (⟨#[104, 97, 108, 102]⟩ : ByteArray) [.string (⟨#[104, 97, 108, 102]⟩ : ByteArray)] from rfl) (Reps.one (show Kd.M Kd.string _ _ _ (⟨#[98, 108, 111, 99, 107]⟩ : ByteArray) [.string (⟨#[98, 108, 111, 99, 107]⟩ : ByteArray)] from rfl) (Reps.one (show Kd.M Kd.string _ _ _ (⟨#[110, 111, 110, 101]⟩ : ByteArray) [.string (⟨#[110, 111, 110, 101]⟩ : ByteArray)] from rfl) (Reps.none _ _))))); intro v157 w12 ho13 hb hg_ hnew_; clear hg_ hnew_; (first | rw [← Ny156.out] at ho13 | (simp only [Int.reduceToNat] at ho13; rw [← Ny156.out] at ho13)); have n0_ := Aside0.mk (Kd.R_lower ho13 (below_size (by repeat (first | (with_reducible first | exact HB.out | apply below_alloc | apply pw_below_drewN | apply below_drew1) | exact HB.out)))); have n1_ := Aside0.mk (below_step (by repeat (first | (with_reducible first | exact HB.out | apply below_alloc | apply pw_below_drewN | apply below_drew1) | exact HB.out)) hb); clear HB; have HO158 := n0_; have HB := n1_; clear n0_ n1_; clear hb ho13))
          go_ret
          exact ⟨_, by first | rfl | (simp [errW_none, errW_some] <;> rfl) | (simp [*, errW_none, errW_some] <;> rfl), by (with_reducible repeat (first | apply Kd.R_alloc | apply Kd.R_drewN | apply Kd.R_drew)); exact HO158.out, by repeat (first | (with_reducible first | exact HB.out | apply below_alloc | apply pw_below_drewN | apply below_drew1) | exact HB.out)⟩
        · rw [if_neg c11] at H
          have c11b0 : (a0 == 3) = false := beq_eq_false_iff_ne.mpr c11
          have c11b1 : (a0 != 3) = true := bne_iff_ne.mpr c11
          by_cases c14 : a0 = 4
          · rw [if_pos c14] at H
            have c14b0 : (a0 == 4) = true := beq_iff_eq.mpr c14
            have c14b1 : (a0 != 4) = false := bne_eq_false_iff_eq.mpr c14
            clear c14
            obtain ⟨y159, hy159⟩ : ∃ y_ : List ByteArray, y_ = (([(⟨#[102, 108, 111, 111, 114]⟩ : ByteArray), (⟨#[117, 112]⟩ : ByteArray), (⟨#[101, 118, 101, 110]⟩ : ByteArray)] : List ByteArray)) := ⟨_, rfl⟩
            replace H : (some y159) = some r := by first | (rw [hy159]; with_reducible exact H) | (have H2_ := (Option.bind_some _ _).symm.trans H; rw [hy159]; with_reducible exact H2_) | (have H2_ := (Option.bind_some _ _).symm.trans H; with_reducible exact H2_) | with_reducible exact H | (rw [hy159]; exact H) | exact H
            have Ny159 := Aside0.mk hy159
            clear hy159
            obtain rfl := Option.some.inj H
            go_enter Tryd.func20, Tryd.ntmps20
            go_wp2_with (first | ((with_reducible refine gate_dst (N := 17) rfl ?_); refine Kd.R_lit Kd.string _ 9 ?hg (N := 17) ?hd (xs := ([(⟨#[102, 108, 111, 111, 114]⟩ : ByteArray), (⟨#[117, 112]⟩ : ByteArray), (⟨#[101, 118, 101, 110]⟩ : ByteArray)] : List ByteArray)) (inner := [.string (⟨#[102, 108, 111, 111, 114]⟩ : ByteArray), .string (⟨#[117, 112]⟩ : ByteArray), .string (⟨#[101, 118, 101, 110]⟩ : ByteArray)]) (ok := fun _ => True) (okp := fun _ => True) ?hr ?hp (fun _ hk => hk) trivial (Below.refl _ _) (Nat.le_refl _) (by simp) ?_; (case hd => rfl); (case hg => rfl); (case hr => first | (go_simp; done) | (go_simp; rfl)); (case hp => exact (Reps.one (show Kd.M Kd.string _ _ _ (⟨#[102, 108, 111, 111, 114]⟩ : ByteArray) [.string (⟨#[102, 108, 111, 111, 114]⟩ : ByteArray)] from rfl) (Reps.one (show Kd.M Kd.string _ _ _ (⟨#[117, 112]⟩ : ByteArray) [.string (⟨#[117, 112]⟩ : ByteArray)] from rfl) (Reps.one (show Kd.M Kd.string _ _ _ (⟨#[101, 118, 101, 110]⟩ : ByteArray) [.string (⟨#[101, 118, 101, 110]⟩ : ByteArray)] from rfl) (Reps.none _ _))))); intro v160 w15 ho16 hb hg_ hnew_; clear hg_ hnew_; (first | rw [← Ny159.out] at ho16 | (simp only [Int.reduceToNat] at ho16; rw [← Ny159.out] at ho16)); have n0_ := Aside0.mk (Kd.R_lower ho16 (below_size (by repeat (first | (with_reducible first | exact HB.out | apply below_alloc | apply pw_below_drewN | apply below_drew1) | exact HB.out)))); have n1_ := Aside0.mk (below_step (by repeat (first | (with_reducible first | exact HB.out | apply below_alloc | apply pw_below_drewN | apply below_drew1) | exact HB.out)) hb); clear HB; have HO161 := n0_; have HB := n1_; clear n0_ n1_; clear hb ho16))
            go_ret
            exact ⟨_, by first | rfl | (simp [errW_none, errW_some] <;> rfl) | (simp [*, errW_none, errW_some] <;> rfl), by (with_reducible repeat (first | apply Kd.R_alloc | apply Kd.R_drewN | apply Kd.R_drew)); exact HO161.out, by repeat (first | (with_reducible first | exact HB.out | apply below_alloc | apply pw_below_drewN | apply below_drew1) | exact HB.out)⟩
          · rw [if_neg c14] at H
            have c14b0 : (a0 == 4) = false := beq_eq_false_iff_ne.mpr c14
            have c14b1 : (a0 != 4) = true := bne_iff_ne.mpr c14
            by_cases c17 : a0 = 5
            · rw [if_pos c17] at H
              have c17b0 : (a0 == 5) = true := beq_iff_eq.mpr c17
              have c17b1 : (a0 != 5) = false := bne_eq_false_iff_eq.mpr c17
              clear c17
              obtain ⟨y162, hy162⟩ : ∃ y_ : List ByteArray, y_ = (([(⟨#[102, 111, 114, 119, 97, 114, 100]⟩ : ByteArray), (⟨#[105, 110, 118, 101, 114, 115, 101]⟩ : ByteArray)] : List ByteArray)) := ⟨_, rfl⟩
              replace H : (some y162) = some r := by first | (rw [hy162]; with_reducible exact H) | (have H2_ := (Option.bind_some _ _).symm.trans H; rw [hy162]; with_reducible exact H2_) | (have H2_ := (Option.bind_some _ _).symm.trans H; with_reducible exact H2_) | with_reducible exact H | (rw [hy162]; exact H) | exact H
              have Ny162 := Aside0.mk hy162
              clear hy162
              obtain rfl := Option.some.inj H
              go_enter Tryd.func20, Tryd.ntmps20
              go_wp2_with (first | ((with_reducible refine gate_dst (N := 20) rfl ?_); refine Kd.R_lit Kd.string _ 9 ?hg (N := 20) ?hd (xs := ([(⟨#[102, 111, 114, 119, 97, 114, 100]⟩ : ByteArray), (⟨#[105, 110, 118, 101, 114, 115, 101]⟩ : ByteArray)] : List ByteArray)) (inner := [.string (⟨#[102, 111, 114, 119, 97, 114, 100]⟩ : ByteArray), .string (⟨#[105, 110, 118, 101, 114, 115, 101]⟩ : ByteArray)]) (ok := fun _ => True) (okp := fun _ => True) ?hr ?hp (fun _ hk => hk) trivial (Below.refl _ _) (Nat.le_refl _) (by simp) ?_; (case hd => rfl); (case hg => rfl); (case hr => first | (go_simp; done) | (go_simp; rfl)); (case hp => exact (Reps.one (show Kd.M Kd.string _ _ _ (⟨#[102, 111, 114, 119, 97, 114, 100]⟩ : ByteArray) [.string (⟨#[102, 111, 114, 119, 97, 114, 100]⟩ : ByteArray)] from rfl) (Reps.one (show Kd.M Kd.string _ _ _ (⟨#[105, 110, 118, 101, 114, 115, 101]⟩ : ByteArray) [.string (⟨#[105, 110, 118, 101, 114, 115, 101]⟩ : ByteArray)] from rfl) (Reps.none _ _)))); intro v163 w18 ho19 hb hg_ hnew_; clear hg_ hnew_; (first | rw [← Ny162.out] at ho19 | (simp only [Int.reduceToNat] at ho19; rw [← Ny162.out] at ho19)); have n0_ := Aside0.mk (Kd.R_lower ho19 (below_size (by repeat (first | (with_reducible first | exact HB.out | apply below_alloc | apply pw_below_drewN | apply below_drew1) | exact HB.out)))); have n1_ := Aside0.mk (below_step (by repeat (first | (with_reducible first | exact HB.out | apply below_alloc | apply pw_below_drewN | apply below_drew1) | exact HB.out)) hb); clear HB; have HO164 := n0_; have HB := n1_; clear n0_ n1_; clear hb ho19))
              go_ret
              exact ⟨_, by first | rfl | (simp [errW_none, errW_some] <;> rfl) | (simp [*, errW_none, errW_some] <;> rfl), by (with_reducible repeat (first | apply Kd.R_alloc | apply Kd.R_drewN | apply Kd.R_drew)); exact HO164.out, by repeat (first | (with_reducible first | exact HB.out | apply below_alloc | apply pw_below_drewN | apply below_drew1) | exact HB.out)⟩
            · rw [if_neg c17] at H
              have c17b0 : (a0 == 5) = false := beq_eq_false_iff_ne.mpr c17
              have c17b1 : (a0 != 5) = true := bne_iff_ne.mpr c17
              obtain ⟨y165, hy165⟩ : ∃ y_ : List ByteArray, y_ = (([] : List ByteArray)) := ⟨_, rfl⟩
              replace H : (some y165) = some r := by first | (rw [hy165]; with_reducible exact H) | (have H2_ := (Option.bind_some _ _).symm.trans H; rw [hy165]; with_reducible exact H2_) | (have H2_ := (Option.bind_some _ _).symm.trans H; with_reducible exact H2_) | with_reducible exact H | (rw [hy165]; exact H) | exact H
              have Ny165 := Aside0.mk hy165
              clear hy165
              obtain rfl := Option.some.inj H
              go_enter Tryd.func20, Tryd.ntmps20
              go_wp2_with (first | ((with_reducible refine gate_dst (N := 21) rfl ?_); refine Kd.R_lit Kd.string _ 9 ?hg (N := 21) ?hd (xs := ([] : List ByteArray)) (inner := []) (ok := fun _ => True) (okp := fun _ => True) ?hr ?hp (fun _ hk => hk) trivial (Below.refl _ _) (Nat.le_refl _) (by simp) ?_; (case hd => rfl); (case hg => rfl); (case hr => first | (go_simp; done) | (go_simp; rfl)); (case hp => exact (Reps.none _ _)); intro v166 w20 ho21 hb hg_ hnew_; clear hg_ hnew_; (first | rw [← Ny165.out] at ho21 | (simp only [Int.reduceToNat] at ho21; rw [← Ny165.out] at ho21)); have n0_ := Aside0.mk (Kd.R_lower ho21 (below_size (by repeat (first | (with_reducible first | exact HB.out | apply below_alloc | apply pw_below_drewN | apply below_drew1) | exact HB.out)))); have n1_ := Aside0.mk (below_step (by repeat (first | (with_reducible first | exact HB.out | apply below_alloc | apply pw_below_drewN | apply below_drew1) | exact HB.out)) hb); clear HB; have HO167 := n0_; have HB := n1_; clear n0_ n1_; clear hb ho21))
              go_ret
              exact ⟨_, by first | rfl | (simp [errW_none, errW_some] <;> rfl) | (simp [*, errW_none, errW_some] <;> rfl), by (with_reducible repeat (first | apply Kd.R_alloc | apply Kd.R_drewN | apply Kd.R_drew)); exact HO167.out, by repeat (first | (with_reducible first | exact HB.out | apply below_alloc | apply pw_below_drewN | apply below_drew1) | exact HB.out)⟩

end Go.Proofs.YtajgpilcbaoneaaDoor.P
