-- Printed for this claim by drive.py (a program of this session's) through the kit's print program; not trusted: Lean checks it.
import Derived.Test.YtghajjjdfhcljaaP0
import Derived.Test.YtghajjjdfhcljaaPf23
import Derived.Test.YtghajjjdfhcljaaPf25
import Derived.Test.YtghajjjdfhcljaaPf27
import Derived.Test.YtghajjjdfhcljaaPf29
import Derived.Test.YtghajjjdfhcljaaPf43
import Derived.Test.YtghajjjdfhcljaaPf44
import Derived.Test.YtghajjjdfhcljaaPg1
namespace Go.Proofs.Ytghajjjdfhcljaa.P
open Go.RowKit Go.Proofs.YtghajjjdfhcljaaW.PrintWords Go.Proofs.YtghajjjdfhcljaaW.PrintLast Go.Proofs.YtghajjjdfhcljaaW.PrintMore
attribute [local go_sem] max2_int min2_int max_two min_two max_three min_three max_four min_four   -- for this text's walks alone
set_option linter.unusedVariables false
set_option linter.unusedSimpArgs false

/-! ### headroomlaw05_GainInverse: function 11 -/
def headroomlaw05_GainInverse.j0 : Nat → Int → Int → Bool → Option (Bool)
  | 0, _, _, _ => none
  | k + 1, x0, x4, x59 => if x59 = true then (some false) else ((gain_Run.f (wrap64 (x4)) x0).bind fun bt350 => (if bt350.2.2.2 = 0 then ((headroomlaw05_square.f bt350.1 bt350.2.1 256).bind fun t355 => (some t355)) else (some false)))
def headroomlaw05_GainInverse.f (k : Nat) (a0 : Int) : Option (Bool) := (gain_Gain.f).bind fun t340 => ((gain_Inverse.f).bind fun t341 => ((bits_Mul64.f (IntKind.u64.wrap (t340)) (IntKind.u64.wrap (t341))).bind fun bt342 => ((bits_Add64.f bt342.2 (IntKind.u64.wrap (t340)) 0).bind fun bt344 => (if bt342.1 > 281474976710656 then (headroomlaw05_GainInverse.j0 k (a0 / 128) (IntKind.u64.wrap (t341)) true) else (if bt342.1 = 281474976710656 then (if bt342.2 > 0 then (headroomlaw05_GainInverse.j0 k (a0 / 128) (IntKind.u64.wrap (t341)) true) else (if (IntKind.u64.wrap (bt342.1 + bt344.2)) < 281474976710656 then (headroomlaw05_GainInverse.j0 k (a0 / 128) (IntKind.u64.wrap (t341)) true) else (if (IntKind.u64.wrap (bt342.1 + bt344.2)) = 281474976710656 then (if bt344.1 = 0 then (headroomlaw05_GainInverse.j0 k (a0 / 128) (IntKind.u64.wrap (t341)) true) else ((headroomlaw05_alive.f).bind fun t346 => (headroomlaw05_GainInverse.j0 k (a0 / 128) (IntKind.u64.wrap (t341)) (!t346)))) else ((headroomlaw05_alive.f).bind fun t347 => (headroomlaw05_GainInverse.j0 k (a0 / 128) (IntKind.u64.wrap (t341)) (!t347)))))) else (if (IntKind.u64.wrap (bt342.1 + bt344.2)) < 281474976710656 then (headroomlaw05_GainInverse.j0 k (a0 / 128) (IntKind.u64.wrap (t341)) true) else (if (IntKind.u64.wrap (bt342.1 + bt344.2)) = 281474976710656 then (if bt344.1 = 0 then (headroomlaw05_GainInverse.j0 k (a0 / 128) (IntKind.u64.wrap (t341)) true) else ((headroomlaw05_alive.f).bind fun t348 => (headroomlaw05_GainInverse.j0 k (a0 / 128) (IntKind.u64.wrap (t341)) (!t348)))) else ((headroomlaw05_alive.f).bind fun t349 => (headroomlaw05_GainInverse.j0 k (a0 / 128) (IntKind.u64.wrap (t341)) (!t349))))))))))
theorem headroomlaw05_GainInverse.mono_l : ∀ k, (∀ y0 y1 y2, LeO (headroomlaw05_GainInverse.j0 k y0 y1 y2) (headroomlaw05_GainInverse.j0 (k + 1) y0 y1 y2))
  | 0 => fun _ _ _ r h => by simp [headroomlaw05_GainInverse.j0] at h
  | k + 1 => by
    have ih0 := headroomlaw05_GainInverse.mono_l k
    · intro y0 y1 y2
      unfold headroomlaw05_GainInverse.j0
      repeat' first
      | (with_reducible exact ih0 _ _ _)
      | (with_reducible exact LeO.refl _)
      | (with_reducible exact LeO.none _)
      | (with_reducible refine LeO.ite ?_ ?_)
      | (with_reducible refine LeO.bind ?_ (fun _ => ?_))
      | exact ih0 _ _ _
      | exact LeO.none _
      | refine LeO.ite ?_ ?_
      | refine LeO.bind ?_ (fun _ => ?_)
theorem headroomlaw05_GainInverse.mono : ∀ a0 k, LeO (headroomlaw05_GainInverse.f k a0) (headroomlaw05_GainInverse.f (k + 1) a0) := by
  intro a0 k
  have ih0 := headroomlaw05_GainInverse.mono_l k
  unfold headroomlaw05_GainInverse.f
  repeat' first
      | (with_reducible exact ih0 _ _ _)
      | (with_reducible exact LeO.refl _)
      | (with_reducible exact LeO.none _)
      | (with_reducible refine LeO.ite ?_ ?_)
      | (with_reducible refine LeO.bind ?_ (fun _ => ?_))
      | exact ih0 _ _ _
      | exact LeO.none _
      | refine LeO.ite ?_ ?_
      | refine LeO.bind ?_ (fun _ => ?_)
set_option maxHeartbeats 8000000 in
set_option maxRecDepth 100000 in
theorem headroomlaw05_GainInverse.calls (k : Nat) (a0 : Int) (r : Bool) (w : World) (h : headroomlaw05_GainInverse.f k a0 = some r) :
    Calls Try.prog 11 #[.int .i64 a0] w fun e w' => e = .returned (.bool r) ∧ Below w.heap.size w w' := by
  have hu37 := Try.underlying37
  have HB := Aside0.mk (Below.refl w.heap.size w)
  have H : ((gain_Gain.f).bind fun t340 => ((gain_Inverse.f).bind fun t341 => ((bits_Mul64.f (IntKind.u64.wrap (t340)) (IntKind.u64.wrap (t341))).bind fun bt342 => ((bits_Add64.f bt342.2 (IntKind.u64.wrap (t340)) 0).bind fun bt344 => (if bt342.1 > 281474976710656 then (headroomlaw05_GainInverse.j0 k (a0 / 128) (IntKind.u64.wrap (t341)) true) else (if bt342.1 = 281474976710656 then (if bt342.2 > 0 then (headroomlaw05_GainInverse.j0 k (a0 / 128) (IntKind.u64.wrap (t341)) true) else (if (IntKind.u64.wrap (bt342.1 + bt344.2)) < 281474976710656 then (headroomlaw05_GainInverse.j0 k (a0 / 128) (IntKind.u64.wrap (t341)) true) else (if (IntKind.u64.wrap (bt342.1 + bt344.2)) = 281474976710656 then (if bt344.1 = 0 then (headroomlaw05_GainInverse.j0 k (a0 / 128) (IntKind.u64.wrap (t341)) true) else ((headroomlaw05_alive.f).bind fun t346 => (headroomlaw05_GainInverse.j0 k (a0 / 128) (IntKind.u64.wrap (t341)) (!t346)))) else ((headroomlaw05_alive.f).bind fun t347 => (headroomlaw05_GainInverse.j0 k (a0 / 128) (IntKind.u64.wrap (t341)) (!t347)))))) else (if (IntKind.u64.wrap (bt342.1 + bt344.2)) < 281474976710656 then (headroomlaw05_GainInverse.j0 k (a0 / 128) (IntKind.u64.wrap (t341)) true) else (if (IntKind.u64.wrap (bt342.1 + bt344.2)) = 281474976710656 then (if bt344.1 = 0 then (headroomlaw05_GainInverse.j0 k (a0 / 128) (IntKind.u64.wrap (t341)) true) else ((headroomlaw05_alive.f).bind fun t348 => (headroomlaw05_GainInverse.j0 k (a0 / 128) (IntKind.u64.wrap (t341)) (!t348)))) else ((headroomlaw05_alive.f).bind fun t349 => (headroomlaw05_GainInverse.j0 k (a0 / 128) (IntKind.u64.wrap (t341)) (!t349))))))))))) = some r := h
  clear h
  replace H := Option.bind_eq_some_iff.mp H
  obtain ⟨t340, A20, H⟩ := H
  replace H : ((gain_Inverse.f).bind fun t341 => ((bits_Mul64.f (IntKind.u64.wrap (t340)) (IntKind.u64.wrap (t341))).bind fun bt342 => ((bits_Add64.f bt342.2 (IntKind.u64.wrap (t340)) 0).bind fun bt344 => (if bt342.1 > 281474976710656 then (headroomlaw05_GainInverse.j0 k (a0 / 128) (IntKind.u64.wrap (t341)) true) else (if bt342.1 = 281474976710656 then (if bt342.2 > 0 then (headroomlaw05_GainInverse.j0 k (a0 / 128) (IntKind.u64.wrap (t341)) true) else (if (IntKind.u64.wrap (bt342.1 + bt344.2)) < 281474976710656 then (headroomlaw05_GainInverse.j0 k (a0 / 128) (IntKind.u64.wrap (t341)) true) else (if (IntKind.u64.wrap (bt342.1 + bt344.2)) = 281474976710656 then (if bt344.1 = 0 then (headroomlaw05_GainInverse.j0 k (a0 / 128) (IntKind.u64.wrap (t341)) true) else ((headroomlaw05_alive.f).bind fun t346 => (headroomlaw05_GainInverse.j0 k (a0 / 128) (IntKind.u64.wrap (t341)) (!t346)))) else ((headroomlaw05_alive.f).bind fun t347 => (headroomlaw05_GainInverse.j0 k (a0 / 128) (IntKind.u64.wrap (t341)) (!t347)))))) else (if (IntKind.u64.wrap (bt342.1 + bt344.2)) < 281474976710656 then (headroomlaw05_GainInverse.j0 k (a0 / 128) (IntKind.u64.wrap (t341)) true) else (if (IntKind.u64.wrap (bt342.1 + bt344.2)) = 281474976710656 then (if bt344.1 = 0 then (headroomlaw05_GainInverse.j0 k (a0 / 128) (IntKind.u64.wrap (t341)) true) else ((headroomlaw05_alive.f).bind fun t348 => (headroomlaw05_GainInverse.j0 k (a0 / 128) (IntKind.u64.wrap (t341)) (!t348)))) else ((headroomlaw05_alive.f).bind fun t349 => (headroomlaw05_GainInverse.j0 k (a0 / 128) (IntKind.u64.wrap (t341)) (!t349)))))))))) = some r := H
  have A2 := Aside0.mk A20
  clear A20
  replace H := Option.bind_eq_some_iff.mp H
  obtain ⟨t341, A30, H⟩ := H
  replace H : ((bits_Mul64.f (IntKind.u64.wrap (t340)) (IntKind.u64.wrap (t341))).bind fun bt342 => ((bits_Add64.f bt342.2 (IntKind.u64.wrap (t340)) 0).bind fun bt344 => (if bt342.1 > 281474976710656 then (headroomlaw05_GainInverse.j0 k (a0 / 128) (IntKind.u64.wrap (t341)) true) else (if bt342.1 = 281474976710656 then (if bt342.2 > 0 then (headroomlaw05_GainInverse.j0 k (a0 / 128) (IntKind.u64.wrap (t341)) true) else (if (IntKind.u64.wrap (bt342.1 + bt344.2)) < 281474976710656 then (headroomlaw05_GainInverse.j0 k (a0 / 128) (IntKind.u64.wrap (t341)) true) else (if (IntKind.u64.wrap (bt342.1 + bt344.2)) = 281474976710656 then (if bt344.1 = 0 then (headroomlaw05_GainInverse.j0 k (a0 / 128) (IntKind.u64.wrap (t341)) true) else ((headroomlaw05_alive.f).bind fun t346 => (headroomlaw05_GainInverse.j0 k (a0 / 128) (IntKind.u64.wrap (t341)) (!t346)))) else ((headroomlaw05_alive.f).bind fun t347 => (headroomlaw05_GainInverse.j0 k (a0 / 128) (IntKind.u64.wrap (t341)) (!t347)))))) else (if (IntKind.u64.wrap (bt342.1 + bt344.2)) < 281474976710656 then (headroomlaw05_GainInverse.j0 k (a0 / 128) (IntKind.u64.wrap (t341)) true) else (if (IntKind.u64.wrap (bt342.1 + bt344.2)) = 281474976710656 then (if bt344.1 = 0 then (headroomlaw05_GainInverse.j0 k (a0 / 128) (IntKind.u64.wrap (t341)) true) else ((headroomlaw05_alive.f).bind fun t348 => (headroomlaw05_GainInverse.j0 k (a0 / 128) (IntKind.u64.wrap (t341)) (!t348)))) else ((headroomlaw05_alive.f).bind fun t349 => (headroomlaw05_GainInverse.j0 k (a0 / 128) (IntKind.u64.wrap (t341)) (!t349))))))))) = some r := H
  have A3 := Aside0.mk A30
  clear A30
  replace H := Option.bind_eq_some_iff.mp H
  obtain ⟨⟨t342, t343⟩, A40, H⟩ := H
  replace H : ((bits_Add64.f t343 (IntKind.u64.wrap (t340)) 0).bind fun bt344 => (if t342 > 281474976710656 then (headroomlaw05_GainInverse.j0 k (a0 / 128) (IntKind.u64.wrap (t341)) true) else (if t342 = 281474976710656 then (if t343 > 0 then (headroomlaw05_GainInverse.j0 k (a0 / 128) (IntKind.u64.wrap (t341)) true) else (if (IntKind.u64.wrap (t342 + bt344.2)) < 281474976710656 then (headroomlaw05_GainInverse.j0 k (a0 / 128) (IntKind.u64.wrap (t341)) true) else (if (IntKind.u64.wrap (t342 + bt344.2)) = 281474976710656 then (if bt344.1 = 0 then (headroomlaw05_GainInverse.j0 k (a0 / 128) (IntKind.u64.wrap (t341)) true) else ((headroomlaw05_alive.f).bind fun t346 => (headroomlaw05_GainInverse.j0 k (a0 / 128) (IntKind.u64.wrap (t341)) (!t346)))) else ((headroomlaw05_alive.f).bind fun t347 => (headroomlaw05_GainInverse.j0 k (a0 / 128) (IntKind.u64.wrap (t341)) (!t347)))))) else (if (IntKind.u64.wrap (t342 + bt344.2)) < 281474976710656 then (headroomlaw05_GainInverse.j0 k (a0 / 128) (IntKind.u64.wrap (t341)) true) else (if (IntKind.u64.wrap (t342 + bt344.2)) = 281474976710656 then (if bt344.1 = 0 then (headroomlaw05_GainInverse.j0 k (a0 / 128) (IntKind.u64.wrap (t341)) true) else ((headroomlaw05_alive.f).bind fun t348 => (headroomlaw05_GainInverse.j0 k (a0 / 128) (IntKind.u64.wrap (t341)) (!t348)))) else ((headroomlaw05_alive.f).bind fun t349 => (headroomlaw05_GainInverse.j0 k (a0 / 128) (IntKind.u64.wrap (t341)) (!t349)))))))) = some r := H
  have A4 := Aside0.mk A40
  clear A40
  replace H := Option.bind_eq_some_iff.mp H
  obtain ⟨⟨t344, t345⟩, A50, H⟩ := H
  replace H : (if t342 > 281474976710656 then (headroomlaw05_GainInverse.j0 k (a0 / 128) (IntKind.u64.wrap (t341)) true) else (if t342 = 281474976710656 then (if t343 > 0 then (headroomlaw05_GainInverse.j0 k (a0 / 128) (IntKind.u64.wrap (t341)) true) else (if (IntKind.u64.wrap (t342 + t345)) < 281474976710656 then (headroomlaw05_GainInverse.j0 k (a0 / 128) (IntKind.u64.wrap (t341)) true) else (if (IntKind.u64.wrap (t342 + t345)) = 281474976710656 then (if t344 = 0 then (headroomlaw05_GainInverse.j0 k (a0 / 128) (IntKind.u64.wrap (t341)) true) else ((headroomlaw05_alive.f).bind fun t346 => (headroomlaw05_GainInverse.j0 k (a0 / 128) (IntKind.u64.wrap (t341)) (!t346)))) else ((headroomlaw05_alive.f).bind fun t347 => (headroomlaw05_GainInverse.j0 k (a0 / 128) (IntKind.u64.wrap (t341)) (!t347)))))) else (if (IntKind.u64.wrap (t342 + t345)) < 281474976710656 then (headroomlaw05_GainInverse.j0 k (a0 / 128) (IntKind.u64.wrap (t341)) true) else (if (IntKind.u64.wrap (t342 + t345)) = 281474976710656 then (if t344 = 0 then (headroomlaw05_GainInverse.j0 k (a0 / 128) (IntKind.u64.wrap (t341)) true) else ((headroomlaw05_alive.f).bind fun t348 => (headroomlaw05_GainInverse.j0 k (a0 / 128) (IntKind.u64.wrap (t341)) (!t348)))) else ((headroomlaw05_alive.f).bind fun t349 => (headroomlaw05_GainInverse.j0 k (a0 / 128) (IntKind.u64.wrap (t341)) (!t349))))))) = some r := H
  have A5 := Aside0.mk A50
  clear A50
  have HC6 := Aside0.mk H
  clear H
  go_enter Try.func11, Try.ntmps11
  go_upto_region 6 with (first | ((with_reducible refine gate_callee (f := 27) rfl ?_); refine goesL_ (some 15) rfl rfl Try.func27 (by kernel_rfl) rfl #[] rfl (by (try simp only [List.map_toArray, List.map_cons, List.map_nil]); first | done | rfl | (simp only [List.length_drop, List.length_take]; rfl)) ?_; (with_reducible refine (gain_Gain.calls  t340 _ A2.out).mono ?_); rintro e w7 ⟨rfl, hb⟩; refine ⟨_, rfl, ?_⟩; have n0_ := Aside0.mk (below_step (by repeat (first | (with_reducible first | exact HB.out | apply below_alloc | apply pw_below_drewN | apply below_drew1) | exact HB.out)) hb); clear HB; have HB := n0_; clear n0_; (try clear hb); (try clear hb2); (try clear hk); (try clear hi)) | ((with_reducible refine gate_callee (f := 29) rfl ?_); refine goesL_ (some 17) rfl rfl Try.func29 (by kernel_rfl) rfl #[] rfl (by (try simp only [List.map_toArray, List.map_cons, List.map_nil]); first | done | rfl | (simp only [List.length_drop, List.length_take]; rfl)) ?_; (with_reducible refine (gain_Inverse.calls  t341 _ A3.out).mono ?_); rintro e w8 ⟨rfl, hb⟩; refine ⟨_, rfl, ?_⟩; have n0_ := Aside0.mk (below_step (by repeat (first | (with_reducible first | exact HB.out | apply below_alloc | apply pw_below_drewN | apply below_drew1) | exact HB.out)) hb); clear HB; have HB := n0_; clear n0_; (try clear hb); (try clear hb2); (try clear hk); (try clear hi)) | ((with_reducible refine gate_callee (f := 42) rfl ?_); refine goesL_ (some 22) rfl rfl Try.func42 (by kernel_rfl) rfl #[.int .u64 (IntKind.u64.wrap (t340)), .int .u64 (IntKind.u64.wrap (t341))] rfl (by (try simp only [List.map_toArray, List.map_cons, List.map_nil]); first | done | rfl | (simp only [List.length_drop, List.length_take]; rfl)) ?_; (with_reducible refine (bits_Mul64.calls (IntKind.u64.wrap (t340)) (IntKind.u64.wrap (t341)) t342 t343 _ A4.out).mono ?_); rintro e w' ⟨rfl, ⟨nd, rfl⟩⟩; refine ⟨_, rfl, ?_⟩) | ((with_reducible refine gate_callee (f := 43) rfl ?_); refine goesXL_ (some 28) rfl rfl Try.func43 (by kernel_rfl) trivial #[.int .u64 t343, .int .u64 (IntKind.u64.wrap (t340)), .int .u64 0] rfl (by (try simp only [List.map_toArray, List.map_cons, List.map_nil]); first | done | rfl | (simp only [List.length_drop, List.length_take]; rfl)) ?_; (with_reducible refine (bits_Add64.calls t343 (IntKind.u64.wrap (t340)) 0 t344 t345 _ A5.out).mono ?_); rintro e w' ⟨rfl, ⟨nd, rfl⟩⟩; refine ⟨_, rfl, ?_⟩))
  (try simp only [Act.put, List.setIfInBounds_toArray, List.set_cons_zero, List.set_cons_succ])
  go_cut [59] (fun v59 wc => ∃ (kq : Nat) (x59_5 : Bool), v59 = .bool x59_5 ∧ Aside0 (headroomlaw05_GainInverse.j0 kq (a0 / 128) (IntKind.u64.wrap (t341)) x59_5 = some r) ∧ Aside0 (kq ≤ k) ∧ Aside0 (Below w.heap.size w wc))
  case first =>
    have H := HC6.out
    clear HC6
    by_cases c9 : t342 > 281474976710656
    · rw [if_pos c9] at H
      have c9b0 : decide (281474976710656 < t342) = true := decide_eq_true c9
      clear c9
      (first | rw [c9b0] | (simp only [i64_w, i32_w]; rw [c9b0]) | skip)
      have H' := Aside0.mk H
      clear H
      go_wp2
      go_meet
      case rel => exact ⟨_, (true), (by first | rfl | (simp; done) | (simp [*]; done)), H', ⟨by first | omega | exact Nat.le_refl _⟩, ⟨by repeat (first | (with_reducible first | exact HB.out | apply below_alloc | apply pw_below_drewN | apply below_drew1) | exact HB.out)⟩⟩
    · rw [if_neg c9] at H
      have c9b0 : decide (281474976710656 < t342) = false := decide_eq_false c9
      clear c9
      (first | rw [c9b0] | (simp only [i64_w, i32_w]; rw [c9b0]) | skip)
      by_cases c10 : t342 = 281474976710656
      · rw [if_pos c10] at H
        have c10b0 : (t342 == 281474976710656) = true := beq_iff_eq.mpr c10
        have c10b1 : (t342 != 281474976710656) = false := bne_eq_false_iff_eq.mpr c10
        clear c10
        by_cases c11 : t343 > 0
        · rw [if_pos c11] at H
          have c11b0 : decide (0 < t343) = true := decide_eq_true c11
          clear c11
          have H' := Aside0.mk H
          clear H
          go_wp2
          go_meet
          case rel => exact ⟨_, (true), (by first | rfl | (simp; done) | (simp [*]; done)), H', ⟨by first | omega | exact Nat.le_refl _⟩, ⟨by repeat (first | (with_reducible first | exact HB.out | apply below_alloc | apply pw_below_drewN | apply below_drew1) | exact HB.out)⟩⟩
        · rw [if_neg c11] at H
          have c11b0 : decide (0 < t343) = false := decide_eq_false c11
          clear c11
          by_cases c12 : (IntKind.u64.wrap (t342 + t345)) < 281474976710656
          · rw [if_pos c12] at H
            have c12b0 : decide ((IntKind.u64.wrap (t342 + t345)) < 281474976710656) = true := decide_eq_true c12
            clear c12
            have H' := Aside0.mk H
            clear H
            go_wp2
            go_meet
            case rel => exact ⟨_, (true), (by first | rfl | (simp; done) | (simp [*]; done)), H', ⟨by first | omega | exact Nat.le_refl _⟩, ⟨by repeat (first | (with_reducible first | exact HB.out | apply below_alloc | apply pw_below_drewN | apply below_drew1) | exact HB.out)⟩⟩
          · rw [if_neg c12] at H
            have c12b0 : decide ((IntKind.u64.wrap (t342 + t345)) < 281474976710656) = false := decide_eq_false c12
            clear c12
            by_cases c13 : (IntKind.u64.wrap (t342 + t345)) = 281474976710656
            · rw [if_pos c13] at H
              have c13b0 : ((IntKind.u64.wrap (t342 + t345)) == 281474976710656) = true := beq_iff_eq.mpr c13
              have c13b1 : ((IntKind.u64.wrap (t342 + t345)) != 281474976710656) = false := bne_eq_false_iff_eq.mpr c13
              clear c13
              by_cases c14 : t344 = 0
              · rw [if_pos c14] at H
                have c14b0 : (t344 == 0) = true := beq_iff_eq.mpr c14
                have c14b1 : (t344 != 0) = false := bne_eq_false_iff_eq.mpr c14
                clear c14
                have H' := Aside0.mk H
                clear H
                go_wp2
                go_meet
                case rel => exact ⟨_, (true), (by first | rfl | (simp; done) | (simp [*]; done)), H', ⟨by first | omega | exact Nat.le_refl _⟩, ⟨by repeat (first | (with_reducible first | exact HB.out | apply below_alloc | apply pw_below_drewN | apply below_drew1) | exact HB.out)⟩⟩
              · rw [if_neg c14] at H
                have c14b0 : (t344 == 0) = false := beq_eq_false_iff_ne.mpr c14
                have c14b1 : (t344 != 0) = true := bne_iff_ne.mpr c14
                replace H := Option.bind_eq_some_iff.mp H
                obtain ⟨t346, A150, H⟩ := H
                replace H : (headroomlaw05_GainInverse.j0 k (a0 / 128) (IntKind.u64.wrap (t341)) (!t346)) = some r := H
                have A15 := Aside0.mk A150
                clear A150
                have H' := Aside0.mk H
                clear H
                go_wp2_with (first | (go_at_call 25; (with_reducible refine (headroomlaw05_alive.calls  t346 _ A15.out).mono ?_); rintro e w16 ⟨rfl, hb⟩; have n0_ := Aside0.mk (below_step (by repeat (first | (with_reducible first | exact HB.out | apply below_alloc | apply pw_below_drewN | apply below_drew1) | exact HB.out)) hb); clear HB; have HB := n0_; clear n0_; (try clear hb); (try clear hb2); (try clear hk); (try clear hi)))
                go_meet
                case rel => exact ⟨_, (!t346), (by first | rfl | (simp; done) | (simp [*]; done)), H', ⟨by first | omega | exact Nat.le_refl _⟩, ⟨by repeat (first | (with_reducible first | exact HB.out | apply below_alloc | apply pw_below_drewN | apply below_drew1) | exact HB.out)⟩⟩
            · rw [if_neg c13] at H
              have c13b0 : ((IntKind.u64.wrap (t342 + t345)) == 281474976710656) = false := beq_eq_false_iff_ne.mpr c13
              have c13b1 : ((IntKind.u64.wrap (t342 + t345)) != 281474976710656) = true := bne_iff_ne.mpr c13
              replace H := Option.bind_eq_some_iff.mp H
              obtain ⟨t347, A170, H⟩ := H
              replace H : (headroomlaw05_GainInverse.j0 k (a0 / 128) (IntKind.u64.wrap (t341)) (!t347)) = some r := H
              have A17 := Aside0.mk A170
              clear A170
              have H' := Aside0.mk H
              clear H
              go_wp2_with (first | (go_at_call 25; (with_reducible refine (headroomlaw05_alive.calls  t347 _ A17.out).mono ?_); rintro e w18 ⟨rfl, hb⟩; have n0_ := Aside0.mk (below_step (by repeat (first | (with_reducible first | exact HB.out | apply below_alloc | apply pw_below_drewN | apply below_drew1) | exact HB.out)) hb); clear HB; have HB := n0_; clear n0_; (try clear hb); (try clear hb2); (try clear hk); (try clear hi)))
              go_meet
              case rel => exact ⟨_, (!t347), (by first | rfl | (simp; done) | (simp [*]; done)), H', ⟨by first | omega | exact Nat.le_refl _⟩, ⟨by repeat (first | (with_reducible first | exact HB.out | apply below_alloc | apply pw_below_drewN | apply below_drew1) | exact HB.out)⟩⟩
      · rw [if_neg c10] at H
        have c10b0 : (t342 == 281474976710656) = false := beq_eq_false_iff_ne.mpr c10
        have c10b1 : (t342 != 281474976710656) = true := bne_iff_ne.mpr c10
        by_cases c19 : (IntKind.u64.wrap (t342 + t345)) < 281474976710656
        · rw [if_pos c19] at H
          have c19b0 : decide ((IntKind.u64.wrap (t342 + t345)) < 281474976710656) = true := decide_eq_true c19
          clear c19
          have H' := Aside0.mk H
          clear H
          go_wp2
          go_meet
          case rel => exact ⟨_, (true), (by first | rfl | (simp; done) | (simp [*]; done)), H', ⟨by first | omega | exact Nat.le_refl _⟩, ⟨by repeat (first | (with_reducible first | exact HB.out | apply below_alloc | apply pw_below_drewN | apply below_drew1) | exact HB.out)⟩⟩
        · rw [if_neg c19] at H
          have c19b0 : decide ((IntKind.u64.wrap (t342 + t345)) < 281474976710656) = false := decide_eq_false c19
          clear c19
          by_cases c20 : (IntKind.u64.wrap (t342 + t345)) = 281474976710656
          · rw [if_pos c20] at H
            have c20b0 : ((IntKind.u64.wrap (t342 + t345)) == 281474976710656) = true := beq_iff_eq.mpr c20
            have c20b1 : ((IntKind.u64.wrap (t342 + t345)) != 281474976710656) = false := bne_eq_false_iff_eq.mpr c20
            clear c20
            by_cases c21 : t344 = 0
            · rw [if_pos c21] at H
              have c21b0 : (t344 == 0) = true := beq_iff_eq.mpr c21
              have c21b1 : (t344 != 0) = false := bne_eq_false_iff_eq.mpr c21
              clear c21
              have H' := Aside0.mk H
              clear H
              go_wp2
              go_meet
              case rel => exact ⟨_, (true), (by first | rfl | (simp; done) | (simp [*]; done)), H', ⟨by first | omega | exact Nat.le_refl _⟩, ⟨by repeat (first | (with_reducible first | exact HB.out | apply below_alloc | apply pw_below_drewN | apply below_drew1) | exact HB.out)⟩⟩
            · rw [if_neg c21] at H
              have c21b0 : (t344 == 0) = false := beq_eq_false_iff_ne.mpr c21
              have c21b1 : (t344 != 0) = true := bne_iff_ne.mpr c21
              replace H := Option.bind_eq_some_iff.mp H
              obtain ⟨t348, A220, H⟩ := H
              replace H : (headroomlaw05_GainInverse.j0 k (a0 / 128) (IntKind.u64.wrap (t341)) (!t348)) = some r := H
              have A22 := Aside0.mk A220
              clear A220
              have H' := Aside0.mk H
              clear H
              go_wp2_with (first | (go_at_call 25; (with_reducible refine (headroomlaw05_alive.calls  t348 _ A22.out).mono ?_); rintro e w23 ⟨rfl, hb⟩; have n0_ := Aside0.mk (below_step (by repeat (first | (with_reducible first | exact HB.out | apply below_alloc | apply pw_below_drewN | apply below_drew1) | exact HB.out)) hb); clear HB; have HB := n0_; clear n0_; (try clear hb); (try clear hb2); (try clear hk); (try clear hi)))
              go_meet
              case rel => exact ⟨_, (!t348), (by first | rfl | (simp; done) | (simp [*]; done)), H', ⟨by first | omega | exact Nat.le_refl _⟩, ⟨by repeat (first | (with_reducible first | exact HB.out | apply below_alloc | apply pw_below_drewN | apply below_drew1) | exact HB.out)⟩⟩
          · rw [if_neg c20] at H
            have c20b0 : ((IntKind.u64.wrap (t342 + t345)) == 281474976710656) = false := beq_eq_false_iff_ne.mpr c20
            have c20b1 : ((IntKind.u64.wrap (t342 + t345)) != 281474976710656) = true := bne_iff_ne.mpr c20
            replace H := Option.bind_eq_some_iff.mp H
            obtain ⟨t349, A240, H⟩ := H
            replace H : (headroomlaw05_GainInverse.j0 k (a0 / 128) (IntKind.u64.wrap (t341)) (!t349)) = some r := H
            have A24 := Aside0.mk A240
            clear A240
            have H' := Aside0.mk H
            clear H
            go_wp2_with (first | (go_at_call 25; (with_reducible refine (headroomlaw05_alive.calls  t349 _ A24.out).mono ?_); rintro e w25 ⟨rfl, hb⟩; have n0_ := Aside0.mk (below_step (by repeat (first | (with_reducible first | exact HB.out | apply below_alloc | apply pw_below_drewN | apply below_drew1) | exact HB.out)) hb); clear HB; have HB := n0_; clear n0_; (try clear hb); (try clear hb2); (try clear hk); (try clear hi)))
            go_meet
            case rel => exact ⟨_, (!t349), (by first | rfl | (simp; done) | (simp [*]; done)), H', ⟨by first | omega | exact Nat.le_refl _⟩, ⟨by repeat (first | (with_reducible first | exact HB.out | apply below_alloc | apply pw_below_drewN | apply below_drew1) | exact HB.out)⟩⟩
  case rest =>
    clear HC6
    try clear c1
    try clear c2
    try clear p2
    try clear c4
    try clear c9
    try clear c9b0
    try clear c10
    try clear c10b0
    try clear c10b1
    try clear c11
    try clear c11b0
    try clear c12
    try clear c12b0
    try clear c13
    try clear c13b0
    try clear c13b1
    try clear c14
    try clear c14b0
    try clear c14b1
    try clear c19
    try clear c19b0
    try clear c20
    try clear c20b0
    try clear c20b1
    try clear c21
    try clear c21b0
    try clear c21b1
    obtain ⟨kq, x59_5, rfl, HA, HJ5, HB⟩ := hcut
    cases kq with
    | zero => exact absurd HA.out (by simp [headroomlaw05_GainInverse.j0])
    | succ kj5 =>
      have H := HA.out
      clear HA
      simp only [headroomlaw05_GainInverse.j0] at H
      by_cases c26 : x59_5 = true
      · subst c26
        have H1 : (some false) = some r := by rw [if_pos rfl] at H; exact H
        clear H
        have H := H1
        clear H1
        obtain rfl := Option.some.inj H
        go_wp2
        go_ret
        exact ⟨by first | rfl | (simp [errW_none, errW_some] <;> rfl) | (simp [*, errW_none, errW_some] <;> rfl), by repeat (first | (with_reducible first | exact HB.out | apply below_alloc | apply pw_below_drewN | apply below_drew1) | exact HB.out)⟩
      · replace c26 := Bool.eq_false_iff.mpr c26
        subst c26
        have H1 : ((gain_Run.f (wrap64 ((IntKind.u64.wrap (t341)))) (a0 / 128)).bind fun bt350 => (if bt350.2.2.2 = 0 then ((headroomlaw05_square.f bt350.1 bt350.2.1 256).bind fun t355 => (some t355)) else (some false))) = some r := by rw [if_neg (show ¬ (false = true) by decide)] at H; exact H
        clear H
        have H := H1
        clear H1
        replace H := Option.bind_eq_some_iff.mp H
        obtain ⟨⟨t350, t351, t352, t353⟩, A270, H⟩ := H
        replace H : (if t353 = 0 then ((headroomlaw05_square.f t350 t351 256).bind fun t355 => (some t355)) else (some false)) = some r := H
        have A27 := Aside0.mk A270
        clear A270
        by_cases c28 : t353 = 0
        · rw [if_pos c28] at H
          have c28b0 : (t353 == 0) = true := beq_iff_eq.mpr c28
          have c28b1 : (t353 != 0) = false := bne_eq_false_iff_eq.mpr c28
          clear c28
          replace H := Option.bind_eq_some_iff.mp H
          obtain ⟨t355, A290, H⟩ := H
          replace H : (some t355) = some r := H
          have A29 := Aside0.mk A290
          clear A290
          obtain rfl := Option.some.inj H
          go_wp2_with (first | ((with_reducible refine gate_callee (f := 23) rfl ?_); refine goesL_ (some 64) rfl rfl Try.func23 (by kernel_rfl) rfl #[.int .i64 (wrap64 ((IntKind.u64.wrap (t341)))), .int .i64 (a0 / 128)] rfl (by (try simp only [List.map_toArray, List.map_cons, List.map_nil]); first | done | rfl | (simp only [List.length_drop, List.length_take]; rfl)) ?_; (with_reducible refine (gain_Run.calls (wrap64 ((IntKind.u64.wrap (t341)))) (a0 / 128) t350 t351 t352 t353 _ A27.out).mono ?_); rintro e w30 ⟨rfl, hb⟩; refine ⟨_, rfl, ?_⟩; have n0_ := Aside0.mk (below_step (by repeat (first | (with_reducible first | exact HB.out | apply below_alloc | apply pw_below_drewN | apply below_drew1) | exact HB.out)) hb); clear HB; have HB := n0_; clear n0_; (try clear hb); (try clear hb2); (try clear hk); (try clear hi)) | ((with_reducible refine gate_dst (N := 10) rfl ?_); refine box_event ?hg (N := 10) ?hd (cs := #[.int .i64 0, .int .i64 0]) (t := 37) ?hr ?_; (case hd => rfl); (case hg => rfl); (case hr => first | (go_simp; done) | (go_simp; rfl)); intro gb354 hg w31 hbox hb; have n0_ := Aside0.mk (below_step (by repeat (first | (with_reducible first | exact HB.out | apply below_alloc | apply pw_below_drewN | apply below_drew1) | exact HB.out)) hb); have n1_ := Aside0.mk (hbox); have n2_ := Aside0.mk ((by rw [hg]; exact (below_size (by repeat (first | (with_reducible first | exact HB.out | apply below_alloc | apply pw_below_drewN | apply below_drew1) | exact HB.out))) : w.heap.size ≤ gb354)); have n3_ := Aside0.mk ((by rw [hg]; exact (below_size (by repeat (first | (with_reducible first | exact HB.out | apply below_alloc | apply pw_below_drewN | apply below_drew1) | exact HB.out))) : w.heap.size ≤ gb354)); clear HB; have HB := n0_; have BK354 := n1_; have GW354 := n2_; have GE354 := n3_; clear n0_ n1_ n2_ n3_; clear hb hbox hg; have hcz32_0 : w31.cell? ⟨gb354, 0, none⟩ = some (.int .i64 0) := (blk_cell BK354.out 0).trans rfl; have hcz32_1 : w31.cell? ⟨gb354, 1, none⟩ = some (.int .i64 0) := (blk_cell BK354.out 1).trans rfl; have hfz32_0 := blk_frozen BK354.out 0; have hfz32_1 := blk_frozen BK354.out 1) | (go_at_call 44; (with_reducible refine (headroomlaw05_square.calls t350 t351 256 t355 _ A29.out).mono ?_); rintro e w33 ⟨rfl, hb⟩; have n0_ := Aside0.mk (blk_below (g := gb354) (o := .cells #[.int .i64 t350, .int .i64 t351] 37 (0, 0)) (by (with_reducible repeat (first | refine blk_drewN ?_ _ | refine blk_drew ?_ | refine blk_alloc ?_ _)); refine blk_put (cs := #[.int .i64 t350, .int .i64 0]) ?_ 1 _ rfl; (with_reducible repeat (first | refine blk_drewN ?_ _ | refine blk_drew ?_ | refine blk_alloc ?_ _)); refine blk_put (cs := #[.int .i64 0, .int .i64 0]) ?_ 0 _ rfl; (with_reducible repeat (first | refine blk_drewN ?_ _ | refine blk_drew ?_ | refine blk_alloc ?_ _)); exact BK354.out) hb); have n1_ := Aside0.mk (below_step (by repeat (first | (with_reducible first | exact HB.out | apply below_alloc | apply pw_below_drewN | apply below_drew1 | refine below_set ?_ GE354.out) | exact HB.out)) hb); clear BK354; clear HB; have BK354 := n0_; have HB := n1_; clear n0_ n1_; (try clear hb); (try clear hb2); (try clear hk); (try clear hi)))
          go_ret
          exact ⟨by first | rfl | (simp [errW_none, errW_some] <;> rfl) | (simp [*, errW_none, errW_some] <;> rfl), by repeat (first | (with_reducible first | exact HB.out | apply below_alloc | apply pw_below_drewN | apply below_drew1 | refine below_set ?_ GE354.out) | exact HB.out)⟩
        · rw [if_neg c28] at H
          have c28b0 : (t353 == 0) = false := beq_eq_false_iff_ne.mpr c28
          have c28b1 : (t353 != 0) = true := bne_iff_ne.mpr c28
          obtain rfl := Option.some.inj H
          go_wp2_with (first | ((with_reducible refine gate_callee (f := 23) rfl ?_); refine goesL_ (some 64) rfl rfl Try.func23 (by kernel_rfl) rfl #[.int .i64 (wrap64 ((IntKind.u64.wrap (t341)))), .int .i64 (a0 / 128)] rfl (by (try simp only [List.map_toArray, List.map_cons, List.map_nil]); first | done | rfl | (simp only [List.length_drop, List.length_take]; rfl)) ?_; (with_reducible refine (gain_Run.calls (wrap64 ((IntKind.u64.wrap (t341)))) (a0 / 128) t350 t351 t352 t353 _ A27.out).mono ?_); rintro e w34 ⟨rfl, hb⟩; refine ⟨_, rfl, ?_⟩; have n0_ := Aside0.mk (below_step (by repeat (first | (with_reducible first | exact HB.out | apply below_alloc | apply pw_below_drewN | apply below_drew1) | exact HB.out)) hb); clear HB; have HB := n0_; clear n0_; (try clear hb); (try clear hb2); (try clear hk); (try clear hi)) | ((with_reducible refine gate_dst (N := 10) rfl ?_); refine box_event ?hg (N := 10) ?hd (cs := #[.int .i64 0, .int .i64 0]) (t := 37) ?hr ?_; (case hd => rfl); (case hg => rfl); (case hr => first | (go_simp; done) | (go_simp; rfl)); intro gb354 hg w35 hbox hb; have n0_ := Aside0.mk (below_step (by repeat (first | (with_reducible first | exact HB.out | apply below_alloc | apply pw_below_drewN | apply below_drew1) | exact HB.out)) hb); have n1_ := Aside0.mk (hbox); have n2_ := Aside0.mk ((by rw [hg]; exact (below_size (by repeat (first | (with_reducible first | exact HB.out | apply below_alloc | apply pw_below_drewN | apply below_drew1) | exact HB.out))) : w.heap.size ≤ gb354)); have n3_ := Aside0.mk ((by rw [hg]; exact (below_size (by repeat (first | (with_reducible first | exact HB.out | apply below_alloc | apply pw_below_drewN | apply below_drew1) | exact HB.out))) : w.heap.size ≤ gb354)); clear HB; have HB := n0_; have BK354 := n1_; have GW354 := n2_; have GE354 := n3_; clear n0_ n1_ n2_ n3_; clear hb hbox hg; have hcz36_0 : w35.cell? ⟨gb354, 0, none⟩ = some (.int .i64 0) := (blk_cell BK354.out 0).trans rfl; have hcz36_1 : w35.cell? ⟨gb354, 1, none⟩ = some (.int .i64 0) := (blk_cell BK354.out 1).trans rfl; have hfz36_0 := blk_frozen BK354.out 0; have hfz36_1 := blk_frozen BK354.out 1))
          go_ret
          exact ⟨by first | rfl | (simp [errW_none, errW_some] <;> rfl) | (simp [*, errW_none, errW_some] <;> rfl), by repeat (first | (with_reducible first | exact HB.out | apply below_alloc | apply pw_below_drewN | apply below_drew1 | refine below_set ?_ GE354.out) | exact HB.out)⟩

end Go.Proofs.Ytghajjjdfhcljaa.P
