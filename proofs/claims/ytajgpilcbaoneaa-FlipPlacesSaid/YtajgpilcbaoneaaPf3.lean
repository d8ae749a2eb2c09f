-- Printed for this claim by drive.py (a program of this session's) through the kit's print program; not trusted: Lean checks it.
import Derived.Test.YtajgpilcbaoneaaP0
import Derived.Test.YtajgpilcbaoneaaPf9
import Derived.Test.YtajgpilcbaoneaaPf10
import Derived.Test.YtajgpilcbaoneaaPf11
import Derived.Test.YtajgpilcbaoneaaPf15
import Derived.Test.YtajgpilcbaoneaaPf12
import Derived.Test.YtajgpilcbaoneaaPf13
import Derived.Test.YtajgpilcbaoneaaPf14
import Derived.Test.YtajgpilcbaoneaaPf16
import Derived.Test.YtajgpilcbaoneaaPf17
import Derived.Test.YtajgpilcbaoneaaPf18
namespace Go.Proofs.Ytajgpilcbaoneaa.P
open Go.RowKit Go.Proofs.YtajgpilcbaoneaaW.PrintWords Go.Proofs.YtajgpilcbaoneaaW.PrintLast Go.Proofs.YtajgpilcbaoneaaW.PrintMore
attribute [local go_sem] max2_int min2_int max_two min_two max_three min_three max_four min_four   -- for this text's walks alone
set_option linter.unusedVariables false
set_option linter.unusedSimpArgs false

/-! ### headroomlaw08_FlipPlaces: function 3 -/
mutual
def headroomlaw08_FlipPlaces.j0 : Nat → Int → Int → List Int → Int → Int → Int → Bool → Option (Bool)
  | 0, _, _, _, _, _, _, _ => none
  | k + 1, x1, x2, x9, x10, x11, x12, x61 => if x61 = true then (some false) else ((headroomref07_Log.f x1).bind fun t139 => (if t139 = true then (if x10 = 0 then ((headroomref08_Row.f k x1).bind fun t140 => ((headroomref04_Same.f k x9 t140).bind fun t143 => (if t143 = true then (headroomlaw08_FlipPlaces.j1 k x2 x11 x12 false) else (headroomlaw08_FlipPlaces.j1 k x2 x11 x12 true)))) else (headroomlaw08_FlipPlaces.j1 k x2 x11 x12 true)) else (if x10 = 1 then (headroomlaw08_FlipPlaces.j1 k x2 x11 x12 (decide ((x9.length : Int) > 0))) else (headroomlaw08_FlipPlaces.j1 k x2 x11 x12 true))))
def headroomlaw08_FlipPlaces.j1 : Nat → Int → Int → Int → Bool → Option (Bool)
  | 0, _, _, _, _ => none
  | k + 1, x2, x11, x12, x88 => if x88 = true then (some false) else ((headroomref08_Log.f k x2).bind fun t144 => (if t144 < 0 then (if x12 = 3 then (some (x11 == 0)) else (some false)) else (if x12 = 0 then ((headroomref08_Log.f k x2).bind fun t145 => (some (x11 == t145))) else (some false))))
end
def headroomlaw08_FlipPlaces.f (k : Nat) (a0 : Int) (a1 : Int) (a2 : Int) : Option (Bool) := (flip_Bits.f k a0 a1).bind fun bt127 => ((flip_Row.f k a1).bind fun bt129 => ((flip_Log.f k a2).bind fun bt133 => ((headroomref08_May.f k a0 a1).bind fun t135 => (if t135 = true then (if bt127.2 = 0 then ((headroomref08_Bits.f k a0 a1).bind fun t136 => (if bt127.1 = t136 then ((headroomlaw08_alive.f k).bind fun t137 => (headroomlaw08_FlipPlaces.j0 k a1 a2 bt129.1 bt129.2 bt133.1 bt133.2 (!t137))) else (headroomlaw08_FlipPlaces.j0 k a1 a2 bt129.1 bt129.2 bt133.1 bt133.2 true))) else (headroomlaw08_FlipPlaces.j0 k a1 a2 bt129.1 bt129.2 bt133.1 bt133.2 true)) else (if bt127.2 = 1 then (if bt127.1 = 0 then ((headroomlaw08_alive.f k).bind fun t138 => (headroomlaw08_FlipPlaces.j0 k a1 a2 bt129.1 bt129.2 bt133.1 bt133.2 (!t138))) else (headroomlaw08_FlipPlaces.j0 k a1 a2 bt129.1 bt129.2 bt133.1 bt133.2 true)) else (headroomlaw08_FlipPlaces.j0 k a1 a2 bt129.1 bt129.2 bt133.1 bt133.2 true))))))
theorem headroomlaw08_FlipPlaces.mono_l : ∀ k, (∀ y0 y1 y2 y3 y4 y5 y6, LeO (headroomlaw08_FlipPlaces.j0 k y0 y1 y2 y3 y4 y5 y6) (headroomlaw08_FlipPlaces.j0 (k + 1) y0 y1 y2 y3 y4 y5 y6)) ∧ (∀ y0 y1 y2 y3, LeO (headroomlaw08_FlipPlaces.j1 k y0 y1 y2 y3) (headroomlaw08_FlipPlaces.j1 (k + 1) y0 y1 y2 y3))
  | 0 => ⟨fun _ _ _ _ _ _ _ r h => by simp [headroomlaw08_FlipPlaces.j0] at h, fun _ _ _ _ r h => by simp [headroomlaw08_FlipPlaces.j1] at h⟩
  | k + 1 => by
    obtain ⟨ih0, ih1⟩ := headroomlaw08_FlipPlaces.mono_l k
    refine ⟨?_, ?_⟩
    · intro y0 y1 y2 y3 y4 y5 y6
      unfold headroomlaw08_FlipPlaces.j0
      repeat' first
      | (with_reducible exact ih0 _ _ _ _ _ _ _)
      | (with_reducible exact ih1 _ _ _ _)
      | (with_reducible exact flip_Bits.mono _ _ _)
      | (with_reducible exact flip_Log.mono _ _)
      | (with_reducible exact flip_Row.mono _ _)
      | (with_reducible exact headroomlaw08_alive.mono _)
      | (with_reducible exact headroomref04_Same.mono _ _ _)
      | (with_reducible exact headroomref08_Bits.mono _ _ _)
      | (with_reducible exact headroomref08_Log.mono _ _)
      | (with_reducible exact headroomref08_May.mono _ _ _)
      | (with_reducible exact headroomref08_Row.mono _ _)
      | (with_reducible exact LeO.refl _)
      | (with_reducible exact LeO.none _)
      | (with_reducible refine LeO.ite ?_ ?_)
      | (with_reducible refine LeO.bind ?_ (fun _ => ?_))
      | exact ih0 _ _ _ _ _ _ _
      | exact ih1 _ _ _ _
      | exact flip_Bits.mono _ _ _
      | exact flip_Log.mono _ _
      | exact flip_Row.mono _ _
      | exact headroomlaw08_alive.mono _
      | exact headroomref04_Same.mono _ _ _
      | exact headroomref08_Bits.mono _ _ _
      | exact headroomref08_Log.mono _ _
      | exact headroomref08_May.mono _ _ _
      | exact headroomref08_Row.mono _ _
      | exact LeO.none _
      | refine LeO.ite ?_ ?_
      | refine LeO.bind ?_ (fun _ => ?_)
    · intro y0 y1 y2 y3
      unfold headroomlaw08_FlipPlaces.j1
      repeat' first
      | (with_reducible exact ih0 _ _ _ _ _ _ _)
      | (with_reducible exact ih1 _ _ _ _)
      | (with_reducible exact flip_Bits.mono _ _ _)
      | (with_reducible exact flip_Log.mono _ _)
      | (with_reducible exact flip_Row.mono _ _)
      | (with_reducible exact headroomlaw08_alive.mono _)
      | (with_reducible exact headroomref04_Same.mono _ _ _)
      | (with_reducible exact headroomref08_Bits.mono _ _ _)
      | (with_reducible exact headroomref08_Log.mono _ _)
      | (with_reducible exact headroomref08_May.mono _ _ _)
      | (with_reducible exact headroomref08_Row.mono _ _)
      | (with_reducible exact LeO.refl _)
      | (with_reducible exact LeO.none _)
      | (with_reducible refine LeO.ite ?_ ?_)
      | (with_reducible refine LeO.bind ?_ (fun _ => ?_))
      | exact ih0 _ _ _ _ _ _ _
      | exact ih1 _ _ _ _
      | exact flip_Bits.mono _ _ _
      | exact flip_Log.mono _ _
      | exact flip_Row.mono _ _
      | exact headroomlaw08_alive.mono _
      | exact headroomref04_Same.mono _ _ _
      | exact headroomref08_Bits.mono _ _ _
      | exact headroomref08_Log.mono _ _
      | exact headroomref08_May.mono _ _ _
      | exact headroomref08_Row.mono _ _
      | exact LeO.none _
      | refine LeO.ite ?_ ?_
      | refine LeO.bind ?_ (fun _ => ?_)
theorem headroomlaw08_FlipPlaces.mono : ∀ a0 a1 a2 k, LeO (headroomlaw08_FlipPlaces.f k a0 a1 a2) (headroomlaw08_FlipPlaces.f (k + 1) a0 a1 a2) := by
  intro a0 a1 a2 k
  obtain ⟨ih0, ih1⟩ := headroomlaw08_FlipPlaces.mono_l k
  unfold headroomlaw08_FlipPlaces.f
  repeat' first
      | (with_reducible exact ih0 _ _ _ _ _ _ _)
      | (with_reducible exact ih1 _ _ _ _)
      | (with_reducible exact flip_Bits.mono _ _ _)
      | (with_reducible exact flip_Log.mono _ _)
      | (with_reducible exact flip_Row.mono _ _)
      | (with_reducible exact headroomlaw08_alive.mono _)
      | (with_reducible exact headroomref04_Same.mono _ _ _)
      | (with_reducible exact headroomref08_Bits.mono _ _ _)
      | (with_reducible exact headroomref08_Log.mono _ _)
      | (with_reducible exact headroomref08_May.mono _ _ _)
      | (with_reducible exact headroomref08_Row.mono _ _)
      | (with_reducible exact LeO.refl _)
      | (with_reducible exact LeO.none _)
      | (with_reducible refine LeO.ite ?_ ?_)
      | (with_reducible refine LeO.bind ?_ (fun _ => ?_))
      | exact ih0 _ _ _ _ _ _ _
      | exact ih1 _ _ _ _
      | exact flip_Bits.mono _ _ _
      | exact flip_Log.mono _ _
      | exact flip_Row.mono _ _
      | exact headroomlaw08_alive.mono _
      | exact headroomref04_Same.mono _ _ _
      | exact headroomref08_Bits.mono _ _ _
      | exact headroomref08_Log.mono _ _
      | exact headroomref08_May.mono _ _ _
      | exact headroomref08_Row.mono _ _
      | exact LeO.none _
      | refine LeO.ite ?_ ?_
      | refine LeO.bind ?_ (fun _ => ?_)
set_option maxHeartbeats 8000000 in
set_option maxRecDepth 100000 in
theorem headroomlaw08_FlipPlaces.calls (k : Nat) (a0 : Int) (a1 : Int) (a2 : Int) (r : Bool) (w : World) (h : headroomlaw08_FlipPlaces.f k a0 a1 a2 = some r) :
    Calls Try.prog 3 #[.int .i64 a0, .int .i64 a1, .int .i64 a2] w fun e w' => e = .returned (.bool r) ∧ Below w.heap.size w w' := by
  have HB := Aside0.mk (Below.refl w.heap.size w)
  have H : ((flip_Bits.f k a0 a1).bind fun bt127 => ((flip_Row.f k a1).bind fun bt129 => ((flip_Log.f k a2).bind fun bt133 => ((headroomref08_May.f k a0 a1).bind fun t135 => (if t135 = true then (if bt127.2 = 0 then ((headroomref08_Bits.f k a0 a1).bind fun t136 => (if bt127.1 = t136 then ((headroomlaw08_alive.f k).bind fun t137 => (headroomlaw08_FlipPlaces.j0 k a1 a2 bt129.1 bt129.2 bt133.1 bt133.2 (!t137))) else (headroomlaw08_FlipPlaces.j0 k a1 a2 bt129.1 bt129.2 bt133.1 bt133.2 true))) else (headroomlaw08_FlipPlaces.j0 k a1 a2 bt129.1 bt129.2 bt133.1 bt133.2 true)) else (if bt127.2 = 1 then (if bt127.1 = 0 then ((headroomlaw08_alive.f k).bind fun t138 => (headroomlaw08_FlipPlaces.j0 k a1 a2 bt129.1 bt129.2 bt133.1 bt133.2 (!t138))) else (headroomlaw08_FlipPlaces.j0 k a1 a2 bt129.1 bt129.2 bt133.1 bt133.2 true)) else (headroomlaw08_FlipPlaces.j0 k a1 a2 bt129.1 bt129.2 bt133.1 bt133.2 true))))))) = some r := h
  clear h
  replace H := Option.bind_eq_some_iff.mp H
  obtain ⟨⟨t127, t128⟩, A40, H⟩ := H
  replace H : ((flip_Row.f k a1).bind fun bt129 => ((flip_Log.f k a2).bind fun bt133 => ((headroomref08_May.f k a0 a1).bind fun t135 => (if t135 = true then (if t128 = 0 then ((headroomref08_Bits.f k a0 a1).bind fun t136 => (if t127 = t136 then ((headroomlaw08_alive.f k).bind fun t137 => (headroomlaw08_FlipPlaces.j0 k a1 a2 bt129.1 bt129.2 bt133.1 bt133.2 (!t137))) else (headroomlaw08_FlipPlaces.j0 k a1 a2 bt129.1 bt129.2 bt133.1 bt133.2 true))) else (headroomlaw08_FlipPlaces.j0 k a1 a2 bt129.1 bt129.2 bt133.1 bt133.2 true)) else (if t128 = 1 then (if t127 = 0 then ((headroomlaw08_alive.f k).bind fun t138 => (headroomlaw08_FlipPlaces.j0 k a1 a2 bt129.1 bt129.2 bt133.1 bt133.2 (!t138))) else (headroomlaw08_FlipPlaces.j0 k a1 a2 bt129.1 bt129.2 bt133.1 bt133.2 true)) else (headroomlaw08_FlipPlaces.j0 k a1 a2 bt129.1 bt129.2 bt133.1 bt133.2 true)))))) = some r := H
  have A4 := Aside0.mk A40
  clear A40
  replace H := Option.bind_eq_some_iff.mp H
  obtain ⟨⟨t129, t130⟩, A50, H⟩ := H
  replace H : ((flip_Log.f k a2).bind fun bt133 => ((headroomref08_May.f k a0 a1).bind fun t135 => (if t135 = true then (if t128 = 0 then ((headroomref08_Bits.f k a0 a1).bind fun t136 => (if t127 = t136 then ((headroomlaw08_alive.f k).bind fun t137 => (headroomlaw08_FlipPlaces.j0 k a1 a2 t129 t130 bt133.1 bt133.2 (!t137))) else (headroomlaw08_FlipPlaces.j0 k a1 a2 t129 t130 bt133.1 bt133.2 true))) else (headroomlaw08_FlipPlaces.j0 k a1 a2 t129 t130 bt133.1 bt133.2 true)) else (if t128 = 1 then (if t127 = 0 then ((headroomlaw08_alive.f k).bind fun t138 => (headroomlaw08_FlipPlaces.j0 k a1 a2 t129 t130 bt133.1 bt133.2 (!t138))) else (headroomlaw08_FlipPlaces.j0 k a1 a2 t129 t130 bt133.1 bt133.2 true)) else (headroomlaw08_FlipPlaces.j0 k a1 a2 t129 t130 bt133.1 bt133.2 true))))) = some r := H
  have A5 := Aside0.mk A50
  clear A50
  replace H := Option.bind_eq_some_iff.mp H
  obtain ⟨⟨t133, t134⟩, A60, H⟩ := H
  replace H : ((headroomref08_May.f k a0 a1).bind fun t135 => (if t135 = true then (if t128 = 0 then ((headroomref08_Bits.f k a0 a1).bind fun t136 => (if t127 = t136 then ((headroomlaw08_alive.f k).bind fun t137 => (headroomlaw08_FlipPlaces.j0 k a1 a2 t129 t130 t133 t134 (!t137))) else (headroomlaw08_FlipPlaces.j0 k a1 a2 t129 t130 t133 t134 true))) else (headroomlaw08_FlipPlaces.j0 k a1 a2 t129 t130 t133 t134 true)) else (if t128 = 1 then (if t127 = 0 then ((headroomlaw08_alive.f k).bind fun t138 => (headroomlaw08_FlipPlaces.j0 k a1 a2 t129 t130 t133 t134 (!t138))) else (headroomlaw08_FlipPlaces.j0 k a1 a2 t129 t130 t133 t134 true)) else (headroomlaw08_FlipPlaces.j0 k a1 a2 t129 t130 t133 t134 true)))) = some r := H
  have A6 := Aside0.mk A60
  clear A60
  replace H := Option.bind_eq_some_iff.mp H
  obtain ⟨t135, A70, H⟩ := H
  replace H : (if t135 = true then (if t128 = 0 then ((headroomref08_Bits.f k a0 a1).bind fun t136 => (if t127 = t136 then ((headroomlaw08_alive.f k).bind fun t137 => (headroomlaw08_FlipPlaces.j0 k a1 a2 t129 t130 t133 t134 (!t137))) else (headroomlaw08_FlipPlaces.j0 k a1 a2 t129 t130 t133 t134 true))) else (headroomlaw08_FlipPlaces.j0 k a1 a2 t129 t130 t133 t134 true)) else (if t128 = 1 then (if t127 = 0 then ((headroomlaw08_alive.f k).bind fun t138 => (headroomlaw08_FlipPlaces.j0 k a1 a2 t129 t130 t133 t134 (!t138))) else (headroomlaw08_FlipPlaces.j0 k a1 a2 t129 t130 t133 t134 true)) else (headroomlaw08_FlipPlaces.j0 k a1 a2 t129 t130 t133 t134 true))) = some r := H
  have A7 := Aside0.mk A70
  clear A70
  have HC8 := Aside0.mk H
  clear H
  go_enter Try.func3, Try.ntmps3
  go_upto_region 5 with (first | ((with_reducible refine gate_callee (f := 9) rfl ?_); refine goesL_ (some 18) rfl rfl Try.func9 (by kernel_rfl) rfl #[.int .i64 a0, .int .i64 a1] rfl (by (try simp only [List.map_toArray, List.map_cons, List.map_nil]); first | done | rfl | (simp only [List.length_drop, List.length_take]; rfl)) ?_; (with_reducible refine (flip_Bits.calls k a0 a1 t127 t128 _ A4.out).mono ?_); rintro e w' ⟨rfl, ⟨nd, rfl⟩⟩; refine ⟨_, rfl, ?_⟩) | ((with_reducible refine gate_callee (f := 10) rfl ?_); refine goesL_ (some 23) rfl rfl Try.func10 (by kernel_rfl) rfl #[.int .i64 a1] rfl (by (try simp only [List.map_toArray, List.map_cons, List.map_nil]); first | done | rfl | (simp only [List.length_drop, List.length_take]; rfl)) ?_; (with_reducible refine (flip_Row.calls k a1 t129 t130 _ A5.out).mono ?_); rintro e w9 ⟨v131, rfl, ho0, hb⟩; refine ⟨_, rfl, ?_⟩; have n0_ := Aside0.mk (Kd.R_lower ho0 (below_size (by repeat (first | (with_reducible first | exact HB.out | apply below_alloc | apply pw_below_drewN | apply below_drew1) | exact HB.out)))); have n1_ := Aside0.mk (below_step (by repeat (first | (with_reducible first | exact HB.out | apply below_alloc | apply pw_below_drewN | apply below_drew1) | exact HB.out)) hb); clear HB; have HO132 := n0_; have HB := n1_; clear n0_ n1_; (try clear hb); (try clear hb2); (try clear hk); (try clear hi); (try clear ho0)) | ((with_reducible refine gate_callee (f := 11) rfl ?_); refine goesL_ (some 28) rfl rfl Try.func11 (by kernel_rfl) rfl #[.int .i64 a2] rfl (by (try simp only [List.map_toArray, List.map_cons, List.map_nil]); first | done | rfl | (simp only [List.length_drop, List.length_take]; rfl)) ?_; (with_reducible refine (flip_Log.calls k a2 t133 t134 _ A6.out).mono ?_); rintro e w' ⟨rfl, ⟨nd, rfl⟩⟩; refine ⟨_, rfl, ?_⟩) | ((with_reducible refine gate_callee (f := 12) rfl ?_); refine goesL_ (some 33) rfl rfl Try.func12 (by kernel_rfl) rfl #[.int .i64 a0, .int .i64 a1] rfl (by (try simp only [List.map_toArray, List.map_cons, List.map_nil]); first | done | rfl | (simp only [List.length_drop, List.length_take]; rfl)) ?_; (with_reducible refine (headroomref08_May.calls k a0 a1 t135 _ A7.out).mono ?_); rintro e w' ⟨rfl, ⟨nd, rfl⟩⟩; refine ⟨_, rfl, ?_⟩))
  (try simp only [Act.put, List.setIfInBounds_toArray, List.set_cons_zero, List.set_cons_succ])
  go_cut [61] (fun v61 wc => ∃ (kq : Nat) (x61_7 : Bool), v61 = .bool x61_7 ∧ Aside0 (headroomlaw08_FlipPlaces.j0 kq a1 a2 t129 t130 t133 t134 x61_7 = some r) ∧ Aside0 (kq ≤ k) ∧ Aside0 (Kd.R (Kd.int .i64) 3 wc w.heap.size (fun _ => True) v131 t129) ∧ Aside0 (Below w.heap.size w wc))
  case first =>
    have H := HC8.out
    clear HC8
    by_cases c10 : t135 = true
    · subst c10
      have H1 : (if t128 = 0 then ((headroomref08_Bits.f k a0 a1).bind fun t136 => (if t127 = t136 then ((headroomlaw08_alive.f k).bind fun t137 => (headroomlaw08_FlipPlaces.j0 k a1 a2 t129 t130 t133 t134 (!t137))) else (headroomlaw08_FlipPlaces.j0 k a1 a2 t129 t130 t133 t134 true))) else (headroomlaw08_FlipPlaces.j0 k a1 a2 t129 t130 t133 t134 true)) = some r := by rw [if_pos rfl] at H; exact H
      clear H
      have H := H1
      clear H1
      by_cases c11 : t128 = 0
      · rw [if_pos c11] at H
        have c11b0 : (t128 == 0) = true := beq_iff_eq.mpr c11
        have c11b1 : (t128 != 0) = false := bne_eq_false_iff_eq.mpr c11
        clear c11
        (first | rw [c11b0] | (simp only [i64_w, i32_w]; rw [c11b0]) | skip)
        replace H := Option.bind_eq_some_iff.mp H
        obtain ⟨t136, A120, H⟩ := H
        replace H : (if t127 = t136 then ((headroomlaw08_alive.f k).bind fun t137 => (headroomlaw08_FlipPlaces.j0 k a1 a2 t129 t130 t133 t134 (!t137))) else (headroomlaw08_FlipPlaces.j0 k a1 a2 t129 t130 t133 t134 true)) = some r := H
        have A12 := Aside0.mk A120
        clear A120
        by_cases c13 : t127 = t136
        · rw [if_pos c13] at H
          have c13b0 : (t127 == t136) = true := beq_iff_eq.mpr c13
          have c13b1 : (t127 != t136) = false := bne_eq_false_iff_eq.mpr c13
          clear c13
          replace H := Option.bind_eq_some_iff.mp H
          obtain ⟨t137, A140, H⟩ := H
          replace H : (headroomlaw08_FlipPlaces.j0 k a1 a2 t129 t130 t133 t134 (!t137)) = some r := H
          have A14 := Aside0.mk A140
          clear A140
          have H' := Aside0.mk H
          clear H
          go_wp2_with (first | (go_at_call 13; (with_reducible refine (headroomref08_Bits.calls k a0 a1 t136 _ A12.out).mono ?_); rintro e w' ⟨rfl, ⟨nd, rfl⟩⟩) | (go_at_call 14; (with_reducible refine (headroomlaw08_alive.calls k  t137 _ A14.out).mono ?_); rintro e w' ⟨rfl, ⟨nd, rfl⟩⟩))
          go_meet
          case rel => exact ⟨_, (!t137), (by first | rfl | (simp; done) | (simp [*]; done)), H', ⟨by first | omega | exact Nat.le_refl _⟩, ⟨by (with_reducible repeat (first | apply Kd.R_alloc | apply Kd.R_drewN | apply Kd.R_drew)); exact HO132.out⟩, ⟨by repeat (first | (with_reducible first | exact HB.out | apply below_alloc | apply pw_below_drewN | apply below_drew1) | exact HB.out)⟩⟩
        · rw [if_neg c13] at H
          have c13b0 : (t127 == t136) = false := beq_eq_false_iff_ne.mpr c13
          have c13b1 : (t127 != t136) = true := bne_iff_ne.mpr c13
          have H' := Aside0.mk H
          clear H
          go_wp2_with (first | (go_at_call 13; (with_reducible refine (headroomref08_Bits.calls k a0 a1 t136 _ A12.out).mono ?_); rintro e w' ⟨rfl, ⟨nd, rfl⟩⟩))
          go_meet
          case rel => exact ⟨_, (true), (by first | rfl | (simp; done) | (simp [*]; done)), H', ⟨by first | omega | exact Nat.le_refl _⟩, ⟨by (with_reducible repeat (first | apply Kd.R_alloc | apply Kd.R_drewN | apply Kd.R_drew)); exact HO132.out⟩, ⟨by repeat (first | (with_reducible first | exact HB.out | apply below_alloc | apply pw_below_drewN | apply below_drew1) | exact HB.out)⟩⟩
      · rw [if_neg c11] at H
        have c11b0 : (t128 == 0) = false := beq_eq_false_iff_ne.mpr c11
        have c11b1 : (t128 != 0) = true := bne_iff_ne.mpr c11
        (first | rw [c11b0] | (simp only [i64_w, i32_w]; rw [c11b0]) | skip)
        have H' := Aside0.mk H
        clear H
        go_wp2
        go_meet
        case rel => exact ⟨_, (true), (by first | rfl | (simp; done) | (simp [*]; done)), H', ⟨by first | omega | exact Nat.le_refl _⟩, ⟨by (with_reducible repeat (first | apply Kd.R_alloc | apply Kd.R_drewN | apply Kd.R_drew)); exact HO132.out⟩, ⟨by repeat (first | (with_reducible first | exact HB.out | apply below_alloc | apply pw_below_drewN | apply below_drew1) | exact HB.out)⟩⟩
    · replace c10 := Bool.eq_false_iff.mpr c10
      subst c10
      have H1 : (if t128 = 1 then (if t127 = 0 then ((headroomlaw08_alive.f k).bind fun t138 => (headroomlaw08_FlipPlaces.j0 k a1 a2 t129 t130 t133 t134 (!t138))) else (headroomlaw08_FlipPlaces.j0 k a1 a2 t129 t130 t133 t134 true)) else (headroomlaw08_FlipPlaces.j0 k a1 a2 t129 t130 t133 t134 true)) = some r := by rw [if_neg (show ¬ (false = true) by decide)] at H; exact H
      clear H
      have H := H1
      clear H1
      by_cases c15 : t128 = 1
      · rw [if_pos c15] at H
        have c15b0 : (t128 == 1) = true := beq_iff_eq.mpr c15
        have c15b1 : (t128 != 1) = false := bne_eq_false_iff_eq.mpr c15
        clear c15
        by_cases c16 : t127 = 0
        · rw [if_pos c16] at H
          have c16b0 : (t127 == 0) = true := beq_iff_eq.mpr c16
          have c16b1 : (t127 != 0) = false := bne_eq_false_iff_eq.mpr c16
          clear c16
          replace H := Option.bind_eq_some_iff.mp H
          obtain ⟨t138, A170, H⟩ := H
          replace H : (headroomlaw08_FlipPlaces.j0 k a1 a2 t129 t130 t133 t134 (!t138)) = some r := H
          have A17 := Aside0.mk A170
          clear A170
          have H' := Aside0.mk H
          clear H
          go_wp2_with (first | (go_at_call 14; (with_reducible refine (headroomlaw08_alive.calls k  t138 _ A17.out).mono ?_); rintro e w' ⟨rfl, ⟨nd, rfl⟩⟩))
          go_meet
          case rel => exact ⟨_, (!t138), (by first | rfl | (simp; done) | (simp [*]; done)), H', ⟨by first | omega | exact Nat.le_refl _⟩, ⟨by (with_reducible repeat (first | apply Kd.R_alloc | apply Kd.R_drewN | apply Kd.R_drew)); exact HO132.out⟩, ⟨by repeat (first | (with_reducible first | exact HB.out | apply below_alloc | apply pw_below_drewN | apply below_drew1) | exact HB.out)⟩⟩
        · rw [if_neg c16] at H
          have c16b0 : (t127 == 0) = false := beq_eq_false_iff_ne.mpr c16
          have c16b1 : (t127 != 0) = true := bne_iff_ne.mpr c16
          have H' := Aside0.mk H
          clear H
          go_wp2
          go_meet
          case rel => exact ⟨_, (true), (by first | rfl | (simp; done) | (simp [*]; done)), H', ⟨by first | omega | exact Nat.le_refl _⟩, ⟨by (with_reducible repeat (first | apply Kd.R_alloc | apply Kd.R_drewN | apply Kd.R_drew)); exact HO132.out⟩, ⟨by repeat (first | (with_reducible first | exact HB.out | apply below_alloc | apply pw_below_drewN | apply below_drew1) | exact HB.out)⟩⟩
      · rw [if_neg c15] at H
        have c15b0 : (t128 == 1) = false := beq_eq_false_iff_ne.mpr c15
        have c15b1 : (t128 != 1) = true := bne_iff_ne.mpr c15
        have H' := Aside0.mk H
        clear H
        go_wp2
        go_meet
        case rel => exact ⟨_, (true), (by first | rfl | (simp; done) | (simp [*]; done)), H', ⟨by first | omega | exact Nat.le_refl _⟩, ⟨by (with_reducible repeat (first | apply Kd.R_alloc | apply Kd.R_drewN | apply Kd.R_drew)); exact HO132.out⟩, ⟨by repeat (first | (with_reducible first | exact HB.out | apply below_alloc | apply pw_below_drewN | apply below_drew1) | exact HB.out)⟩⟩
  case rest =>
    clear HC8
    try clear c1
    try clear p2
    try clear c3
    try clear c9
    try clear c10
    try clear c11
    try clear c11b0
    try clear c11b1
    try clear c12
    try clear c13
    try clear c13b0
    try clear c13b1
    try clear c15
    try clear c15b0
    try clear c15b1
    try clear c16
    try clear c16b0
    try clear c16b1
    obtain ⟨kq, x61_7, rfl, HA, HJ7, HO_9, HB⟩ := hcut
    cases kq with
    | zero => exact absurd HA.out (by simp [headroomlaw08_FlipPlaces.j0])
    | succ kj7 =>
      have H := HA.out
      clear HA
      simp only [headroomlaw08_FlipPlaces.j0] at H
      by_cases c18 : x61_7 = true
      · subst c18
        have H1 : (some false) = some r := by rw [if_pos rfl] at H; exact H
        clear H
        have H := H1
        clear H1
        obtain rfl := Option.some.inj H
        go_wp2
        go_ret
        exact ⟨by first | rfl | (simp [errW_none, errW_some] <;> rfl) | (simp [*, errW_none, errW_some] <;> rfl), by repeat (first | (with_reducible first | exact HB.out | apply below_alloc | apply pw_below_drewN | apply below_drew1) | exact HB.out)⟩
      · replace c18 := Bool.eq_false_iff.mpr c18
        subst c18
        have H1 : ((headroomref07_Log.f a1).bind fun t139 => (if t139 = true then (if t130 = 0 then ((headroomref08_Row.f kj7 a1).bind fun t140 => ((headroomref04_Same.f kj7 t129 t140).bind fun t143 => (if t143 = true then (headroomlaw08_FlipPlaces.j1 kj7 a2 t133 t134 false) else (headroomlaw08_FlipPlaces.j1 kj7 a2 t133 t134 true)))) else (headroomlaw08_FlipPlaces.j1 kj7 a2 t133 t134 true)) else (if t130 = 1 then (headroomlaw08_FlipPlaces.j1 kj7 a2 t133 t134 (decide ((t129.length : Int) > 0))) else (headroomlaw08_FlipPlaces.j1 kj7 a2 t133 t134 true)))) = some r := by rw [if_neg (show ¬ (false = true) by decide)] at H; exact H
        clear H
        have H := H1
        clear H1
        replace H := Option.bind_eq_some_iff.mp H
        obtain ⟨t139, A190, H⟩ := H
        replace H : (if t139 = true then (if t130 = 0 then ((headroomref08_Row.f kj7 a1).bind fun t140 => ((headroomref04_Same.f kj7 t129 t140).bind fun t143 => (if t143 = true then (headroomlaw08_FlipPlaces.j1 kj7 a2 t133 t134 false) else (headroomlaw08_FlipPlaces.j1 kj7 a2 t133 t134 true)))) else (headroomlaw08_FlipPlaces.j1 kj7 a2 t133 t134 true)) else (if t130 = 1 then (headroomlaw08_FlipPlaces.j1 kj7 a2 t133 t134 (decide ((t129.length : Int) > 0))) else (headroomlaw08_FlipPlaces.j1 kj7 a2 t133 t134 true))) = some r := H
        have A19 := Aside0.mk A190
        clear A190
        have HC20 := Aside0.mk H
        clear H
        go_upto_region 8 with (first | ((with_reducible refine gate_callee (f := 15) rfl ?_); refine goesL_ (some 63) rfl rfl Try.func15 (by kernel_rfl) rfl #[.int .i64 a1] rfl (by (try simp only [List.map_toArray, List.map_cons, List.map_nil]); first | done | rfl | (simp only [List.length_drop, List.length_take]; rfl)) ?_; (with_reducible refine (headroomref07_Log.calls a1 t139 _ A19.out).mono ?_); rintro e w' ⟨rfl, ⟨nd, rfl⟩⟩; refine ⟨_, rfl, ?_⟩))
        (try simp only [Act.put, List.setIfInBounds_toArray, List.set_cons_zero, List.set_cons_succ])
        go_cut [88] (fun v88 wc => ∃ (kq : Nat) (x88_19 : Bool), v88 = .bool x88_19 ∧ Aside0 (headroomlaw08_FlipPlaces.j1 kq a2 t133 t134 x88_19 = some r) ∧ Aside0 (kq ≤ kj7) ∧ Aside0 (Below w.heap.size w wc))
        case first =>
          have H := HC20.out
          clear HC20
          by_cases c21 : t139 = true
          · subst c21
            have H1 : (if t130 = 0 then ((headroomref08_Row.f kj7 a1).bind fun t140 => ((headroomref04_Same.f kj7 t129 t140).bind fun t143 => (if t143 = true then (headroomlaw08_FlipPlaces.j1 kj7 a2 t133 t134 false) else (headroomlaw08_FlipPlaces.j1 kj7 a2 t133 t134 true)))) else (headroomlaw08_FlipPlaces.j1 kj7 a2 t133 t134 true)) = some r := by rw [if_pos rfl] at H; exact H
            clear H
            have H := H1
            clear H1
            by_cases c22 : t130 = 0
            · rw [if_pos c22] at H
              have c22b0 : (t130 == 0) = true := beq_iff_eq.mpr c22
              have c22b1 : (t130 != 0) = false := bne_eq_false_iff_eq.mpr c22
              clear c22
              (first | rw [c22b0] | (simp only [i64_w, i32_w]; rw [c22b0]) | skip)
              replace H := Option.bind_eq_some_iff.mp H
              obtain ⟨t140, A230, H⟩ := H
              replace H : ((headroomref04_Same.f kj7 t129 t140).bind fun t143 => (if t143 = true then (headroomlaw08_FlipPlaces.j1 kj7 a2 t133 t134 false) else (headroomlaw08_FlipPlaces.j1 kj7 a2 t133 t134 true))) = some r := H
              have A23 := Aside0.mk A230
              clear A230
              replace H := Option.bind_eq_some_iff.mp H
              obtain ⟨t143, A240, H⟩ := H
              replace H : (if t143 = true then (headroomlaw08_FlipPlaces.j1 kj7 a2 t133 t134 false) else (headroomlaw08_FlipPlaces.j1 kj7 a2 t133 t134 true)) = some r := H
              have A24 := Aside0.mk A240
              clear A240
              by_cases c25 : t143 = true
              · subst c25
                have H1 : (headroomlaw08_FlipPlaces.j1 kj7 a2 t133 t134 false) = some r := by rw [if_pos rfl] at H; exact H
                clear H
                have H := H1
                clear H1
                have H' := Aside0.mk H
                clear H
                go_wp2_with (first | (go_at_call 17; (with_reducible refine (headroomref08_Row.calls kj7 a1 t140 _ A23.out).mono ?_); rintro e w26 ⟨v141, rfl, ho0, hb⟩; have n0_ := Aside0.mk (Kd.R_elder' (by (with_reducible repeat (first | apply Kd.R_alloc | apply Kd.R_drewN | apply Kd.R_drew)); exact HO_9.out) (Kd.R_base ho0) hb); have n1_ := Aside0.mk (Kd.R_lower (Kd.R_new' ho0 (Kd.R_lt (by (with_reducible repeat (first | apply Kd.R_alloc | apply Kd.R_drewN | apply Kd.R_drew)); exact HO_9.out))) (below_size (by repeat (first | (with_reducible first | exact HB.out | apply below_alloc | apply pw_below_drewN | apply below_drew1) | exact HB.out)))); have n2_ := Aside0.mk (below_step (by repeat (first | (with_reducible first | exact HB.out | apply below_alloc | apply pw_below_drewN | apply below_drew1) | exact HB.out)) hb); clear HO_9; clear HB; have HO_9 := n0_; have HO142 := n1_; have HB := n2_; clear n0_ n1_ n2_; (try clear hb); (try clear hb2); (try clear hk); (try clear hi); (try clear ho0); obtain ⟨Ao27, co27, eo27⟩ := Kd.R_slice HO_9.out; subst eo27; obtain ⟨Ao28, co28, eo28⟩ := Kd.R_slice HO142.out; subst eo28) | (go_at_call 16; (with_reducible refine (headroomref04_Same.calls kj7 _ _ t129 _ _ t140 true _ ?side1 ?side2 ?side3 ?side4 A24.out).mono ?_); (case side1 => repeat (first | exact (Kd.R_reads' HO_9.out).2.2 | (with_reducible refine Kd.C_alloc ?_ _) | (with_reducible refine Kd.C_drewN ?_ _) | (with_reducible refine Kd.C_drew ?_))); (case side2 => exact (Kd.R_reads' HO_9.out).2.1); (case side3 => repeat (first | exact (Kd.R_reads' HO142.out).2.2 | (with_reducible refine Kd.C_alloc ?_ _) | (with_reducible refine Kd.C_drewN ?_ _) | (with_reducible refine Kd.C_drew ?_))); (case side4 => exact (Kd.R_reads' HO142.out).2.1); rintro e w' ⟨rfl, ⟨nd, rfl⟩⟩))
                go_meet
                case rel => exact ⟨_, (false), (by first | rfl | (simp; done) | (simp [*]; done)), H', ⟨by have := HJ7.out; first | omega | exact Nat.le_refl _⟩, ⟨by repeat (first | (with_reducible first | exact HB.out | apply below_alloc | apply pw_below_drewN | apply below_drew1) | exact HB.out)⟩⟩
              · replace c25 := Bool.eq_false_iff.mpr c25
                subst c25
                have H1 : (headroomlaw08_FlipPlaces.j1 kj7 a2 t133 t134 true) = some r := by rw [if_neg (show ¬ (false = true) by decide)] at H; exact H
                clear H
                have H := H1
                clear H1
                have H' := Aside0.mk H
                clear H
                go_wp2_with (first | (go_at_call 17; (with_reducible refine (headroomref08_Row.calls kj7 a1 t140 _ A23.out).mono ?_); rintro e w29 ⟨v141, rfl, ho0, hb⟩; have n0_ := Aside0.mk (Kd.R_elder' (by (with_reducible repeat (first | apply Kd.R_alloc | apply Kd.R_drewN | apply Kd.R_drew)); exact HO_9.out) (Kd.R_base ho0) hb); have n1_ := Aside0.mk (Kd.R_lower (Kd.R_new' ho0 (Kd.R_lt (by (with_reducible repeat (first | apply Kd.R_alloc | apply Kd.R_drewN | apply Kd.R_drew)); exact HO_9.out))) (below_size (by repeat (first | (with_reducible first | exact HB.out | apply below_alloc | apply pw_below_drewN | apply below_drew1) | exact HB.out)))); have n2_ := Aside0.mk (below_step (by repeat (first | (with_reducible first | exact HB.out | apply below_alloc | apply pw_below_drewN | apply below_drew1) | exact HB.out)) hb); clear HO_9; clear HB; have HO_9 := n0_; have HO142 := n1_; have HB := n2_; clear n0_ n1_ n2_; (try clear hb); (try clear hb2); (try clear hk); (try clear hi); (try clear ho0); obtain ⟨Ao30, co30, eo30⟩ := Kd.R_slice HO_9.out; subst eo30; obtain ⟨Ao31, co31, eo31⟩ := Kd.R_slice HO142.out; subst eo31) | (go_at_call 16; (with_reducible refine (headroomref04_Same.calls kj7 _ _ t129 _ _ t140 false _ ?side1 ?side2 ?side3 ?side4 A24.out).mono ?_); (case side1 => repeat (first | exact (Kd.R_reads' HO_9.out).2.2 | (with_reducible refine Kd.C_alloc ?_ _) | (with_reducible refine Kd.C_drewN ?_ _) | (with_reducible refine Kd.C_drew ?_))); (case side2 => exact (Kd.R_reads' HO_9.out).2.1); (case side3 => repeat (first | exact (Kd.R_reads' HO142.out).2.2 | (with_reducible refine Kd.C_alloc ?_ _) | (with_reducible refine Kd.C_drewN ?_ _) | (with_reducible refine Kd.C_drew ?_))); (case side4 => exact (Kd.R_reads' HO142.out).2.1); rintro e w' ⟨rfl, ⟨nd, rfl⟩⟩))
                go_meet
                case rel => exact ⟨_, (true), (by first | rfl | (simp; done) | (simp [*]; done)), H', ⟨by have := HJ7.out; first | omega | exact Nat.le_refl _⟩, ⟨by repeat (first | (with_reducible first | exact HB.out | apply below_alloc | apply pw_below_drewN | apply below_drew1) | exact HB.out)⟩⟩
            · rw [if_neg c22] at H
              have c22b0 : (t130 == 0) = false := beq_eq_false_iff_ne.mpr c22
              have c22b1 : (t130 != 0) = true := bne_iff_ne.mpr c22
              (first | rw [c22b0] | (simp only [i64_w, i32_w]; rw [c22b0]) | skip)
              have H' := Aside0.mk H
              clear H
              go_wp2
              go_meet
              case rel => exact ⟨_, (true), (by first | rfl | (simp; done) | (simp [*]; done)), H', ⟨by have := HJ7.out; first | omega | exact Nat.le_refl _⟩, ⟨by repeat (first | (with_reducible first | exact HB.out | apply below_alloc | apply pw_below_drewN | apply below_drew1) | exact HB.out)⟩⟩
          · replace c21 := Bool.eq_false_iff.mpr c21
            subst c21
            have H1 : (if t130 = 1 then (headroomlaw08_FlipPlaces.j1 kj7 a2 t133 t134 (decide ((t129.length : Int) > 0))) else (headroomlaw08_FlipPlaces.j1 kj7 a2 t133 t134 true)) = some r := by rw [if_neg (show ¬ (false = true) by decide)] at H; exact H
            clear H
            have H := H1
            clear H1
            by_cases c32 : t130 = 1
            · rw [if_pos c32] at H
              have c32b0 : (t130 == 1) = true := beq_iff_eq.mpr c32
              have c32b1 : (t130 != 1) = false := bne_eq_false_iff_eq.mpr c32
              clear c32
              have H' := Aside0.mk H
              clear H
              obtain ⟨Ao33, co33, eo33⟩ := Kd.R_slice HO_9.out
              subst eo33
              go_wp2
              go_meet
              case rel => exact ⟨_, (decide ((t129.length : Int) > 0)), (by first | rfl | (simp; done) | (simp [*]; done)), H', ⟨by have := HJ7.out; first | omega | exact Nat.le_refl _⟩, ⟨by repeat (first | (with_reducible first | exact HB.out | apply below_alloc | apply pw_below_drewN | apply below_drew1) | exact HB.out)⟩⟩
            · rw [if_neg c32] at H
              have c32b0 : (t130 == 1) = false := beq_eq_false_iff_ne.mpr c32
              have c32b1 : (t130 != 1) = true := bne_iff_ne.mpr c32
              have H' := Aside0.mk H
              clear H
              go_wp2
              go_meet
              case rel => exact ⟨_, (true), (by first | rfl | (simp; done) | (simp [*]; done)), H', ⟨by have := HJ7.out; first | omega | exact Nat.le_refl _⟩, ⟨by repeat (first | (with_reducible first | exact HB.out | apply below_alloc | apply pw_below_drewN | apply below_drew1) | exact HB.out)⟩⟩
        case rest =>
          clear HC20
          try clear c1
          try clear c2
          try clear p2
          try clear c3
          try clear c9
          try clear c10
          try clear c11
          try clear c11b0
          try clear c11b1
          try clear c12
          try clear c13
          try clear c13b0
          try clear c13b1
          try clear c15
          try clear c15b0
          try clear c15b1
          try clear c16
          try clear c16b0
          try clear c16b1
          try clear c18
          try clear c21
          try clear c22
          try clear c22b0
          try clear c22b1
          try clear c25
          try clear c32
          try clear c32b0
          try clear c32b1
          try clear p2
          obtain ⟨kq, x88_19, rfl, HA, HJ19, HB⟩ := hcut
          cases kq with
          | zero => exact absurd HA.out (by simp [headroomlaw08_FlipPlaces.j1])
          | succ kj19 =>
            have H := HA.out
            clear HA
            simp only [headroomlaw08_FlipPlaces.j1] at H
            by_cases c34 : x88_19 = true
            · subst c34
              have H1 : (some false) = some r := by rw [if_pos rfl] at H; exact H
              clear H
              have H := H1
              clear H1
              obtain rfl := Option.some.inj H
              go_wp2
              go_ret
              exact ⟨by first | rfl | (simp [errW_none, errW_some] <;> rfl) | (simp [*, errW_none, errW_some] <;> rfl), by repeat (first | (with_reducible first | exact HB.out | apply below_alloc | apply pw_below_drewN | apply below_drew1) | exact HB.out)⟩
            · replace c34 := Bool.eq_false_iff.mpr c34
              subst c34
              have H1 : ((headroomref08_Log.f kj19 a2).bind fun t144 => (if t144 < 0 then (if t134 = 3 then (some (t133 == 0)) else (some false)) else (if t134 = 0 then ((headroomref08_Log.f kj19 a2).bind fun t145 => (some (t133 == t145))) else (some false)))) = some r := by rw [if_neg (show ¬ (false = true) by decide)] at H; exact H
              clear H
              have H := H1
              clear H1
              replace H := Option.bind_eq_some_iff.mp H
              obtain ⟨t144, A350, H⟩ := H
              replace H : (if t144 < 0 then (if t134 = 3 then (some (t133 == 0)) else (some false)) else (if t134 = 0 then ((headroomref08_Log.f kj19 a2).bind fun t145 => (some (t133 == t145))) else (some false))) = some r := H
              have A35 := Aside0.mk A350
              clear A350
              by_cases c36 : t144 < 0
              · rw [if_pos c36] at H
                have c36b0 : decide (t144 < 0) = true := decide_eq_true c36
                clear c36
                by_cases c37 : t134 = 3
                · rw [if_pos c37] at H
                  have c37b0 : (t134 == 3) = true := beq_iff_eq.mpr c37
                  have c37b1 : (t134 != 3) = false := bne_eq_false_iff_eq.mpr c37
                  clear c37
                  obtain rfl := Option.some.inj H
                  go_wp2_with (first | ((with_reducible refine gate_callee (f := 18) rfl ?_); refine goesL_ (some 90) rfl rfl Try.func18 (by kernel_rfl) rfl #[.int .i64 a2] rfl (by (try simp only [List.map_toArray, List.map_cons, List.map_nil]); first | done | rfl | (simp only [List.length_drop, List.length_take]; rfl)) ?_; (with_reducible refine (headroomref08_Log.calls kj19 a2 t144 _ A35.out).mono ?_); rintro e w' ⟨rfl, ⟨nd, rfl⟩⟩; refine ⟨_, rfl, ?_⟩))
                  go_ret
                  exact ⟨by first | rfl | (simp [errW_none, errW_some] <;> rfl) | (simp [*, errW_none, errW_some] <;> rfl), by repeat (first | (with_reducible first | exact HB.out | apply below_alloc | apply pw_below_drewN | apply below_drew1) | exact HB.out)⟩
                · rw [if_neg c37] at H
                  have c37b0 : (t134 == 3) = false := beq_eq_false_iff_ne.mpr c37
                  have c37b1 : (t134 != 3) = true := bne_iff_ne.mpr c37
                  obtain rfl := Option.some.inj H
                  go_wp2_with (first | ((with_reducible refine gate_callee (f := 18) rfl ?_); refine goesL_ (some 90) rfl rfl Try.func18 (by kernel_rfl) rfl #[.int .i64 a2] rfl (by (try simp only [List.map_toArray, List.map_cons, List.map_nil]); first | done | rfl | (simp only [List.length_drop, List.length_take]; rfl)) ?_; (with_reducible refine (headroomref08_Log.calls kj19 a2 t144 _ A35.out).mono ?_); rintro e w' ⟨rfl, ⟨nd, rfl⟩⟩; refine ⟨_, rfl, ?_⟩))
                  go_ret
                  exact ⟨by first | rfl | (simp [errW_none, errW_some] <;> rfl) | (simp [*, errW_none, errW_some] <;> rfl), by repeat (first | (with_reducible first | exact HB.out | apply below_alloc | apply pw_below_drewN | apply below_drew1) | exact HB.out)⟩
              · rw [if_neg c36] at H
                have c36b0 : decide (t144 < 0) = false := decide_eq_false c36
                clear c36
                by_cases c38 : t134 = 0
                · rw [if_pos c38] at H
                  have c38b0 : (t134 == 0) = true := beq_iff_eq.mpr c38
                  have c38b1 : (t134 != 0) = false := bne_eq_false_iff_eq.mpr c38
                  clear c38
                  replace H := Option.bind_eq_some_iff.mp H
                  obtain ⟨t145, A390, H⟩ := H
                  replace H : (some (t133 == t145)) = some r := H
                  have A39 := Aside0.mk A390
                  clear A390
                  obtain rfl := Option.some.inj H
                  go_wp2_with (first | ((with_reducible refine gate_callee (f := 18) rfl ?_); refine goesL_ (some 90) rfl rfl Try.func18 (by kernel_rfl) rfl #[.int .i64 a2] rfl (by (try simp only [List.map_toArray, List.map_cons, List.map_nil]); first | done | rfl | (simp only [List.length_drop, List.length_take]; rfl)) ?_; (with_reducible refine (headroomref08_Log.calls kj19 a2 t144 _ A35.out).mono ?_); rintro e w' ⟨rfl, ⟨nd, rfl⟩⟩; refine ⟨_, rfl, ?_⟩) | (go_at_call 18; (with_reducible refine (headroomref08_Log.calls kj19 a2 t145 _ A39.out).mono ?_); rintro e w' ⟨rfl, ⟨nd, rfl⟩⟩))
                  go_ret
                  exact ⟨by first | rfl | (simp [errW_none, errW_some] <;> rfl) | (simp [*, errW_none, errW_some] <;> rfl), by repeat (first | (with_reducible first | exact HB.out | apply below_alloc | apply pw_below_drewN | apply below_drew1) | exact HB.out)⟩
                · rw [if_neg c38] at H
                  have c38b0 : (t134 == 0) = false := beq_eq_false_iff_ne.mpr c38
                  have c38b1 : (t134 != 0) = true := bne_iff_ne.mpr c38
                  obtain rfl := Option.some.inj H
                  go_wp2_with (first | ((with_reducible refine gate_callee (f := 18) rfl ?_); refine goesL_ (some 90) rfl rfl Try.func18 (by kernel_rfl) rfl #[.int .i64 a2] rfl (by (try simp only [List.map_toArray, List.map_cons, List.map_nil]); first | done | rfl | (simp only [List.length_drop, List.length_take]; rfl)) ?_; (with_reducible refine (headroomref08_Log.calls kj19 a2 t144 _ A35.out).mono ?_); rintro e w' ⟨rfl, ⟨nd, rfl⟩⟩; refine ⟨_, rfl, ?_⟩))
                  go_ret
                  exact ⟨by first | rfl | (simp [errW_none, errW_some] <;> rfl) | (simp [*, errW_none, errW_some] <;> rfl), by repeat (first | (with_reducible first | exact HB.out | apply below_alloc | apply pw_below_drewN | apply below_drew1) | exact HB.out)⟩

end Go.Proofs.Ytajgpilcbaoneaa.P
