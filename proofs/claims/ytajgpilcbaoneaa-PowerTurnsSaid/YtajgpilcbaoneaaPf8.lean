-- Printed for this claim by drive.py (a program of this session's) through the kit's print program; not trusted: Lean checks it.
import Derived.Test.YtajgpilcbaoneaaP0
import Derived.Test.YtajgpilcbaoneaaPf23
import Derived.Test.YtajgpilcbaoneaaPf24
import Derived.Test.YtajgpilcbaoneaaPf25
import Derived.Test.YtajgpilcbaoneaaPf32
import Derived.Test.YtajgpilcbaoneaaPf33
import Derived.Test.YtajgpilcbaoneaaPf34
import Derived.Test.YtajgpilcbaoneaaPg1
import Derived.Test.YtajgpilcbaoneaaPg2
namespace Go.Proofs.Ytajgpilcbaoneaa.P
open Go.RowKit Go.Proofs.YtajgpilcbaoneaaW.PrintWords Go.Proofs.YtajgpilcbaoneaaW.PrintLast Go.Proofs.YtajgpilcbaoneaaW.PrintMore
attribute [local go_sem] max2_int min2_int max_two min_two max_three min_three max_four min_four   -- for this text's walks alone
set_option linter.unusedVariables false
set_option linter.unusedSimpArgs false

/-! ### headroomlaw20_PowerTurns: function 8 -/
def headroomlaw20_PowerTurns.l0 : Nat → List (S45) → Int → Int → Int → Int → List (S45) → List (S45) → List (S45) → Int → Int → Option (Bool)
  | 0, _, _, _, _, _, _, _, _, _, _ => none
  | k + 1, x0, x1, x2, x7, x8, x10, x11, x58, x59, x60 => if x60 < x59 then (if 0 ≤ x60 then (if x60 < (x58.length : Int) then ((cx_Turn.f ((rd_T45 x58 x60).f0) ((rd_T45 x58 x60).f1) x1).bind fun bt325 => ((cx_Conj.f ((rd_T45 x58 x60).f0) ((rd_T45 x58 x60).f1)).bind fun bt329 => (if bt325.2.2 = 0 then (if bt329.2.2 = 0 then ((some (([(⟨bt325.1, bt325.2.1⟩ : S45)] : List (S45)) : List (S45))).bind fun y333 => (if x10.length + y333.length < 8796093022208 then ((some (([(⟨bt329.1, bt329.2.1⟩ : S45)] : List (S45)) : List (S45))).bind fun y339 => (if x11.length + y339.length < 8796093022208 then (headroomlaw20_PowerTurns.l0 k x0 x1 x2 x7 x8 (x10 ++ y333) (x11 ++ y339) x58 x59 (wrap64 (x60 + 1))) else (none))) else (none))) else (some false)) else (some false)))) else (none)) else (none)) else ((power_Spectrum.f x0).bind fun bt345 => ((power_Spectrum.f x10).bind fun bt349 => ((power_Spectrum.f x11).bind fun bt353 => ((power_Peak.f k x0).bind fun bt357 => ((power_Peak.f k x10).bind fun bt359 => (if (wrap64 ((x0.length : Int) + 1)) = 0 then (none) else (if 0 ≤ (Int.tmod (wrap64 ((wrap64 ((Int.tmod x2 (wrap64 ((x0.length : Int) + 1))) + (x0.length : Int))) + 1)) (wrap64 ((x0.length : Int) + 1))) then (if (Int.tmod (wrap64 ((wrap64 ((Int.tmod x2 (wrap64 ((x0.length : Int) + 1))) + (x0.length : Int))) + 1)) (wrap64 ((x0.length : Int) + 1))) ≤ (x0.length : Int) then ((power_Total.f (x0.take ((Int.tmod (wrap64 ((wrap64 ((Int.tmod x2 (wrap64 ((x0.length : Int) + 1))) + (x0.length : Int))) + 1)) (wrap64 ((x0.length : Int) + 1))) : Int).toNat)).bind fun bt365 => ((power_Total.f (x0.drop ((Int.tmod (wrap64 ((wrap64 ((Int.tmod x2 (wrap64 ((x0.length : Int) + 1))) + (x0.length : Int))) + 1)) (wrap64 ((x0.length : Int) + 1))) : Int).toNat)).bind fun bt372 => ((bits_Add64.f bt365.2.1 bt372.2.1 0).bind fun bt375 => ((headroomlaw20_alive.f k).bind fun t377 => (if t377 = true then (if bt345.2 = 0 then (if bt349.2 = 0 then (if bt353.2 = 0 then (if bt365.2.2 = 0 then (if bt372.2.2 = 0 then (if bt357.2 = bt359.2 then (if bt357.1 = bt359.1 then ((headroomref20_Same.f k bt349.1 bt345.1).bind fun t378 => (if t378 = true then ((headroomref20_Same.f k bt353.1 bt345.1).bind fun t379 => (if t379 = true then (if bt375.1 = x8 then (some ((IntKind.u64.wrap ((IntKind.u64.wrap (bt365.1 + bt372.1)) + bt375.2)) == x7)) else (some false)) else (some false))) else (some false))) else (some false)) else (some false)) else (some false)) else (some false)) else (some false)) else (some false)) else (some false)) else (some false)))))) else (none)) else (none))))))))
def headroomlaw20_PowerTurns.f (k : Nat) (l0 : List (S45)) (a1 : Int) (a2 : Int) : Option (Bool) := if 0 ≤ (mn (l0.length : Int) 70) then (if (mn (l0.length : Int) 70) ≤ (l0.length : Int) then ((some (l0.take ((mn (l0.length : Int) 70) : Int).toNat : List (S45))).bind fun y315 => ((power_Total.f y315).bind fun bt319 => (if bt319.2.2 = 0 then (headroomlaw20_PowerTurns.l0 k y315 a1 a2 bt319.1 bt319.2.1 ([] : List (S45)) ([] : List (S45)) y315 (y315.length : Int) 0) else ((headroomlaw20_alive.f k).bind fun t322 => (if t322 = true then (if bt319.1 = 0 then (some (bt319.2.1 == 0)) else (some false)) else (some false)))))) else (none)) else (none)
theorem headroomlaw20_PowerTurns.mono_l : ∀ k, (∀ y0 y1 y2 y3 y4 y5 y6 y7 y8 y9, LeO (headroomlaw20_PowerTurns.l0 k y0 y1 y2 y3 y4 y5 y6 y7 y8 y9) (headroomlaw20_PowerTurns.l0 (k + 1) y0 y1 y2 y3 y4 y5 y6 y7 y8 y9))
  | 0 => fun _ _ _ _ _ _ _ _ _ _ r h => by simp [headroomlaw20_PowerTurns.l0] at h
  | k + 1 => by
    have ih0 := headroomlaw20_PowerTurns.mono_l k
    · intro y0 y1 y2 y3 y4 y5 y6 y7 y8 y9
      unfold headroomlaw20_PowerTurns.l0
      repeat' first
      | (with_reducible exact ih0 _ _ _ _ _ _ _ _ _ _)
      | (with_reducible exact headroomlaw20_alive.mono _)
      | (with_reducible exact headroomref20_Same.mono _ _ _)
      | (with_reducible exact power_Peak.mono _ _)
      | (with_reducible exact LeO.refl _)
      | (with_reducible exact LeO.none _)
      | (with_reducible refine LeO.ite ?_ ?_)
      | (with_reducible refine LeO.bind ?_ (fun _ => ?_))
      | exact ih0 _ _ _ _ _ _ _ _ _ _
      | exact headroomlaw20_alive.mono _
      | exact headroomref20_Same.mono _ _ _
      | exact power_Peak.mono _ _
      | exact LeO.none _
      | refine LeO.ite ?_ ?_
      | refine LeO.bind ?_ (fun _ => ?_)
theorem headroomlaw20_PowerTurns.mono : ∀ a0 a1 a2 k, LeO (headroomlaw20_PowerTurns.f k a0 a1 a2) (headroomlaw20_PowerTurns.f (k + 1) a0 a1 a2) := by
  intro a0 a1 a2 k
  have ih0 := headroomlaw20_PowerTurns.mono_l k
  unfold headroomlaw20_PowerTurns.f
  repeat' first
      | (with_reducible exact ih0 _ _ _ _ _ _ _ _ _ _)
      | (with_reducible exact headroomlaw20_alive.mono _)
      | (with_reducible exact headroomref20_Same.mono _ _ _)
      | (with_reducible exact power_Peak.mono _ _)
      | (with_reducible exact LeO.refl _)
      | (with_reducible exact LeO.none _)
      | (with_reducible refine LeO.ite ?_ ?_)
      | (with_reducible refine LeO.bind ?_ (fun _ => ?_))
      | exact ih0 _ _ _ _ _ _ _ _ _ _
      | exact headroomlaw20_alive.mono _
      | exact headroomref20_Same.mono _ _ _
      | exact power_Peak.mono _ _
      | exact LeO.none _
      | refine LeO.ite ?_ ?_
      | refine LeO.bind ?_ (fun _ => ?_)
def headroomlaw20_PowerTurns.T13 : Bool × List (List Nat × List Nat) := (true, [([], []), ([], []), ([1], [1]), ([0, 2], [0, 2]), ([], []), ([], []), ([5], [5]), ([4, 6, 3], [4, 6]), ([3, 7, 0, 1, 2, 3], [0, 3]), ([7, 8, 0, 1, 2, 3, 4, 5, 6, 7, 8], [4, 7])])
def headroomlaw20_PowerTurns.B13 : List Nat := [0, 0, 2, 7, 0, 0, 32, 127, 255, 511]
theorem headroomlaw20_PowerTurns.tab13 : rtab .any (opsOf Try.f8 13) = headroomlaw20_PowerTurns.T13 := by kernel_rfl
theorem headroomlaw20_PowerTurns.bits13 : waitsOk headroomlaw20_PowerTurns.T13.2 headroomlaw20_PowerTurns.B13 = true := by kernel_rfl
set_option maxHeartbeats 8000000 in
set_option maxRecDepth 100000 in
theorem headroomlaw20_PowerTurns.calls (k : Nat) (A0 : Option Addr) (c0 : Nat) (l0 : List (S45)) (a1 : Int) (a2 : Int) (r : Bool) (w : World) (hr0 : Kd.C k45 w A0 l0.length l0) (hc0 : l0.length ≤ c0) (h : headroomlaw20_PowerTurns.f k l0 a1 a2 = some r) :
    Calls Try.prog 8 #[.slice A0 l0.length c0, .int .i64 a1, .int .i64 a2] w fun e w' => e = .returned (.bool r) ∧ Below w.heap.size w w' := by
  have hu45 := Try.underlying45
  have HR0 := Aside0.mk hr0
  have HC0 := Aside0.mk hc0
  clear hr0 hc0
  have HB := Aside0.mk (Below.refl w.heap.size w)
  have H : (if 0 ≤ (mn (l0.length : Int) 70) then (if (mn (l0.length : Int) 70) ≤ (l0.length : Int) then ((some (l0.take ((mn (l0.length : Int) 70) : Int).toNat : List (S45))).bind fun y315 => ((power_Total.f y315).bind fun bt319 => (if bt319.2.2 = 0 then (headroomlaw20_PowerTurns.l0 k y315 a1 a2 bt319.1 bt319.2.1 ([] : List (S45)) ([] : List (S45)) y315 (y315.length : Int) 0) else ((headroomlaw20_alive.f k).bind fun t322 => (if t322 = true then (if bt319.1 = 0 then (some (bt319.2.1 == 0)) else (some false)) else (some false)))))) else (none)) else (none)) = some r := h
  clear h
  obtain ⟨ji4, hji4⟩ : ∃ j_ : Int, (mn (l0.length : Int) 70) = j_ := ⟨_, rfl⟩
  replace H : (if 0 ≤ (ji4) then (if (ji4) ≤ (l0.length : Int) then ((some (l0.take ((ji4) : Int).toNat : List (S45))).bind fun y315 => ((power_Total.f y315).bind fun bt319 => (if bt319.2.2 = 0 then (headroomlaw20_PowerTurns.l0 k y315 a1 a2 bt319.1 bt319.2.1 ([] : List (S45)) ([] : List (S45)) y315 (y315.length : Int) 0) else ((headroomlaw20_alive.f k).bind fun t322 => (if t322 = true then (if bt319.1 = 0 then (some (bt319.2.1 == 0)) else (some false)) else (some false)))))) else (none)) else (none)) = some r := by first | (rw [hji4] at H; exact H) | (simp only [hji4] at H ⊢; exact H)
  (try (have hji4h : ji4 ≤ 70 := by (rw [← hji4]; unfold mn; (repeat' split) <;> omega)))
  (try (have hji4g : ji4 ≤ 64 := by omega))
  (try (have hji4l : 0 ≤ ji4 := by (rw [← hji4]; unfold mn; (repeat' split) <;> omega)))
  (try (have hji4m : 0 ≤ ji4 := by omega))
  have hji4_ : (if 70 < (l0.length : Int) then 70 else (l0.length : Int)) = ji4 := hji4
  have hji4q : decide (ji4 ≤ (l0.length : Int)) = true := decide_eq_true (by rw [← hji4_]; split <;> omega)
  by_cases c5 : 0 ≤ (ji4)
  · rw [if_pos c5] at H
    have c5b0 := eq_true c5
    have c5b1 : decide (0 ≤ (ji4)) = true := decide_eq_true c5
    clear c5
    by_cases c6 : (ji4) ≤ (l0.length : Int)
    · rw [if_pos c6] at H
      have c6b0 := eq_true c6
      have c6b1 : decide ((ji4) ≤ (l0.length : Int)) = true := decide_eq_true c6
      clear c6
      obtain ⟨y315, hy315⟩ : ∃ y_ : List (S45), y_ = (l0.take ((ji4) : Int).toNat) := ⟨_, rfl⟩
      replace H : ((power_Total.f y315).bind fun bt319 => (if bt319.2.2 = 0 then (headroomlaw20_PowerTurns.l0 k y315 a1 a2 bt319.1 bt319.2.1 ([] : List (S45)) ([] : List (S45)) y315 (y315.length : Int) 0) else ((headroomlaw20_alive.f k).bind fun t322 => (if t322 = true then (if bt319.1 = 0 then (some (bt319.2.1 == 0)) else (some false)) else (some false))))) = some r := by first | (rw [hy315]; with_reducible exact H) | (have H2_ := (Option.bind_some _ _).symm.trans H; rw [hy315]; with_reducible exact H2_) | (have H2_ := (Option.bind_some _ _).symm.trans H; with_reducible exact H2_) | with_reducible exact H | (rw [hy315]; exact H) | exact H
      have Ny315 := Aside0.mk hy315
      clear hy315
      replace H := Option.bind_eq_some_iff.mp H
      obtain ⟨⟨t319, t320, t321⟩, A70, H⟩ := H
      replace H : (if t321 = 0 then (headroomlaw20_PowerTurns.l0 k y315 a1 a2 t319 t320 ([] : List (S45)) ([] : List (S45)) y315 (y315.length : Int) 0) else ((headroomlaw20_alive.f k).bind fun t322 => (if t322 = true then (if t319 = 0 then (some (t320 == 0)) else (some false)) else (some false)))) = some r := H
      have A7 := Aside0.mk A70
      clear A70
      by_cases c8 : t321 = 0
      · rw [if_pos c8] at H
        have c8b0 : (t321 == 0) = true := beq_iff_eq.mpr c8
        have c8b1 : (t321 != 0) = false := bne_eq_false_iff_eq.mpr c8
        clear c8
        have H' := Aside0.mk H
        clear H
        have q9 : ((ji4) : Int) ≤ ((l0.length : Int) : Int) := of_decide_eq_true (by first | (with_reducible assumption) | assumption)
        obtain ⟨i09, hi09, _, hsz9, _⟩ := info_parts info45
        have hroom9 : l0.length ≤ c0 := HC0.out
        have hC9 : Kd.C k45 _ A0 l0.length l0 := HR0.out
        have hcut9 := cut_to (P := Try.prog) 37 45 .i64 Try.underlying37 hi09 A0 l0.length c0 (ji4) (of_decide_eq_true (by first | (with_reducible assumption) | assumption)) q9 hroom9
        have hr9 := Kd.C_take (m := ((ji4) : Int).toNat) hC9 (by omega)
        have hy9 : y315.length = ((ji4) : Int).toNat := (by rw [Ny315.out, List.length_take]; omega)
        rw [← Ny315.out] at hr9
        rw [← hy9] at hcut9
        have HR318 := Aside0.mk hr9
        have HC318 := Aside0.mk (show y315.length ≤ c0 from by omega)
        clear hr9 hC9 hroom9 hi09 hsz9
        have KY9 := Aside0.mk hy9
        clear hy9
        replace q9 := eq_true q9
        go_enter Try.func8, Try.ntmps8
        go_wp2_with (first | ((with_reducible refine gate_callee (f := 23) rfl ?_); refine goesL_ (some 43) rfl rfl Try.func23 (by kernel_rfl) rfl #[.slice A0 y315.length c0] rfl (by (try simp only [List.map_toArray, List.map_cons, List.map_nil]); first | done | rfl | (simp only [List.length_drop, List.length_take]; rfl)) ?_; (with_reducible refine (power_Total.calls _ _ y315 t319 t320 t321 _ ?side1 ?side2 A7.out).mono ?_); (case side1 => repeat (first | exact HR318.out | (with_reducible refine Kd.C_alloc ?_ _) | (with_reducible refine Kd.C_drewN ?_ _) | (with_reducible refine Kd.C_drew ?_))); (case side2 => exact HC318.out); rintro e w10 ⟨rfl, hb⟩; refine ⟨_, rfl, ?_⟩; have n0_ := Aside0.mk (below_step (by repeat (first | (with_reducible first | exact HB.out | apply below_alloc | apply pw_below_drewN | apply below_drew1) | exact HB.out)) hb); clear HB; have HB := n0_; clear n0_; (try clear hb); (try clear hb2); (try clear hk); (try clear hi)))
        go_loopg [10, 11, 60] k (fun kq v10 v11 v60 w' => ∃ (x10_1 : List (S45)) (x11_1 : List (S45)) (x60_1 : Int), v60 = .int .i64 x60_1 ∧ Aside0 (headroomlaw20_PowerTurns.l0 kq y315 a1 a2 t319 t320 x10_1 x11_1 y315 (y315.length : Int) x60_1 = some r) ∧ Aside0 (kq ≤ k) ∧ Aside0 (Kd.R k45 45 w' w.heap.size (fun k_ => some k_ ≠ (v11 : Value).ownBlock) v10 x10_1) ∧ Aside0 (Kd.R k45 45 w' w.heap.size (fun k_ => some k_ ≠ (v10 : Value).ownBlock) v11 x11_1) ∧ Aside0 (Below w.heap.size w w'))
        case atStart => exact ⟨(([] : List (S45))), (([] : List (S45))), (0), (by first | rfl | (simp; done) | (simp [*]; done)), H', ⟨Nat.le_refl _⟩, ⟨by first | exact Kd.R_nil _ _ _ _ _ | exact Kd.N_nil _ _ _ _ _ | exact Kd.V_nil _ _ _ _ _ | exact Kd.Q_nil _ _ _ _ _ | exact Kd.S_nil _ _ _ _ _⟩, ⟨by first | exact Kd.R_nil _ _ _ _ _ | exact Kd.N_nil _ _ _ _ _ | exact Kd.V_nil _ _ _ _ _ | exact Kd.Q_nil _ _ _ _ _ | exact Kd.S_nil _ _ _ _ _⟩, ⟨by repeat (first | (with_reducible first | exact HB.out | apply below_alloc | apply pw_below_drewN | apply below_drew1) | exact HB.out)⟩⟩
        case round =>
          clear H'
          try clear c2
          try clear p2
          try clear c5
          try clear c5b0
          try clear c5b1
          try clear c6
          try clear c6b0
          try clear c6b1
          try clear c8
          try clear c8b0
          try clear c8b1
          try clear q9
          try clear q9
          obtain ⟨x10_1, x11_1, x60_1, rfl, HA, HK1, HO_10, HO_11, HB⟩ := hrel
          cases gk with
          | zero => exact absurd HA.out (by simp [headroomlaw20_PowerTurns.l0])
          | succ k1 =>
            have H := HA.out
            clear HA
            simp only [headroomlaw20_PowerTurns.l0] at H
            by_cases c11 : x60_1 < (y315.length : Int)
            · rw [if_pos c11] at H
              have c11b0 : decide (x60_1 < (y315.length : Int)) = true := decide_eq_true c11
              clear c11
              by_cases c12 : 0 ≤ x60_1
              · rw [if_pos c12] at H
                have c12b0 : decide (0 ≤ x60_1) = true := decide_eq_true c12
                clear c12
                by_cases c13 : x60_1 < (y315.length : Int)
                · rw [if_pos c13] at H
                  have c13b0 : decide (x60_1 < (y315.length : Int)) = true := decide_eq_true c13
                  clear c13
                  replace H := Option.bind_eq_some_iff.mp H
                  obtain ⟨⟨t325, t326, t327⟩, A140, H⟩ := H
                  replace H : ((cx_Conj.f ((rd_T45 y315 x60_1).f0) ((rd_T45 y315 x60_1).f1)).bind fun bt329 => (if t327 = 0 then (if bt329.2.2 = 0 then ((some (([(⟨t325, t326⟩ : S45)] : List (S45)) : List (S45))).bind fun y333 => (if x10_1.length + y333.length < 8796093022208 then ((some (([(⟨bt329.1, bt329.2.1⟩ : S45)] : List (S45)) : List (S45))).bind fun y339 => (if x11_1.length + y339.length < 8796093022208 then (headroomlaw20_PowerTurns.l0 k1 y315 a1 a2 t319 t320 (x10_1 ++ y333) (x11_1 ++ y339) y315 (y315.length : Int) (wrap64 (x60_1 + 1))) else (none))) else (none))) else (some false)) else (some false))) = some r := H
                  have A14 := Aside0.mk A140
                  clear A140
                  replace H := Option.bind_eq_some_iff.mp H
                  obtain ⟨⟨t329, t330, t331⟩, A150, H⟩ := H
                  replace H : (if t327 = 0 then (if t331 = 0 then ((some (([(⟨t325, t326⟩ : S45)] : List (S45)) : List (S45))).bind fun y333 => (if x10_1.length + y333.length < 8796093022208 then ((some (([(⟨t329, t330⟩ : S45)] : List (S45)) : List (S45))).bind fun y339 => (if x11_1.length + y339.length < 8796093022208 then (headroomlaw20_PowerTurns.l0 k1 y315 a1 a2 t319 t320 (x10_1 ++ y333) (x11_1 ++ y339) y315 (y315.length : Int) (wrap64 (x60_1 + 1))) else (none))) else (none))) else (some false)) else (some false)) = some r := H
                  have A15 := Aside0.mk A150
                  clear A150
                  by_cases c16 : t327 = 0
                  · rw [if_pos c16] at H
                    have c16b0 : (t327 == 0) = true := beq_iff_eq.mpr c16
                    have c16b1 : (t327 != 0) = false := bne_eq_false_iff_eq.mpr c16
                    clear c16
                    by_cases c17 : t331 = 0
                    · rw [if_pos c17] at H
                      have c17b0 : (t331 == 0) = true := beq_iff_eq.mpr c17
                      have c17b1 : (t331 != 0) = false := bne_eq_false_iff_eq.mpr c17
                      clear c17
                      obtain ⟨y333, hy333⟩ : ∃ y_ : List (S45), y_ = (([(⟨t325, t326⟩ : S45)] : List (S45))) := ⟨_, rfl⟩
                      replace H : (if x10_1.length + y333.length < 8796093022208 then ((some (([(⟨t329, t330⟩ : S45)] : List (S45)) : List (S45))).bind fun y339 => (if x11_1.length + y339.length < 8796093022208 then (headroomlaw20_PowerTurns.l0 k1 y315 a1 a2 t319 t320 (x10_1 ++ y333) (x11_1 ++ y339) y315 (y315.length : Int) (wrap64 (x60_1 + 1))) else (none))) else (none)) = some r := by first | (rw [hy333]; with_reducible exact H) | (have H2_ := (Option.bind_some _ _).symm.trans H; rw [hy333]; with_reducible exact H2_) | (have H2_ := (Option.bind_some _ _).symm.trans H; with_reducible exact H2_) | with_reducible exact H | (rw [hy333]; exact H) | exact H
                      have Ny333 := Aside0.mk hy333
                      clear hy333
                      by_cases c18 : x10_1.length + y333.length < 8796093022208
                      · rw [if_pos c18] at H
                        have LMc18 := Aside0.mk c18
                        clear c18
                        obtain ⟨y336, hy336⟩ : ∃ y_ : List (S45), y_ = (x10_1 ++ y333) := ⟨_, rfl⟩
                        replace H : ((some (([(⟨t329, t330⟩ : S45)] : List (S45)) : List (S45))).bind fun y339 => (if x11_1.length + y339.length < 8796093022208 then (headroomlaw20_PowerTurns.l0 k1 y315 a1 a2 t319 t320 y336 (x11_1 ++ y339) y315 (y315.length : Int) (wrap64 (x60_1 + 1))) else (none))) = some r := by first | (rw [hy336]; with_reducible exact H) | (have H2_ := (Option.bind_some _ _).symm.trans H; rw [hy336]; with_reducible exact H2_) | (have H2_ := (Option.bind_some _ _).symm.trans H; with_reducible exact H2_) | with_reducible exact H | (rw [hy336]; exact H) | exact H
                        have Ny336 := Aside0.mk hy336
                        clear hy336
                        obtain ⟨y339, hy339⟩ : ∃ y_ : List (S45), y_ = (([(⟨t329, t330⟩ : S45)] : List (S45))) := ⟨_, rfl⟩
                        replace H : (if x11_1.length + y339.length < 8796093022208 then (headroomlaw20_PowerTurns.l0 k1 y315 a1 a2 t319 t320 y336 (x11_1 ++ y339) y315 (y315.length : Int) (wrap64 (x60_1 + 1))) else (none)) = some r := by first | (rw [hy339]; with_reducible exact H) | (have H2_ := (Option.bind_some _ _).symm.trans H; rw [hy339]; with_reducible exact H2_) | (have H2_ := (Option.bind_some _ _).symm.trans H; with_reducible exact H2_) | with_reducible exact H | (rw [hy339]; exact H) | exact H
                        have Ny339 := Aside0.mk hy339
                        clear hy339
                        by_cases c19 : x11_1.length + y339.length < 8796093022208
                        · rw [if_pos c19] at H
                          have LMc19 := Aside0.mk c19
                          clear c19
                          obtain ⟨y342, hy342⟩ : ∃ y_ : List (S45), y_ = (x11_1 ++ y339) := ⟨_, rfl⟩
                          replace H : (headroomlaw20_PowerTurns.l0 k1 y315 a1 a2 t319 t320 y336 y342 y315 (y315.length : Int) (wrap64 (x60_1 + 1))) = some r := by first | (rw [hy342]; with_reducible exact H) | (have H2_ := (Option.bind_some _ _).symm.trans H; rw [hy342]; with_reducible exact H2_) | (have H2_ := (Option.bind_some _ _).symm.trans H; with_reducible exact H2_) | with_reducible exact H | (rw [hy342]; exact H) | exact H
                          have Ny342 := Aside0.mk hy342
                          clear hy342
                          have H' := Aside0.mk H
                          clear H
                          have p323 : 0 ≤ (x60_1 : Int) := of_decide_eq_true (by first | (with_reducible assumption) | assumption)
                          have q323 : x60_1 < (y315.length : Int) := of_decide_eq_true (by first | (with_reducible assumption) | assumption)
                          obtain ⟨ad323, e323, hx323_0, hx323_1⟩ := at_T45 HR318.out x60_1 p323 q323
                          cases e323
                          replace hx323_0 := (HB.out.cell (World.block_lt_of_cell? w _ hx323_0)).trans hx323_0
                          replace hx323_1 := (HB.out.cell (World.block_lt_of_cell? w _ hx323_1)).trans hx323_1
                          replace p323 := eq_true p323
                          replace q323 := eq_true q323
                          try go_wp2_with (first | ((with_reducible refine gate_dst (N := 13) rfl ?_); refine box_event ?hg (N := 13) ?hd (cs := #[.int .i64 0, .int .i64 0]) (t := 45) ?hr ?_; (case hd => rfl); (case hg => rfl); (case hr => first | (go_simp; done) | (go_simp; rfl)); intro gb324 hg w20 hbox hb; have n0_ := Aside0.mk (Kd.R_below (Kd.R_elderB (by (with_reducible repeat (first | apply Kd.R_alloc | apply Kd.R_drewN | apply Kd.R_drew)); exact HO_10.out) gb324 (Nat.le_of_eq hg.symm)) hb); have n1_ := Aside0.mk (Kd.R_below (Kd.R_elderB (by (with_reducible repeat (first | apply Kd.R_alloc | apply Kd.R_drewN | apply Kd.R_drew)); exact HO_11.out) gb324 (Nat.le_of_eq hg.symm)) hb); have n2_ := Aside0.mk (below_step (by repeat (first | (with_reducible first | exact HB.out | apply below_alloc | apply pw_below_drewN | apply below_drew1) | exact HB.out)) hb); have n3_ := Aside0.mk (hbox); have n4_ := Aside0.mk ((by rw [hg]; exact (below_size (by repeat (first | (with_reducible first | exact HB.out | apply below_alloc | apply pw_below_drewN | apply below_drew1) | exact HB.out))) : w.heap.size ≤ gb324)); have n5_ := Aside0.mk ((by rw [hg]; exact (below_size (by repeat (first | (with_reducible first | exact HB.out | apply below_alloc | apply pw_below_drewN | apply below_drew1) | exact HB.out))) : w.heap.size ≤ gb324)); clear HO_10; clear HO_11; clear HB; have HO_10 := n0_; have HO_11 := n1_; have HB := n2_; have BK324 := n3_; have GW324 := n4_; have GE324 := n5_; clear n0_ n1_ n2_ n3_ n4_ n5_; clear hb hbox hg; have hcz21_0 : w20.cell? ⟨gb324, 0, none⟩ = some (.int .i64 0) := (blk_cell BK324.out 0).trans rfl; have hcz21_1 : w20.cell? ⟨gb324, 1, none⟩ = some (.int .i64 0) := (blk_cell BK324.out 1).trans rfl; have hfz21_0 := blk_frozen BK324.out 0; have hfz21_1 := blk_frozen BK324.out 1) | ((with_reducible refine gate_callee (f := 32) rfl ?_); refine goesL_ (some 67) rfl rfl Try.func32 (by kernel_rfl) rfl #[.agg #[.int .i64 ((rd_T45 y315 x60_1).f0), .int .i64 ((rd_T45 y315 x60_1).f1)], .int .i64 a1] rfl (by (try simp only [List.map_toArray, List.map_cons, List.map_nil]); first | done | rfl | (simp only [List.length_drop, List.length_take]; rfl)) ?_; (with_reducible refine (cx_Turn.calls ((rd_T45 y315 x60_1).f0) ((rd_T45 y315 x60_1).f1) a1 t325 t326 t327 _ A14.out).mono ?_); rintro e w22 ⟨rfl, hb⟩; refine ⟨_, rfl, ?_⟩; have n0_ := Aside0.mk (Kd.R_below (by (with_reducible repeat (first | apply Kd.R_alloc | apply Kd.R_drewN | apply Kd.R_drew)); exact (Kd.R_mono (Kd.R_far (p := ⟨gb324, 1, none⟩) (Kd.R_far (p := ⟨gb324, 0, none⟩) (Kd.R_mono HO_10.out (fun k_ hk => (⟨hk, hk.2⟩ : _ ∧ k_ ≠ gb324))) (fun _ hk => hk.2) (.int .i64 ((rd_T45 y315 x60_1).f0))) (fun _ hk => hk.2) (.int .i64 ((rd_T45 y315 x60_1).f1))) (fun _ h_ => h_.1))) hb); have n1_ := Aside0.mk (Kd.R_below (by (with_reducible repeat (first | apply Kd.R_alloc | apply Kd.R_drewN | apply Kd.R_drew)); exact (Kd.R_mono (Kd.R_far (p := ⟨gb324, 1, none⟩) (Kd.R_far (p := ⟨gb324, 0, none⟩) (Kd.R_mono HO_11.out (fun k_ hk => (⟨hk, hk.2⟩ : _ ∧ k_ ≠ gb324))) (fun _ hk => hk.2) (.int .i64 ((rd_T45 y315 x60_1).f0))) (fun _ hk => hk.2) (.int .i64 ((rd_T45 y315 x60_1).f1))) (fun _ h_ => h_.1))) hb); have n2_ := Aside0.mk (blk_below (g := gb324) (o := .cells #[.int .i64 ((rd_T45 y315 x60_1).f0), .int .i64 ((rd_T45 y315 x60_1).f1)] 45 (0, 0)) (by (with_reducible repeat (first | refine blk_drewN ?_ _ | refine blk_drew ?_ | refine blk_alloc ?_ _)); refine blk_put (cs := #[.int .i64 ((rd_T45 y315 x60_1).f0), .int .i64 0]) ?_ 1 _ rfl; (with_reducible repeat (first | refine blk_drewN ?_ _ | refine blk_drew ?_ | refine blk_alloc ?_ _)); refine blk_put (cs := #[.int .i64 0, .int .i64 0]) ?_ 0 _ rfl; (with_reducible repeat (first | refine blk_drewN ?_ _ | refine blk_drew ?_ | refine blk_alloc ?_ _)); exact BK324.out) hb); have n3_ := Aside0.mk (below_step (by repeat (first | (with_reducible first | exact HB.out | apply below_alloc | apply pw_below_drewN | apply below_drew1 | refine below_set ?_ GE324.out) | exact HB.out)) hb); clear HO_10; clear HO_11; clear BK324; clear HB; have HO_10 := n0_; have HO_11 := n1_; have BK324 := n2_; have HB := n3_; clear n0_ n1_ n2_ n3_; (try clear hb); (try clear hb2); (try clear hk); (try clear hi)) | ((with_reducible refine gate_dst (N := 14) rfl ?_); refine box_event ?hg (N := 14) ?hd (cs := #[.int .i64 0, .int .i64 0]) (t := 45) ?hr ?_; (case hd => rfl); (case hg => rfl); (case hr => first | (go_simp; done) | (go_simp; rfl)); intro gb328 hg w23 hbox hb; have n0_ := Aside0.mk (Kd.R_below (Kd.R_elderB (by (with_reducible repeat (first | apply Kd.R_alloc | apply Kd.R_drewN | apply Kd.R_drew)); exact HO_10.out) gb328 (Nat.le_of_eq hg.symm)) hb); have n1_ := Aside0.mk (Kd.R_below (Kd.R_elderB (by (with_reducible repeat (first | apply Kd.R_alloc | apply Kd.R_drewN | apply Kd.R_drew)); exact HO_11.out) gb328 (Nat.le_of_eq hg.symm)) hb); have n2_ := Aside0.mk (blk_below (g := gb324) (o := .cells #[.int .i64 ((rd_T45 y315 x60_1).f0), .int .i64 ((rd_T45 y315 x60_1).f1)] 45 (0, 0)) (by (with_reducible repeat (first | refine blk_drewN ?_ _ | refine blk_drew ?_ | refine blk_alloc ?_ _)); exact BK324.out) hb); have n3_ := Aside0.mk (below_step (by repeat (first | (with_reducible first | exact HB.out | apply below_alloc | apply pw_below_drewN | apply below_drew1 | refine below_set ?_ GE324.out) | exact HB.out)) hb); have n4_ := Aside0.mk (hbox); have n5_ := Aside0.mk ((by rw [hg]; exact (below_size (by repeat (first | (with_reducible first | exact HB.out | apply below_alloc | apply pw_below_drewN | apply below_drew1 | refine below_set ?_ GE324.out) | exact HB.out))) : w.heap.size ≤ gb328)); have n6_ := Aside0.mk ((by rw [hg]; exact (below_size (by repeat (first | (with_reducible first | exact HB.out | apply below_alloc | apply pw_below_drewN | apply below_drew1 | refine below_set ?_ GE324.out) | exact HB.out))) : w.heap.size ≤ gb328)); have n7_ := Aside0.mk ((by rw [hg]; exact Nat.ne_of_lt (blk_lt (g := gb324) (o := .cells #[.int .i64 ((rd_T45 y315 x60_1).f0), .int .i64 ((rd_T45 y315 x60_1).f1)] 45 (0, 0)) (by (with_reducible repeat (first | refine blk_drewN ?_ _ | refine blk_drew ?_ | refine blk_alloc ?_ _)); exact BK324.out)) : gb324 ≠ gb328)); have n8_ := Aside0.mk ((by rw [hg]; exact Nat.ne_of_gt (blk_lt (g := gb324) (o := .cells #[.int .i64 ((rd_T45 y315 x60_1).f0), .int .i64 ((rd_T45 y315 x60_1).f1)] 45 (0, 0)) (by (with_reducible repeat (first | refine blk_drewN ?_ _ | refine blk_drew ?_ | refine blk_alloc ?_ _)); exact BK324.out)) : gb328 ≠ gb324)); clear HO_10; clear HO_11; clear BK324; clear HB; have HO_10 := n0_; have HO_11 := n1_; have BK324 := n2_; have HB := n3_; have BK328 := n4_; have GW328 := n5_; have GE328 := n6_; have NB324_328 := n7_; have NB328_324 := n8_; clear n0_ n1_ n2_ n3_ n4_ n5_ n6_ n7_ n8_; clear hb hbox hg; have hnb24 := NB328_324.out; have hnc24 := NB324_328.out; have hcz25_0 : w23.cell? ⟨gb328, 0, none⟩ = some (.int .i64 0) := (blk_cell BK328.out 0).trans rfl; have hcz25_1 : w23.cell? ⟨gb328, 1, none⟩ = some (.int .i64 0) := (blk_cell BK328.out 1).trans rfl; have hfz25_0 := blk_frozen BK328.out 0; have hfz25_1 := blk_frozen BK328.out 1; have hcz26_0 : w23.cell? ⟨gb324, 0, none⟩ = some (.int .i64 ((rd_T45 y315 x60_1).f0)) := (blk_cell BK324.out 0).trans rfl; have hcz26_1 : w23.cell? ⟨gb324, 1, none⟩ = some (.int .i64 ((rd_T45 y315 x60_1).f1)) := (blk_cell BK324.out 1).trans rfl; have hfz26_0 := blk_frozen BK324.out 0; have hfz26_1 := blk_frozen BK324.out 1) | ((with_reducible refine gate_callee (f := 33) rfl ?_); refine goesL_ (some 72) rfl rfl Try.func33 (by kernel_rfl) rfl #[.agg #[.int .i64 ((rd_T45 y315 x60_1).f0), .int .i64 ((rd_T45 y315 x60_1).f1)]] rfl (by (try simp only [List.map_toArray, List.map_cons, List.map_nil]); first | done | rfl | (simp only [List.length_drop, List.length_take]; rfl)) ?_; (with_reducible refine (cx_Conj.calls ((rd_T45 y315 x60_1).f0) ((rd_T45 y315 x60_1).f1) t329 t330 t331 _ A15.out).mono ?_); rintro e w27 ⟨rfl, hb⟩; refine ⟨_, rfl, ?_⟩; have n0_ := Aside0.mk (Kd.R_below (by (with_reducible repeat (first | apply Kd.R_alloc | apply Kd.R_drewN | apply Kd.R_drew)); exact (Kd.R_mono (Kd.R_far (p := ⟨gb328, 1, none⟩) (Kd.R_far (p := ⟨gb328, 0, none⟩) (Kd.R_mono HO_10.out (fun k_ hk => (⟨hk, hk.2⟩ : _ ∧ k_ ≠ gb328))) (fun _ hk => hk.2) (.int .i64 t325)) (fun _ hk => hk.2) (.int .i64 t326)) (fun _ h_ => h_.1))) hb); have n1_ := Aside0.mk (Kd.R_below (by (with_reducible repeat (first | apply Kd.R_alloc | apply Kd.R_drewN | apply Kd.R_drew)); exact (Kd.R_mono (Kd.R_far (p := ⟨gb328, 1, none⟩) (Kd.R_far (p := ⟨gb328, 0, none⟩) (Kd.R_mono HO_11.out (fun k_ hk => (⟨hk, hk.2⟩ : _ ∧ k_ ≠ gb328))) (fun _ hk => hk.2) (.int .i64 t325)) (fun _ hk => hk.2) (.int .i64 t326)) (fun _ h_ => h_.1))) hb); have n2_ := Aside0.mk (blk_below (g := gb324) (o := .cells #[.int .i64 ((rd_T45 y315 x60_1).f0), .int .i64 ((rd_T45 y315 x60_1).f1)] 45 (0, 0)) (by (with_reducible repeat (first | refine blk_drewN ?_ _ | refine blk_drew ?_ | refine blk_alloc ?_ _)); refine blk_far ?_ NB324_328.out _; (with_reducible repeat (first | refine blk_drewN ?_ _ | refine blk_drew ?_ | refine blk_alloc ?_ _)); refine blk_far ?_ NB324_328.out _; (with_reducible repeat (first | refine blk_drewN ?_ _ | refine blk_drew ?_ | refine blk_alloc ?_ _)); exact BK324.out) hb); have n3_ := Aside0.mk (blk_below (g := gb328) (o := .cells #[.int .i64 t325, .int .i64 t326] 45 (0, 0)) (by (with_reducible repeat (first | refine blk_drewN ?_ _ | refine blk_drew ?_ | refine blk_alloc ?_ _)); refine blk_put (cs := #[.int .i64 t325, .int .i64 0]) ?_ 1 _ rfl; (with_reducible repeat (first | refine blk_drewN ?_ _ | refine blk_drew ?_ | refine blk_alloc ?_ _)); refine blk_put (cs := #[.int .i64 0, .int .i64 0]) ?_ 0 _ rfl; (with_reducible repeat (first | refine blk_drewN ?_ _ | refine blk_drew ?_ | refine blk_alloc ?_ _)); exact BK328.out) hb); have n4_ := Aside0.mk (below_step (by repeat (first | (with_reducible first | exact HB.out | apply below_alloc | apply pw_below_drewN | apply below_drew1 | refine below_set ?_ GE324.out | refine below_set ?_ GE328.out) | exact HB.out)) hb); clear HO_10; clear HO_11; clear BK324; clear BK328; clear HB; have HO_10 := n0_; have HO_11 := n1_; have BK324 := n2_; have BK328 := n3_; have HB := n4_; clear n0_ n1_ n2_ n3_ n4_; (try clear hb); (try clear hb2); (try clear hk); (try clear hi)) | ((with_reducible refine gate_dst (N := 16) rfl ?_); refine box_event ?hg (N := 16) ?hd (cs := #[.int .i64 0, .int .i64 0]) (t := 45) ?hr ?_; (case hd => rfl); (case hg => rfl); (case hr => first | (go_simp; done) | (go_simp; rfl)); intro gb332 hg w28 hbox hb; have n0_ := Aside0.mk (Kd.R_below (Kd.R_elderB (by (with_reducible repeat (first | apply Kd.R_alloc | apply Kd.R_drewN | apply Kd.R_drew)); exact HO_10.out) gb332 (Nat.le_of_eq hg.symm)) hb); have n1_ := Aside0.mk (Kd.R_below (Kd.R_elderB (by (with_reducible repeat (first | apply Kd.R_alloc | apply Kd.R_drewN | apply Kd.R_drew)); exact HO_11.out) gb332 (Nat.le_of_eq hg.symm)) hb); have n2_ := Aside0.mk (blk_below (g := gb324) (o := .cells #[.int .i64 ((rd_T45 y315 x60_1).f0), .int .i64 ((rd_T45 y315 x60_1).f1)] 45 (0, 0)) (by (with_reducible repeat (first | refine blk_drewN ?_ _ | refine blk_drew ?_ | refine blk_alloc ?_ _)); exact BK324.out) hb); have n3_ := Aside0.mk (blk_below (g := gb328) (o := .cells #[.int .i64 t325, .int .i64 t326] 45 (0, 0)) (by (with_reducible repeat (first | refine blk_drewN ?_ _ | refine blk_drew ?_ | refine blk_alloc ?_ _)); exact BK328.out) hb); have n4_ := Aside0.mk (below_step (by repeat (first | (with_reducible first | exact HB.out | apply below_alloc | apply pw_below_drewN | apply below_drew1 | refine below_set ?_ GE324.out | refine below_set ?_ GE328.out) | exact HB.out)) hb); have n5_ := Aside0.mk (hbox); have n6_ := Aside0.mk ((by rw [hg]; exact (below_size (by repeat (first | (with_reducible first | exact HB.out | apply below_alloc | apply pw_below_drewN | apply below_drew1 | refine below_set ?_ GE324.out | refine below_set ?_ GE328.out) | exact HB.out))) : w.heap.size ≤ gb332)); have n7_ := Aside0.mk ((by rw [hg]; exact (below_size (by repeat (first | (with_reducible first | exact HB.out | apply below_alloc | apply pw_below_drewN | apply below_drew1 | refine below_set ?_ GE324.out | refine below_set ?_ GE328.out) | exact HB.out))) : w.heap.size ≤ gb332)); have n8_ := Aside0.mk ((by rw [hg]; exact Nat.ne_of_lt (blk_lt (g := gb324) (o := .cells #[.int .i64 ((rd_T45 y315 x60_1).f0), .int .i64 ((rd_T45 y315 x60_1).f1)] 45 (0, 0)) (by (with_reducible repeat (first | refine blk_drewN ?_ _ | refine blk_drew ?_ | refine blk_alloc ?_ _)); exact BK324.out)) : gb324 ≠ gb332)); have n9_ := Aside0.mk ((by rw [hg]; exact Nat.ne_of_gt (blk_lt (g := gb324) (o := .cells #[.int .i64 ((rd_T45 y315 x60_1).f0), .int .i64 ((rd_T45 y315 x60_1).f1)] 45 (0, 0)) (by (with_reducible repeat (first | refine blk_drewN ?_ _ | refine blk_drew ?_ | refine blk_alloc ?_ _)); exact BK324.out)) : gb332 ≠ gb324)); have n10_ := Aside0.mk ((by rw [hg]; exact Nat.ne_of_lt (blk_lt (g := gb328) (o := .cells #[.int .i64 t325, .int .i64 t326] 45 (0, 0)) (by (with_reducible repeat (first | refine blk_drewN ?_ _ | refine blk_drew ?_ | refine blk_alloc ?_ _)); exact BK328.out)) : gb328 ≠ gb332)); have n11_ := Aside0.mk ((by rw [hg]; exact Nat.ne_of_gt (blk_lt (g := gb328) (o := .cells #[.int .i64 t325, .int .i64 t326] 45 (0, 0)) (by (with_reducible repeat (first | refine blk_drewN ?_ _ | refine blk_drew ?_ | refine blk_alloc ?_ _)); exact BK328.out)) : gb332 ≠ gb328)); clear HO_10; clear HO_11; clear BK324; clear BK328; clear HB; have HO_10 := n0_; have HO_11 := n1_; have BK324 := n2_; have BK328 := n3_; have HB := n4_; have BK332 := n5_; have GW332 := n6_; have GE332 := n7_; have NB324_332 := n8_; have NB332_324 := n9_; have NB328_332 := n10_; have NB332_328 := n11_; clear n0_ n1_ n2_ n3_ n4_ n5_ n6_ n7_ n8_ n9_ n10_ n11_; clear hb hbox hg; have hnb29 := NB332_324.out; have hnc29 := NB324_332.out; have hnb30 := NB332_328.out; have hnc30 := NB328_332.out; have hcz31_0 : w28.cell? ⟨gb332, 0, none⟩ = some (.int .i64 0) := (blk_cell BK332.out 0).trans rfl; have hcz31_1 : w28.cell? ⟨gb332, 1, none⟩ = some (.int .i64 0) := (blk_cell BK332.out 1).trans rfl; have hfz31_0 := blk_frozen BK332.out 0; have hfz31_1 := blk_frozen BK332.out 1; obtain ⟨Ao32, co32, eo32⟩ := Kd.R_slice HO_10.out; subst eo32; obtain ⟨Ao33, co33, eo33⟩ := Kd.R_slice HO_11.out; subst eo33))
                          have n0_ : Aside0 (Kd.R k45 45 ((w28.setCell ⟨gb332, 0, none⟩ (.int .i64 t329)).setCell ⟨gb332, 1, none⟩ (.int .i64 t330)) w.heap.size (fun k_ => some k_ ≠ (.slice Ao33 x11_1.length co33 : Value).ownBlock ∧ k_ ≠ gb324 ∧ k_ ≠ gb328 ∧ k_ ≠ gb332) (.slice Ao32 x10_1.length co32) x10_1) := ⟨by (with_reducible repeat (first | apply Kd.R_alloc | apply Kd.R_drewN | apply Kd.R_drew)); exact Kd.R_mono (Kd.R_far (p := ⟨gb332, 1, none⟩) (Kd.R_far (p := ⟨gb332, 0, none⟩) (Kd.R_mono HO_10.out (fun k_ hk => (⟨hk, hk.2⟩ : _ ∧ k_ ≠ gb332))) (fun _ hk => hk.2) (.int .i64 t329)) (fun _ hk => hk.2) (.int .i64 t330)) (fun _ hk => ⟨hk.1.1.1.1, ⟨hk.1.1.1.2, ⟨hk.1.1.2, hk.1.2⟩⟩⟩)⟩
                          have n1_ : Aside0 (Kd.R k45 45 ((w28.setCell ⟨gb332, 0, none⟩ (.int .i64 t329)).setCell ⟨gb332, 1, none⟩ (.int .i64 t330)) w.heap.size (fun k_ => some k_ ≠ (.slice Ao32 x10_1.length co32 : Value).ownBlock ∧ k_ ≠ gb324 ∧ k_ ≠ gb328 ∧ k_ ≠ gb332) (.slice Ao33 x11_1.length co33) x11_1) := ⟨by (with_reducible repeat (first | apply Kd.R_alloc | apply Kd.R_drewN | apply Kd.R_drew)); exact Kd.R_mono (Kd.R_far (p := ⟨gb332, 1, none⟩) (Kd.R_far (p := ⟨gb332, 0, none⟩) (Kd.R_mono HO_11.out (fun k_ hk => (⟨hk, hk.2⟩ : _ ∧ k_ ≠ gb332))) (fun _ hk => hk.2) (.int .i64 t329)) (fun _ hk => hk.2) (.int .i64 t330)) (fun _ hk => ⟨hk.1.1.1.1, ⟨hk.1.1.1.2, ⟨hk.1.1.2, hk.1.2⟩⟩⟩)⟩
                          have n2_ : Aside0 (((w28.setCell ⟨gb332, 0, none⟩ (.int .i64 t329)).setCell ⟨gb332, 1, none⟩ (.int .i64 t330)).heap[gb324]? = some (.cells #[.int .i64 ((rd_T45 y315 x60_1).f0), .int .i64 ((rd_T45 y315 x60_1).f1)] 45 (0, 0))) := ⟨by (with_reducible repeat (first | refine blk_drewN ?_ _ | refine blk_drew ?_ | refine blk_alloc ?_ _)); refine blk_far ?_ NB324_332.out _; (with_reducible repeat (first | refine blk_drewN ?_ _ | refine blk_drew ?_ | refine blk_alloc ?_ _)); refine blk_far ?_ NB324_332.out _; (with_reducible repeat (first | refine blk_drewN ?_ _ | refine blk_drew ?_ | refine blk_alloc ?_ _)); exact BK324.out⟩
                          have n3_ : Aside0 (((w28.setCell ⟨gb332, 0, none⟩ (.int .i64 t329)).setCell ⟨gb332, 1, none⟩ (.int .i64 t330)).heap[gb328]? = some (.cells #[.int .i64 t325, .int .i64 t326] 45 (0, 0))) := ⟨by (with_reducible repeat (first | refine blk_drewN ?_ _ | refine blk_drew ?_ | refine blk_alloc ?_ _)); refine blk_far ?_ NB328_332.out _; (with_reducible repeat (first | refine blk_drewN ?_ _ | refine blk_drew ?_ | refine blk_alloc ?_ _)); refine blk_far ?_ NB328_332.out _; (with_reducible repeat (first | refine blk_drewN ?_ _ | refine blk_drew ?_ | refine blk_alloc ?_ _)); exact BK328.out⟩
                          have n4_ : Aside0 (((w28.setCell ⟨gb332, 0, none⟩ (.int .i64 t329)).setCell ⟨gb332, 1, none⟩ (.int .i64 t330)).heap[gb332]? = some (.cells #[.int .i64 t329, .int .i64 t330] 45 (0, 0))) := ⟨by (with_reducible repeat (first | refine blk_drewN ?_ _ | refine blk_drew ?_ | refine blk_alloc ?_ _)); refine blk_put (cs := #[.int .i64 t329, .int .i64 0]) ?_ 1 _ rfl; (with_reducible repeat (first | refine blk_drewN ?_ _ | refine blk_drew ?_ | refine blk_alloc ?_ _)); refine blk_put (cs := #[.int .i64 0, .int .i64 0]) ?_ 0 _ rfl; (with_reducible repeat (first | refine blk_drewN ?_ _ | refine blk_drew ?_ | refine blk_alloc ?_ _)); exact BK332.out⟩
                          have n5_ : Aside0 (Below w.heap.size w ((w28.setCell ⟨gb332, 0, none⟩ (.int .i64 t329)).setCell ⟨gb332, 1, none⟩ (.int .i64 t330))) := ⟨by repeat (first | (with_reducible first | exact HB.out | apply below_alloc | apply pw_below_drewN | apply below_drew1 | refine below_set ?_ GE324.out | refine below_set ?_ GE328.out | refine below_set ?_ GE332.out) | exact HB.out)⟩
                          (try clear HO_10)
                          (try clear HO_11)
                          (try clear BK324)
                          (try clear BK328)
                          (try clear BK332)
                          (try clear HB)
                          generalize ((w28.setCell ⟨gb332, 0, none⟩ (.int .i64 t329)).setCell ⟨gb332, 1, none⟩ (.int .i64 t330)) = w34 at n0_ n1_ n2_ n3_ n4_ n5_ ⊢
                          have HO_10 := n0_
                          have HO_11 := n1_
                          have BK324 := n2_
                          have BK328 := n3_
                          have BK332 := n4_
                          have HB := n5_
                          clear n0_ n1_ n2_ n3_ n4_ n5_
                          have n0_ := Aside0.mk (Kd.R_drew HO_10.out)
                          have n1_ := Aside0.mk (Kd.R_drew HO_11.out)
                          have n2_ := Aside0.mk (blk_drew BK324.out)
                          have n3_ := Aside0.mk (blk_drew BK328.out)
                          have n4_ := Aside0.mk (blk_drew BK332.out)
                          have n5_ := Aside0.mk (below_drew1 HB.out)
                          clear HO_10
                          clear HO_11
                          clear BK324
                          clear BK328
                          clear BK332
                          clear HB
                          have HO_10 := n0_
                          have HO_11 := n1_
                          have BK324 := n2_
                          have BK328 := n3_
                          have BK332 := n4_
                          have HB := n5_
                          clear n0_ n1_ n2_ n3_ n4_ n5_
                          refine start_ (n := 10) (S := fun w' => w'.cell? ⟨gb328, 0, none⟩ = some (.int .i64 t325) ∧ w'.cell? ⟨gb328, 1, none⟩ = some (.int .i64 t326) ∧ w'.cell? ⟨gb332, 0, none⟩ = some (.int .i64 t329) ∧ w'.cell? ⟨gb332, 1, none⟩ = some (.int .i64 t330)) (ds := []) #[false, false, false, false, false, false, false, false, false, false] (by kernel_rfl) rfl rfl ⟨(blk_cell BK328.out 0).trans rfl, (blk_cell BK328.out 1).trans rfl, (blk_cell BK332.out 0).trans rfl, (blk_cell BK332.out 1).trans rfl⟩ (fun hHeld => ?_); refine with_tabW headroomlaw20_PowerTurns.tab13 headroomlaw20_PowerTurns.bits13 (fun HT_ HW_ => ?_)
                          generalize w34.drew = w35 at HO_10 HO_11 BK324 BK328 BK332 HB hHeld ⊢
                          refine pure_ (i := 0) (N := some 81) (v := ?_) (a' := ?_) #[true, false, false, false, false, false, false, false, false, false] rfl rfl (any_of HT_.out (by kernel_rfl)) (fun _ _ _ h => h) (Or.inl ⟨by rfl, ?_⟩) ?_ ?_
                          rotate_left
                          · intro w'
                            go_simp
                            with_reducible rfl
                          rotate_left
                          · simp only [Act.put, List.setIfInBounds_toArray, List.set_cons_zero, List.set_cons_succ, i64_w, i32_w]
                            rfl
                          refine pure_ (i := 4) (N := some 85) (v := ?_) (a' := ?_) #[true, false, false, false, true, false, false, false, false, false] rfl rfl (any_of HT_.out (by kernel_rfl)) (fun _ _ _ h => h) (Or.inl ⟨by rfl, ?_⟩) ?_ ?_
                          rotate_left
                          · intro w'
                            go_simp
                            with_reducible rfl
                          rotate_left
                          · simp only [Act.put, List.setIfInBounds_toArray, List.set_cons_zero, List.set_cons_succ, i64_w, i32_w]
                            rfl
                          refine take_ (i := 1) (N := some 82) (v := ?_) (a' := ?_) #[true, true, false, false, true, false, false, false, false, false] rfl rfl (take_ofW HT_.out HW_.out (by kernel_rfl)) (fun _ _ _ h => h) (Or.inl ⟨by rfl, ?_⟩) hHeld ?_ ?_
                          rotate_left
                          · rintro w' ⟨s0, s1, s2, s3⟩
                            go_simp
                            with_reducible rfl
                          rotate_left
                          · simp only [Act.put, List.setIfInBounds_toArray, List.set_cons_zero, List.set_cons_succ, i64_w, i32_w]
                            rfl
                          refine take_ (i := 5) (N := some 86) (v := ?_) (a' := ?_) #[true, true, false, false, true, true, false, false, false, false] rfl rfl (take_ofW HT_.out HW_.out (by kernel_rfl)) (fun _ _ _ h => h) (Or.inl ⟨by rfl, ?_⟩) hHeld ?_ ?_
                          rotate_left
                          · rintro w' ⟨s0, s1, s2, s3⟩
                            go_simp
                            with_reducible rfl
                          rotate_left
                          · simp only [Act.put, List.setIfInBounds_toArray, List.set_cons_zero, List.set_cons_succ, i64_w, i32_w]
                            rfl
                          refine join_ (σ := Value × Value × Value) 3 #[true, true, true, true, true, true, true, false, false, false] (fun s_ => [(83, s_.1), (84, s_.2.1), (87, s_.2.2)]) (fun s_ w' => (w'.cell? ⟨gb328, 0, none⟩ = some (.int .i64 t325) ∧ w'.cell? ⟨gb328, 1, none⟩ = some (.int .i64 t326) ∧ w'.cell? ⟨gb332, 0, none⟩ = some (.int .i64 t329) ∧ w'.cell? ⟨gb332, 1, none⟩ = some (.int .i64 t330)) ∧ (Kd.R k45 45 w' w.heap.size (fun k_ => some k_ ≠ (s_.2.1 : Value).ownBlock ∧ some k_ ≠ (s_.2.2 : Value).ownBlock ∧ some k_ ≠ (.slice Ao33 x11_1.length co33 : Value).ownBlock ∧ k_ ≠ gb324 ∧ k_ ≠ gb328 ∧ k_ ≠ gb332) s_.1 y333) ∧ (Kd.R k45 45 w' w.heap.size (fun k_ => some k_ ≠ (s_.1 : Value).ownBlock ∧ some k_ ≠ (s_.2.2 : Value).ownBlock ∧ some k_ ≠ (.slice Ao33 x11_1.length co33 : Value).ownBlock ∧ k_ ≠ gb324 ∧ k_ ≠ gb328 ∧ k_ ≠ gb332) s_.2.1 y336) ∧ (Kd.R k45 45 w' w.heap.size (fun k_ => some k_ ≠ (s_.1 : Value).ownBlock ∧ some k_ ≠ (s_.2.1 : Value).ownBlock ∧ some k_ ≠ (.slice Ao33 x11_1.length co33 : Value).ownBlock ∧ k_ ≠ gb324 ∧ k_ ≠ gb328 ∧ k_ ≠ gb332) s_.2.2 y339) ∧ (Kd.R k45 45 w' w.heap.size (fun k_ => some k_ ≠ (s_.1 : Value).ownBlock ∧ some k_ ≠ (s_.2.1 : Value).ownBlock ∧ some k_ ≠ (s_.2.2 : Value).ownBlock ∧ k_ ≠ gb324 ∧ k_ ≠ gb328 ∧ k_ ≠ gb332) (.slice Ao33 x11_1.length co33) x11_1) ∧ (w'.heap[gb324]? = some (.cells #[.int .i64 ((rd_T45 y315 x60_1).f0), .int .i64 ((rd_T45 y315 x60_1).f1)] 45 (0, 0))) ∧ (w'.heap[gb328]? = some (.cells #[.int .i64 t325, .int .i64 t326] 45 (0, 0))) ∧ (w'.heap[gb332]? = some (.cells #[.int .i64 t329, .int .i64 t330] 45 (0, 0))) ∧ (Below w.heap.size w w')) ?_ ?_
                          rotate_left
                          · intro hCont
                            refine two_ (i := 2) (j := 6) (Ni := some 83) (Nj := some 87) #[true, true, true, false, true, true, false, false, false, false] #[true, true, false, false, true, true, true, false, false, false] rfl rfl rfl rfl (two_of HT_.out (by kernel_rfl)) (by decide) (by decide) (fun K hK => ?_) (fun K hK => ?_)
                            · skip
                              refine Kd.R_lit_step k45 _ 45 ?hg (N := 83) ?hd (xs := ([(⟨t325, t326⟩ : S45)] : List (S45))) (inner := [.int .i64 t325, .int .i64 t326]) (ok := fun _ => True) (okp := fun _ => True) ?hr ?hp (fun _ hk => hk) trivial (Below.refl _ _) (Nat.le_refl _) (by simp) ?_; (case hd => rfl); (case hg => rfl); (case hr => first | (go_simp; done) | (go_simp; rfl)); (case hp => exact (Reps.c2 (show Kd.M k45 _ _ _ (⟨t325, t326⟩ : S45) [.int .i64 t325, .int .i64 t326] from (k45_mkM _ _ _ (⟨t325, t326⟩ : S45) )) (Reps.none _ _)))
                              intro v334 w36 ho37 hb hg_ hnew_
                              clear hg_ hnew_
                              (first | rw [← Ny333.out] at ho37 | (simp only [Int.reduceToNat] at ho37; rw [← Ny333.out] at ho37))
                              have n0_ := Aside0.mk (Kd.R_elder' (by (with_reducible repeat (first | apply Kd.R_alloc | apply Kd.R_drewN | apply Kd.R_drew)); exact HO_10.out) (Kd.R_base ho37) hb)
                              have n1_ := Aside0.mk (Kd.R_elder' (by (with_reducible repeat (first | apply Kd.R_alloc | apply Kd.R_drewN | apply Kd.R_drew)); exact HO_11.out) (Kd.R_base ho37) hb)
                              have n2_ := Aside0.mk (Kd.R_lower (Kd.R_newB (Kd.R_newB (Kd.R_newB (Kd.R_new' (Kd.R_new' ho37 (Kd.R_lt (by (with_reducible repeat (first | apply Kd.R_alloc | apply Kd.R_drewN | apply Kd.R_drew)); exact HO_10.out))) (Kd.R_lt (by (with_reducible repeat (first | apply Kd.R_alloc | apply Kd.R_drewN | apply Kd.R_drew)); exact HO_11.out))) (g := gb324) (o := .cells #[.int .i64 ((rd_T45 y315 x60_1).f0), .int .i64 ((rd_T45 y315 x60_1).f1)] 45 (0, 0)) (by (with_reducible repeat (first | refine blk_drewN ?_ _ | refine blk_drew ?_ | refine blk_alloc ?_ _)); exact BK324.out)) (g := gb328) (o := .cells #[.int .i64 t325, .int .i64 t326] 45 (0, 0)) (by (with_reducible repeat (first | refine blk_drewN ?_ _ | refine blk_drew ?_ | refine blk_alloc ?_ _)); exact BK328.out)) (g := gb332) (o := .cells #[.int .i64 t329, .int .i64 t330] 45 (0, 0)) (by (with_reducible repeat (first | refine blk_drewN ?_ _ | refine blk_drew ?_ | refine blk_alloc ?_ _)); exact BK332.out)) (below_size (by repeat (first | (with_reducible first | exact HB.out | apply below_alloc | apply pw_below_drewN | apply below_drew1 | refine below_set ?_ GE324.out | refine below_set ?_ GE328.out | refine below_set ?_ GE332.out) | exact HB.out))))
                              have n3_ := Aside0.mk (blk_below (g := gb324) (o := .cells #[.int .i64 ((rd_T45 y315 x60_1).f0), .int .i64 ((rd_T45 y315 x60_1).f1)] 45 (0, 0)) (by (with_reducible repeat (first | refine blk_drewN ?_ _ | refine blk_drew ?_ | refine blk_alloc ?_ _)); exact BK324.out) hb)
                              have n4_ := Aside0.mk (blk_below (g := gb328) (o := .cells #[.int .i64 t325, .int .i64 t326] 45 (0, 0)) (by (with_reducible repeat (first | refine blk_drewN ?_ _ | refine blk_drew ?_ | refine blk_alloc ?_ _)); exact BK328.out) hb)
                              have n5_ := Aside0.mk (blk_below (g := gb332) (o := .cells #[.int .i64 t329, .int .i64 t330] 45 (0, 0)) (by (with_reducible repeat (first | refine blk_drewN ?_ _ | refine blk_drew ?_ | refine blk_alloc ?_ _)); exact BK332.out) hb)
                              have n6_ := Aside0.mk (below_step (by repeat (first | (with_reducible first | exact HB.out | apply below_alloc | apply pw_below_drewN | apply below_drew1 | refine below_set ?_ GE324.out | refine below_set ?_ GE328.out | refine below_set ?_ GE332.out) | exact HB.out)) hb)
                              clear HO_10
                              clear HO_11
                              clear BK324
                              clear BK328
                              clear BK332
                              clear HB
                              have HO_10 := n0_
                              have HO_11 := n1_
                              have HO335 := n2_
                              have BK324 := n3_
                              have BK328 := n4_
                              have BK332 := n5_
                              have HB := n6_
                              clear n0_ n1_ n2_ n3_ n4_ n5_ n6_
                              clear hb ho37
                              obtain ⟨Ao39, co39, eo39⟩ := Kd.R_slice HO335.out
                              (first | subst eo39 | (injection eo39 with f1_ f2_ f3_; have f4_ := f1_.symm; have f5_ := f3_.symm; clear f1_ f2_ f3_; subst f4_; subst f5_))
                              refine hK.out _ _ ⟨(blk_cell BK328.out 0).trans rfl, (blk_cell BK328.out 1).trans rfl, (blk_cell BK332.out 0).trans rfl, (blk_cell BK332.out 1).trans rfl⟩ (fun hHeld => ?_)
                              clear hK K
                              refine norm_ (a' := ?_) ?_ ?_
                              rotate_left
                              · show Act.put _ (some 83) _ = _
                                simp only [Act.put, List.setIfInBounds_toArray, List.set_cons_zero, List.set_cons_succ, i64_w, i32_w]
                                rfl
                              refine two_ (i := 3) (j := 6) (Ni := some 84) (Nj := some 87) #[true, true, true, true, true, true, false, false, false, false] #[true, true, true, false, true, true, true, false, false, false] rfl rfl rfl rfl (two_of HT_.out (by kernel_rfl)) (by decide) (by decide) (fun K hK => ?_) (fun K hK => ?_)
                              · skip
                                refine Kd.R_append_rows_step k45 (w0 := w) w.heap.size (by rfl) (.tmp 81) (.tmp 83) 37 45 (.agg #[(.int .i64 0), (.int .i64 0)]) 16 rfl Try.underlying37 info45 rfl (by decide) (by omega) (.slice Ao32 x10_1.length co32) x10_1 y333 _ _ _ (fun k_ => some k_ ≠ (.slice Ao33 x11_1.length co33 : Value).ownBlock ∧ some k_ ≠ (.slice Ao39 y333.length co39 : Value).ownBlock ∧ k_ ≠ gb324 ∧ k_ ≠ gb328 ∧ k_ ≠ gb332) (fun _ => False) rfl rfl ?aO ?aR (fun _ _ h => h) (fun _ h => h.elim) ?aF ?aB ?aS ?aL ?_
                                (case aR => repeat (first | exact (Kd.R_reads' HO335.out).2.2 | (with_reducible refine Kd.C_alloc ?_ _) | (with_reducible refine Kd.C_drewN ?_ _) | (with_reducible refine Kd.C_drew ?_)))
                                (case aB => exact (by repeat (first | (with_reducible first | exact HB.out | apply below_alloc | apply pw_below_drewN | apply below_drew1 | refine below_set ?_ GE324.out | refine below_set ?_ GE328.out | refine below_set ?_ GE332.out) | exact HB.out)))
                                (case aF => exact (fun k_ hk => ⟨Kd.fresh' (Kd.R_lt (by (with_reducible repeat (first | apply Kd.R_alloc | apply Kd.R_drewN | apply Kd.R_drew)); exact HO_11.out)) k_ hk, Kd.fresh' (Kd.R_lt (by (with_reducible repeat (first | apply Kd.R_alloc | apply Kd.R_drewN | apply Kd.R_drew)); exact HO335.out)) k_ hk, Kd.freshB (g := gb324) (o := .cells #[.int .i64 ((rd_T45 y315 x60_1).f0), .int .i64 ((rd_T45 y315 x60_1).f1)] 45 (0, 0)) (by (with_reducible repeat (first | refine blk_drewN ?_ _ | refine blk_drew ?_ | refine blk_alloc ?_ _)); exact BK324.out) k_ hk, Kd.freshB (g := gb328) (o := .cells #[.int .i64 t325, .int .i64 t326] 45 (0, 0)) (by (with_reducible repeat (first | refine blk_drewN ?_ _ | refine blk_drew ?_ | refine blk_alloc ?_ _)); exact BK328.out) k_ hk, Kd.freshB (g := gb332) (o := .cells #[.int .i64 t329, .int .i64 t330] 45 (0, 0)) (by (with_reducible repeat (first | refine blk_drewN ?_ _ | refine blk_drew ?_ | refine blk_alloc ?_ _)); exact BK332.out) k_ hk⟩))
                                (case aO => exact (by (with_reducible repeat (first | apply Kd.R_alloc | apply Kd.R_drewN | apply Kd.R_drew)); exact Kd.R_mono HO_10.out (fun _ hk => ⟨hk.1.1, ⟨hk.2, ⟨hk.1.2.1, ⟨hk.1.2.2.1, hk.1.2.2.2⟩⟩⟩⟩)))
                                (case aS => exact (below_size (by repeat (first | (with_reducible first | exact HB.out | apply below_alloc | apply pw_below_drewN | apply below_drew1 | refine below_set ?_ GE324.out | refine below_set ?_ GE328.out | refine below_set ?_ GE332.out) | exact HB.out))))
                                (case aL => have := LMc18.out; omega)
                                intro v337 w38 ho hb hg hat
                                rw [← Ny336.out] at ho
                                have n0_ := Aside0.mk (Kd.R_after (ok := (fun k_ => some k_ ≠ (.slice Ao39 y333.length co39 : Value).ownBlock ∧ k_ ≠ gb324 ∧ k_ ≠ gb328 ∧ k_ ≠ gb332)) (by (with_reducible repeat (first | apply Kd.R_alloc | apply Kd.R_drewN | apply Kd.R_drew)); exact Kd.R_mono HO_11.out (fun _ hk => ⟨⟨hk.2, ⟨hk.1.2.1, ⟨hk.1.2.2.1, hk.1.2.2.2⟩⟩⟩, hk.1.1⟩)) hg hat)
                                have n1_ := Aside0.mk (blk_grown (g := gb324) (o := .cells #[.int .i64 ((rd_T45 y315 x60_1).f0), .int .i64 ((rd_T45 y315 x60_1).f1)] 45 (0, 0)) (by (with_reducible repeat (first | refine blk_drewN ?_ _ | refine blk_drew ?_ | refine blk_alloc ?_ _)); exact BK324.out) hg (Kd.R_away HO_10.out (fun _ hk => hk.1.2.1)))
                                have n2_ := Aside0.mk (blk_grown (g := gb328) (o := .cells #[.int .i64 t325, .int .i64 t326] 45 (0, 0)) (by (with_reducible repeat (first | refine blk_drewN ?_ _ | refine blk_drew ?_ | refine blk_alloc ?_ _)); exact BK328.out) hg (Kd.R_away HO_10.out (fun _ hk => hk.1.2.2.1)))
                                have n3_ := Aside0.mk (blk_grown (g := gb332) (o := .cells #[.int .i64 t329, .int .i64 t330] 45 (0, 0)) (by (with_reducible repeat (first | refine blk_drewN ?_ _ | refine blk_drew ?_ | refine blk_alloc ?_ _)); exact BK332.out) hg (Kd.R_away HO_10.out (fun _ hk => hk.1.2.2.2)))
                                have n4_ := Aside0.mk (Kd.R_after (ok := (fun k_ => some k_ ≠ (.slice Ao33 x11_1.length co33 : Value).ownBlock ∧ k_ ≠ gb324 ∧ k_ ≠ gb328 ∧ k_ ≠ gb332)) (by (with_reducible repeat (first | apply Kd.R_alloc | apply Kd.R_drewN | apply Kd.R_drew)); exact Kd.R_mono HO335.out (fun _ hk => ⟨⟨hk.1.1.1.2, ⟨hk.1.1.2, ⟨hk.1.2, hk.2⟩⟩⟩, hk.1.1.1.1.2⟩)) hg hat)
                                have n5_ := Aside0.mk (hb)
                                have n6_ := Aside0.mk (ho)
                                clear HO_11
                                clear BK324
                                clear BK328
                                clear BK332
                                clear HO335
                                clear HB
                                clear HO_10
                                have HO_11 := n0_
                                have BK324 := n1_
                                have BK328 := n2_
                                have BK332 := n3_
                                have HO335 := n4_
                                have HB := n5_
                                have HO338 := n6_
                                clear n0_ n1_ n2_ n3_ n4_ n5_ n6_
                                clear ho hb hg hat
                                refine hK.out _ _ ⟨(blk_cell BK328.out 0).trans rfl, (blk_cell BK328.out 1).trans rfl, (blk_cell BK332.out 0).trans rfl, (blk_cell BK332.out 1).trans rfl⟩ (fun hHeld => ?_)
                                clear hK K
                                refine norm_ (a' := ?_) ?_ ?_
                                rotate_left
                                · show Act.put _ (some 84) _ = _
                                  simp only [Act.put, List.setIfInBounds_toArray, List.set_cons_zero, List.set_cons_succ, i64_w, i32_w]
                                  rfl
                                refine one_ (i := 6) (N := some 87) #[true, true, true, true, true, true, true, false, false, false] rfl rfl (one_of HT_.out (by kernel_rfl)) (by decide) (fun K hK => ?_)
                                refine Kd.R_lit_step k45 _ 45 ?hg (N := 87) ?hd (xs := ([(⟨t329, t330⟩ : S45)] : List (S45))) (inner := [.int .i64 t329, .int .i64 t330]) (ok := fun _ => True) (okp := fun _ => True) ?hr ?hp (fun _ hk => hk) trivial (Below.refl _ _) (Nat.le_refl _) (by simp) ?_; (case hd => rfl); (case hg => rfl); (case hr => first | (go_simp; done) | (go_simp; rfl)); (case hp => exact (Reps.c2 (show Kd.M k45 _ _ _ (⟨t329, t330⟩ : S45) [.int .i64 t329, .int .i64 t330] from (k45_mkM _ _ _ (⟨t329, t330⟩ : S45) )) (Reps.none _ _)))
                                intro v340 w40 ho41 hb hg_ hnew_
                                clear hg_ hnew_
                                (first | rw [← Ny339.out] at ho41 | (simp only [Int.reduceToNat] at ho41; rw [← Ny339.out] at ho41))
                                have n0_ := Aside0.mk (Kd.R_elder' (by (with_reducible repeat (first | apply Kd.R_alloc | apply Kd.R_drewN | apply Kd.R_drew)); exact HO_11.out) (Kd.R_base ho41) hb)
                                have n1_ := Aside0.mk (Kd.R_elder' (by (with_reducible repeat (first | apply Kd.R_alloc | apply Kd.R_drewN | apply Kd.R_drew)); exact HO335.out) (Kd.R_base ho41) hb)
                                have n2_ := Aside0.mk (Kd.R_elder' (by (with_reducible repeat (first | apply Kd.R_alloc | apply Kd.R_drewN | apply Kd.R_drew)); exact HO338.out) (Kd.R_base ho41) hb)
                                have n3_ := Aside0.mk (Kd.R_lower (Kd.R_newB (Kd.R_newB (Kd.R_newB (Kd.R_new' (Kd.R_new' (Kd.R_new' ho41 (Kd.R_lt (by (with_reducible repeat (first | apply Kd.R_alloc | apply Kd.R_drewN | apply Kd.R_drew)); exact HO_11.out))) (Kd.R_lt (by (with_reducible repeat (first | apply Kd.R_alloc | apply Kd.R_drewN | apply Kd.R_drew)); exact HO335.out))) (Kd.R_lt (by (with_reducible repeat (first | apply Kd.R_alloc | apply Kd.R_drewN | apply Kd.R_drew)); exact HO338.out))) (g := gb324) (o := .cells #[.int .i64 ((rd_T45 y315 x60_1).f0), .int .i64 ((rd_T45 y315 x60_1).f1)] 45 (0, 0)) (by (with_reducible repeat (first | refine blk_drewN ?_ _ | refine blk_drew ?_ | refine blk_alloc ?_ _)); exact BK324.out)) (g := gb328) (o := .cells #[.int .i64 t325, .int .i64 t326] 45 (0, 0)) (by (with_reducible repeat (first | refine blk_drewN ?_ _ | refine blk_drew ?_ | refine blk_alloc ?_ _)); exact BK328.out)) (g := gb332) (o := .cells #[.int .i64 t329, .int .i64 t330] 45 (0, 0)) (by (with_reducible repeat (first | refine blk_drewN ?_ _ | refine blk_drew ?_ | refine blk_alloc ?_ _)); exact BK332.out)) (below_size (by repeat (first | (with_reducible first | exact HB.out | apply below_alloc | apply pw_below_drewN | apply below_drew1 | refine below_set ?_ GE324.out | refine below_set ?_ GE328.out | refine below_set ?_ GE332.out) | exact HB.out))))
                                have n4_ := Aside0.mk (blk_below (g := gb324) (o := .cells #[.int .i64 ((rd_T45 y315 x60_1).f0), .int .i64 ((rd_T45 y315 x60_1).f1)] 45 (0, 0)) (by (with_reducible repeat (first | refine blk_drewN ?_ _ | refine blk_drew ?_ | refine blk_alloc ?_ _)); exact BK324.out) hb)
                                have n5_ := Aside0.mk (blk_below (g := gb328) (o := .cells #[.int .i64 t325, .int .i64 t326] 45 (0, 0)) (by (with_reducible repeat (first | refine blk_drewN ?_ _ | refine blk_drew ?_ | refine blk_alloc ?_ _)); exact BK328.out) hb)
                                have n6_ := Aside0.mk (blk_below (g := gb332) (o := .cells #[.int .i64 t329, .int .i64 t330] 45 (0, 0)) (by (with_reducible repeat (first | refine blk_drewN ?_ _ | refine blk_drew ?_ | refine blk_alloc ?_ _)); exact BK332.out) hb)
                                have n7_ := Aside0.mk (below_step (by repeat (first | (with_reducible first | exact HB.out | apply below_alloc | apply pw_below_drewN | apply below_drew1 | refine below_set ?_ GE324.out | refine below_set ?_ GE328.out | refine below_set ?_ GE332.out) | exact HB.out)) hb)
                                clear HO_11
                                clear HO335
                                clear HO338
                                clear BK324
                                clear BK328
                                clear BK332
                                clear HB
                                have HO_11 := n0_
                                have HO335 := n1_
                                have HO338 := n2_
                                have HO341 := n3_
                                have BK324 := n4_
                                have BK328 := n5_
                                have BK332 := n6_
                                have HB := n7_
                                clear n0_ n1_ n2_ n3_ n4_ n5_ n6_ n7_
                                clear hb ho41
                                refine hK.out _ _ ⟨(blk_cell BK328.out 0).trans rfl, (blk_cell BK328.out 1).trans rfl, (blk_cell BK332.out 0).trans rfl, (blk_cell BK332.out 1).trans rfl⟩ (fun hHeld => ?_)
                                clear hK K
                                refine norm_ (a' := ?_) ?_ ?_
                                rotate_left
                                · show Act.put _ (some 87) _ = _
                                  simp only [Act.put, List.setIfInBounds_toArray, List.set_cons_zero, List.set_cons_succ, i64_w, i32_w]
                                  rfl
                                exact norm_ (by simp only [putAll, Act.put, List.setIfInBounds_toArray, List.set_cons_zero, List.set_cons_succ]) (hCont (.slice Ao39 y333.length co39, v337, v340) _ ⟨hHeld, (by (with_reducible repeat (first | apply Kd.R_alloc | apply Kd.R_drewN | apply Kd.R_drew)); exact Kd.R_mono HO335.out (fun _ hk => ⟨hk.1.2, ⟨hk.2, ⟨hk.1.1.1, ⟨hk.1.1.2.1, ⟨hk.1.1.2.2.1, hk.1.1.2.2.2⟩⟩⟩⟩⟩)), (by (with_reducible repeat (first | apply Kd.R_alloc | apply Kd.R_drewN | apply Kd.R_drew)); exact Kd.R_mono HO338.out (fun _ hk => ⟨hk.1.2.1, ⟨hk.2, ⟨hk.1.1, ⟨hk.1.2.2.1, ⟨hk.1.2.2.2.1, hk.1.2.2.2.2⟩⟩⟩⟩⟩)), (by (with_reducible repeat (first | apply Kd.R_alloc | apply Kd.R_drewN | apply Kd.R_drew)); exact Kd.R_mono HO341.out (fun _ hk => ⟨hk.1.1.1.1.2, ⟨hk.1.1.1.2, ⟨hk.1.1.1.1.1.2, ⟨hk.1.1.2, ⟨hk.1.2, hk.2⟩⟩⟩⟩⟩)), (by (with_reducible repeat (first | apply Kd.R_alloc | apply Kd.R_drewN | apply Kd.R_drew)); exact Kd.R_mono HO_11.out (fun _ hk => ⟨hk.1.1.1, ⟨hk.1.2, ⟨hk.2, ⟨hk.1.1.2.1, ⟨hk.1.1.2.2.1, hk.1.1.2.2.2⟩⟩⟩⟩⟩)), (by (with_reducible repeat (first | refine blk_drewN ?_ _ | refine blk_drew ?_ | refine blk_alloc ?_ _)); exact BK324.out), (by (with_reducible repeat (first | refine blk_drewN ?_ _ | refine blk_drew ?_ | refine blk_alloc ?_ _)); exact BK328.out), (by (with_reducible repeat (first | refine blk_drewN ?_ _ | refine blk_drew ?_ | refine blk_alloc ?_ _)); exact BK332.out), (by repeat (first | (with_reducible first | exact HB.out | apply below_alloc | apply pw_below_drewN | apply below_drew1 | refine below_set ?_ GE324.out | refine below_set ?_ GE328.out | refine below_set ?_ GE332.out) | exact HB.out))⟩)
                              · skip
                                refine Kd.R_lit_step k45 _ 45 ?hg (N := 87) ?hd (xs := ([(⟨t329, t330⟩ : S45)] : List (S45))) (inner := [.int .i64 t329, .int .i64 t330]) (ok := fun _ => True) (okp := fun _ => True) ?hr ?hp (fun _ hk => hk) trivial (Below.refl _ _) (Nat.le_refl _) (by simp) ?_; (case hd => rfl); (case hg => rfl); (case hr => first | (go_simp; done) | (go_simp; rfl)); (case hp => exact (Reps.c2 (show Kd.M k45 _ _ _ (⟨t329, t330⟩ : S45) [.int .i64 t329, .int .i64 t330] from (k45_mkM _ _ _ (⟨t329, t330⟩ : S45) )) (Reps.none _ _)))
                                intro v340 w38 ho39 hb hg_ hnew_
                                clear hg_ hnew_
                                (first | rw [← Ny339.out] at ho39 | (simp only [Int.reduceToNat] at ho39; rw [← Ny339.out] at ho39))
                                have n0_ := Aside0.mk (Kd.R_elder' (by (with_reducible repeat (first | apply Kd.R_alloc | apply Kd.R_drewN | apply Kd.R_drew)); exact HO_10.out) (Kd.R_base ho39) hb)
                                have n1_ := Aside0.mk (Kd.R_elder' (by (with_reducible repeat (first | apply Kd.R_alloc | apply Kd.R_drewN | apply Kd.R_drew)); exact HO_11.out) (Kd.R_base ho39) hb)
                                have n2_ := Aside0.mk (Kd.R_elder' (by (with_reducible repeat (first | apply Kd.R_alloc | apply Kd.R_drewN | apply Kd.R_drew)); exact HO335.out) (Kd.R_base ho39) hb)
                                have n3_ := Aside0.mk (Kd.R_lower (Kd.R_newB (Kd.R_newB (Kd.R_newB (Kd.R_new' (Kd.R_new' (Kd.R_new' ho39 (Kd.R_lt (by (with_reducible repeat (first | apply Kd.R_alloc | apply Kd.R_drewN | apply Kd.R_drew)); exact HO_10.out))) (Kd.R_lt (by (with_reducible repeat (first | apply Kd.R_alloc | apply Kd.R_drewN | apply Kd.R_drew)); exact HO_11.out))) (Kd.R_lt (by (with_reducible repeat (first | apply Kd.R_alloc | apply Kd.R_drewN | apply Kd.R_drew)); exact HO335.out))) (g := gb324) (o := .cells #[.int .i64 ((rd_T45 y315 x60_1).f0), .int .i64 ((rd_T45 y315 x60_1).f1)] 45 (0, 0)) (by (with_reducible repeat (first | refine blk_drewN ?_ _ | refine blk_drew ?_ | refine blk_alloc ?_ _)); exact BK324.out)) (g := gb328) (o := .cells #[.int .i64 t325, .int .i64 t326] 45 (0, 0)) (by (with_reducible repeat (first | refine blk_drewN ?_ _ | refine blk_drew ?_ | refine blk_alloc ?_ _)); exact BK328.out)) (g := gb332) (o := .cells #[.int .i64 t329, .int .i64 t330] 45 (0, 0)) (by (with_reducible repeat (first | refine blk_drewN ?_ _ | refine blk_drew ?_ | refine blk_alloc ?_ _)); exact BK332.out)) (below_size (by repeat (first | (with_reducible first | exact HB.out | apply below_alloc | apply pw_below_drewN | apply below_drew1 | refine below_set ?_ GE324.out | refine below_set ?_ GE328.out | refine below_set ?_ GE332.out) | exact HB.out))))
                                have n4_ := Aside0.mk (blk_below (g := gb324) (o := .cells #[.int .i64 ((rd_T45 y315 x60_1).f0), .int .i64 ((rd_T45 y315 x60_1).f1)] 45 (0, 0)) (by (with_reducible repeat (first | refine blk_drewN ?_ _ | refine blk_drew ?_ | refine blk_alloc ?_ _)); exact BK324.out) hb)
                                have n5_ := Aside0.mk (blk_below (g := gb328) (o := .cells #[.int .i64 t325, .int .i64 t326] 45 (0, 0)) (by (with_reducible repeat (first | refine blk_drewN ?_ _ | refine blk_drew ?_ | refine blk_alloc ?_ _)); exact BK328.out) hb)
                                have n6_ := Aside0.mk (blk_below (g := gb332) (o := .cells #[.int .i64 t329, .int .i64 t330] 45 (0, 0)) (by (with_reducible repeat (first | refine blk_drewN ?_ _ | refine blk_drew ?_ | refine blk_alloc ?_ _)); exact BK332.out) hb)
                                have n7_ := Aside0.mk (below_step (by repeat (first | (with_reducible first | exact HB.out | apply below_alloc | apply pw_below_drewN | apply below_drew1 | refine below_set ?_ GE324.out | refine below_set ?_ GE328.out | refine below_set ?_ GE332.out) | exact HB.out)) hb)
                                clear HO_10
                                clear HO_11
                                clear HO335
                                clear BK324
                                clear BK328
                                clear BK332
                                clear HB
                                have HO_10 := n0_
                                have HO_11 := n1_
                                have HO335 := n2_
                                have HO341 := n3_
                                have BK324 := n4_
                                have BK328 := n5_
                                have BK332 := n6_
                                have HB := n7_
                                clear n0_ n1_ n2_ n3_ n4_ n5_ n6_ n7_
                                clear hb ho39
                                obtain ⟨Ao41, co41, eo41⟩ := Kd.R_slice HO335.out
                                (first | subst eo41 | (injection eo41 with f1_ f2_ f3_; have f4_ := f1_.symm; have f5_ := f3_.symm; clear f1_ f2_ f3_; subst f4_; subst f5_))
                                refine hK.out _ _ ⟨(blk_cell BK328.out 0).trans rfl, (blk_cell BK328.out 1).trans rfl, (blk_cell BK332.out 0).trans rfl, (blk_cell BK332.out 1).trans rfl⟩ (fun hHeld => ?_)
                                clear hK K
                                refine norm_ (a' := ?_) ?_ ?_
                                rotate_left
                                · show Act.put _ (some 87) _ = _
                                  simp only [Act.put, List.setIfInBounds_toArray, List.set_cons_zero, List.set_cons_succ, i64_w, i32_w]
                                  rfl
                                refine one_ (i := 3) (N := some 84) #[true, true, true, true, true, true, true, false, false, false] rfl rfl (one_of HT_.out (by kernel_rfl)) (by decide) (fun K hK => ?_)
                                refine Kd.R_append_rows_step k45 (w0 := w) w.heap.size (by rfl) (.tmp 81) (.tmp 83) 37 45 (.agg #[(.int .i64 0), (.int .i64 0)]) 16 rfl Try.underlying37 info45 rfl (by decide) (by omega) (.slice Ao32 x10_1.length co32) x10_1 y333 _ _ _ (fun k_ => some k_ ≠ (.slice Ao33 x11_1.length co33 : Value).ownBlock ∧ some k_ ≠ (.slice Ao41 y333.length co41 : Value).ownBlock ∧ some k_ ≠ (v340 : Value).ownBlock ∧ k_ ≠ gb324 ∧ k_ ≠ gb328 ∧ k_ ≠ gb332) (fun _ => False) rfl rfl ?aO ?aR (fun _ _ h => h) (fun _ h => h.elim) ?aF ?aB ?aS ?aL ?_
                                (case aR => repeat (first | exact (Kd.R_reads' HO335.out).2.2 | (with_reducible refine Kd.C_alloc ?_ _) | (with_reducible refine Kd.C_drewN ?_ _) | (with_reducible refine Kd.C_drew ?_)))
                                (case aB => exact (by repeat (first | (with_reducible first | exact HB.out | apply below_alloc | apply pw_below_drewN | apply below_drew1 | refine below_set ?_ GE324.out | refine below_set ?_ GE328.out | refine below_set ?_ GE332.out) | exact HB.out)))
                                (case aF => exact (fun k_ hk => ⟨Kd.fresh' (Kd.R_lt (by (with_reducible repeat (first | apply Kd.R_alloc | apply Kd.R_drewN | apply Kd.R_drew)); exact HO_11.out)) k_ hk, Kd.fresh' (Kd.R_lt (by (with_reducible repeat (first | apply Kd.R_alloc | apply Kd.R_drewN | apply Kd.R_drew)); exact HO335.out)) k_ hk, Kd.fresh' (Kd.R_lt (by (with_reducible repeat (first | apply Kd.R_alloc | apply Kd.R_drewN | apply Kd.R_drew)); exact HO341.out)) k_ hk, Kd.freshB (g := gb324) (o := .cells #[.int .i64 ((rd_T45 y315 x60_1).f0), .int .i64 ((rd_T45 y315 x60_1).f1)] 45 (0, 0)) (by (with_reducible repeat (first | refine blk_drewN ?_ _ | refine blk_drew ?_ | refine blk_alloc ?_ _)); exact BK324.out) k_ hk, Kd.freshB (g := gb328) (o := .cells #[.int .i64 t325, .int .i64 t326] 45 (0, 0)) (by (with_reducible repeat (first | refine blk_drewN ?_ _ | refine blk_drew ?_ | refine blk_alloc ?_ _)); exact BK328.out) k_ hk, Kd.freshB (g := gb332) (o := .cells #[.int .i64 t329, .int .i64 t330] 45 (0, 0)) (by (with_reducible repeat (first | refine blk_drewN ?_ _ | refine blk_drew ?_ | refine blk_alloc ?_ _)); exact BK332.out) k_ hk⟩))
                                (case aO => exact (by (with_reducible repeat (first | apply Kd.R_alloc | apply Kd.R_drewN | apply Kd.R_drew)); exact Kd.R_mono HO_10.out (fun _ hk => ⟨hk.1.1.1, ⟨hk.1.2, ⟨hk.2, ⟨hk.1.1.2.1, ⟨hk.1.1.2.2.1, hk.1.1.2.2.2⟩⟩⟩⟩⟩)))
                                (case aS => exact (below_size (by repeat (first | (with_reducible first | exact HB.out | apply below_alloc | apply pw_below_drewN | apply below_drew1 | refine below_set ?_ GE324.out | refine below_set ?_ GE328.out | refine below_set ?_ GE332.out) | exact HB.out))))
                                (case aL => have := LMc18.out; omega)
                                intro v337 w40 ho hb hg hat
                                rw [← Ny336.out] at ho
                                have n0_ := Aside0.mk (Kd.R_after (ok := (fun k_ => some k_ ≠ (.slice Ao41 y333.length co41 : Value).ownBlock ∧ some k_ ≠ (v340 : Value).ownBlock ∧ k_ ≠ gb324 ∧ k_ ≠ gb328 ∧ k_ ≠ gb332)) (by (with_reducible repeat (first | apply Kd.R_alloc | apply Kd.R_drewN | apply Kd.R_drew)); exact Kd.R_mono HO_11.out (fun _ hk => ⟨⟨hk.1.2, ⟨hk.2, ⟨hk.1.1.2.1, ⟨hk.1.1.2.2.1, hk.1.1.2.2.2⟩⟩⟩⟩, hk.1.1.1⟩)) hg hat)
                                have n1_ := Aside0.mk (blk_grown (g := gb324) (o := .cells #[.int .i64 ((rd_T45 y315 x60_1).f0), .int .i64 ((rd_T45 y315 x60_1).f1)] 45 (0, 0)) (by (with_reducible repeat (first | refine blk_drewN ?_ _ | refine blk_drew ?_ | refine blk_alloc ?_ _)); exact BK324.out) hg (Kd.R_away HO_10.out (fun _ hk => hk.1.1.2.1)))
                                have n2_ := Aside0.mk (blk_grown (g := gb328) (o := .cells #[.int .i64 t325, .int .i64 t326] 45 (0, 0)) (by (with_reducible repeat (first | refine blk_drewN ?_ _ | refine blk_drew ?_ | refine blk_alloc ?_ _)); exact BK328.out) hg (Kd.R_away HO_10.out (fun _ hk => hk.1.1.2.2.1)))
                                have n3_ := Aside0.mk (blk_grown (g := gb332) (o := .cells #[.int .i64 t329, .int .i64 t330] 45 (0, 0)) (by (with_reducible repeat (first | refine blk_drewN ?_ _ | refine blk_drew ?_ | refine blk_alloc ?_ _)); exact BK332.out) hg (Kd.R_away HO_10.out (fun _ hk => hk.1.1.2.2.2)))
                                have n4_ := Aside0.mk (Kd.R_after (ok := (fun k_ => some k_ ≠ (.slice Ao33 x11_1.length co33 : Value).ownBlock ∧ some k_ ≠ (v340 : Value).ownBlock ∧ k_ ≠ gb324 ∧ k_ ≠ gb328 ∧ k_ ≠ gb332)) (by (with_reducible repeat (first | apply Kd.R_alloc | apply Kd.R_drewN | apply Kd.R_drew)); exact Kd.R_mono HO335.out (fun _ hk => ⟨⟨hk.1.1.1.1.2, ⟨hk.2, ⟨hk.1.1.1.2, ⟨hk.1.1.2, hk.1.2⟩⟩⟩⟩, hk.1.1.1.1.1.2⟩)) hg hat)
                                have n5_ := Aside0.mk (Kd.R_after (ok := (fun k_ => some k_ ≠ (.slice Ao33 x11_1.length co33 : Value).ownBlock ∧ some k_ ≠ (.slice Ao41 y333.length co41 : Value).ownBlock ∧ k_ ≠ gb324 ∧ k_ ≠ gb328 ∧ k_ ≠ gb332)) (by (with_reducible repeat (first | apply Kd.R_alloc | apply Kd.R_drewN | apply Kd.R_drew)); exact Kd.R_mono HO341.out (fun _ hk => ⟨⟨hk.1.1.1.1.2, ⟨hk.1.1.1.2, ⟨hk.1.1.2, ⟨hk.1.2, hk.2⟩⟩⟩⟩, hk.1.1.1.1.1.2⟩)) hg hat)
                                have n6_ := Aside0.mk (hb)
                                have n7_ := Aside0.mk (ho)
                                clear HO_11
                                clear BK324
                                clear BK328
                                clear BK332
                                clear HO335
                                clear HO341
                                clear HB
                                clear HO_10
                                have HO_11 := n0_
                                have BK324 := n1_
                                have BK328 := n2_
                                have BK332 := n3_
                                have HO335 := n4_
                                have HO341 := n5_
                                have HB := n6_
                                have HO338 := n7_
                                clear n0_ n1_ n2_ n3_ n4_ n5_ n6_ n7_
                                clear ho hb hg hat
                                refine hK.out _ _ ⟨(blk_cell BK328.out 0).trans rfl, (blk_cell BK328.out 1).trans rfl, (blk_cell BK332.out 0).trans rfl, (blk_cell BK332.out 1).trans rfl⟩ (fun hHeld => ?_)
                                clear hK K
                                refine norm_ (a' := ?_) ?_ ?_
                                rotate_left
                                · show Act.put _ (some 84) _ = _
                                  simp only [Act.put, List.setIfInBounds_toArray, List.set_cons_zero, List.set_cons_succ, i64_w, i32_w]
                                  rfl
                                exact norm_ (by simp only [putAll, Act.put, List.setIfInBounds_toArray, List.set_cons_zero, List.set_cons_succ]) (hCont (.slice Ao41 y333.length co41, v337, v340) _ ⟨hHeld, (by (with_reducible repeat (first | apply Kd.R_alloc | apply Kd.R_drewN | apply Kd.R_drew)); exact Kd.R_mono HO335.out (fun _ hk => ⟨hk.2, ⟨hk.1.2.1, ⟨hk.1.1, ⟨hk.1.2.2.1, ⟨hk.1.2.2.2.1, hk.1.2.2.2.2⟩⟩⟩⟩⟩)), (by (with_reducible repeat (first | apply Kd.R_alloc | apply Kd.R_drewN | apply Kd.R_drew)); exact Kd.R_mono HO338.out (fun _ hk => ⟨hk.2.1, ⟨hk.2.2.1, ⟨hk.1, ⟨hk.2.2.2.1, ⟨hk.2.2.2.2.1, hk.2.2.2.2.2⟩⟩⟩⟩⟩)), (by (with_reducible repeat (first | apply Kd.R_alloc | apply Kd.R_drewN | apply Kd.R_drew)); exact Kd.R_mono HO341.out (fun _ hk => ⟨hk.1.2.1, ⟨hk.2, ⟨hk.1.1, ⟨hk.1.2.2.1, ⟨hk.1.2.2.2.1, hk.1.2.2.2.2⟩⟩⟩⟩⟩)), (by (with_reducible repeat (first | apply Kd.R_alloc | apply Kd.R_drewN | apply Kd.R_drew)); exact Kd.R_mono HO_11.out (fun _ hk => ⟨hk.1.1, ⟨hk.2, ⟨hk.1.2.1, ⟨hk.1.2.2.1, ⟨hk.1.2.2.2.1, hk.1.2.2.2.2⟩⟩⟩⟩⟩)), (by (with_reducible repeat (first | refine blk_drewN ?_ _ | refine blk_drew ?_ | refine blk_alloc ?_ _)); exact BK324.out), (by (with_reducible repeat (first | refine blk_drewN ?_ _ | refine blk_drew ?_ | refine blk_alloc ?_ _)); exact BK328.out), (by (with_reducible repeat (first | refine blk_drewN ?_ _ | refine blk_drew ?_ | refine blk_alloc ?_ _)); exact BK332.out), (by repeat (first | (with_reducible first | exact HB.out | apply below_alloc | apply pw_below_drewN | apply below_drew1 | refine below_set ?_ GE324.out | refine below_set ?_ GE328.out | refine below_set ?_ GE332.out) | exact HB.out))⟩)
                            · skip
                              refine Kd.R_lit_step k45 _ 45 ?hg (N := 87) ?hd (xs := ([(⟨t329, t330⟩ : S45)] : List (S45))) (inner := [.int .i64 t329, .int .i64 t330]) (ok := fun _ => True) (okp := fun _ => True) ?hr ?hp (fun _ hk => hk) trivial (Below.refl _ _) (Nat.le_refl _) (by simp) ?_; (case hd => rfl); (case hg => rfl); (case hr => first | (go_simp; done) | (go_simp; rfl)); (case hp => exact (Reps.c2 (show Kd.M k45 _ _ _ (⟨t329, t330⟩ : S45) [.int .i64 t329, .int .i64 t330] from (k45_mkM _ _ _ (⟨t329, t330⟩ : S45) )) (Reps.none _ _)))
                              intro v340 w36 ho37 hb hg_ hnew_
                              clear hg_ hnew_
                              (first | rw [← Ny339.out] at ho37 | (simp only [Int.reduceToNat] at ho37; rw [← Ny339.out] at ho37))
                              have n0_ := Aside0.mk (Kd.R_elder' (by (with_reducible repeat (first | apply Kd.R_alloc | apply Kd.R_drewN | apply Kd.R_drew)); exact HO_10.out) (Kd.R_base ho37) hb)
                              have n1_ := Aside0.mk (Kd.R_elder' (by (with_reducible repeat (first | apply Kd.R_alloc | apply Kd.R_drewN | apply Kd.R_drew)); exact HO_11.out) (Kd.R_base ho37) hb)
                              have n2_ := Aside0.mk (Kd.R_lower (Kd.R_newB (Kd.R_newB (Kd.R_newB (Kd.R_new' (Kd.R_new' ho37 (Kd.R_lt (by (with_reducible repeat (first | apply Kd.R_alloc | apply Kd.R_drewN | apply Kd.R_drew)); exact HO_10.out))) (Kd.R_lt (by (with_reducible repeat (first | apply Kd.R_alloc | apply Kd.R_drewN | apply Kd.R_drew)); exact HO_11.out))) (g := gb324) (o := .cells #[.int .i64 ((rd_T45 y315 x60_1).f0), .int .i64 ((rd_T45 y315 x60_1).f1)] 45 (0, 0)) (by (with_reducible repeat (first | refine blk_drewN ?_ _ | refine blk_drew ?_ | refine blk_alloc ?_ _)); exact BK324.out)) (g := gb328) (o := .cells #[.int .i64 t325, .int .i64 t326] 45 (0, 0)) (by (with_reducible repeat (first | refine blk_drewN ?_ _ | refine blk_drew ?_ | refine blk_alloc ?_ _)); exact BK328.out)) (g := gb332) (o := .cells #[.int .i64 t329, .int .i64 t330] 45 (0, 0)) (by (with_reducible repeat (first | refine blk_drewN ?_ _ | refine blk_drew ?_ | refine blk_alloc ?_ _)); exact BK332.out)) (below_size (by repeat (first | (with_reducible first | exact HB.out | apply below_alloc | apply pw_below_drewN | apply below_drew1 | refine below_set ?_ GE324.out | refine below_set ?_ GE328.out | refine below_set ?_ GE332.out) | exact HB.out))))
                              have n3_ := Aside0.mk (blk_below (g := gb324) (o := .cells #[.int .i64 ((rd_T45 y315 x60_1).f0), .int .i64 ((rd_T45 y315 x60_1).f1)] 45 (0, 0)) (by (with_reducible repeat (first | refine blk_drewN ?_ _ | refine blk_drew ?_ | refine blk_alloc ?_ _)); exact BK324.out) hb)
                              have n4_ := Aside0.mk (blk_below (g := gb328) (o := .cells #[.int .i64 t325, .int .i64 t326] 45 (0, 0)) (by (with_reducible repeat (first | refine blk_drewN ?_ _ | refine blk_drew ?_ | refine blk_alloc ?_ _)); exact BK328.out) hb)
                              have n5_ := Aside0.mk (blk_below (g := gb332) (o := .cells #[.int .i64 t329, .int .i64 t330] 45 (0, 0)) (by (with_reducible repeat (first | refine blk_drewN ?_ _ | refine blk_drew ?_ | refine blk_alloc ?_ _)); exact BK332.out) hb)
                              have n6_ := Aside0.mk (below_step (by repeat (first | (with_reducible first | exact HB.out | apply below_alloc | apply pw_below_drewN | apply below_drew1 | refine below_set ?_ GE324.out | refine below_set ?_ GE328.out | refine below_set ?_ GE332.out) | exact HB.out)) hb)
                              clear HO_10
                              clear HO_11
                              clear BK324
                              clear BK328
                              clear BK332
                              clear HB
                              have HO_10 := n0_
                              have HO_11 := n1_
                              have HO341 := n2_
                              have BK324 := n3_
                              have BK328 := n4_
                              have BK332 := n5_
                              have HB := n6_
                              clear n0_ n1_ n2_ n3_ n4_ n5_ n6_
                              clear hb ho37
                              refine hK.out _ _ ⟨(blk_cell BK328.out 0).trans rfl, (blk_cell BK328.out 1).trans rfl, (blk_cell BK332.out 0).trans rfl, (blk_cell BK332.out 1).trans rfl⟩ (fun hHeld => ?_)
                              clear hK K
                              refine norm_ (a' := ?_) ?_ ?_
                              rotate_left
                              · show Act.put _ (some 87) _ = _
                                simp only [Act.put, List.setIfInBounds_toArray, List.set_cons_zero, List.set_cons_succ, i64_w, i32_w]
                                rfl
                              refine one_ (i := 2) (N := some 83) #[true, true, true, false, true, true, true, false, false, false] rfl rfl (one_of HT_.out (by kernel_rfl)) (by decide) (fun K hK => ?_)
                              refine Kd.R_lit_step k45 _ 45 ?hg (N := 83) ?hd (xs := ([(⟨t325, t326⟩ : S45)] : List (S45))) (inner := [.int .i64 t325, .int .i64 t326]) (ok := fun _ => True) (okp := fun _ => True) ?hr ?hp (fun _ hk => hk) trivial (Below.refl _ _) (Nat.le_refl _) (by simp) ?_; (case hd => rfl); (case hg => rfl); (case hr => first | (go_simp; done) | (go_simp; rfl)); (case hp => exact (Reps.c2 (show Kd.M k45 _ _ _ (⟨t325, t326⟩ : S45) [.int .i64 t325, .int .i64 t326] from (k45_mkM _ _ _ (⟨t325, t326⟩ : S45) )) (Reps.none _ _)))
                              intro v334 w38 ho39 hb hg_ hnew_
                              clear hg_ hnew_
                              (first | rw [← Ny333.out] at ho39 | (simp only [Int.reduceToNat] at ho39; rw [← Ny333.out] at ho39))
                              have n0_ := Aside0.mk (Kd.R_elder' (by (with_reducible repeat (first | apply Kd.R_alloc | apply Kd.R_drewN | apply Kd.R_drew)); exact HO_10.out) (Kd.R_base ho39) hb)
                              have n1_ := Aside0.mk (Kd.R_elder' (by (with_reducible repeat (first | apply Kd.R_alloc | apply Kd.R_drewN | apply Kd.R_drew)); exact HO_11.out) (Kd.R_base ho39) hb)
                              have n2_ := Aside0.mk (Kd.R_elder' (by (with_reducible repeat (first | apply Kd.R_alloc | apply Kd.R_drewN | apply Kd.R_drew)); exact HO341.out) (Kd.R_base ho39) hb)
                              have n3_ := Aside0.mk (Kd.R_lower (Kd.R_newB (Kd.R_newB (Kd.R_newB (Kd.R_new' (Kd.R_new' (Kd.R_new' ho39 (Kd.R_lt (by (with_reducible repeat (first | apply Kd.R_alloc | apply Kd.R_drewN | apply Kd.R_drew)); exact HO_10.out))) (Kd.R_lt (by (with_reducible repeat (first | apply Kd.R_alloc | apply Kd.R_drewN | apply Kd.R_drew)); exact HO_11.out))) (Kd.R_lt (by (with_reducible repeat (first | apply Kd.R_alloc | apply Kd.R_drewN | apply Kd.R_drew)); exact HO341.out))) (g := gb324) (o := .cells #[.int .i64 ((rd_T45 y315 x60_1).f0), .int .i64 ((rd_T45 y315 x60_1).f1)] 45 (0, 0)) (by (with_reducible repeat (first | refine blk_drewN ?_ _ | refine blk_drew ?_ | refine blk_alloc ?_ _)); exact BK324.out)) (g := gb328) (o := .cells #[.int .i64 t325, .int .i64 t326] 45 (0, 0)) (by (with_reducible repeat (first | refine blk_drewN ?_ _ | refine blk_drew ?_ | refine blk_alloc ?_ _)); exact BK328.out)) (g := gb332) (o := .cells #[.int .i64 t329, .int .i64 t330] 45 (0, 0)) (by (with_reducible repeat (first | refine blk_drewN ?_ _ | refine blk_drew ?_ | refine blk_alloc ?_ _)); exact BK332.out)) (below_size (by repeat (first | (with_reducible first | exact HB.out | apply below_alloc | apply pw_below_drewN | apply below_drew1 | refine below_set ?_ GE324.out | refine below_set ?_ GE328.out | refine below_set ?_ GE332.out) | exact HB.out))))
                              have n4_ := Aside0.mk (blk_below (g := gb324) (o := .cells #[.int .i64 ((rd_T45 y315 x60_1).f0), .int .i64 ((rd_T45 y315 x60_1).f1)] 45 (0, 0)) (by (with_reducible repeat (first | refine blk_drewN ?_ _ | refine blk_drew ?_ | refine blk_alloc ?_ _)); exact BK324.out) hb)
                              have n5_ := Aside0.mk (blk_below (g := gb328) (o := .cells #[.int .i64 t325, .int .i64 t326] 45 (0, 0)) (by (with_reducible repeat (first | refine blk_drewN ?_ _ | refine blk_drew ?_ | refine blk_alloc ?_ _)); exact BK328.out) hb)
                              have n6_ := Aside0.mk (blk_below (g := gb332) (o := .cells #[.int .i64 t329, .int .i64 t330] 45 (0, 0)) (by (with_reducible repeat (first | refine blk_drewN ?_ _ | refine blk_drew ?_ | refine blk_alloc ?_ _)); exact BK332.out) hb)
                              have n7_ := Aside0.mk (below_step (by repeat (first | (with_reducible first | exact HB.out | apply below_alloc | apply pw_below_drewN | apply below_drew1 | refine below_set ?_ GE324.out | refine below_set ?_ GE328.out | refine below_set ?_ GE332.out) | exact HB.out)) hb)
                              clear HO_10
                              clear HO_11
                              clear HO341
                              clear BK324
                              clear BK328
                              clear BK332
                              clear HB
                              have HO_10 := n0_
                              have HO_11 := n1_
                              have HO341 := n2_
                              have HO335 := n3_
                              have BK324 := n4_
                              have BK328 := n5_
                              have BK332 := n6_
                              have HB := n7_
                              clear n0_ n1_ n2_ n3_ n4_ n5_ n6_ n7_
                              clear hb ho39
                              obtain ⟨Ao41, co41, eo41⟩ := Kd.R_slice HO335.out
                              (first | subst eo41 | (injection eo41 with f1_ f2_ f3_; have f4_ := f1_.symm; have f5_ := f3_.symm; clear f1_ f2_ f3_; subst f4_; subst f5_))
                              refine hK.out _ _ ⟨(blk_cell BK328.out 0).trans rfl, (blk_cell BK328.out 1).trans rfl, (blk_cell BK332.out 0).trans rfl, (blk_cell BK332.out 1).trans rfl⟩ (fun hHeld => ?_)
                              clear hK K
                              refine norm_ (a' := ?_) ?_ ?_
                              rotate_left
                              · show Act.put _ (some 83) _ = _
                                simp only [Act.put, List.setIfInBounds_toArray, List.set_cons_zero, List.set_cons_succ, i64_w, i32_w]
                                rfl
                              refine one_ (i := 3) (N := some 84) #[true, true, true, true, true, true, true, false, false, false] rfl rfl (one_of HT_.out (by kernel_rfl)) (by decide) (fun K hK => ?_)
                              refine Kd.R_append_rows_step k45 (w0 := w) w.heap.size (by rfl) (.tmp 81) (.tmp 83) 37 45 (.agg #[(.int .i64 0), (.int .i64 0)]) 16 rfl Try.underlying37 info45 rfl (by decide) (by omega) (.slice Ao32 x10_1.length co32) x10_1 y333 _ _ _ (fun k_ => some k_ ≠ (.slice Ao33 x11_1.length co33 : Value).ownBlock ∧ some k_ ≠ (v340 : Value).ownBlock ∧ some k_ ≠ (.slice Ao41 y333.length co41 : Value).ownBlock ∧ k_ ≠ gb324 ∧ k_ ≠ gb328 ∧ k_ ≠ gb332) (fun _ => False) rfl rfl ?aO ?aR (fun _ _ h => h) (fun _ h => h.elim) ?aF ?aB ?aS ?aL ?_
                              (case aR => repeat (first | exact (Kd.R_reads' HO335.out).2.2 | (with_reducible refine Kd.C_alloc ?_ _) | (with_reducible refine Kd.C_drewN ?_ _) | (with_reducible refine Kd.C_drew ?_)))
                              (case aB => exact (by repeat (first | (with_reducible first | exact HB.out | apply below_alloc | apply pw_below_drewN | apply below_drew1 | refine below_set ?_ GE324.out | refine below_set ?_ GE328.out | refine below_set ?_ GE332.out) | exact HB.out)))
                              (case aF => exact (fun k_ hk => ⟨Kd.fresh' (Kd.R_lt (by (with_reducible repeat (first | apply Kd.R_alloc | apply Kd.R_drewN | apply Kd.R_drew)); exact HO_11.out)) k_ hk, Kd.fresh' (Kd.R_lt (by (with_reducible repeat (first | apply Kd.R_alloc | apply Kd.R_drewN | apply Kd.R_drew)); exact HO341.out)) k_ hk, Kd.fresh' (Kd.R_lt (by (with_reducible repeat (first | apply Kd.R_alloc | apply Kd.R_drewN | apply Kd.R_drew)); exact HO335.out)) k_ hk, Kd.freshB (g := gb324) (o := .cells #[.int .i64 ((rd_T45 y315 x60_1).f0), .int .i64 ((rd_T45 y315 x60_1).f1)] 45 (0, 0)) (by (with_reducible repeat (first | refine blk_drewN ?_ _ | refine blk_drew ?_ | refine blk_alloc ?_ _)); exact BK324.out) k_ hk, Kd.freshB (g := gb328) (o := .cells #[.int .i64 t325, .int .i64 t326] 45 (0, 0)) (by (with_reducible repeat (first | refine blk_drewN ?_ _ | refine blk_drew ?_ | refine blk_alloc ?_ _)); exact BK328.out) k_ hk, Kd.freshB (g := gb332) (o := .cells #[.int .i64 t329, .int .i64 t330] 45 (0, 0)) (by (with_reducible repeat (first | refine blk_drewN ?_ _ | refine blk_drew ?_ | refine blk_alloc ?_ _)); exact BK332.out) k_ hk⟩))
                              (case aO => exact (by (with_reducible repeat (first | apply Kd.R_alloc | apply Kd.R_drewN | apply Kd.R_drew)); exact Kd.R_mono HO_10.out (fun _ hk => ⟨hk.1.1.1, ⟨hk.1.2, ⟨hk.2, ⟨hk.1.1.2.1, ⟨hk.1.1.2.2.1, hk.1.1.2.2.2⟩⟩⟩⟩⟩)))
                              (case aS => exact (below_size (by repeat (first | (with_reducible first | exact HB.out | apply below_alloc | apply pw_below_drewN | apply below_drew1 | refine below_set ?_ GE324.out | refine below_set ?_ GE328.out | refine below_set ?_ GE332.out) | exact HB.out))))
                              (case aL => have := LMc18.out; omega)
                              intro v337 w40 ho hb hg hat
                              rw [← Ny336.out] at ho
                              have n0_ := Aside0.mk (Kd.R_after (ok := (fun k_ => some k_ ≠ (v340 : Value).ownBlock ∧ some k_ ≠ (.slice Ao41 y333.length co41 : Value).ownBlock ∧ k_ ≠ gb324 ∧ k_ ≠ gb328 ∧ k_ ≠ gb332)) (by (with_reducible repeat (first | apply Kd.R_alloc | apply Kd.R_drewN | apply Kd.R_drew)); exact Kd.R_mono HO_11.out (fun _ hk => ⟨⟨hk.1.2, ⟨hk.2, ⟨hk.1.1.2.1, ⟨hk.1.1.2.2.1, hk.1.1.2.2.2⟩⟩⟩⟩, hk.1.1.1⟩)) hg hat)
                              have n1_ := Aside0.mk (blk_grown (g := gb324) (o := .cells #[.int .i64 ((rd_T45 y315 x60_1).f0), .int .i64 ((rd_T45 y315 x60_1).f1)] 45 (0, 0)) (by (with_reducible repeat (first | refine blk_drewN ?_ _ | refine blk_drew ?_ | refine blk_alloc ?_ _)); exact BK324.out) hg (Kd.R_away HO_10.out (fun _ hk => hk.1.1.2.1)))
                              have n2_ := Aside0.mk (blk_grown (g := gb328) (o := .cells #[.int .i64 t325, .int .i64 t326] 45 (0, 0)) (by (with_reducible repeat (first | refine blk_drewN ?_ _ | refine blk_drew ?_ | refine blk_alloc ?_ _)); exact BK328.out) hg (Kd.R_away HO_10.out (fun _ hk => hk.1.1.2.2.1)))
                              have n3_ := Aside0.mk (blk_grown (g := gb332) (o := .cells #[.int .i64 t329, .int .i64 t330] 45 (0, 0)) (by (with_reducible repeat (first | refine blk_drewN ?_ _ | refine blk_drew ?_ | refine blk_alloc ?_ _)); exact BK332.out) hg (Kd.R_away HO_10.out (fun _ hk => hk.1.1.2.2.2)))
                              have n4_ := Aside0.mk (Kd.R_after (ok := (fun k_ => some k_ ≠ (.slice Ao33 x11_1.length co33 : Value).ownBlock ∧ some k_ ≠ (.slice Ao41 y333.length co41 : Value).ownBlock ∧ k_ ≠ gb324 ∧ k_ ≠ gb328 ∧ k_ ≠ gb332)) (by (with_reducible repeat (first | apply Kd.R_alloc | apply Kd.R_drewN | apply Kd.R_drew)); exact Kd.R_mono HO341.out (fun _ hk => ⟨⟨hk.1.1.1.1.2, ⟨hk.2, ⟨hk.1.1.1.2, ⟨hk.1.1.2, hk.1.2⟩⟩⟩⟩, hk.1.1.1.1.1.2⟩)) hg hat)
                              have n5_ := Aside0.mk (Kd.R_after (ok := (fun k_ => some k_ ≠ (.slice Ao33 x11_1.length co33 : Value).ownBlock ∧ some k_ ≠ (v340 : Value).ownBlock ∧ k_ ≠ gb324 ∧ k_ ≠ gb328 ∧ k_ ≠ gb332)) (by (with_reducible repeat (first | apply Kd.R_alloc | apply Kd.R_drewN | apply Kd.R_drew)); exact Kd.R_mono HO335.out (fun _ hk => ⟨⟨hk.1.1.1.1.2, ⟨hk.1.1.1.2, ⟨hk.1.1.2, ⟨hk.1.2, hk.2⟩⟩⟩⟩, hk.1.1.1.1.1.2⟩)) hg hat)
                              have n6_ := Aside0.mk (hb)
                              have n7_ := Aside0.mk (ho)
                              clear HO_11
                              clear BK324
                              clear BK328
                              clear BK332
                              clear HO341
                              clear HO335
                              clear HB
                              clear HO_10
                              have HO_11 := n0_
                              have BK324 := n1_
                              have BK328 := n2_
                              have BK332 := n3_
                              have HO341 := n4_
                              have HO335 := n5_
                              have HB := n6_
                              have HO338 := n7_
                              clear n0_ n1_ n2_ n3_ n4_ n5_ n6_ n7_
                              clear ho hb hg hat
                              refine hK.out _ _ ⟨(blk_cell BK328.out 0).trans rfl, (blk_cell BK328.out 1).trans rfl, (blk_cell BK332.out 0).trans rfl, (blk_cell BK332.out 1).trans rfl⟩ (fun hHeld => ?_)
                              clear hK K
                              refine norm_ (a' := ?_) ?_ ?_
                              rotate_left
                              · show Act.put _ (some 84) _ = _
                                simp only [Act.put, List.setIfInBounds_toArray, List.set_cons_zero, List.set_cons_succ, i64_w, i32_w]
                                rfl
                              exact norm_ (by simp only [putAll, Act.put, List.setIfInBounds_toArray, List.set_cons_zero, List.set_cons_succ]) (hCont (.slice Ao41 y333.length co41, v337, v340) _ ⟨hHeld, (by (with_reducible repeat (first | apply Kd.R_alloc | apply Kd.R_drewN | apply Kd.R_drew)); exact Kd.R_mono HO335.out (fun _ hk => ⟨hk.2, ⟨hk.1.2.1, ⟨hk.1.1, ⟨hk.1.2.2.1, ⟨hk.1.2.2.2.1, hk.1.2.2.2.2⟩⟩⟩⟩⟩)), (by (with_reducible repeat (first | apply Kd.R_alloc | apply Kd.R_drewN | apply Kd.R_drew)); exact Kd.R_mono HO338.out (fun _ hk => ⟨hk.2.2.1, ⟨hk.2.1, ⟨hk.1, ⟨hk.2.2.2.1, ⟨hk.2.2.2.2.1, hk.2.2.2.2.2⟩⟩⟩⟩⟩)), (by (with_reducible repeat (first | apply Kd.R_alloc | apply Kd.R_drewN | apply Kd.R_drew)); exact Kd.R_mono HO341.out (fun _ hk => ⟨hk.1.2.1, ⟨hk.2, ⟨hk.1.1, ⟨hk.1.2.2.1, ⟨hk.1.2.2.2.1, hk.1.2.2.2.2⟩⟩⟩⟩⟩)), (by (with_reducible repeat (first | apply Kd.R_alloc | apply Kd.R_drewN | apply Kd.R_drew)); exact Kd.R_mono HO_11.out (fun _ hk => ⟨hk.1.2.1, ⟨hk.2, ⟨hk.1.1, ⟨hk.1.2.2.1, ⟨hk.1.2.2.2.1, hk.1.2.2.2.2⟩⟩⟩⟩⟩)), (by (with_reducible repeat (first | refine blk_drewN ?_ _ | refine blk_drew ?_ | refine blk_alloc ?_ _)); exact BK324.out), (by (with_reducible repeat (first | refine blk_drewN ?_ _ | refine blk_drew ?_ | refine blk_alloc ?_ _)); exact BK328.out), (by (with_reducible repeat (first | refine blk_drewN ?_ _ | refine blk_drew ?_ | refine blk_alloc ?_ _)); exact BK332.out), (by repeat (first | (with_reducible first | exact HB.out | apply below_alloc | apply pw_below_drewN | apply below_drew1 | refine below_set ?_ GE324.out | refine below_set ?_ GE328.out | refine below_set ?_ GE332.out) | exact HB.out))⟩)
                          rintro ⟨v334, v337, v340⟩ w42 ⟨hS_, h0_, h1_, h2_, h3_, h4_, h5_, h6_, h7_⟩
                          have n0_ : Aside0 (Kd.R k45 45 w42 w.heap.size (fun k_ => some k_ ≠ (v337 : Value).ownBlock ∧ some k_ ≠ (v340 : Value).ownBlock ∧ some k_ ≠ (.slice Ao33 x11_1.length co33 : Value).ownBlock ∧ k_ ≠ gb324 ∧ k_ ≠ gb328 ∧ k_ ≠ gb332) v334 y333) := ⟨h0_⟩
                          have n1_ : Aside0 (Kd.R k45 45 w42 w.heap.size (fun k_ => some k_ ≠ (v334 : Value).ownBlock ∧ some k_ ≠ (v340 : Value).ownBlock ∧ some k_ ≠ (.slice Ao33 x11_1.length co33 : Value).ownBlock ∧ k_ ≠ gb324 ∧ k_ ≠ gb328 ∧ k_ ≠ gb332) v337 y336) := ⟨h1_⟩
                          have n2_ : Aside0 (Kd.R k45 45 w42 w.heap.size (fun k_ => some k_ ≠ (v334 : Value).ownBlock ∧ some k_ ≠ (v337 : Value).ownBlock ∧ some k_ ≠ (.slice Ao33 x11_1.length co33 : Value).ownBlock ∧ k_ ≠ gb324 ∧ k_ ≠ gb328 ∧ k_ ≠ gb332) v340 y339) := ⟨h2_⟩
                          have n3_ : Aside0 (Kd.R k45 45 w42 w.heap.size (fun k_ => some k_ ≠ (v334 : Value).ownBlock ∧ some k_ ≠ (v337 : Value).ownBlock ∧ some k_ ≠ (v340 : Value).ownBlock ∧ k_ ≠ gb324 ∧ k_ ≠ gb328 ∧ k_ ≠ gb332) (.slice Ao33 x11_1.length co33) x11_1) := ⟨h3_⟩
                          have n4_ : Aside0 (w42.heap[gb324]? = some (.cells #[.int .i64 ((rd_T45 y315 x60_1).f0), .int .i64 ((rd_T45 y315 x60_1).f1)] 45 (0, 0))) := ⟨h4_⟩
                          have n5_ : Aside0 (w42.heap[gb328]? = some (.cells #[.int .i64 t325, .int .i64 t326] 45 (0, 0))) := ⟨h5_⟩
                          have n6_ : Aside0 (w42.heap[gb332]? = some (.cells #[.int .i64 t329, .int .i64 t330] 45 (0, 0))) := ⟨h6_⟩
                          have n7_ : Aside0 (Below w.heap.size w w42) := ⟨h7_⟩
                          clear HO_10
                          clear HO_11
                          clear BK324
                          clear BK328
                          clear BK332
                          clear HB
                          clear h0_ h1_ h2_ h3_ h4_ h5_ h6_ h7_
                          have HO335 := n0_
                          have HO338 := n1_
                          have HO341 := n2_
                          have HO_11 := n3_
                          have BK324 := n4_
                          have BK328 := n5_
                          have BK332 := n6_
                          have HB := n7_
                          clear n0_ n1_ n2_ n3_ n4_ n5_ n6_ n7_
                          have hHeld : w42.cell? ⟨gb328, 0, none⟩ = some (.int .i64 t325) ∧ w42.cell? ⟨gb328, 1, none⟩ = some (.int .i64 t326) ∧ w42.cell? ⟨gb332, 0, none⟩ = some (.int .i64 t329) ∧ w42.cell? ⟨gb332, 1, none⟩ = some (.int .i64 t330) := hS_
                          obtain ⟨Ao44, co44, eo44⟩ := Kd.R_slice HO341.out
                          (first | subst eo44 | (injection eo44 with f1_ f2_ f3_; have f4_ := f1_.symm; have f5_ := f3_.symm; clear f1_ f2_ f3_; subst f4_; subst f5_))
                          refine norm_ (a' := ?_) ?_ ?_
                          rotate_left
                          · simp only [putAll, Act.put, List.setIfInBounds_toArray, List.set_cons_zero, List.set_cons_succ]
                            rfl
                          refine one_ (i := 7) (N := some 88) #[true, true, true, true, true, true, true, true, false, false] rfl rfl (one_of HT_.out (by kernel_rfl)) (by decide) (fun K hK => ?_)
                          refine Kd.R_append_rows_step k45 (w0 := w) w.heap.size (by rfl) (.tmp 85) (.tmp 87) 37 45 (.agg #[(.int .i64 0), (.int .i64 0)]) 16 rfl Try.underlying37 info45 rfl (by decide) (by omega) (.slice Ao33 x11_1.length co33) x11_1 y339 _ _ _ (fun k_ => some k_ ≠ (v334 : Value).ownBlock ∧ some k_ ≠ (v337 : Value).ownBlock ∧ some k_ ≠ (.slice Ao44 y339.length co44 : Value).ownBlock ∧ k_ ≠ gb324 ∧ k_ ≠ gb328 ∧ k_ ≠ gb332) (fun _ => False) rfl rfl ?aO ?aR (fun _ _ h => h) (fun _ h => h.elim) ?aF ?aB ?aS ?aL ?_
                          (case aR => repeat (first | exact (Kd.R_reads' HO341.out).2.2 | (with_reducible refine Kd.C_alloc ?_ _) | (with_reducible refine Kd.C_drewN ?_ _) | (with_reducible refine Kd.C_drew ?_)))
                          (case aB => exact (by repeat (first | (with_reducible first | exact HB.out | apply below_alloc | apply pw_below_drewN | apply below_drew1 | refine below_set ?_ GE324.out | refine below_set ?_ GE328.out | refine below_set ?_ GE332.out) | exact HB.out)))
                          (case aF => exact (fun k_ hk => ⟨Kd.fresh' (Kd.R_lt (by (with_reducible repeat (first | apply Kd.R_alloc | apply Kd.R_drewN | apply Kd.R_drew)); exact HO335.out)) k_ hk, Kd.fresh' (Kd.R_lt (by (with_reducible repeat (first | apply Kd.R_alloc | apply Kd.R_drewN | apply Kd.R_drew)); exact HO338.out)) k_ hk, Kd.fresh' (Kd.R_lt (by (with_reducible repeat (first | apply Kd.R_alloc | apply Kd.R_drewN | apply Kd.R_drew)); exact HO341.out)) k_ hk, Kd.freshB (g := gb324) (o := .cells #[.int .i64 ((rd_T45 y315 x60_1).f0), .int .i64 ((rd_T45 y315 x60_1).f1)] 45 (0, 0)) (by (with_reducible repeat (first | refine blk_drewN ?_ _ | refine blk_drew ?_ | refine blk_alloc ?_ _)); exact BK324.out) k_ hk, Kd.freshB (g := gb328) (o := .cells #[.int .i64 t325, .int .i64 t326] 45 (0, 0)) (by (with_reducible repeat (first | refine blk_drewN ?_ _ | refine blk_drew ?_ | refine blk_alloc ?_ _)); exact BK328.out) k_ hk, Kd.freshB (g := gb332) (o := .cells #[.int .i64 t329, .int .i64 t330] 45 (0, 0)) (by (with_reducible repeat (first | refine blk_drewN ?_ _ | refine blk_drew ?_ | refine blk_alloc ?_ _)); exact BK332.out) k_ hk⟩))
                          (case aO => exact (by (with_reducible repeat (first | apply Kd.R_alloc | apply Kd.R_drewN | apply Kd.R_drew)); exact HO_11.out))
                          (case aS => exact (below_size (by repeat (first | (with_reducible first | exact HB.out | apply below_alloc | apply pw_below_drewN | apply below_drew1 | refine below_set ?_ GE324.out | refine below_set ?_ GE328.out | refine below_set ?_ GE332.out) | exact HB.out))))
                          (case aL => have := LMc19.out; omega)
                          intro v343 w43 ho hb hg hat
                          rw [← Ny342.out] at ho
                          have n0_ := Aside0.mk (blk_grown (g := gb324) (o := .cells #[.int .i64 ((rd_T45 y315 x60_1).f0), .int .i64 ((rd_T45 y315 x60_1).f1)] 45 (0, 0)) (by (with_reducible repeat (first | refine blk_drewN ?_ _ | refine blk_drew ?_ | refine blk_alloc ?_ _)); exact BK324.out) hg (Kd.R_away HO_11.out (fun _ hk => hk.2.2.2.1)))
                          have n1_ := Aside0.mk (blk_grown (g := gb328) (o := .cells #[.int .i64 t325, .int .i64 t326] 45 (0, 0)) (by (with_reducible repeat (first | refine blk_drewN ?_ _ | refine blk_drew ?_ | refine blk_alloc ?_ _)); exact BK328.out) hg (Kd.R_away HO_11.out (fun _ hk => hk.2.2.2.2.1)))
                          have n2_ := Aside0.mk (blk_grown (g := gb332) (o := .cells #[.int .i64 t329, .int .i64 t330] 45 (0, 0)) (by (with_reducible repeat (first | refine blk_drewN ?_ _ | refine blk_drew ?_ | refine blk_alloc ?_ _)); exact BK332.out) hg (Kd.R_away HO_11.out (fun _ hk => hk.2.2.2.2.2)))
                          have n3_ := Aside0.mk (Kd.R_after (ok := (fun k_ => some k_ ≠ (v337 : Value).ownBlock ∧ some k_ ≠ (.slice Ao44 y339.length co44 : Value).ownBlock ∧ k_ ≠ gb324 ∧ k_ ≠ gb328 ∧ k_ ≠ gb332)) (by (with_reducible repeat (first | apply Kd.R_alloc | apply Kd.R_drewN | apply Kd.R_drew)); exact Kd.R_mono HO335.out (fun _ hk => ⟨⟨hk.1, ⟨hk.2.1, ⟨hk.2.2.2.1, ⟨hk.2.2.2.2.1, hk.2.2.2.2.2⟩⟩⟩⟩, hk.2.2.1⟩)) hg hat)
                          have n4_ := Aside0.mk (Kd.R_after (ok := (fun k_ => some k_ ≠ (v334 : Value).ownBlock ∧ some k_ ≠ (.slice Ao44 y339.length co44 : Value).ownBlock ∧ k_ ≠ gb324 ∧ k_ ≠ gb328 ∧ k_ ≠ gb332)) (by (with_reducible repeat (first | apply Kd.R_alloc | apply Kd.R_drewN | apply Kd.R_drew)); exact Kd.R_mono HO338.out (fun _ hk => ⟨⟨hk.1, ⟨hk.2.1, ⟨hk.2.2.2.1, ⟨hk.2.2.2.2.1, hk.2.2.2.2.2⟩⟩⟩⟩, hk.2.2.1⟩)) hg hat)
                          have n5_ := Aside0.mk (Kd.R_after (ok := (fun k_ => some k_ ≠ (v334 : Value).ownBlock ∧ some k_ ≠ (v337 : Value).ownBlock ∧ k_ ≠ gb324 ∧ k_ ≠ gb328 ∧ k_ ≠ gb332)) (by (with_reducible repeat (first | apply Kd.R_alloc | apply Kd.R_drewN | apply Kd.R_drew)); exact Kd.R_mono HO341.out (fun _ hk => ⟨⟨hk.1, ⟨hk.2.1, ⟨hk.2.2.2.1, ⟨hk.2.2.2.2.1, hk.2.2.2.2.2⟩⟩⟩⟩, hk.2.2.1⟩)) hg hat)
                          have n6_ := Aside0.mk (hb)
                          have n7_ := Aside0.mk (ho)
                          clear BK324
                          clear BK328
                          clear BK332
                          clear HO335
                          clear HO338
                          clear HO341
                          clear HB
                          clear HO_11
                          have BK324 := n0_
                          have BK328 := n1_
                          have BK332 := n2_
                          have HO335 := n3_
                          have HO338 := n4_
                          have HO341 := n5_
                          have HB := n6_
                          have HO344 := n7_
                          clear n0_ n1_ n2_ n3_ n4_ n5_ n6_ n7_
                          clear ho hb hg hat
                          refine hK.out _ _ ⟨(blk_cell BK328.out 0).trans rfl, (blk_cell BK328.out 1).trans rfl, (blk_cell BK332.out 0).trans rfl, (blk_cell BK332.out 1).trans rfl⟩ (fun hHeld => ?_)
                          clear hK K
                          refine norm_ (a' := ?_) ?_ ?_
                          rotate_left
                          · show Act.put _ (some 88) _ = _
                            simp only [Act.put, List.setIfInBounds_toArray, List.set_cons_zero, List.set_cons_succ, i64_w, i32_w]
                            rfl
                          refine pure_ (i := 8) (N := some 10) (v := ?_) (a' := ?_) #[true, true, true, true, true, true, true, true, true, false] rfl rfl (any_of HT_.out (by kernel_rfl)) (fun _ _ _ h => h) (Or.inl ⟨by rfl, ?_⟩) ?_ ?_
                          rotate_left
                          · intro w'
                            go_simp
                            with_reducible rfl
                          rotate_left
                          · simp only [Act.put, List.setIfInBounds_toArray, List.set_cons_zero, List.set_cons_succ, i64_w, i32_w]
                            rfl
                          refine pure_ (i := 9) (N := some 11) (v := ?_) (a' := ?_) #[true, true, true, true, true, true, true, true, true, true] rfl rfl (any_of HT_.out (by kernel_rfl)) (fun _ _ _ h => h) (Or.inl ⟨by rfl, ?_⟩) ?_ ?_
                          rotate_left
                          · intro w'
                            go_simp
                            with_reducible rfl
                          rotate_left
                          · simp only [Act.put, List.setIfInBounds_toArray, List.set_cons_zero, List.set_cons_succ, i64_w, i32_w]
                            rfl
                          refine done_ (done_of HT_.out (by kernel_rfl)) ?_
                          try go_wp2
                          go_roundg k1
                          case measure => have := HK1.out; omega
                          case rel => exact ⟨(y336), (y342), (wrap64 (x60_1 + 1)), (by first | rfl | (simp; done) | (simp [*]; done)), H', ⟨by have := HK1.out; omega⟩, ⟨by (with_reducible repeat (first | apply Kd.R_alloc | apply Kd.R_drewN | apply Kd.R_drew)); exact Kd.R_mono HO338.out (fun _ hk => hk.2)⟩, ⟨by (with_reducible repeat (first | apply Kd.R_alloc | apply Kd.R_drewN | apply Kd.R_drew)); exact Kd.R_mono HO344.out (fun _ hk => hk.2.1)⟩, ⟨by repeat (first | (with_reducible first | exact HB.out | apply below_alloc | apply pw_below_drewN | apply below_drew1 | refine below_set ?_ GE324.out | refine below_set ?_ GE328.out | refine below_set ?_ GE332.out) | exact HB.out)⟩⟩
                        · rw [if_neg c19] at H
                          exact absurd H (by simp)
                      · rw [if_neg c18] at H
                        exact absurd H (by simp)
                    · rw [if_neg c17] at H
                      have c17b0 : (t331 == 0) = false := beq_eq_false_iff_ne.mpr c17
                      have c17b1 : (t331 != 0) = true := bne_iff_ne.mpr c17
                      obtain rfl := Option.some.inj H
                      have p323 : 0 ≤ (x60_1 : Int) := of_decide_eq_true (by first | (with_reducible assumption) | assumption)
                      have q323 : x60_1 < (y315.length : Int) := of_decide_eq_true (by first | (with_reducible assumption) | assumption)
                      obtain ⟨ad323, e323, hx323_0, hx323_1⟩ := at_T45 HR318.out x60_1 p323 q323
                      cases e323
                      replace hx323_0 := (HB.out.cell (World.block_lt_of_cell? w _ hx323_0)).trans hx323_0
                      replace hx323_1 := (HB.out.cell (World.block_lt_of_cell? w _ hx323_1)).trans hx323_1
                      replace p323 := eq_true p323
                      replace q323 := eq_true q323
                      go_wp2_with (first | ((with_reducible refine gate_dst (N := 13) rfl ?_); refine box_event ?hg (N := 13) ?hd (cs := #[.int .i64 0, .int .i64 0]) (t := 45) ?hr ?_; (case hd => rfl); (case hg => rfl); (case hr => first | (go_simp; done) | (go_simp; rfl)); intro gb324 hg w45 hbox hb; have n0_ := Aside0.mk (Kd.R_below (Kd.R_elderB (by (with_reducible repeat (first | apply Kd.R_alloc | apply Kd.R_drewN | apply Kd.R_drew)); exact HO_10.out) gb324 (Nat.le_of_eq hg.symm)) hb); have n1_ := Aside0.mk (Kd.R_below (Kd.R_elderB (by (with_reducible repeat (first | apply Kd.R_alloc | apply Kd.R_drewN | apply Kd.R_drew)); exact HO_11.out) gb324 (Nat.le_of_eq hg.symm)) hb); have n2_ := Aside0.mk (below_step (by repeat (first | (with_reducible first | exact HB.out | apply below_alloc | apply pw_below_drewN | apply below_drew1) | exact HB.out)) hb); have n3_ := Aside0.mk (hbox); have n4_ := Aside0.mk ((by rw [hg]; exact (below_size (by repeat (first | (with_reducible first | exact HB.out | apply below_alloc | apply pw_below_drewN | apply below_drew1) | exact HB.out))) : w.heap.size ≤ gb324)); have n5_ := Aside0.mk ((by rw [hg]; exact (below_size (by repeat (first | (with_reducible first | exact HB.out | apply below_alloc | apply pw_below_drewN | apply below_drew1) | exact HB.out))) : w.heap.size ≤ gb324)); clear HO_10; clear HO_11; clear HB; have HO_10 := n0_; have HO_11 := n1_; have HB := n2_; have BK324 := n3_; have GW324 := n4_; have GE324 := n5_; clear n0_ n1_ n2_ n3_ n4_ n5_; clear hb hbox hg; have hcz46_0 : w45.cell? ⟨gb324, 0, none⟩ = some (.int .i64 0) := (blk_cell BK324.out 0).trans rfl; have hcz46_1 : w45.cell? ⟨gb324, 1, none⟩ = some (.int .i64 0) := (blk_cell BK324.out 1).trans rfl; have hfz46_0 := blk_frozen BK324.out 0; have hfz46_1 := blk_frozen BK324.out 1) | ((with_reducible refine gate_callee (f := 32) rfl ?_); refine goesL_ (some 67) rfl rfl Try.func32 (by kernel_rfl) rfl #[.agg #[.int .i64 ((rd_T45 y315 x60_1).f0), .int .i64 ((rd_T45 y315 x60_1).f1)], .int .i64 a1] rfl (by (try simp only [List.map_toArray, List.map_cons, List.map_nil]); first | done | rfl | (simp only [List.length_drop, List.length_take]; rfl)) ?_; (with_reducible refine (cx_Turn.calls ((rd_T45 y315 x60_1).f0) ((rd_T45 y315 x60_1).f1) a1 t325 t326 t327 _ A14.out).mono ?_); rintro e w47 ⟨rfl, hb⟩; refine ⟨_, rfl, ?_⟩; have n0_ := Aside0.mk (Kd.R_below (by (with_reducible repeat (first | apply Kd.R_alloc | apply Kd.R_drewN | apply Kd.R_drew)); exact (Kd.R_mono (Kd.R_far (p := ⟨gb324, 1, none⟩) (Kd.R_far (p := ⟨gb324, 0, none⟩) (Kd.R_mono HO_10.out (fun k_ hk => (⟨hk, hk.2⟩ : _ ∧ k_ ≠ gb324))) (fun _ hk => hk.2) (.int .i64 ((rd_T45 y315 x60_1).f0))) (fun _ hk => hk.2) (.int .i64 ((rd_T45 y315 x60_1).f1))) (fun _ h_ => h_.1))) hb); have n1_ := Aside0.mk (Kd.R_below (by (with_reducible repeat (first | apply Kd.R_alloc | apply Kd.R_drewN | apply Kd.R_drew)); exact (Kd.R_mono (Kd.R_far (p := ⟨gb324, 1, none⟩) (Kd.R_far (p := ⟨gb324, 0, none⟩) (Kd.R_mono HO_11.out (fun k_ hk => (⟨hk, hk.2⟩ : _ ∧ k_ ≠ gb324))) (fun _ hk => hk.2) (.int .i64 ((rd_T45 y315 x60_1).f0))) (fun _ hk => hk.2) (.int .i64 ((rd_T45 y315 x60_1).f1))) (fun _ h_ => h_.1))) hb); have n2_ := Aside0.mk (blk_below (g := gb324) (o := .cells #[.int .i64 ((rd_T45 y315 x60_1).f0), .int .i64 ((rd_T45 y315 x60_1).f1)] 45 (0, 0)) (by (with_reducible repeat (first | refine blk_drewN ?_ _ | refine blk_drew ?_ | refine blk_alloc ?_ _)); refine blk_put (cs := #[.int .i64 ((rd_T45 y315 x60_1).f0), .int .i64 0]) ?_ 1 _ rfl; (with_reducible repeat (first | refine blk_drewN ?_ _ | refine blk_drew ?_ | refine blk_alloc ?_ _)); refine blk_put (cs := #[.int .i64 0, .int .i64 0]) ?_ 0 _ rfl; (with_reducible repeat (first | refine blk_drewN ?_ _ | refine blk_drew ?_ | refine blk_alloc ?_ _)); exact BK324.out) hb); have n3_ := Aside0.mk (below_step (by repeat (first | (with_reducible first | exact HB.out | apply below_alloc | apply pw_below_drewN | apply below_drew1 | refine below_set ?_ GE324.out) | exact HB.out)) hb); clear HO_10; clear HO_11; clear BK324; clear HB; have HO_10 := n0_; have HO_11 := n1_; have BK324 := n2_; have HB := n3_; clear n0_ n1_ n2_ n3_; (try clear hb); (try clear hb2); (try clear hk); (try clear hi)) | ((with_reducible refine gate_dst (N := 14) rfl ?_); refine box_event ?hg (N := 14) ?hd (cs := #[.int .i64 0, .int .i64 0]) (t := 45) ?hr ?_; (case hd => rfl); (case hg => rfl); (case hr => first | (go_simp; done) | (go_simp; rfl)); intro gb328 hg w48 hbox hb; have n0_ := Aside0.mk (Kd.R_below (Kd.R_elderB (by (with_reducible repeat (first | apply Kd.R_alloc | apply Kd.R_drewN | apply Kd.R_drew)); exact HO_10.out) gb328 (Nat.le_of_eq hg.symm)) hb); have n1_ := Aside0.mk (Kd.R_below (Kd.R_elderB (by (with_reducible repeat (first | apply Kd.R_alloc | apply Kd.R_drewN | apply Kd.R_drew)); exact HO_11.out) gb328 (Nat.le_of_eq hg.symm)) hb); have n2_ := Aside0.mk (blk_below (g := gb324) (o := .cells #[.int .i64 ((rd_T45 y315 x60_1).f0), .int .i64 ((rd_T45 y315 x60_1).f1)] 45 (0, 0)) (by (with_reducible repeat (first | refine blk_drewN ?_ _ | refine blk_drew ?_ | refine blk_alloc ?_ _)); exact BK324.out) hb); have n3_ := Aside0.mk (below_step (by repeat (first | (with_reducible first | exact HB.out | apply below_alloc | apply pw_below_drewN | apply below_drew1 | refine below_set ?_ GE324.out) | exact HB.out)) hb); have n4_ := Aside0.mk (hbox); have n5_ := Aside0.mk ((by rw [hg]; exact (below_size (by repeat (first | (with_reducible first | exact HB.out | apply below_alloc | apply pw_below_drewN | apply below_drew1 | refine below_set ?_ GE324.out) | exact HB.out))) : w.heap.size ≤ gb328)); have n6_ := Aside0.mk ((by rw [hg]; exact (below_size (by repeat (first | (with_reducible first | exact HB.out | apply below_alloc | apply pw_below_drewN | apply below_drew1 | refine below_set ?_ GE324.out) | exact HB.out))) : w.heap.size ≤ gb328)); have n7_ := Aside0.mk ((by rw [hg]; exact Nat.ne_of_lt (blk_lt (g := gb324) (o := .cells #[.int .i64 ((rd_T45 y315 x60_1).f0), .int .i64 ((rd_T45 y315 x60_1).f1)] 45 (0, 0)) (by (with_reducible repeat (first | refine blk_drewN ?_ _ | refine blk_drew ?_ | refine blk_alloc ?_ _)); exact BK324.out)) : gb324 ≠ gb328)); have n8_ := Aside0.mk ((by rw [hg]; exact Nat.ne_of_gt (blk_lt (g := gb324) (o := .cells #[.int .i64 ((rd_T45 y315 x60_1).f0), .int .i64 ((rd_T45 y315 x60_1).f1)] 45 (0, 0)) (by (with_reducible repeat (first | refine blk_drewN ?_ _ | refine blk_drew ?_ | refine blk_alloc ?_ _)); exact BK324.out)) : gb328 ≠ gb324)); clear HO_10; clear HO_11; clear BK324; clear HB; have HO_10 := n0_; have HO_11 := n1_; have BK324 := n2_; have HB := n3_; have BK328 := n4_; have GW328 := n5_; have GE328 := n6_; have NB324_328 := n7_; have NB328_324 := n8_; clear n0_ n1_ n2_ n3_ n4_ n5_ n6_ n7_ n8_; clear hb hbox hg; have hnb49 := NB328_324.out; have hnc49 := NB324_328.out; have hcz50_0 : w48.cell? ⟨gb328, 0, none⟩ = some (.int .i64 0) := (blk_cell BK328.out 0).trans rfl; have hcz50_1 : w48.cell? ⟨gb328, 1, none⟩ = some (.int .i64 0) := (blk_cell BK328.out 1).trans rfl; have hfz50_0 := blk_frozen BK328.out 0; have hfz50_1 := blk_frozen BK328.out 1; have hcz51_0 : w48.cell? ⟨gb324, 0, none⟩ = some (.int .i64 ((rd_T45 y315 x60_1).f0)) := (blk_cell BK324.out 0).trans rfl; have hcz51_1 : w48.cell? ⟨gb324, 1, none⟩ = some (.int .i64 ((rd_T45 y315 x60_1).f1)) := (blk_cell BK324.out 1).trans rfl; have hfz51_0 := blk_frozen BK324.out 0; have hfz51_1 := blk_frozen BK324.out 1) | ((with_reducible refine gate_callee (f := 33) rfl ?_); refine goesL_ (some 72) rfl rfl Try.func33 (by kernel_rfl) rfl #[.agg #[.int .i64 ((rd_T45 y315 x60_1).f0), .int .i64 ((rd_T45 y315 x60_1).f1)]] rfl (by (try simp only [List.map_toArray, List.map_cons, List.map_nil]); first | done | rfl | (simp only [List.length_drop, List.length_take]; rfl)) ?_; (with_reducible refine (cx_Conj.calls ((rd_T45 y315 x60_1).f0) ((rd_T45 y315 x60_1).f1) t329 t330 t331 _ A15.out).mono ?_); rintro e w52 ⟨rfl, hb⟩; refine ⟨_, rfl, ?_⟩; have n0_ := Aside0.mk (Kd.R_below (by (with_reducible repeat (first | apply Kd.R_alloc | apply Kd.R_drewN | apply Kd.R_drew)); exact (Kd.R_mono (Kd.R_far (p := ⟨gb328, 1, none⟩) (Kd.R_far (p := ⟨gb328, 0, none⟩) (Kd.R_mono HO_10.out (fun k_ hk => (⟨hk, hk.2⟩ : _ ∧ k_ ≠ gb328))) (fun _ hk => hk.2) (.int .i64 t325)) (fun _ hk => hk.2) (.int .i64 t326)) (fun _ h_ => h_.1))) hb); have n1_ := Aside0.mk (Kd.R_below (by (with_reducible repeat (first | apply Kd.R_alloc | apply Kd.R_drewN | apply Kd.R_drew)); exact (Kd.R_mono (Kd.R_far (p := ⟨gb328, 1, none⟩) (Kd.R_far (p := ⟨gb328, 0, none⟩) (Kd.R_mono HO_11.out (fun k_ hk => (⟨hk, hk.2⟩ : _ ∧ k_ ≠ gb328))) (fun _ hk => hk.2) (.int .i64 t325)) (fun _ hk => hk.2) (.int .i64 t326)) (fun _ h_ => h_.1))) hb); have n2_ := Aside0.mk (blk_below (g := gb324) (o := .cells #[.int .i64 ((rd_T45 y315 x60_1).f0), .int .i64 ((rd_T45 y315 x60_1).f1)] 45 (0, 0)) (by (with_reducible repeat (first | refine blk_drewN ?_ _ | refine blk_drew ?_ | refine blk_alloc ?_ _)); refine blk_far ?_ NB324_328.out _; (with_reducible repeat (first | refine blk_drewN ?_ _ | refine blk_drew ?_ | refine blk_alloc ?_ _)); refine blk_far ?_ NB324_328.out _; (with_reducible repeat (first | refine blk_drewN ?_ _ | refine blk_drew ?_ | refine blk_alloc ?_ _)); exact BK324.out) hb); have n3_ := Aside0.mk (blk_below (g := gb328) (o := .cells #[.int .i64 t325, .int .i64 t326] 45 (0, 0)) (by (with_reducible repeat (first | refine blk_drewN ?_ _ | refine blk_drew ?_ | refine blk_alloc ?_ _)); refine blk_put (cs := #[.int .i64 t325, .int .i64 0]) ?_ 1 _ rfl; (with_reducible repeat (first | refine blk_drewN ?_ _ | refine blk_drew ?_ | refine blk_alloc ?_ _)); refine blk_put (cs := #[.int .i64 0, .int .i64 0]) ?_ 0 _ rfl; (with_reducible repeat (first | refine blk_drewN ?_ _ | refine blk_drew ?_ | refine blk_alloc ?_ _)); exact BK328.out) hb); have n4_ := Aside0.mk (below_step (by repeat (first | (with_reducible first | exact HB.out | apply below_alloc | apply pw_below_drewN | apply below_drew1 | refine below_set ?_ GE324.out | refine below_set ?_ GE328.out) | exact HB.out)) hb); clear HO_10; clear HO_11; clear BK324; clear BK328; clear HB; have HO_10 := n0_; have HO_11 := n1_; have BK324 := n2_; have BK328 := n3_; have HB := n4_; clear n0_ n1_ n2_ n3_ n4_; (try clear hb); (try clear hb2); (try clear hk); (try clear hi)) | ((with_reducible refine gate_dst (N := 16) rfl ?_); refine box_event ?hg (N := 16) ?hd (cs := #[.int .i64 0, .int .i64 0]) (t := 45) ?hr ?_; (case hd => rfl); (case hg => rfl); (case hr => first | (go_simp; done) | (go_simp; rfl)); intro gb332 hg w53 hbox hb; have n0_ := Aside0.mk (Kd.R_below (Kd.R_elderB (by (with_reducible repeat (first | apply Kd.R_alloc | apply Kd.R_drewN | apply Kd.R_drew)); exact HO_10.out) gb332 (Nat.le_of_eq hg.symm)) hb); have n1_ := Aside0.mk (Kd.R_below (Kd.R_elderB (by (with_reducible repeat (first | apply Kd.R_alloc | apply Kd.R_drewN | apply Kd.R_drew)); exact HO_11.out) gb332 (Nat.le_of_eq hg.symm)) hb); have n2_ := Aside0.mk (blk_below (g := gb324) (o := .cells #[.int .i64 ((rd_T45 y315 x60_1).f0), .int .i64 ((rd_T45 y315 x60_1).f1)] 45 (0, 0)) (by (with_reducible repeat (first | refine blk_drewN ?_ _ | refine blk_drew ?_ | refine blk_alloc ?_ _)); exact BK324.out) hb); have n3_ := Aside0.mk (blk_below (g := gb328) (o := .cells #[.int .i64 t325, .int .i64 t326] 45 (0, 0)) (by (with_reducible repeat (first | refine blk_drewN ?_ _ | refine blk_drew ?_ | refine blk_alloc ?_ _)); exact BK328.out) hb); have n4_ := Aside0.mk (below_step (by repeat (first | (with_reducible first | exact HB.out | apply below_alloc | apply pw_below_drewN | apply below_drew1 | refine below_set ?_ GE324.out | refine below_set ?_ GE328.out) | exact HB.out)) hb); have n5_ := Aside0.mk (hbox); have n6_ := Aside0.mk ((by rw [hg]; exact (below_size (by repeat (first | (with_reducible first | exact HB.out | apply below_alloc | apply pw_below_drewN | apply below_drew1 | refine below_set ?_ GE324.out | refine below_set ?_ GE328.out) | exact HB.out))) : w.heap.size ≤ gb332)); have n7_ := Aside0.mk ((by rw [hg]; exact (below_size (by repeat (first | (with_reducible first | exact HB.out | apply below_alloc | apply pw_below_drewN | apply below_drew1 | refine below_set ?_ GE324.out | refine below_set ?_ GE328.out) | exact HB.out))) : w.heap.size ≤ gb332)); have n8_ := Aside0.mk ((by rw [hg]; exact Nat.ne_of_lt (blk_lt (g := gb324) (o := .cells #[.int .i64 ((rd_T45 y315 x60_1).f0), .int .i64 ((rd_T45 y315 x60_1).f1)] 45 (0, 0)) (by (with_reducible repeat (first | refine blk_drewN ?_ _ | refine blk_drew ?_ | refine blk_alloc ?_ _)); exact BK324.out)) : gb324 ≠ gb332)); have n9_ := Aside0.mk ((by rw [hg]; exact Nat.ne_of_gt (blk_lt (g := gb324) (o := .cells #[.int .i64 ((rd_T45 y315 x60_1).f0), .int .i64 ((rd_T45 y315 x60_1).f1)] 45 (0, 0)) (by (with_reducible repeat (first | refine blk_drewN ?_ _ | refine blk_drew ?_ | refine blk_alloc ?_ _)); exact BK324.out)) : gb332 ≠ gb324)); have n10_ := Aside0.mk ((by rw [hg]; exact Nat.ne_of_lt (blk_lt (g := gb328) (o := .cells #[.int .i64 t325, .int .i64 t326] 45 (0, 0)) (by (with_reducible repeat (first | refine blk_drewN ?_ _ | refine blk_drew ?_ | refine blk_alloc ?_ _)); exact BK328.out)) : gb328 ≠ gb332)); have n11_ := Aside0.mk ((by rw [hg]; exact Nat.ne_of_gt (blk_lt (g := gb328) (o := .cells #[.int .i64 t325, .int .i64 t326] 45 (0, 0)) (by (with_reducible repeat (first | refine blk_drewN ?_ _ | refine blk_drew ?_ | refine blk_alloc ?_ _)); exact BK328.out)) : gb332 ≠ gb328)); clear HO_10; clear HO_11; clear BK324; clear BK328; clear HB; have HO_10 := n0_; have HO_11 := n1_; have BK324 := n2_; have BK328 := n3_; have HB := n4_; have BK332 := n5_; have GW332 := n6_; have GE332 := n7_; have NB324_332 := n8_; have NB332_324 := n9_; have NB328_332 := n10_; have NB332_328 := n11_; clear n0_ n1_ n2_ n3_ n4_ n5_ n6_ n7_ n8_ n9_ n10_ n11_; clear hb hbox hg; have hnb54 := NB332_324.out; have hnc54 := NB324_332.out; have hnb55 := NB332_328.out; have hnc55 := NB328_332.out; have hcz56_0 : w53.cell? ⟨gb332, 0, none⟩ = some (.int .i64 0) := (blk_cell BK332.out 0).trans rfl; have hcz56_1 : w53.cell? ⟨gb332, 1, none⟩ = some (.int .i64 0) := (blk_cell BK332.out 1).trans rfl; have hfz56_0 := blk_frozen BK332.out 0; have hfz56_1 := blk_frozen BK332.out 1))
                      go_ret
                      exact ⟨by first | rfl | (simp [errW_none, errW_some] <;> rfl) | (simp only [← hji4]; first | rfl | (simp [errW_none, errW_some] <;> rfl)) | (simp [*, errW_none, errW_some] <;> rfl), by repeat (first | (with_reducible first | exact HB.out | apply below_alloc | apply pw_below_drewN | apply below_drew1 | refine below_set ?_ GE324.out | refine below_set ?_ GE328.out | refine below_set ?_ GE332.out) | exact HB.out)⟩
                  · rw [if_neg c16] at H
                    have c16b0 : (t327 == 0) = false := beq_eq_false_iff_ne.mpr c16
                    have c16b1 : (t327 != 0) = true := bne_iff_ne.mpr c16
                    obtain rfl := Option.some.inj H
                    have p323 : 0 ≤ (x60_1 : Int) := of_decide_eq_true (by first | (with_reducible assumption) | assumption)
                    have q323 : x60_1 < (y315.length : Int) := of_decide_eq_true (by first | (with_reducible assumption) | assumption)
                    obtain ⟨ad323, e323, hx323_0, hx323_1⟩ := at_T45 HR318.out x60_1 p323 q323
                    cases e323
                    replace hx323_0 := (HB.out.cell (World.block_lt_of_cell? w _ hx323_0)).trans hx323_0
                    replace hx323_1 := (HB.out.cell (World.block_lt_of_cell? w _ hx323_1)).trans hx323_1
                    replace p323 := eq_true p323
                    replace q323 := eq_true q323
                    go_wp2_with (first | ((with_reducible refine gate_dst (N := 13) rfl ?_); refine box_event ?hg (N := 13) ?hd (cs := #[.int .i64 0, .int .i64 0]) (t := 45) ?hr ?_; (case hd => rfl); (case hg => rfl); (case hr => first | (go_simp; done) | (go_simp; rfl)); intro gb324 hg w57 hbox hb; have n0_ := Aside0.mk (Kd.R_below (Kd.R_elderB (by (with_reducible repeat (first | apply Kd.R_alloc | apply Kd.R_drewN | apply Kd.R_drew)); exact HO_10.out) gb324 (Nat.le_of_eq hg.symm)) hb); have n1_ := Aside0.mk (Kd.R_below (Kd.R_elderB (by (with_reducible repeat (first | apply Kd.R_alloc | apply Kd.R_drewN | apply Kd.R_drew)); exact HO_11.out) gb324 (Nat.le_of_eq hg.symm)) hb); have n2_ := Aside0.mk (below_step (by repeat (first | (with_reducible first | exact HB.out | apply below_alloc | apply pw_below_drewN | apply below_drew1) | exact HB.out)) hb); have n3_ := Aside0.mk (hbox); have n4_ := Aside0.mk ((by rw [hg]; exact (below_size (by repeat (first | (with_reducible first | exact HB.out | apply below_alloc | apply pw_below_drewN | apply below_drew1) | exact HB.out))) : w.heap.size ≤ gb324)); have n5_ := Aside0.mk ((by rw [hg]; exact (below_size (by repeat (first | (with_reducible first | exact HB.out | apply below_alloc | apply pw_below_drewN | apply below_drew1) | exact HB.out))) : w.heap.size ≤ gb324)); clear HO_10; clear HO_11; clear HB; have HO_10 := n0_; have HO_11 := n1_; have HB := n2_; have BK324 := n3_; have GW324 := n4_; have GE324 := n5_; clear n0_ n1_ n2_ n3_ n4_ n5_; clear hb hbox hg; have hcz58_0 : w57.cell? ⟨gb324, 0, none⟩ = some (.int .i64 0) := (blk_cell BK324.out 0).trans rfl; have hcz58_1 : w57.cell? ⟨gb324, 1, none⟩ = some (.int .i64 0) := (blk_cell BK324.out 1).trans rfl; have hfz58_0 := blk_frozen BK324.out 0; have hfz58_1 := blk_frozen BK324.out 1) | ((with_reducible refine gate_callee (f := 32) rfl ?_); refine goesL_ (some 67) rfl rfl Try.func32 (by kernel_rfl) rfl #[.agg #[.int .i64 ((rd_T45 y315 x60_1).f0), .int .i64 ((rd_T45 y315 x60_1).f1)], .int .i64 a1] rfl (by (try simp only [List.map_toArray, List.map_cons, List.map_nil]); first | done | rfl | (simp only [List.length_drop, List.length_take]; rfl)) ?_; (with_reducible refine (cx_Turn.calls ((rd_T45 y315 x60_1).f0) ((rd_T45 y315 x60_1).f1) a1 t325 t326 t327 _ A14.out).mono ?_); rintro e w59 ⟨rfl, hb⟩; refine ⟨_, rfl, ?_⟩; have n0_ := Aside0.mk (Kd.R_below (by (with_reducible repeat (first | apply Kd.R_alloc | apply Kd.R_drewN | apply Kd.R_drew)); exact (Kd.R_mono (Kd.R_far (p := ⟨gb324, 1, none⟩) (Kd.R_far (p := ⟨gb324, 0, none⟩) (Kd.R_mono HO_10.out (fun k_ hk => (⟨hk, hk.2⟩ : _ ∧ k_ ≠ gb324))) (fun _ hk => hk.2) (.int .i64 ((rd_T45 y315 x60_1).f0))) (fun _ hk => hk.2) (.int .i64 ((rd_T45 y315 x60_1).f1))) (fun _ h_ => h_.1))) hb); have n1_ := Aside0.mk (Kd.R_below (by (with_reducible repeat (first | apply Kd.R_alloc | apply Kd.R_drewN | apply Kd.R_drew)); exact (Kd.R_mono (Kd.R_far (p := ⟨gb324, 1, none⟩) (Kd.R_far (p := ⟨gb324, 0, none⟩) (Kd.R_mono HO_11.out (fun k_ hk => (⟨hk, hk.2⟩ : _ ∧ k_ ≠ gb324))) (fun _ hk => hk.2) (.int .i64 ((rd_T45 y315 x60_1).f0))) (fun _ hk => hk.2) (.int .i64 ((rd_T45 y315 x60_1).f1))) (fun _ h_ => h_.1))) hb); have n2_ := Aside0.mk (blk_below (g := gb324) (o := .cells #[.int .i64 ((rd_T45 y315 x60_1).f0), .int .i64 ((rd_T45 y315 x60_1).f1)] 45 (0, 0)) (by (with_reducible repeat (first | refine blk_drewN ?_ _ | refine blk_drew ?_ | refine blk_alloc ?_ _)); refine blk_put (cs := #[.int .i64 ((rd_T45 y315 x60_1).f0), .int .i64 0]) ?_ 1 _ rfl; (with_reducible repeat (first | refine blk_drewN ?_ _ | refine blk_drew ?_ | refine blk_alloc ?_ _)); refine blk_put (cs := #[.int .i64 0, .int .i64 0]) ?_ 0 _ rfl; (with_reducible repeat (first | refine blk_drewN ?_ _ | refine blk_drew ?_ | refine blk_alloc ?_ _)); exact BK324.out) hb); have n3_ := Aside0.mk (below_step (by repeat (first | (with_reducible first | exact HB.out | apply below_alloc | apply pw_below_drewN | apply below_drew1 | refine below_set ?_ GE324.out) | exact HB.out)) hb); clear HO_10; clear HO_11; clear BK324; clear HB; have HO_10 := n0_; have HO_11 := n1_; have BK324 := n2_; have HB := n3_; clear n0_ n1_ n2_ n3_; (try clear hb); (try clear hb2); (try clear hk); (try clear hi)) | ((with_reducible refine gate_dst (N := 14) rfl ?_); refine box_event ?hg (N := 14) ?hd (cs := #[.int .i64 0, .int .i64 0]) (t := 45) ?hr ?_; (case hd => rfl); (case hg => rfl); (case hr => first | (go_simp; done) | (go_simp; rfl)); intro gb328 hg w60 hbox hb; have n0_ := Aside0.mk (Kd.R_below (Kd.R_elderB (by (with_reducible repeat (first | apply Kd.R_alloc | apply Kd.R_drewN | apply Kd.R_drew)); exact HO_10.out) gb328 (Nat.le_of_eq hg.symm)) hb); have n1_ := Aside0.mk (Kd.R_below (Kd.R_elderB (by (with_reducible repeat (first | apply Kd.R_alloc | apply Kd.R_drewN | apply Kd.R_drew)); exact HO_11.out) gb328 (Nat.le_of_eq hg.symm)) hb); have n2_ := Aside0.mk (blk_below (g := gb324) (o := .cells #[.int .i64 ((rd_T45 y315 x60_1).f0), .int .i64 ((rd_T45 y315 x60_1).f1)] 45 (0, 0)) (by (with_reducible repeat (first | refine blk_drewN ?_ _ | refine blk_drew ?_ | refine blk_alloc ?_ _)); exact BK324.out) hb); have n3_ := Aside0.mk (below_step (by repeat (first | (with_reducible first | exact HB.out | apply below_alloc | apply pw_below_drewN | apply below_drew1 | refine below_set ?_ GE324.out) | exact HB.out)) hb); have n4_ := Aside0.mk (hbox); have n5_ := Aside0.mk ((by rw [hg]; exact (below_size (by repeat (first | (with_reducible first | exact HB.out | apply below_alloc | apply pw_below_drewN | apply below_drew1 | refine below_set ?_ GE324.out) | exact HB.out))) : w.heap.size ≤ gb328)); have n6_ := Aside0.mk ((by rw [hg]; exact (below_size (by repeat (first | (with_reducible first | exact HB.out | apply below_alloc | apply pw_below_drewN | apply below_drew1 | refine below_set ?_ GE324.out) | exact HB.out))) : w.heap.size ≤ gb328)); have n7_ := Aside0.mk ((by rw [hg]; exact Nat.ne_of_lt (blk_lt (g := gb324) (o := .cells #[.int .i64 ((rd_T45 y315 x60_1).f0), .int .i64 ((rd_T45 y315 x60_1).f1)] 45 (0, 0)) (by (with_reducible repeat (first | refine blk_drewN ?_ _ | refine blk_drew ?_ | refine blk_alloc ?_ _)); exact BK324.out)) : gb324 ≠ gb328)); have n8_ := Aside0.mk ((by rw [hg]; exact Nat.ne_of_gt (blk_lt (g := gb324) (o := .cells #[.int .i64 ((rd_T45 y315 x60_1).f0), .int .i64 ((rd_T45 y315 x60_1).f1)] 45 (0, 0)) (by (with_reducible repeat (first | refine blk_drewN ?_ _ | refine blk_drew ?_ | refine blk_alloc ?_ _)); exact BK324.out)) : gb328 ≠ gb324)); clear HO_10; clear HO_11; clear BK324; clear HB; have HO_10 := n0_; have HO_11 := n1_; have BK324 := n2_; have HB := n3_; have BK328 := n4_; have GW328 := n5_; have GE328 := n6_; have NB324_328 := n7_; have NB328_324 := n8_; clear n0_ n1_ n2_ n3_ n4_ n5_ n6_ n7_ n8_; clear hb hbox hg; have hnb61 := NB328_324.out; have hnc61 := NB324_328.out; have hcz62_0 : w60.cell? ⟨gb328, 0, none⟩ = some (.int .i64 0) := (blk_cell BK328.out 0).trans rfl; have hcz62_1 : w60.cell? ⟨gb328, 1, none⟩ = some (.int .i64 0) := (blk_cell BK328.out 1).trans rfl; have hfz62_0 := blk_frozen BK328.out 0; have hfz62_1 := blk_frozen BK328.out 1; have hcz63_0 : w60.cell? ⟨gb324, 0, none⟩ = some (.int .i64 ((rd_T45 y315 x60_1).f0)) := (blk_cell BK324.out 0).trans rfl; have hcz63_1 : w60.cell? ⟨gb324, 1, none⟩ = some (.int .i64 ((rd_T45 y315 x60_1).f1)) := (blk_cell BK324.out 1).trans rfl; have hfz63_0 := blk_frozen BK324.out 0; have hfz63_1 := blk_frozen BK324.out 1) | ((with_reducible refine gate_callee (f := 33) rfl ?_); refine goesL_ (some 72) rfl rfl Try.func33 (by kernel_rfl) rfl #[.agg #[.int .i64 ((rd_T45 y315 x60_1).f0), .int .i64 ((rd_T45 y315 x60_1).f1)]] rfl (by (try simp only [List.map_toArray, List.map_cons, List.map_nil]); first | done | rfl | (simp only [List.length_drop, List.length_take]; rfl)) ?_; (with_reducible refine (cx_Conj.calls ((rd_T45 y315 x60_1).f0) ((rd_T45 y315 x60_1).f1) t329 t330 t331 _ A15.out).mono ?_); rintro e w64 ⟨rfl, hb⟩; refine ⟨_, rfl, ?_⟩; have n0_ := Aside0.mk (Kd.R_below (by (with_reducible repeat (first | apply Kd.R_alloc | apply Kd.R_drewN | apply Kd.R_drew)); exact (Kd.R_mono (Kd.R_far (p := ⟨gb328, 1, none⟩) (Kd.R_far (p := ⟨gb328, 0, none⟩) (Kd.R_mono HO_10.out (fun k_ hk => (⟨hk, hk.2⟩ : _ ∧ k_ ≠ gb328))) (fun _ hk => hk.2) (.int .i64 t325)) (fun _ hk => hk.2) (.int .i64 t326)) (fun _ h_ => h_.1))) hb); have n1_ := Aside0.mk (Kd.R_below (by (with_reducible repeat (first | apply Kd.R_alloc | apply Kd.R_drewN | apply Kd.R_drew)); exact (Kd.R_mono (Kd.R_far (p := ⟨gb328, 1, none⟩) (Kd.R_far (p := ⟨gb328, 0, none⟩) (Kd.R_mono HO_11.out (fun k_ hk => (⟨hk, hk.2⟩ : _ ∧ k_ ≠ gb328))) (fun _ hk => hk.2) (.int .i64 t325)) (fun _ hk => hk.2) (.int .i64 t326)) (fun _ h_ => h_.1))) hb); have n2_ := Aside0.mk (blk_below (g := gb324) (o := .cells #[.int .i64 ((rd_T45 y315 x60_1).f0), .int .i64 ((rd_T45 y315 x60_1).f1)] 45 (0, 0)) (by (with_reducible repeat (first | refine blk_drewN ?_ _ | refine blk_drew ?_ | refine blk_alloc ?_ _)); refine blk_far ?_ NB324_328.out _; (with_reducible repeat (first | refine blk_drewN ?_ _ | refine blk_drew ?_ | refine blk_alloc ?_ _)); refine blk_far ?_ NB324_328.out _; (with_reducible repeat (first | refine blk_drewN ?_ _ | refine blk_drew ?_ | refine blk_alloc ?_ _)); exact BK324.out) hb); have n3_ := Aside0.mk (blk_below (g := gb328) (o := .cells #[.int .i64 t325, .int .i64 t326] 45 (0, 0)) (by (with_reducible repeat (first | refine blk_drewN ?_ _ | refine blk_drew ?_ | refine blk_alloc ?_ _)); refine blk_put (cs := #[.int .i64 t325, .int .i64 0]) ?_ 1 _ rfl; (with_reducible repeat (first | refine blk_drewN ?_ _ | refine blk_drew ?_ | refine blk_alloc ?_ _)); refine blk_put (cs := #[.int .i64 0, .int .i64 0]) ?_ 0 _ rfl; (with_reducible repeat (first | refine blk_drewN ?_ _ | refine blk_drew ?_ | refine blk_alloc ?_ _)); exact BK328.out) hb); have n4_ := Aside0.mk (below_step (by repeat (first | (with_reducible first | exact HB.out | apply below_alloc | apply pw_below_drewN | apply below_drew1 | refine below_set ?_ GE324.out | refine below_set ?_ GE328.out) | exact HB.out)) hb); clear HO_10; clear HO_11; clear BK324; clear BK328; clear HB; have HO_10 := n0_; have HO_11 := n1_; have BK324 := n2_; have BK328 := n3_; have HB := n4_; clear n0_ n1_ n2_ n3_ n4_; (try clear hb); (try clear hb2); (try clear hk); (try clear hi)) | ((with_reducible refine gate_dst (N := 16) rfl ?_); refine box_event ?hg (N := 16) ?hd (cs := #[.int .i64 0, .int .i64 0]) (t := 45) ?hr ?_; (case hd => rfl); (case hg => rfl); (case hr => first | (go_simp; done) | (go_simp; rfl)); intro gb332 hg w65 hbox hb; have n0_ := Aside0.mk (Kd.R_below (Kd.R_elderB (by (with_reducible repeat (first | apply Kd.R_alloc | apply Kd.R_drewN | apply Kd.R_drew)); exact HO_10.out) gb332 (Nat.le_of_eq hg.symm)) hb); have n1_ := Aside0.mk (Kd.R_below (Kd.R_elderB (by (with_reducible repeat (first | apply Kd.R_alloc | apply Kd.R_drewN | apply Kd.R_drew)); exact HO_11.out) gb332 (Nat.le_of_eq hg.symm)) hb); have n2_ := Aside0.mk (blk_below (g := gb324) (o := .cells #[.int .i64 ((rd_T45 y315 x60_1).f0), .int .i64 ((rd_T45 y315 x60_1).f1)] 45 (0, 0)) (by (with_reducible repeat (first | refine blk_drewN ?_ _ | refine blk_drew ?_ | refine blk_alloc ?_ _)); exact BK324.out) hb); have n3_ := Aside0.mk (blk_below (g := gb328) (o := .cells #[.int .i64 t325, .int .i64 t326] 45 (0, 0)) (by (with_reducible repeat (first | refine blk_drewN ?_ _ | refine blk_drew ?_ | refine blk_alloc ?_ _)); exact BK328.out) hb); have n4_ := Aside0.mk (below_step (by repeat (first | (with_reducible first | exact HB.out | apply below_alloc | apply pw_below_drewN | apply below_drew1 | refine below_set ?_ GE324.out | refine below_set ?_ GE328.out) | exact HB.out)) hb); have n5_ := Aside0.mk (hbox); have n6_ := Aside0.mk ((by rw [hg]; exact (below_size (by repeat (first | (with_reducible first | exact HB.out | apply below_alloc | apply pw_below_drewN | apply below_drew1 | refine below_set ?_ GE324.out | refine below_set ?_ GE328.out) | exact HB.out))) : w.heap.size ≤ gb332)); have n7_ := Aside0.mk ((by rw [hg]; exact (below_size (by repeat (first | (with_reducible first | exact HB.out | apply below_alloc | apply pw_below_drewN | apply below_drew1 | refine below_set ?_ GE324.out | refine below_set ?_ GE328.out) | exact HB.out))) : w.heap.size ≤ gb332)); have n8_ := Aside0.mk ((by rw [hg]; exact Nat.ne_of_lt (blk_lt (g := gb324) (o := .cells #[.int .i64 ((rd_T45 y315 x60_1).f0), .int .i64 ((rd_T45 y315 x60_1).f1)] 45 (0, 0)) (by (with_reducible repeat (first | refine blk_drewN ?_ _ | refine blk_drew ?_ | refine blk_alloc ?_ _)); exact BK324.out)) : gb324 ≠ gb332)); have n9_ := Aside0.mk ((by rw [hg]; exact Nat.ne_of_gt (blk_lt (g := gb324) (o := .cells #[.int .i64 ((rd_T45 y315 x60_1).f0), .int .i64 ((rd_T45 y315 x60_1).f1)] 45 (0, 0)) (by (with_reducible repeat (first | refine blk_drewN ?_ _ | refine blk_drew ?_ | refine blk_alloc ?_ _)); exact BK324.out)) : gb332 ≠ gb324)); have n10_ := Aside0.mk ((by rw [hg]; exact Nat.ne_of_lt (blk_lt (g := gb328) (o := .cells #[.int .i64 t325, .int .i64 t326] 45 (0, 0)) (by (with_reducible repeat (first | refine blk_drewN ?_ _ | refine blk_drew ?_ | refine blk_alloc ?_ _)); exact BK328.out)) : gb328 ≠ gb332)); have n11_ := Aside0.mk ((by rw [hg]; exact Nat.ne_of_gt (blk_lt (g := gb328) (o := .cells #[.int .i64 t325, .int .i64 t326] 45 (0, 0)) (by (with_reducible repeat (first | refine blk_drewN ?_ _ | refine blk_drew ?_ | refine blk_alloc ?_ _)); exact BK328.out)) : gb332 ≠ gb328)); clear HO_10; clear HO_11; clear BK324; clear BK328; clear HB; have HO_10 := n0_; have HO_11 := n1_; have BK324 := n2_; have BK328 := n3_; have HB := n4_; have BK332 := n5_; have GW332 := n6_; have GE332 := n7_; have NB324_332 := n8_; have NB332_324 := n9_; have NB328_332 := n10_; have NB332_328 := n11_; clear n0_ n1_ n2_ n3_ n4_ n5_ n6_ n7_ n8_ n9_ n10_ n11_; clear hb hbox hg; have hnb66 := NB332_324.out; have hnc66 := NB324_332.out; have hnb67 := NB332_328.out; have hnc67 := NB328_332.out; have hcz68_0 : w65.cell? ⟨gb332, 0, none⟩ = some (.int .i64 0) := (blk_cell BK332.out 0).trans rfl; have hcz68_1 : w65.cell? ⟨gb332, 1, none⟩ = some (.int .i64 0) := (blk_cell BK332.out 1).trans rfl; have hfz68_0 := blk_frozen BK332.out 0; have hfz68_1 := blk_frozen BK332.out 1))
                    go_ret
                    exact ⟨by first | rfl | (simp [errW_none, errW_some] <;> rfl) | (simp only [← hji4]; first | rfl | (simp [errW_none, errW_some] <;> rfl)) | (simp [*, errW_none, errW_some] <;> rfl), by repeat (first | (with_reducible first | exact HB.out | apply below_alloc | apply pw_below_drewN | apply below_drew1 | refine below_set ?_ GE324.out | refine below_set ?_ GE328.out | refine below_set ?_ GE332.out) | exact HB.out)⟩
                · rw [if_neg c13] at H
                  exact absurd H (by simp)
              · rw [if_neg c12] at H
                exact absurd H (by simp)
            · rw [if_neg c11] at H
              have c11b0 : decide (x60_1 < (y315.length : Int)) = false := decide_eq_false c11
              clear c11
              replace H := Option.bind_eq_some_iff.mp H
              obtain ⟨⟨t345, t346⟩, A690, H⟩ := H
              replace H : ((power_Spectrum.f x10_1).bind fun bt349 => ((power_Spectrum.f x11_1).bind fun bt353 => ((power_Peak.f k1 y315).bind fun bt357 => ((power_Peak.f k1 x10_1).bind fun bt359 => (if (wrap64 ((y315.length : Int) + 1)) = 0 then (none) else (if 0 ≤ (Int.tmod (wrap64 ((wrap64 ((Int.tmod a2 (wrap64 ((y315.length : Int) + 1))) + (y315.length : Int))) + 1)) (wrap64 ((y315.length : Int) + 1))) then (if (Int.tmod (wrap64 ((wrap64 ((Int.tmod a2 (wrap64 ((y315.length : Int) + 1))) + (y315.length : Int))) + 1)) (wrap64 ((y315.length : Int) + 1))) ≤ (y315.length : Int) then ((power_Total.f (y315.take ((Int.tmod (wrap64 ((wrap64 ((Int.tmod a2 (wrap64 ((y315.length : Int) + 1))) + (y315.length : Int))) + 1)) (wrap64 ((y315.length : Int) + 1))) : Int).toNat)).bind fun bt365 => ((power_Total.f (y315.drop ((Int.tmod (wrap64 ((wrap64 ((Int.tmod a2 (wrap64 ((y315.length : Int) + 1))) + (y315.length : Int))) + 1)) (wrap64 ((y315.length : Int) + 1))) : Int).toNat)).bind fun bt372 => ((bits_Add64.f bt365.2.1 bt372.2.1 0).bind fun bt375 => ((headroomlaw20_alive.f k1).bind fun t377 => (if t377 = true then (if t346 = 0 then (if bt349.2 = 0 then (if bt353.2 = 0 then (if bt365.2.2 = 0 then (if bt372.2.2 = 0 then (if bt357.2 = bt359.2 then (if bt357.1 = bt359.1 then ((headroomref20_Same.f k1 bt349.1 t345).bind fun t378 => (if t378 = true then ((headroomref20_Same.f k1 bt353.1 t345).bind fun t379 => (if t379 = true then (if bt375.1 = t320 then (some ((IntKind.u64.wrap ((IntKind.u64.wrap (bt365.1 + bt372.1)) + bt375.2)) == t319)) else (some false)) else (some false))) else (some false))) else (some false)) else (some false)) else (some false)) else (some false)) else (some false)) else (some false)) else (some false)) else (some false)))))) else (none)) else (none))))))) = some r := H
              have A69 := Aside0.mk A690
              clear A690
              replace H := Option.bind_eq_some_iff.mp H
              obtain ⟨⟨t349, t350⟩, A700, H⟩ := H
              replace H : ((power_Spectrum.f x11_1).bind fun bt353 => ((power_Peak.f k1 y315).bind fun bt357 => ((power_Peak.f k1 x10_1).bind fun bt359 => (if (wrap64 ((y315.length : Int) + 1)) = 0 then (none) else (if 0 ≤ (Int.tmod (wrap64 ((wrap64 ((Int.tmod a2 (wrap64 ((y315.length : Int) + 1))) + (y315.length : Int))) + 1)) (wrap64 ((y315.length : Int) + 1))) then (if (Int.tmod (wrap64 ((wrap64 ((Int.tmod a2 (wrap64 ((y315.length : Int) + 1))) + (y315.length : Int))) + 1)) (wrap64 ((y315.length : Int) + 1))) ≤ (y315.length : Int) then ((power_Total.f (y315.take ((Int.tmod (wrap64 ((wrap64 ((Int.tmod a2 (wrap64 ((y315.length : Int) + 1))) + (y315.length : Int))) + 1)) (wrap64 ((y315.length : Int) + 1))) : Int).toNat)).bind fun bt365 => ((power_Total.f (y315.drop ((Int.tmod (wrap64 ((wrap64 ((Int.tmod a2 (wrap64 ((y315.length : Int) + 1))) + (y315.length : Int))) + 1)) (wrap64 ((y315.length : Int) + 1))) : Int).toNat)).bind fun bt372 => ((bits_Add64.f bt365.2.1 bt372.2.1 0).bind fun bt375 => ((headroomlaw20_alive.f k1).bind fun t377 => (if t377 = true then (if t346 = 0 then (if t350 = 0 then (if bt353.2 = 0 then (if bt365.2.2 = 0 then (if bt372.2.2 = 0 then (if bt357.2 = bt359.2 then (if bt357.1 = bt359.1 then ((headroomref20_Same.f k1 t349 t345).bind fun t378 => (if t378 = true then ((headroomref20_Same.f k1 bt353.1 t345).bind fun t379 => (if t379 = true then (if bt375.1 = t320 then (some ((IntKind.u64.wrap ((IntKind.u64.wrap (bt365.1 + bt372.1)) + bt375.2)) == t319)) else (some false)) else (some false))) else (some false))) else (some false)) else (some false)) else (some false)) else (some false)) else (some false)) else (some false)) else (some false)) else (some false)))))) else (none)) else (none)))))) = some r := H
              have A70 := Aside0.mk A700
              clear A700
              replace H := Option.bind_eq_some_iff.mp H
              obtain ⟨⟨t353, t354⟩, A710, H⟩ := H
              replace H : ((power_Peak.f k1 y315).bind fun bt357 => ((power_Peak.f k1 x10_1).bind fun bt359 => (if (wrap64 ((y315.length : Int) + 1)) = 0 then (none) else (if 0 ≤ (Int.tmod (wrap64 ((wrap64 ((Int.tmod a2 (wrap64 ((y315.length : Int) + 1))) + (y315.length : Int))) + 1)) (wrap64 ((y315.length : Int) + 1))) then (if (Int.tmod (wrap64 ((wrap64 ((Int.tmod a2 (wrap64 ((y315.length : Int) + 1))) + (y315.length : Int))) + 1)) (wrap64 ((y315.length : Int) + 1))) ≤ (y315.length : Int) then ((power_Total.f (y315.take ((Int.tmod (wrap64 ((wrap64 ((Int.tmod a2 (wrap64 ((y315.length : Int) + 1))) + (y315.length : Int))) + 1)) (wrap64 ((y315.length : Int) + 1))) : Int).toNat)).bind fun bt365 => ((power_Total.f (y315.drop ((Int.tmod (wrap64 ((wrap64 ((Int.tmod a2 (wrap64 ((y315.length : Int) + 1))) + (y315.length : Int))) + 1)) (wrap64 ((y315.length : Int) + 1))) : Int).toNat)).bind fun bt372 => ((bits_Add64.f bt365.2.1 bt372.2.1 0).bind fun bt375 => ((headroomlaw20_alive.f k1).bind fun t377 => (if t377 = true then (if t346 = 0 then (if t350 = 0 then (if t354 = 0 then (if bt365.2.2 = 0 then (if bt372.2.2 = 0 then (if bt357.2 = bt359.2 then (if bt357.1 = bt359.1 then ((headroomref20_Same.f k1 t349 t345).bind fun t378 => (if t378 = true then ((headroomref20_Same.f k1 t353 t345).bind fun t379 => (if t379 = true then (if bt375.1 = t320 then (some ((IntKind.u64.wrap ((IntKind.u64.wrap (bt365.1 + bt372.1)) + bt375.2)) == t319)) else (some false)) else (some false))) else (some false))) else (some false)) else (some false)) else (some false)) else (some false)) else (some false)) else (some false)) else (some false)) else (some false)))))) else (none)) else (none))))) = some r := H
              have A71 := Aside0.mk A710
              clear A710
              replace H := Option.bind_eq_some_iff.mp H
              obtain ⟨⟨t357, t358⟩, A720, H⟩ := H
              replace H : ((power_Peak.f k1 x10_1).bind fun bt359 => (if (wrap64 ((y315.length : Int) + 1)) = 0 then (none) else (if 0 ≤ (Int.tmod (wrap64 ((wrap64 ((Int.tmod a2 (wrap64 ((y315.length : Int) + 1))) + (y315.length : Int))) + 1)) (wrap64 ((y315.length : Int) + 1))) then (if (Int.tmod (wrap64 ((wrap64 ((Int.tmod a2 (wrap64 ((y315.length : Int) + 1))) + (y315.length : Int))) + 1)) (wrap64 ((y315.length : Int) + 1))) ≤ (y315.length : Int) then ((power_Total.f (y315.take ((Int.tmod (wrap64 ((wrap64 ((Int.tmod a2 (wrap64 ((y315.length : Int) + 1))) + (y315.length : Int))) + 1)) (wrap64 ((y315.length : Int) + 1))) : Int).toNat)).bind fun bt365 => ((power_Total.f (y315.drop ((Int.tmod (wrap64 ((wrap64 ((Int.tmod a2 (wrap64 ((y315.length : Int) + 1))) + (y315.length : Int))) + 1)) (wrap64 ((y315.length : Int) + 1))) : Int).toNat)).bind fun bt372 => ((bits_Add64.f bt365.2.1 bt372.2.1 0).bind fun bt375 => ((headroomlaw20_alive.f k1).bind fun t377 => (if t377 = true then (if t346 = 0 then (if t350 = 0 then (if t354 = 0 then (if bt365.2.2 = 0 then (if bt372.2.2 = 0 then (if t358 = bt359.2 then (if t357 = bt359.1 then ((headroomref20_Same.f k1 t349 t345).bind fun t378 => (if t378 = true then ((headroomref20_Same.f k1 t353 t345).bind fun t379 => (if t379 = true then (if bt375.1 = t320 then (some ((IntKind.u64.wrap ((IntKind.u64.wrap (bt365.1 + bt372.1)) + bt375.2)) == t319)) else (some false)) else (some false))) else (some false))) else (some false)) else (some false)) else (some false)) else (some false)) else (some false)) else (some false)) else (some false)) else (some false)))))) else (none)) else (none)))) = some r := H
              have A72 := Aside0.mk A720
              clear A720
              replace H := Option.bind_eq_some_iff.mp H
              obtain ⟨⟨t359, t360⟩, A730, H⟩ := H
              replace H : (if (wrap64 ((y315.length : Int) + 1)) = 0 then (none) else (if 0 ≤ (Int.tmod (wrap64 ((wrap64 ((Int.tmod a2 (wrap64 ((y315.length : Int) + 1))) + (y315.length : Int))) + 1)) (wrap64 ((y315.length : Int) + 1))) then (if (Int.tmod (wrap64 ((wrap64 ((Int.tmod a2 (wrap64 ((y315.length : Int) + 1))) + (y315.length : Int))) + 1)) (wrap64 ((y315.length : Int) + 1))) ≤ (y315.length : Int) then ((power_Total.f (y315.take ((Int.tmod (wrap64 ((wrap64 ((Int.tmod a2 (wrap64 ((y315.length : Int) + 1))) + (y315.length : Int))) + 1)) (wrap64 ((y315.length : Int) + 1))) : Int).toNat)).bind fun bt365 => ((power_Total.f (y315.drop ((Int.tmod (wrap64 ((wrap64 ((Int.tmod a2 (wrap64 ((y315.length : Int) + 1))) + (y315.length : Int))) + 1)) (wrap64 ((y315.length : Int) + 1))) : Int).toNat)).bind fun bt372 => ((bits_Add64.f bt365.2.1 bt372.2.1 0).bind fun bt375 => ((headroomlaw20_alive.f k1).bind fun t377 => (if t377 = true then (if t346 = 0 then (if t350 = 0 then (if t354 = 0 then (if bt365.2.2 = 0 then (if bt372.2.2 = 0 then (if t358 = t360 then (if t357 = t359 then ((headroomref20_Same.f k1 t349 t345).bind fun t378 => (if t378 = true then ((headroomref20_Same.f k1 t353 t345).bind fun t379 => (if t379 = true then (if bt375.1 = t320 then (some ((IntKind.u64.wrap ((IntKind.u64.wrap (bt365.1 + bt372.1)) + bt375.2)) == t319)) else (some false)) else (some false))) else (some false))) else (some false)) else (some false)) else (some false)) else (some false)) else (some false)) else (some false)) else (some false)) else (some false)))))) else (none)) else (none))) = some r := H
              have A73 := Aside0.mk A730
              clear A730
              by_cases c74 : (wrap64 ((y315.length : Int) + 1)) = 0
              · rw [if_pos c74] at H
                exact absurd H (by simp)
              · rw [if_neg c74] at H
                have c74b0 : ((wrap64 ((y315.length : Int) + 1)) == 0) = false := beq_eq_false_iff_ne.mpr c74
                have c74b1 : ((wrap64 ((y315.length : Int) + 1)) != 0) = true := bne_iff_ne.mpr c74
                obtain ⟨ji75, hji75⟩ : ∃ j_ : Int, (Int.tmod (wrap64 ((wrap64 ((Int.tmod a2 (wrap64 ((y315.length : Int) + 1))) + (y315.length : Int))) + 1)) (wrap64 ((y315.length : Int) + 1))) = j_ := ⟨_, rfl⟩
                replace H : (if 0 ≤ (ji75) then (if (ji75) ≤ (y315.length : Int) then ((power_Total.f (y315.take ((ji75) : Int).toNat)).bind fun bt365 => ((power_Total.f (y315.drop ((ji75) : Int).toNat)).bind fun bt372 => ((bits_Add64.f bt365.2.1 bt372.2.1 0).bind fun bt375 => ((headroomlaw20_alive.f k1).bind fun t377 => (if t377 = true then (if t346 = 0 then (if t350 = 0 then (if t354 = 0 then (if bt365.2.2 = 0 then (if bt372.2.2 = 0 then (if t358 = t360 then (if t357 = t359 then ((headroomref20_Same.f k1 t349 t345).bind fun t378 => (if t378 = true then ((headroomref20_Same.f k1 t353 t345).bind fun t379 => (if t379 = true then (if bt375.1 = t320 then (some ((IntKind.u64.wrap ((IntKind.u64.wrap (bt365.1 + bt372.1)) + bt375.2)) == t319)) else (some false)) else (some false))) else (some false))) else (some false)) else (some false)) else (some false)) else (some false)) else (some false)) else (some false)) else (some false)) else (some false)))))) else (none)) else (none)) = some r := by first | (rw [hji75] at H; exact H) | (simp only [hji75] at H ⊢; exact H)
                (try rw [hji75] at A69)
                (try rw [hji75] at A70)
                (try rw [hji75] at A71)
                (try rw [hji75] at A72)
                (try rw [hji75] at A73)
                by_cases c76 : 0 ≤ (ji75)
                · rw [if_pos c76] at H
                  have c76b0 := eq_true c76
                  have c76b1 : decide (0 ≤ (ji75)) = true := decide_eq_true c76
                  clear c76
                  by_cases c77 : (ji75) ≤ (y315.length : Int)
                  · rw [if_pos c77] at H
                    have c77b0 := eq_true c77
                    have c77b1 : decide ((ji75) ≤ (y315.length : Int)) = true := decide_eq_true c77
                    clear c77
                    obtain ⟨y361, hy361⟩ : ∃ y_ : List (S45), y_ = (y315.take ((ji75) : Int).toNat) := ⟨_, rfl⟩
                    replace H : ((power_Total.f y361).bind fun bt365 => ((power_Total.f (y315.drop ((ji75) : Int).toNat)).bind fun bt372 => ((bits_Add64.f bt365.2.1 bt372.2.1 0).bind fun bt375 => ((headroomlaw20_alive.f k1).bind fun t377 => (if t377 = true then (if t346 = 0 then (if t350 = 0 then (if t354 = 0 then (if bt365.2.2 = 0 then (if bt372.2.2 = 0 then (if t358 = t360 then (if t357 = t359 then ((headroomref20_Same.f k1 t349 t345).bind fun t378 => (if t378 = true then ((headroomref20_Same.f k1 t353 t345).bind fun t379 => (if t379 = true then (if bt375.1 = t320 then (some ((IntKind.u64.wrap ((IntKind.u64.wrap (bt365.1 + bt372.1)) + bt375.2)) == t319)) else (some false)) else (some false))) else (some false))) else (some false)) else (some false)) else (some false)) else (some false)) else (some false)) else (some false)) else (some false)) else (some false)))))) = some r := by first | (rw [hy361]; with_reducible exact H) | (have H2_ := (Option.bind_some _ _).symm.trans H; rw [hy361]; with_reducible exact H2_) | (have H2_ := (Option.bind_some _ _).symm.trans H; with_reducible exact H2_) | with_reducible exact H | (rw [hy361]; exact H) | exact H
                    have Ny361 := Aside0.mk hy361
                    clear hy361
                    replace H := Option.bind_eq_some_iff.mp H
                    obtain ⟨⟨t365, t366, t367⟩, A780, H⟩ := H
                    replace H : ((power_Total.f (y315.drop ((ji75) : Int).toNat)).bind fun bt372 => ((bits_Add64.f t366 bt372.2.1 0).bind fun bt375 => ((headroomlaw20_alive.f k1).bind fun t377 => (if t377 = true then (if t346 = 0 then (if t350 = 0 then (if t354 = 0 then (if t367 = 0 then (if bt372.2.2 = 0 then (if t358 = t360 then (if t357 = t359 then ((headroomref20_Same.f k1 t349 t345).bind fun t378 => (if t378 = true then ((headroomref20_Same.f k1 t353 t345).bind fun t379 => (if t379 = true then (if bt375.1 = t320 then (some ((IntKind.u64.wrap ((IntKind.u64.wrap (t365 + bt372.1)) + bt375.2)) == t319)) else (some false)) else (some false))) else (some false))) else (some false)) else (some false)) else (some false)) else (some false)) else (some false)) else (some false)) else (some false)) else (some false))))) = some r := H
                    have A78 := Aside0.mk A780
                    clear A780
                    have c79b0 := eq_true (of_decide_eq_true (by first | (with_reducible assumption) | assumption) : 0 ≤ (ji75))
                    have c80b0 := eq_true (of_decide_eq_true (by first | (with_reducible assumption) | assumption) : (ji75) ≤ (y315.length : Int))
                    obtain ⟨y368, hy368⟩ : ∃ y_ : List (S45), y_ = (y315.drop ((ji75) : Int).toNat) := ⟨_, rfl⟩
                    replace H : ((power_Total.f y368).bind fun bt372 => ((bits_Add64.f t366 bt372.2.1 0).bind fun bt375 => ((headroomlaw20_alive.f k1).bind fun t377 => (if t377 = true then (if t346 = 0 then (if t350 = 0 then (if t354 = 0 then (if t367 = 0 then (if bt372.2.2 = 0 then (if t358 = t360 then (if t357 = t359 then ((headroomref20_Same.f k1 t349 t345).bind fun t378 => (if t378 = true then ((headroomref20_Same.f k1 t353 t345).bind fun t379 => (if t379 = true then (if bt375.1 = t320 then (some ((IntKind.u64.wrap ((IntKind.u64.wrap (t365 + bt372.1)) + bt375.2)) == t319)) else (some false)) else (some false))) else (some false))) else (some false)) else (some false)) else (some false)) else (some false)) else (some false)) else (some false)) else (some false)) else (some false))))) = some r := by first | (rw [hy368]; with_reducible exact H) | (have H2_ := (Option.bind_some _ _).symm.trans H; rw [hy368]; with_reducible exact H2_) | (have H2_ := (Option.bind_some _ _).symm.trans H; with_reducible exact H2_) | with_reducible exact H | (rw [hy368]; exact H) | exact H
                    have Ny368 := Aside0.mk hy368
                    clear hy368
                    replace H := Option.bind_eq_some_iff.mp H
                    obtain ⟨⟨t372, t373, t374⟩, A810, H⟩ := H
                    replace H : ((bits_Add64.f t366 t373 0).bind fun bt375 => ((headroomlaw20_alive.f k1).bind fun t377 => (if t377 = true then (if t346 = 0 then (if t350 = 0 then (if t354 = 0 then (if t367 = 0 then (if t374 = 0 then (if t358 = t360 then (if t357 = t359 then ((headroomref20_Same.f k1 t349 t345).bind fun t378 => (if t378 = true then ((headroomref20_Same.f k1 t353 t345).bind fun t379 => (if t379 = true then (if bt375.1 = t320 then (some ((IntKind.u64.wrap ((IntKind.u64.wrap (t365 + t372)) + bt375.2)) == t319)) else (some false)) else (some false))) else (some false))) else (some false)) else (some false)) else (some false)) else (some false)) else (some false)) else (some false)) else (some false)) else (some false)))) = some r := H
                    have A81 := Aside0.mk A810
                    clear A810
                    replace H := Option.bind_eq_some_iff.mp H
                    obtain ⟨⟨t375, t376⟩, A820, H⟩ := H
                    replace H : ((headroomlaw20_alive.f k1).bind fun t377 => (if t377 = true then (if t346 = 0 then (if t350 = 0 then (if t354 = 0 then (if t367 = 0 then (if t374 = 0 then (if t358 = t360 then (if t357 = t359 then ((headroomref20_Same.f k1 t349 t345).bind fun t378 => (if t378 = true then ((headroomref20_Same.f k1 t353 t345).bind fun t379 => (if t379 = true then (if t375 = t320 then (some ((IntKind.u64.wrap ((IntKind.u64.wrap (t365 + t372)) + t376)) == t319)) else (some false)) else (some false))) else (some false))) else (some false)) else (some false)) else (some false)) else (some false)) else (some false)) else (some false)) else (some false)) else (some false))) = some r := H
                    have A82 := Aside0.mk A820
                    clear A820
                    replace H := Option.bind_eq_some_iff.mp H
                    obtain ⟨t377, A830, H⟩ := H
                    replace H : (if t377 = true then (if t346 = 0 then (if t350 = 0 then (if t354 = 0 then (if t367 = 0 then (if t374 = 0 then (if t358 = t360 then (if t357 = t359 then ((headroomref20_Same.f k1 t349 t345).bind fun t378 => (if t378 = true then ((headroomref20_Same.f k1 t353 t345).bind fun t379 => (if t379 = true then (if t375 = t320 then (some ((IntKind.u64.wrap ((IntKind.u64.wrap (t365 + t372)) + t376)) == t319)) else (some false)) else (some false))) else (some false))) else (some false)) else (some false)) else (some false)) else (some false)) else (some false)) else (some false)) else (some false)) else (some false)) = some r := H
                    have A83 := Aside0.mk A830
                    clear A830
                    by_cases c84 : t377 = true
                    case' neg =>
                      replace c84 := Bool.eq_false_iff.mpr c84
                      subst c84
                      have H1 : (some false) = some r := by rw [if_neg (show ¬ (false = true) by decide)] at H; exact H
                      clear H
                      have H := H1
                      clear H1
                      obtain rfl := Option.some.inj H
                    case' pos =>
                      subst c84
                      have H1 : (if t346 = 0 then (if t350 = 0 then (if t354 = 0 then (if t367 = 0 then (if t374 = 0 then (if t358 = t360 then (if t357 = t359 then ((headroomref20_Same.f k1 t349 t345).bind fun t378 => (if t378 = true then ((headroomref20_Same.f k1 t353 t345).bind fun t379 => (if t379 = true then (if t375 = t320 then (some ((IntKind.u64.wrap ((IntKind.u64.wrap (t365 + t372)) + t376)) == t319)) else (some false)) else (some false))) else (some false))) else (some false)) else (some false)) else (some false)) else (some false)) else (some false)) else (some false)) else (some false)) = some r := by rw [if_pos rfl] at H; exact H
                      clear H
                      have H := H1
                      clear H1
                      by_cases c85 : t346 = 0
                      case' neg =>
                        rw [if_neg c85] at H
                        have c85b0 : (t346 == 0) = false := beq_eq_false_iff_ne.mpr c85
                        have c85b1 : (t346 != 0) = true := bne_iff_ne.mpr c85
                        obtain rfl := Option.some.inj H
                      case' pos =>
                        rw [if_pos c85] at H
                        have c85b0 : (t346 == 0) = true := beq_iff_eq.mpr c85
                        have c85b1 : (t346 != 0) = false := bne_eq_false_iff_eq.mpr c85
                        clear c85
                        by_cases c86 : t350 = 0
                        case' neg =>
                          rw [if_neg c86] at H
                          have c86b0 : (t350 == 0) = false := beq_eq_false_iff_ne.mpr c86
                          have c86b1 : (t350 != 0) = true := bne_iff_ne.mpr c86
                          obtain rfl := Option.some.inj H
                        case' pos =>
                          rw [if_pos c86] at H
                          have c86b0 : (t350 == 0) = true := beq_iff_eq.mpr c86
                          have c86b1 : (t350 != 0) = false := bne_eq_false_iff_eq.mpr c86
                          clear c86
                          by_cases c87 : t354 = 0
                          case' neg =>
                            rw [if_neg c87] at H
                            have c87b0 : (t354 == 0) = false := beq_eq_false_iff_ne.mpr c87
                            have c87b1 : (t354 != 0) = true := bne_iff_ne.mpr c87
                            obtain rfl := Option.some.inj H
                          case' pos =>
                            rw [if_pos c87] at H
                            have c87b0 : (t354 == 0) = true := beq_iff_eq.mpr c87
                            have c87b1 : (t354 != 0) = false := bne_eq_false_iff_eq.mpr c87
                            clear c87
                            by_cases c88 : t367 = 0
                            case' neg =>
                              rw [if_neg c88] at H
                              have c88b0 : (t367 == 0) = false := beq_eq_false_iff_ne.mpr c88
                              have c88b1 : (t367 != 0) = true := bne_iff_ne.mpr c88
                              obtain rfl := Option.some.inj H
                            case' pos =>
                              rw [if_pos c88] at H
                              have c88b0 : (t367 == 0) = true := beq_iff_eq.mpr c88
                              have c88b1 : (t367 != 0) = false := bne_eq_false_iff_eq.mpr c88
                              clear c88
                              by_cases c89 : t374 = 0
                              case' neg =>
                                rw [if_neg c89] at H
                                have c89b0 : (t374 == 0) = false := beq_eq_false_iff_ne.mpr c89
                                have c89b1 : (t374 != 0) = true := bne_iff_ne.mpr c89
                                obtain rfl := Option.some.inj H
                              case' pos =>
                                rw [if_pos c89] at H
                                have c89b0 : (t374 == 0) = true := beq_iff_eq.mpr c89
                                have c89b1 : (t374 != 0) = false := bne_eq_false_iff_eq.mpr c89
                                clear c89
                                by_cases c90 : t358 = t360
                                case' neg =>
                                  rw [if_neg c90] at H
                                  have c90b0 : (t358 == t360) = false := beq_eq_false_iff_ne.mpr c90
                                  have c90b1 : (t358 != t360) = true := bne_iff_ne.mpr c90
                                  obtain rfl := Option.some.inj H
                                case' pos =>
                                  rw [if_pos c90] at H
                                  have c90b0 : (t358 == t360) = true := beq_iff_eq.mpr c90
                                  have c90b1 : (t358 != t360) = false := bne_eq_false_iff_eq.mpr c90
                                  clear c90
                                  by_cases c91 : t357 = t359
                                  case' neg =>
                                    rw [if_neg c91] at H
                                    have c91b0 : (t357 == t359) = false := beq_eq_false_iff_ne.mpr c91
                                    have c91b1 : (t357 != t359) = true := bne_iff_ne.mpr c91
                                    obtain rfl := Option.some.inj H
                                  case' pos =>
                                    rw [if_pos c91] at H
                                    have c91b0 : (t357 == t359) = true := beq_iff_eq.mpr c91
                                    have c91b1 : (t357 != t359) = false := bne_eq_false_iff_eq.mpr c91
                                    clear c91
                                    replace H := Option.bind_eq_some_iff.mp H
                                    obtain ⟨t378, A920, H⟩ := H
                                    replace H : (if t378 = true then ((headroomref20_Same.f k1 t353 t345).bind fun t379 => (if t379 = true then (if t375 = t320 then (some ((IntKind.u64.wrap ((IntKind.u64.wrap (t365 + t372)) + t376)) == t319)) else (some false)) else (some false))) else (some false)) = some r := H
                                    have A92 := Aside0.mk A920
                                    clear A920
                                    by_cases c93 : t378 = true
                                    case' neg =>
                                      replace c93 := Bool.eq_false_iff.mpr c93
                                      subst c93
                                      have H1 : (some false) = some r := by rw [if_neg (show ¬ (false = true) by decide)] at H; exact H
                                      clear H
                                      have H := H1
                                      clear H1
                                      obtain rfl := Option.some.inj H
                                    case' pos =>
                                      subst c93
                                      have H1 : ((headroomref20_Same.f k1 t353 t345).bind fun t379 => (if t379 = true then (if t375 = t320 then (some ((IntKind.u64.wrap ((IntKind.u64.wrap (t365 + t372)) + t376)) == t319)) else (some false)) else (some false))) = some r := by rw [if_pos rfl] at H; exact H
                                      clear H
                                      have H := H1
                                      clear H1
                                      replace H := Option.bind_eq_some_iff.mp H
                                      obtain ⟨t379, A940, H⟩ := H
                                      replace H : (if t379 = true then (if t375 = t320 then (some ((IntKind.u64.wrap ((IntKind.u64.wrap (t365 + t372)) + t376)) == t319)) else (some false)) else (some false)) = some r := H
                                      have A94 := Aside0.mk A940
                                      clear A940
                                      by_cases c95 : t379 = true
                                      case' neg =>
                                        replace c95 := Bool.eq_false_iff.mpr c95
                                        subst c95
                                        have H1 : (some false) = some r := by rw [if_neg (show ¬ (false = true) by decide)] at H; exact H
                                        clear H
                                        have H := H1
                                        clear H1
                                        obtain rfl := Option.some.inj H
                                      case' pos =>
                                        subst c95
                                        have H1 : (if t375 = t320 then (some ((IntKind.u64.wrap ((IntKind.u64.wrap (t365 + t372)) + t376)) == t319)) else (some false)) = some r := by rw [if_pos rfl] at H; exact H
                                        clear H
                                        have H := H1
                                        clear H1
                                        by_cases c96 : t375 = t320
                                        case' neg =>
                                          rw [if_neg c96] at H
                                          have c96b0 : (t375 == t320) = false := beq_eq_false_iff_ne.mpr c96
                                          have c96b1 : (t375 != t320) = true := bne_iff_ne.mpr c96
                                          obtain rfl := Option.some.inj H
                                        case' pos =>
                                          rw [if_pos c96] at H
                                          have c96b0 : (t375 == t320) = true := beq_iff_eq.mpr c96
                                          have c96b1 : (t375 != t320) = false := bne_eq_false_iff_eq.mpr c96
                                          clear c96
                                          obtain rfl := Option.some.inj H
                    all_goals
                      go_wp2_with (first | ((with_reducible refine gate_callee (f := 25) rfl ?_); refine goesL_ (some 92) rfl rfl Try.func25 (by kernel_rfl) rfl #[.slice A0 y315.length c0] rfl (by (try simp only [List.map_toArray, List.map_cons, List.map_nil]); first | done | rfl | (simp only [List.length_drop, List.length_take]; rfl)) ?_; (with_reducible refine (power_Spectrum.calls _ _ y315 t345 t346 _ ?side1 ?side2 A69.out).mono ?_); (case side1 => repeat (first | exact (Kd.C_below HR318.out HB.out) | (with_reducible refine Kd.C_alloc ?_ _) | (with_reducible refine Kd.C_drewN ?_ _) | (with_reducible refine Kd.C_drew ?_))); (case side2 => exact HC318.out); rintro e w127 ⟨v347, rfl, ho0, hb⟩; refine ⟨_, rfl, ?_⟩; have n0_ := Aside0.mk (Kd.R_below (by (with_reducible repeat (first | apply Kd.R_alloc | apply Kd.R_drewN | apply Kd.R_drew)); exact HO_10.out) hb); have n1_ := Aside0.mk (Kd.R_below (by (with_reducible repeat (first | apply Kd.R_alloc | apply Kd.R_drewN | apply Kd.R_drew)); exact HO_11.out) hb); have n2_ := Aside0.mk (Kd.R_lower ho0 (below_size (by repeat (first | (with_reducible first | exact HB.out | apply below_alloc | apply pw_below_drewN | apply below_drew1) | exact HB.out)))); have n3_ := Aside0.mk (below_step (by repeat (first | (with_reducible first | exact HB.out | apply below_alloc | apply pw_below_drewN | apply below_drew1) | exact HB.out)) hb); clear HO_10; clear HO_11; clear HB; have HO_10 := n0_; have HO_11 := n1_; have HO348 := n2_; have HB := n3_; clear n0_ n1_ n2_ n3_; (try clear hb); (try clear hb2); (try clear hk); (try clear hi); (try clear ho0); obtain ⟨Ao128, co128, eo128⟩ := Kd.R_slice HO_10.out; subst eo128) | ((with_reducible refine gate_callee (f := 25) rfl ?_); refine goesL_ (some 97) rfl rfl Try.func25 (by kernel_rfl) rfl #[.slice Ao128 x10_1.length co128] rfl (by (try simp only [List.map_toArray, List.map_cons, List.map_nil]); first | done | rfl | (simp only [List.length_drop, List.length_take]; rfl)) ?_; (with_reducible refine (power_Spectrum.calls _ _ x10_1 t349 t350 _ ?side1 ?side2 A70.out).mono ?_); (case side1 => repeat (first | exact (Kd.R_reads' HO_10.out).2.2 | (with_reducible refine Kd.C_alloc ?_ _) | (with_reducible refine Kd.C_drewN ?_ _) | (with_reducible refine Kd.C_drew ?_))); (case side2 => exact (Kd.R_reads' HO_10.out).2.1); rintro e w129 ⟨v351, rfl, ho0, hb⟩; refine ⟨_, rfl, ?_⟩; have n0_ := Aside0.mk (Kd.R_below (by (with_reducible repeat (first | apply Kd.R_alloc | apply Kd.R_drewN | apply Kd.R_drew)); exact HO_10.out) hb); have n1_ := Aside0.mk (Kd.R_below (by (with_reducible repeat (first | apply Kd.R_alloc | apply Kd.R_drewN | apply Kd.R_drew)); exact HO_11.out) hb); have n2_ := Aside0.mk (Kd.R_elder' (by (with_reducible repeat (first | apply Kd.R_alloc | apply Kd.R_drewN | apply Kd.R_drew)); exact HO348.out) (Kd.R_base ho0) hb); have n3_ := Aside0.mk (Kd.R_lower (Kd.R_new' ho0 (Kd.R_lt (by (with_reducible repeat (first | apply Kd.R_alloc | apply Kd.R_drewN | apply Kd.R_drew)); exact HO348.out))) (below_size (by repeat (first | (with_reducible first | exact HB.out | apply below_alloc | apply pw_below_drewN | apply below_drew1) | exact HB.out)))); have n4_ := Aside0.mk (below_step (by repeat (first | (with_reducible first | exact HB.out | apply below_alloc | apply pw_below_drewN | apply below_drew1) | exact HB.out)) hb); clear HO_10; clear HO_11; clear HO348; clear HB; have HO_10 := n0_; have HO_11 := n1_; have HO348 := n2_; have HO352 := n3_; have HB := n4_; clear n0_ n1_ n2_ n3_ n4_; (try clear hb); (try clear hb2); (try clear hk); (try clear hi); (try clear ho0); obtain ⟨Ao130, co130, eo130⟩ := Kd.R_slice HO_11.out; subst eo130) | ((with_reducible refine gate_callee (f := 25) rfl ?_); refine goesL_ (some 102) rfl rfl Try.func25 (by kernel_rfl) rfl #[.slice Ao130 x11_1.length co130] rfl (by (try simp only [List.map_toArray, List.map_cons, List.map_nil]); first | done | rfl | (simp only [List.length_drop, List.length_take]; rfl)) ?_; (with_reducible refine (power_Spectrum.calls _ _ x11_1 t353 t354 _ ?side1 ?side2 A71.out).mono ?_); (case side1 => repeat (first | exact (Kd.R_reads' HO_11.out).2.2 | (with_reducible refine Kd.C_alloc ?_ _) | (with_reducible refine Kd.C_drewN ?_ _) | (with_reducible refine Kd.C_drew ?_))); (case side2 => exact (Kd.R_reads' HO_11.out).2.1); rintro e w131 ⟨v355, rfl, ho0, hb⟩; refine ⟨_, rfl, ?_⟩; have n0_ := Aside0.mk (Kd.R_below (by (with_reducible repeat (first | apply Kd.R_alloc | apply Kd.R_drewN | apply Kd.R_drew)); exact HO_10.out) hb); have n1_ := Aside0.mk (Kd.R_below (by (with_reducible repeat (first | apply Kd.R_alloc | apply Kd.R_drewN | apply Kd.R_drew)); exact HO_11.out) hb); have n2_ := Aside0.mk (Kd.R_elder' (by (with_reducible repeat (first | apply Kd.R_alloc | apply Kd.R_drewN | apply Kd.R_drew)); exact HO348.out) (Kd.R_base ho0) hb); have n3_ := Aside0.mk (Kd.R_elder' (by (with_reducible repeat (first | apply Kd.R_alloc | apply Kd.R_drewN | apply Kd.R_drew)); exact HO352.out) (Kd.R_base ho0) hb); have n4_ := Aside0.mk (Kd.R_lower (Kd.R_new' (Kd.R_new' ho0 (Kd.R_lt (by (with_reducible repeat (first | apply Kd.R_alloc | apply Kd.R_drewN | apply Kd.R_drew)); exact HO348.out))) (Kd.R_lt (by (with_reducible repeat (first | apply Kd.R_alloc | apply Kd.R_drewN | apply Kd.R_drew)); exact HO352.out))) (below_size (by repeat (first | (with_reducible first | exact HB.out | apply below_alloc | apply pw_below_drewN | apply below_drew1) | exact HB.out)))); have n5_ := Aside0.mk (below_step (by repeat (first | (with_reducible first | exact HB.out | apply below_alloc | apply pw_below_drewN | apply below_drew1) | exact HB.out)) hb); clear HO_10; clear HO_11; clear HO348; clear HO352; clear HB; have HO_10 := n0_; have HO_11 := n1_; have HO348 := n2_; have HO352 := n3_; have HO356 := n4_; have HB := n5_; clear n0_ n1_ n2_ n3_ n4_ n5_; (try clear hb); (try clear hb2); (try clear hk); (try clear hi); (try clear ho0)) | ((with_reducible refine gate_callee (f := 26) rfl ?_); refine goesL_ (some 107) rfl rfl Try.func26 (by kernel_rfl) rfl #[.slice A0 y315.length c0] rfl (by (try simp only [List.map_toArray, List.map_cons, List.map_nil]); first | done | rfl | (simp only [List.length_drop, List.length_take]; rfl)) ?_; (with_reducible refine (power_Peak.calls k1 _ _ y315 t357 t358 _ ?side1 ?side2 A72.out).mono ?_); (case side1 => repeat (first | exact (Kd.C_below HR318.out HB.out) | (with_reducible refine Kd.C_alloc ?_ _) | (with_reducible refine Kd.C_drewN ?_ _) | (with_reducible refine Kd.C_drew ?_))); (case side2 => exact HC318.out); rintro e w132 ⟨rfl, hb⟩; refine ⟨_, rfl, ?_⟩; have n0_ := Aside0.mk (Kd.R_below (by (with_reducible repeat (first | apply Kd.R_alloc | apply Kd.R_drewN | apply Kd.R_drew)); exact HO_10.out) hb); have n1_ := Aside0.mk (Kd.R_below (by (with_reducible repeat (first | apply Kd.R_alloc | apply Kd.R_drewN | apply Kd.R_drew)); exact HO_11.out) hb); have n2_ := Aside0.mk (Kd.R_below (by (with_reducible repeat (first | apply Kd.R_alloc | apply Kd.R_drewN | apply Kd.R_drew)); exact HO348.out) hb); have n3_ := Aside0.mk (Kd.R_below (by (with_reducible repeat (first | apply Kd.R_alloc | apply Kd.R_drewN | apply Kd.R_drew)); exact HO352.out) hb); have n4_ := Aside0.mk (Kd.R_below (by (with_reducible repeat (first | apply Kd.R_alloc | apply Kd.R_drewN | apply Kd.R_drew)); exact HO356.out) hb); have n5_ := Aside0.mk (below_step (by repeat (first | (with_reducible first | exact HB.out | apply below_alloc | apply pw_below_drewN | apply below_drew1) | exact HB.out)) hb); clear HO_10; clear HO_11; clear HO348; clear HO352; clear HO356; clear HB; have HO_10 := n0_; have HO_11 := n1_; have HO348 := n2_; have HO352 := n3_; have HO356 := n4_; have HB := n5_; clear n0_ n1_ n2_ n3_ n4_ n5_; (try clear hb); (try clear hb2); (try clear hk); (try clear hi)) | ((with_reducible refine gate_callee (f := 26) rfl ?_); refine goesL_ (some 112) rfl rfl Try.func26 (by kernel_rfl) rfl #[.slice Ao128 x10_1.length co128] rfl (by (try simp only [List.map_toArray, List.map_cons, List.map_nil]); first | done | rfl | (simp only [List.length_drop, List.length_take]; rfl)) ?_; (with_reducible refine (power_Peak.calls k1 _ _ x10_1 t359 t360 _ ?side1 ?side2 A73.out).mono ?_); (case side1 => repeat (first | exact (Kd.R_reads' HO_10.out).2.2 | (with_reducible refine Kd.C_alloc ?_ _) | (with_reducible refine Kd.C_drewN ?_ _) | (with_reducible refine Kd.C_drew ?_))); (case side2 => exact (Kd.R_reads' HO_10.out).2.1); rintro e w133 ⟨rfl, hb⟩; refine ⟨_, rfl, ?_⟩; have n0_ := Aside0.mk (Kd.R_below (by (with_reducible repeat (first | apply Kd.R_alloc | apply Kd.R_drewN | apply Kd.R_drew)); exact HO_10.out) hb); have n1_ := Aside0.mk (Kd.R_below (by (with_reducible repeat (first | apply Kd.R_alloc | apply Kd.R_drewN | apply Kd.R_drew)); exact HO_11.out) hb); have n2_ := Aside0.mk (Kd.R_below (by (with_reducible repeat (first | apply Kd.R_alloc | apply Kd.R_drewN | apply Kd.R_drew)); exact HO348.out) hb); have n3_ := Aside0.mk (Kd.R_below (by (with_reducible repeat (first | apply Kd.R_alloc | apply Kd.R_drewN | apply Kd.R_drew)); exact HO352.out) hb); have n4_ := Aside0.mk (Kd.R_below (by (with_reducible repeat (first | apply Kd.R_alloc | apply Kd.R_drewN | apply Kd.R_drew)); exact HO356.out) hb); have n5_ := Aside0.mk (below_step (by repeat (first | (with_reducible first | exact HB.out | apply below_alloc | apply pw_below_drewN | apply below_drew1) | exact HB.out)) hb); clear HO_10; clear HO_11; clear HO348; clear HO352; clear HO356; clear HB; have HO_10 := n0_; have HO_11 := n1_; have HO348 := n2_; have HO352 := n3_; have HO356 := n4_; have HB := n5_; clear n0_ n1_ n2_ n3_ n4_ n5_; (try clear hb); (try clear hb2); (try clear hk); (try clear hi); have q134 : ((ji75) : Int) ≤ ((y315.length : Int) : Int) := of_decide_eq_true (by first | (with_reducible assumption) | assumption); obtain ⟨i0134, hi0134, _, hsz134, _⟩ := info_parts info45; have hroom134 : y315.length ≤ c0 := HC318.out; have hC134 : Kd.C k45 _ A0 y315.length y315 := HR318.out; have hcut134 := cut_to (P := Try.prog) 37 45 .i64 Try.underlying37 hi0134 A0 y315.length c0 (ji75) (of_decide_eq_true (by first | (with_reducible assumption) | assumption)) q134 hroom134; have hr134 := Kd.C_take (m := ((ji75) : Int).toNat) hC134 (by omega); have hy134 : y361.length = ((ji75) : Int).toNat := (by rw [Ny361.out, List.length_take]; omega); rw [← Ny361.out] at hr134; rw [← hy134] at hcut134; have HR364 := Aside0.mk hr134; have HC364 := Aside0.mk (show y361.length ≤ c0 from by omega); clear hr134 hC134 hroom134 hi0134 hsz134; have KY134 := Aside0.mk hy134; clear hy134; replace q134 := eq_true q134) | ((with_reducible refine gate_callee (f := 23) rfl ?_); refine goesL_ (some 132) rfl rfl Try.func23 (by kernel_rfl) rfl #[.slice A0 y361.length c0] rfl (by (try simp only [List.map_toArray, List.map_cons, List.map_nil]); first | done | rfl | (simp only [List.length_drop, List.length_take]; rfl)) ?_; (with_reducible refine (power_Total.calls _ _ y361 t365 t366 t367 _ ?side1 ?side2 A78.out).mono ?_); (case side1 => repeat (first | exact (Kd.C_below HR364.out HB.out) | (with_reducible refine Kd.C_alloc ?_ _) | (with_reducible refine Kd.C_drewN ?_ _) | (with_reducible refine Kd.C_drew ?_))); (case side2 => exact HC364.out); rintro e w135 ⟨rfl, hb⟩; refine ⟨_, rfl, ?_⟩; have n0_ := Aside0.mk (Kd.R_below (by (with_reducible repeat (first | apply Kd.R_alloc | apply Kd.R_drewN | apply Kd.R_drew)); exact HO_10.out) hb); have n1_ := Aside0.mk (Kd.R_below (by (with_reducible repeat (first | apply Kd.R_alloc | apply Kd.R_drewN | apply Kd.R_drew)); exact HO_11.out) hb); have n2_ := Aside0.mk (Kd.R_below (by (with_reducible repeat (first | apply Kd.R_alloc | apply Kd.R_drewN | apply Kd.R_drew)); exact HO348.out) hb); have n3_ := Aside0.mk (Kd.R_below (by (with_reducible repeat (first | apply Kd.R_alloc | apply Kd.R_drewN | apply Kd.R_drew)); exact HO352.out) hb); have n4_ := Aside0.mk (Kd.R_below (by (with_reducible repeat (first | apply Kd.R_alloc | apply Kd.R_drewN | apply Kd.R_drew)); exact HO356.out) hb); have n5_ := Aside0.mk (below_step (by repeat (first | (with_reducible first | exact HB.out | apply below_alloc | apply pw_below_drewN | apply below_drew1) | exact HB.out)) hb); clear HO_10; clear HO_11; clear HO348; clear HO352; clear HO356; clear HB; have HO_10 := n0_; have HO_11 := n1_; have HO348 := n2_; have HO352 := n3_; have HO356 := n4_; have HB := n5_; clear n0_ n1_ n2_ n3_ n4_ n5_; (try clear hb); (try clear hb2); (try clear hk); (try clear hi); have q136 : ((ji75) : Int) ≤ ((y315.length : Int) : Int) := of_decide_eq_true (by first | (with_reducible assumption) | assumption); obtain ⟨i0136, hi0136, _, hsz136, _⟩ := info_parts info45; have hroom136 : y315.length ≤ c0 := HC318.out; have hC136 : Kd.C k45 _ A0 y315.length y315 := HR318.out; have q0136 : (0 : Int) ≤ ((ji75) : Int) := of_decide_eq_true (by first | (with_reducible assumption) | assumption); have hcut136 := cut_from (P := Try.prog) 37 45 .i64 Try.underlying37 hi0136 2 hsz136 A0 y315.length c0 (ji75) q0136 q136; have hr136 := Kd.C_drop (m := ((ji75) : Int).toNat) (c := c0) hC136 (by omega) hroom136; obtain ⟨A136, hA136⟩ : ∃ A1, A1 = (if c0 = ((ji75) : Int).toNat then A0 else (A0 : Option Addr).map (·.add (((ji75) : Int).toNat * 2))) := ⟨_, rfl⟩; obtain ⟨c136, hc136⟩ : ∃ c1, c1 = c0 - ((ji75) : Int).toNat := ⟨_, rfl⟩; have hy136 : y368.length = y315.length - ((ji75) : Int).toNat := (by rw [Ny368.out, List.length_drop] <;> omega); rw [show (y315).drop ((ji75) : Int).toNat = y368 from Ny368.out.symm] at hr136; replace hr136 : Kd.C k45 _ A136 y368.length y368 := (by rw [hA136]; exact hr136); rw [← hy136, ← hA136, ← hc136] at hcut136; have HR371 := Aside0.mk hr136; have HC371 := Aside0.mk (show y368.length ≤ c136 from by rw [hy136, hc136]; exact Nat.sub_le_sub_right hroom136 _); clear hr136 hC136 hroom136 hi0136 hsz136 hc136; have KY136 := Aside0.mk hy136; have KA136 := Aside0.mk hA136; clear hy136 hA136; replace q136 := eq_true q136) | ((with_reducible refine gate_callee (f := 23) rfl ?_); refine goesL_ (some 140) rfl rfl Try.func23 (by kernel_rfl) rfl #[.slice A136 y368.length c136] rfl (by (try simp only [List.map_toArray, List.map_cons, List.map_nil]); first | done | rfl | (simp only [List.length_drop, List.length_take]; rfl)) ?_; (with_reducible refine (power_Total.calls _ _ y368 t372 t373 t374 _ ?side1 ?side2 A81.out).mono ?_); (case side1 => repeat (first | exact (Kd.C_below HR371.out HB.out) | (with_reducible refine Kd.C_alloc ?_ _) | (with_reducible refine Kd.C_drewN ?_ _) | (with_reducible refine Kd.C_drew ?_))); (case side2 => exact HC371.out); rintro e w137 ⟨rfl, hb⟩; refine ⟨_, rfl, ?_⟩; have n0_ := Aside0.mk (Kd.R_below (by (with_reducible repeat (first | apply Kd.R_alloc | apply Kd.R_drewN | apply Kd.R_drew)); exact HO_10.out) hb); have n1_ := Aside0.mk (Kd.R_below (by (with_reducible repeat (first | apply Kd.R_alloc | apply Kd.R_drewN | apply Kd.R_drew)); exact HO_11.out) hb); have n2_ := Aside0.mk (Kd.R_below (by (with_reducible repeat (first | apply Kd.R_alloc | apply Kd.R_drewN | apply Kd.R_drew)); exact HO348.out) hb); have n3_ := Aside0.mk (Kd.R_below (by (with_reducible repeat (first | apply Kd.R_alloc | apply Kd.R_drewN | apply Kd.R_drew)); exact HO352.out) hb); have n4_ := Aside0.mk (Kd.R_below (by (with_reducible repeat (first | apply Kd.R_alloc | apply Kd.R_drewN | apply Kd.R_drew)); exact HO356.out) hb); have n5_ := Aside0.mk (below_step (by repeat (first | (with_reducible first | exact HB.out | apply below_alloc | apply pw_below_drewN | apply below_drew1) | exact HB.out)) hb); clear HO_10; clear HO_11; clear HO348; clear HO352; clear HO356; clear HB; have HO_10 := n0_; have HO_11 := n1_; have HO348 := n2_; have HO352 := n3_; have HO356 := n4_; have HB := n5_; clear n0_ n1_ n2_ n3_ n4_ n5_; (try clear hb); (try clear hb2); (try clear hk); (try clear hi)) | ((with_reducible refine gate_callee (f := 34) rfl ?_); refine goesXL_ (some 147) rfl rfl Try.func34 (by kernel_rfl) trivial #[.int .u64 t366, .int .u64 t373, .int .u64 0] rfl (by (try simp only [List.map_toArray, List.map_cons, List.map_nil]); first | done | rfl | (simp only [List.length_drop, List.length_take]; rfl)) ?_; (with_reducible refine (bits_Add64.calls t366 t373 0 t375 t376 _ A82.out).mono ?_); rintro e w' ⟨rfl, ⟨nd, rfl⟩⟩; refine ⟨_, rfl, ?_⟩) | ((with_reducible refine gate_callee (f := 24) rfl ?_); refine goesL_ (some 150) rfl rfl Try.func24 (by kernel_rfl) rfl #[] rfl (by (try simp only [List.map_toArray, List.map_cons, List.map_nil]); first | done | rfl | (simp only [List.length_drop, List.length_take]; rfl)) ?_; (with_reducible refine (headroomlaw20_alive.calls k1 _ _ A83.out).mono ?_); rintro e w138 ⟨rfl, hb⟩; refine ⟨_, rfl, ?_⟩; have n0_ := Aside0.mk (Kd.R_below (by (with_reducible repeat (first | apply Kd.R_alloc | apply Kd.R_drewN | apply Kd.R_drew)); exact HO_10.out) hb); have n1_ := Aside0.mk (Kd.R_below (by (with_reducible repeat (first | apply Kd.R_alloc | apply Kd.R_drewN | apply Kd.R_drew)); exact HO_11.out) hb); have n2_ := Aside0.mk (Kd.R_below (by (with_reducible repeat (first | apply Kd.R_alloc | apply Kd.R_drewN | apply Kd.R_drew)); exact HO348.out) hb); have n3_ := Aside0.mk (Kd.R_below (by (with_reducible repeat (first | apply Kd.R_alloc | apply Kd.R_drewN | apply Kd.R_drew)); exact HO352.out) hb); have n4_ := Aside0.mk (Kd.R_below (by (with_reducible repeat (first | apply Kd.R_alloc | apply Kd.R_drewN | apply Kd.R_drew)); exact HO356.out) hb); have n5_ := Aside0.mk (below_step (by repeat (first | (with_reducible first | exact HB.out | apply below_alloc | apply pw_below_drewN | apply below_drew1) | exact HB.out)) hb); clear HO_10; clear HO_11; clear HO348; clear HO352; clear HO356; clear HB; have HO_10 := n0_; have HO_11 := n1_; have HO348 := n2_; have HO352 := n3_; have HO356 := n4_; have HB := n5_; clear n0_ n1_ n2_ n3_ n4_ n5_; (try clear hb); (try clear hb2); (try clear hk); (try clear hi); obtain ⟨Ao139, co139, eo139⟩ := Kd.R_slice HO352.out; subst eo139; obtain ⟨Ao140, co140, eo140⟩ := Kd.R_slice HO348.out; subst eo140) | (go_at_call 29; (with_reducible refine (headroomref20_Same.calls k1 _ _ t349 _ _ t345 _ _ ?side1 ?side2 ?side3 ?side4 A92.out).mono ?_); (case side1 => repeat (first | exact (Kd.R_reads' HO352.out).2.2 | (with_reducible refine Kd.C_alloc ?_ _) | (with_reducible refine Kd.C_drewN ?_ _) | (with_reducible refine Kd.C_drew ?_))); (case side2 => exact (Kd.R_reads' HO352.out).2.1); (case side3 => repeat (first | exact (Kd.R_reads' HO348.out).2.2 | (with_reducible refine Kd.C_alloc ?_ _) | (with_reducible refine Kd.C_drewN ?_ _) | (with_reducible refine Kd.C_drew ?_))); (case side4 => exact (Kd.R_reads' HO348.out).2.1); rintro e w' ⟨rfl, ⟨nd, rfl⟩⟩; obtain ⟨Ao141, co141, eo141⟩ := Kd.R_slice HO356.out; subst eo141) | (go_at_call 29; (with_reducible refine (headroomref20_Same.calls k1 _ _ t353 _ _ t345 _ _ ?side1 ?side2 ?side3 ?side4 A94.out).mono ?_); (case side1 => repeat (first | exact (Kd.R_reads' HO356.out).2.2 | (with_reducible refine Kd.C_alloc ?_ _) | (with_reducible refine Kd.C_drewN ?_ _) | (with_reducible refine Kd.C_drew ?_))); (case side2 => exact (Kd.R_reads' HO356.out).2.1); (case side3 => repeat (first | exact (Kd.R_reads' HO348.out).2.2 | (with_reducible refine Kd.C_alloc ?_ _) | (with_reducible refine Kd.C_drewN ?_ _) | (with_reducible refine Kd.C_drew ?_))); (case side4 => exact (Kd.R_reads' HO348.out).2.1); rintro e w' ⟨rfl, ⟨nd, rfl⟩⟩))
                      go_ret
                      exact ⟨by first | rfl | (simp [errW_none, errW_some] <;> rfl) | (simp only [← hji4, ← hji75]; first | rfl | (simp [errW_none, errW_some] <;> rfl)) | (simp [*, errW_none, errW_some] <;> rfl), by repeat (first | (with_reducible first | exact HB.out | apply below_alloc | apply pw_below_drewN | apply below_drew1) | exact HB.out)⟩
                  · rw [if_neg c77] at H
                    exact absurd H (by simp)
                · rw [if_neg c76] at H
                  exact absurd H (by simp)
      · rw [if_neg c8] at H
        have c8b0 : (t321 == 0) = false := beq_eq_false_iff_ne.mpr c8
        have c8b1 : (t321 != 0) = true := bne_iff_ne.mpr c8
        replace H := Option.bind_eq_some_iff.mp H
        obtain ⟨t322, A2520, H⟩ := H
        replace H : (if t322 = true then (if t319 = 0 then (some (t320 == 0)) else (some false)) else (some false)) = some r := H
        have A252 := Aside0.mk A2520
        clear A2520
        by_cases c253 : t322 = true
        · subst c253
          have H1 : (if t319 = 0 then (some (t320 == 0)) else (some false)) = some r := by rw [if_pos rfl] at H; exact H
          clear H
          have H := H1
          clear H1
          by_cases c254 : t319 = 0
          · rw [if_pos c254] at H
            have c254b0 : (t319 == 0) = true := beq_iff_eq.mpr c254
            have c254b1 : (t319 != 0) = false := bne_eq_false_iff_eq.mpr c254
            clear c254
            obtain rfl := Option.some.inj H
            have q255 : ((ji4) : Int) ≤ ((l0.length : Int) : Int) := of_decide_eq_true (by first | (with_reducible assumption) | assumption)
            obtain ⟨i0255, hi0255, _, hsz255, _⟩ := info_parts info45
            have hroom255 : l0.length ≤ c0 := HC0.out
            have hC255 : Kd.C k45 _ A0 l0.length l0 := HR0.out
            have hcut255 := cut_to (P := Try.prog) 37 45 .i64 Try.underlying37 hi0255 A0 l0.length c0 (ji4) (of_decide_eq_true (by first | (with_reducible assumption) | assumption)) q255 hroom255
            have hr255 := Kd.C_take (m := ((ji4) : Int).toNat) hC255 (by omega)
            have hy255 : y315.length = ((ji4) : Int).toNat := (by rw [Ny315.out, List.length_take]; omega)
            rw [← Ny315.out] at hr255
            rw [← hy255] at hcut255
            have HR318 := Aside0.mk hr255
            have HC318 := Aside0.mk (show y315.length ≤ c0 from by omega)
            clear hr255 hC255 hroom255 hi0255 hsz255
            have KY255 := Aside0.mk hy255
            clear hy255
            replace q255 := eq_true q255
            go_enter Try.func8, Try.ntmps8
            go_wp2_with (first | ((with_reducible refine gate_callee (f := 23) rfl ?_); refine goesL_ (some 43) rfl rfl Try.func23 (by kernel_rfl) rfl #[.slice A0 y315.length c0] rfl (by (try simp only [List.map_toArray, List.map_cons, List.map_nil]); first | done | rfl | (simp only [List.length_drop, List.length_take]; rfl)) ?_; (with_reducible refine (power_Total.calls _ _ y315 t319 t320 t321 _ ?side1 ?side2 A7.out).mono ?_); (case side1 => repeat (first | exact HR318.out | (with_reducible refine Kd.C_alloc ?_ _) | (with_reducible refine Kd.C_drewN ?_ _) | (with_reducible refine Kd.C_drew ?_))); (case side2 => exact HC318.out); rintro e w256 ⟨rfl, hb⟩; refine ⟨_, rfl, ?_⟩; have n0_ := Aside0.mk (below_step (by repeat (first | (with_reducible first | exact HB.out | apply below_alloc | apply pw_below_drewN | apply below_drew1) | exact HB.out)) hb); clear HB; have HB := n0_; clear n0_; (try clear hb); (try clear hb2); (try clear hk); (try clear hi)) | ((with_reducible refine gate_callee (f := 24) rfl ?_); refine goesL_ (some 49) rfl rfl Try.func24 (by kernel_rfl) rfl #[] rfl (by (try simp only [List.map_toArray, List.map_cons, List.map_nil]); first | done | rfl | (simp only [List.length_drop, List.length_take]; rfl)) ?_; (with_reducible refine (headroomlaw20_alive.calls k  true _ A252.out).mono ?_); rintro e w257 ⟨rfl, hb⟩; refine ⟨_, rfl, ?_⟩; have n0_ := Aside0.mk (below_step (by repeat (first | (with_reducible first | exact HB.out | apply below_alloc | apply pw_below_drewN | apply below_drew1) | exact HB.out)) hb); clear HB; have HB := n0_; clear n0_; (try clear hb); (try clear hb2); (try clear hk); (try clear hi)))
            go_ret
            exact ⟨by first | rfl | (simp [errW_none, errW_some] <;> rfl) | (simp only [← hji4]; first | rfl | (simp [errW_none, errW_some] <;> rfl)) | (simp [*, errW_none, errW_some] <;> rfl), by repeat (first | (with_reducible first | exact HB.out | apply below_alloc | apply pw_below_drewN | apply below_drew1) | exact HB.out)⟩
          · rw [if_neg c254] at H
            have c254b0 : (t319 == 0) = false := beq_eq_false_iff_ne.mpr c254
            have c254b1 : (t319 != 0) = true := bne_iff_ne.mpr c254
            obtain rfl := Option.some.inj H
            have q258 : ((ji4) : Int) ≤ ((l0.length : Int) : Int) := of_decide_eq_true (by first | (with_reducible assumption) | assumption)
            obtain ⟨i0258, hi0258, _, hsz258, _⟩ := info_parts info45
            have hroom258 : l0.length ≤ c0 := HC0.out
            have hC258 : Kd.C k45 _ A0 l0.length l0 := HR0.out
            have hcut258 := cut_to (P := Try.prog) 37 45 .i64 Try.underlying37 hi0258 A0 l0.length c0 (ji4) (of_decide_eq_true (by first | (with_reducible assumption) | assumption)) q258 hroom258
            have hr258 := Kd.C_take (m := ((ji4) : Int).toNat) hC258 (by omega)
            have hy258 : y315.length = ((ji4) : Int).toNat := (by rw [Ny315.out, List.length_take]; omega)
            rw [← Ny315.out] at hr258
            rw [← hy258] at hcut258
            have HR318 := Aside0.mk hr258
            have HC318 := Aside0.mk (show y315.length ≤ c0 from by omega)
            clear hr258 hC258 hroom258 hi0258 hsz258
            have KY258 := Aside0.mk hy258
            clear hy258
            replace q258 := eq_true q258
            go_enter Try.func8, Try.ntmps8
            go_wp2_with (first | ((with_reducible refine gate_callee (f := 23) rfl ?_); refine goesL_ (some 43) rfl rfl Try.func23 (by kernel_rfl) rfl #[.slice A0 y315.length c0] rfl (by (try simp only [List.map_toArray, List.map_cons, List.map_nil]); first | done | rfl | (simp only [List.length_drop, List.length_take]; rfl)) ?_; (with_reducible refine (power_Total.calls _ _ y315 t319 t320 t321 _ ?side1 ?side2 A7.out).mono ?_); (case side1 => repeat (first | exact HR318.out | (with_reducible refine Kd.C_alloc ?_ _) | (with_reducible refine Kd.C_drewN ?_ _) | (with_reducible refine Kd.C_drew ?_))); (case side2 => exact HC318.out); rintro e w259 ⟨rfl, hb⟩; refine ⟨_, rfl, ?_⟩; have n0_ := Aside0.mk (below_step (by repeat (first | (with_reducible first | exact HB.out | apply below_alloc | apply pw_below_drewN | apply below_drew1) | exact HB.out)) hb); clear HB; have HB := n0_; clear n0_; (try clear hb); (try clear hb2); (try clear hk); (try clear hi)) | ((with_reducible refine gate_callee (f := 24) rfl ?_); refine goesL_ (some 49) rfl rfl Try.func24 (by kernel_rfl) rfl #[] rfl (by (try simp only [List.map_toArray, List.map_cons, List.map_nil]); first | done | rfl | (simp only [List.length_drop, List.length_take]; rfl)) ?_; (with_reducible refine (headroomlaw20_alive.calls k  true _ A252.out).mono ?_); rintro e w260 ⟨rfl, hb⟩; refine ⟨_, rfl, ?_⟩; have n0_ := Aside0.mk (below_step (by repeat (first | (with_reducible first | exact HB.out | apply below_alloc | apply pw_below_drewN | apply below_drew1) | exact HB.out)) hb); clear HB; have HB := n0_; clear n0_; (try clear hb); (try clear hb2); (try clear hk); (try clear hi)))
            go_ret
            exact ⟨by first | rfl | (simp [errW_none, errW_some] <;> rfl) | (simp only [← hji4]; first | rfl | (simp [errW_none, errW_some] <;> rfl)) | (simp [*, errW_none, errW_some] <;> rfl), by repeat (first | (with_reducible first | exact HB.out | apply below_alloc | apply pw_below_drewN | apply below_drew1) | exact HB.out)⟩
        · replace c253 := Bool.eq_false_iff.mpr c253
          subst c253
          have H1 : (some false) = some r := by rw [if_neg (show ¬ (false = true) by decide)] at H; exact H
          clear H
          have H := H1
          clear H1
          obtain rfl := Option.some.inj H
          have q261 : ((ji4) : Int) ≤ ((l0.length : Int) : Int) := of_decide_eq_true (by first | (with_reducible assumption) | assumption)
          obtain ⟨i0261, hi0261, _, hsz261, _⟩ := info_parts info45
          have hroom261 : l0.length ≤ c0 := HC0.out
          have hC261 : Kd.C k45 _ A0 l0.length l0 := HR0.out
          have hcut261 := cut_to (P := Try.prog) 37 45 .i64 Try.underlying37 hi0261 A0 l0.length c0 (ji4) (of_decide_eq_true (by first | (with_reducible assumption) | assumption)) q261 hroom261
          have hr261 := Kd.C_take (m := ((ji4) : Int).toNat) hC261 (by omega)
          have hy261 : y315.length = ((ji4) : Int).toNat := (by rw [Ny315.out, List.length_take]; omega)
          rw [← Ny315.out] at hr261
          rw [← hy261] at hcut261
          have HR318 := Aside0.mk hr261
          have HC318 := Aside0.mk (show y315.length ≤ c0 from by omega)
          clear hr261 hC261 hroom261 hi0261 hsz261
          have KY261 := Aside0.mk hy261
          clear hy261
          replace q261 := eq_true q261
          go_enter Try.func8, Try.ntmps8
          go_wp2_with (first | ((with_reducible refine gate_callee (f := 23) rfl ?_); refine goesL_ (some 43) rfl rfl Try.func23 (by kernel_rfl) rfl #[.slice A0 y315.length c0] rfl (by (try simp only [List.map_toArray, List.map_cons, List.map_nil]); first | done | rfl | (simp only [List.length_drop, List.length_take]; rfl)) ?_; (with_reducible refine (power_Total.calls _ _ y315 t319 t320 t321 _ ?side1 ?side2 A7.out).mono ?_); (case side1 => repeat (first | exact HR318.out | (with_reducible refine Kd.C_alloc ?_ _) | (with_reducible refine Kd.C_drewN ?_ _) | (with_reducible refine Kd.C_drew ?_))); (case side2 => exact HC318.out); rintro e w262 ⟨rfl, hb⟩; refine ⟨_, rfl, ?_⟩; have n0_ := Aside0.mk (below_step (by repeat (first | (with_reducible first | exact HB.out | apply below_alloc | apply pw_below_drewN | apply below_drew1) | exact HB.out)) hb); clear HB; have HB := n0_; clear n0_; (try clear hb); (try clear hb2); (try clear hk); (try clear hi)) | ((with_reducible refine gate_callee (f := 24) rfl ?_); refine goesL_ (some 49) rfl rfl Try.func24 (by kernel_rfl) rfl #[] rfl (by (try simp only [List.map_toArray, List.map_cons, List.map_nil]); first | done | rfl | (simp only [List.length_drop, List.length_take]; rfl)) ?_; (with_reducible refine (headroomlaw20_alive.calls k  false _ A252.out).mono ?_); rintro e w263 ⟨rfl, hb⟩; refine ⟨_, rfl, ?_⟩; have n0_ := Aside0.mk (below_step (by repeat (first | (with_reducible first | exact HB.out | apply below_alloc | apply pw_below_drewN | apply below_drew1) | exact HB.out)) hb); clear HB; have HB := n0_; clear n0_; (try clear hb); (try clear hb2); (try clear hk); (try clear hi)))
          go_ret
          exact ⟨by first | rfl | (simp [errW_none, errW_some] <;> rfl) | (simp only [← hji4]; first | rfl | (simp [errW_none, errW_some] <;> rfl)) | (simp [*, errW_none, errW_some] <;> rfl), by repeat (first | (with_reducible first | exact HB.out | apply below_alloc | apply pw_below_drewN | apply below_drew1) | exact HB.out)⟩
    · rw [if_neg c6] at H
      exact absurd H (by simp)
  · rw [if_neg c5] at H
    exact absurd H (by simp)

end Go.Proofs.Ytajgpilcbaoneaa.P
