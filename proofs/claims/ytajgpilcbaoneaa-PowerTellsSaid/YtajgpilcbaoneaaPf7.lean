-- Printed for this claim by drive.py (a program of this session's) through the kit's print program; not trusted: Lean checks it.
import Derived.Test.YtajgpilcbaoneaaP0
import Derived.Test.YtajgpilcbaoneaaPf23
import Derived.Test.YtajgpilcbaoneaaPf24
import Derived.Test.YtajgpilcbaoneaaPf25
import Derived.Test.YtajgpilcbaoneaaPf27
import Derived.Test.YtajgpilcbaoneaaPf28
import Derived.Test.YtajgpilcbaoneaaPg1
import Derived.Test.YtajgpilcbaoneaaPg2
import Derived.Test.YtajgpilcbaoneaaPg3
namespace Go.Proofs.Ytajgpilcbaoneaa.P
open Go.RowKit Go.Proofs.YtajgpilcbaoneaaW.PrintWords Go.Proofs.YtajgpilcbaoneaaW.PrintLast Go.Proofs.YtajgpilcbaoneaaW.PrintMore
attribute [local go_sem] max2_int min2_int max_two min_two max_three min_three max_four min_four   -- for this text's walks alone
set_option linter.unusedVariables false
set_option linter.unusedSimpArgs false

/-! ### headroomlaw20_PowerTells: function 7 -/
def headroomlaw20_PowerTells.j0 : Nat → List (S45) → Int → Int → Bool → Option (Bool)
  | 0, _, _, _, _ => none
  | k + 1, x0, x8, x9, x95 => if x95 = true then (some false) else (if (x0.length : Int) = 0 then (if x9 = 6 then (some (x8 == 0)) else (some false)) else (if x9 = 0 then ((headroomref20_Peak.f k x0).bind fun t314 => (some (x8 == t314))) else (some false)))
def headroomlaw20_PowerTells.f (k : Nat) (l0 : List (S45)) : Option (Bool) := if 0 ≤ (mn (l0.length : Int) 70) then (if (mn (l0.length : Int) 70) ≤ (l0.length : Int) then ((some (l0.take ((mn (l0.length : Int) 70) : Int).toNat : List (S45))).bind fun y291 => ((power_Spectrum.f y291).bind fun bt295 => ((power_Total.f y291).bind fun bt299 => ((power_Peak.f k y291).bind fun bt302 => ((headroomref09_Narrow.f k y291).bind fun t304 => (if t304 = true then ((headroomref20_Total.f k y291).bind fun bt306 => (if bt295.2 = 0 then (if bt299.2.2 = 0 then ((headroomref20_Spectrum.f k y291).bind fun t309 => ((headroomref20_Same.f k bt295.1 t309).bind fun t312 => (if t312 = true then (if bt299.1 = bt306.1 then (if bt299.2.1 = bt306.2 then ((headroomlaw20_alive.f k).bind fun t313 => (headroomlaw20_PowerTells.j0 k y291 bt302.1 bt302.2 (!t313))) else (headroomlaw20_PowerTells.j0 k y291 bt302.1 bt302.2 true)) else (headroomlaw20_PowerTells.j0 k y291 bt302.1 bt302.2 true)) else (headroomlaw20_PowerTells.j0 k y291 bt302.1 bt302.2 true)))) else (headroomlaw20_PowerTells.j0 k y291 bt302.1 bt302.2 true)) else (headroomlaw20_PowerTells.j0 k y291 bt302.1 bt302.2 true))) else ((headroomlaw20_alive.f k).bind fun t305 => (if t305 = true then (if bt295.2 = 2 then (if bt299.2.2 = 2 then (if bt302.2 = 2 then (if (bt295.1.length : Int) = 0 then (if bt299.1 = 0 then (if bt299.2.1 = 0 then (some (bt302.1 == 0)) else (some false)) else (some false)) else (some false)) else (some false)) else (some false)) else (some false)) else (some false))))))))) else (none)) else (none)
theorem headroomlaw20_PowerTells.mono_l : ∀ k, (∀ y0 y1 y2 y3, LeO (headroomlaw20_PowerTells.j0 k y0 y1 y2 y3) (headroomlaw20_PowerTells.j0 (k + 1) y0 y1 y2 y3))
  | 0 => fun _ _ _ _ r h => by simp [headroomlaw20_PowerTells.j0] at h
  | k + 1 => by
    have ih0 := headroomlaw20_PowerTells.mono_l k
    · intro y0 y1 y2 y3
      unfold headroomlaw20_PowerTells.j0
      repeat' first
      | (with_reducible exact ih0 _ _ _ _)
      | (with_reducible exact headroomlaw20_alive.mono _)
      | (with_reducible exact headroomref09_Narrow.mono _ _)
      | (with_reducible exact headroomref20_Peak.mono _ _)
      | (with_reducible exact headroomref20_Same.mono _ _ _)
      | (with_reducible exact headroomref20_Spectrum.mono _ _)
      | (with_reducible exact headroomref20_Total.mono _ _)
      | (with_reducible exact power_Peak.mono _ _)
      | (with_reducible exact LeO.refl _)
      | (with_reducible exact LeO.none _)
      | (with_reducible refine LeO.ite ?_ ?_)
      | (with_reducible refine LeO.bind ?_ (fun _ => ?_))
      | exact ih0 _ _ _ _
      | exact headroomlaw20_alive.mono _
      | exact headroomref09_Narrow.mono _ _
      | exact headroomref20_Peak.mono _ _
      | exact headroomref20_Same.mono _ _ _
      | exact headroomref20_Spectrum.mono _ _
      | exact headroomref20_Total.mono _ _
      | exact power_Peak.mono _ _
      | exact LeO.none _
      | refine LeO.ite ?_ ?_
      | refine LeO.bind ?_ (fun _ => ?_)
theorem headroomlaw20_PowerTells.mono : ∀ a0 k, LeO (headroomlaw20_PowerTells.f k a0) (headroomlaw20_PowerTells.f (k + 1) a0) := by
  intro a0 k
  have ih0 := headroomlaw20_PowerTells.mono_l k
  unfold headroomlaw20_PowerTells.f
  repeat' first
      | (with_reducible exact ih0 _ _ _ _)
      | (with_reducible exact headroomlaw20_alive.mono _)
      | (with_reducible exact headroomref09_Narrow.mono _ _)
      | (with_reducible exact headroomref20_Peak.mono _ _)
      | (with_reducible exact headroomref20_Same.mono _ _ _)
      | (with_reducible exact headroomref20_Spectrum.mono _ _)
      | (with_reducible exact headroomref20_Total.mono _ _)
      | (with_reducible exact power_Peak.mono _ _)
      | (with_reducible exact LeO.refl _)
      | (with_reducible exact LeO.none _)
      | (with_reducible refine LeO.ite ?_ ?_)
      | (with_reducible refine LeO.bind ?_ (fun _ => ?_))
      | exact ih0 _ _ _ _
      | exact headroomlaw20_alive.mono _
      | exact headroomref09_Narrow.mono _ _
      | exact headroomref20_Peak.mono _ _
      | exact headroomref20_Same.mono _ _ _
      | exact headroomref20_Spectrum.mono _ _
      | exact headroomref20_Total.mono _ _
      | exact power_Peak.mono _ _
      | exact LeO.none _
      | refine LeO.ite ?_ ?_
      | refine LeO.bind ?_ (fun _ => ?_)
set_option maxHeartbeats 8000000 in
set_option maxRecDepth 100000 in
theorem headroomlaw20_PowerTells.calls (k : Nat) (A0 : Option Addr) (c0 : Nat) (l0 : List (S45)) (r : Bool) (w : World) (hr0 : Kd.C k45 w A0 l0.length l0) (hc0 : l0.length ≤ c0) (h : headroomlaw20_PowerTells.f k l0 = some r) :
    Calls Try.prog 7 #[.slice A0 l0.length c0] w fun e w' => e = .returned (.bool r) ∧ Below w.heap.size w w' := by
  have hu53 := Try.underlying53
  have HR0 := Aside0.mk hr0
  have HC0 := Aside0.mk hc0
  clear hr0 hc0
  have HB := Aside0.mk (Below.refl w.heap.size w)
  have H : (if 0 ≤ (mn (l0.length : Int) 70) then (if (mn (l0.length : Int) 70) ≤ (l0.length : Int) then ((some (l0.take ((mn (l0.length : Int) 70) : Int).toNat : List (S45))).bind fun y291 => ((power_Spectrum.f y291).bind fun bt295 => ((power_Total.f y291).bind fun bt299 => ((power_Peak.f k y291).bind fun bt302 => ((headroomref09_Narrow.f k y291).bind fun t304 => (if t304 = true then ((headroomref20_Total.f k y291).bind fun bt306 => (if bt295.2 = 0 then (if bt299.2.2 = 0 then ((headroomref20_Spectrum.f k y291).bind fun t309 => ((headroomref20_Same.f k bt295.1 t309).bind fun t312 => (if t312 = true then (if bt299.1 = bt306.1 then (if bt299.2.1 = bt306.2 then ((headroomlaw20_alive.f k).bind fun t313 => (headroomlaw20_PowerTells.j0 k y291 bt302.1 bt302.2 (!t313))) else (headroomlaw20_PowerTells.j0 k y291 bt302.1 bt302.2 true)) else (headroomlaw20_PowerTells.j0 k y291 bt302.1 bt302.2 true)) else (headroomlaw20_PowerTells.j0 k y291 bt302.1 bt302.2 true)))) else (headroomlaw20_PowerTells.j0 k y291 bt302.1 bt302.2 true)) else (headroomlaw20_PowerTells.j0 k y291 bt302.1 bt302.2 true))) else ((headroomlaw20_alive.f k).bind fun t305 => (if t305 = true then (if bt295.2 = 2 then (if bt299.2.2 = 2 then (if bt302.2 = 2 then (if (bt295.1.length : Int) = 0 then (if bt299.1 = 0 then (if bt299.2.1 = 0 then (some (bt302.1 == 0)) else (some false)) else (some false)) else (some false)) else (some false)) else (some false)) else (some false)) else (some false))))))))) else (none)) else (none)) = some r := h
  clear h
  obtain ⟨ji2, hji2⟩ : ∃ j_ : Int, (mn (l0.length : Int) 70) = j_ := ⟨_, rfl⟩
  replace H : (if 0 ≤ (ji2) then (if (ji2) ≤ (l0.length : Int) then ((some (l0.take ((ji2) : Int).toNat : List (S45))).bind fun y291 => ((power_Spectrum.f y291).bind fun bt295 => ((power_Total.f y291).bind fun bt299 => ((power_Peak.f k y291).bind fun bt302 => ((headroomref09_Narrow.f k y291).bind fun t304 => (if t304 = true then ((headroomref20_Total.f k y291).bind fun bt306 => (if bt295.2 = 0 then (if bt299.2.2 = 0 then ((headroomref20_Spectrum.f k y291).bind fun t309 => ((headroomref20_Same.f k bt295.1 t309).bind fun t312 => (if t312 = true then (if bt299.1 = bt306.1 then (if bt299.2.1 = bt306.2 then ((headroomlaw20_alive.f k).bind fun t313 => (headroomlaw20_PowerTells.j0 k y291 bt302.1 bt302.2 (!t313))) else (headroomlaw20_PowerTells.j0 k y291 bt302.1 bt302.2 true)) else (headroomlaw20_PowerTells.j0 k y291 bt302.1 bt302.2 true)) else (headroomlaw20_PowerTells.j0 k y291 bt302.1 bt302.2 true)))) else (headroomlaw20_PowerTells.j0 k y291 bt302.1 bt302.2 true)) else (headroomlaw20_PowerTells.j0 k y291 bt302.1 bt302.2 true))) else ((headroomlaw20_alive.f k).bind fun t305 => (if t305 = true then (if bt295.2 = 2 then (if bt299.2.2 = 2 then (if bt302.2 = 2 then (if (bt295.1.length : Int) = 0 then (if bt299.1 = 0 then (if bt299.2.1 = 0 then (some (bt302.1 == 0)) else (some false)) else (some false)) else (some false)) else (some false)) else (some false)) else (some false)) else (some false))))))))) else (none)) else (none)) = some r := by first | (rw [hji2] at H; exact H) | (simp only [hji2] at H ⊢; exact H)
  (try (have hji2h : ji2 ≤ 70 := by (rw [← hji2]; unfold mn; (repeat' split) <;> omega)))
  (try (have hji2g : ji2 ≤ 64 := by omega))
  (try (have hji2l : 0 ≤ ji2 := by (rw [← hji2]; unfold mn; (repeat' split) <;> omega)))
  (try (have hji2m : 0 ≤ ji2 := by omega))
  have hji2_ : (if 70 < (l0.length : Int) then 70 else (l0.length : Int)) = ji2 := hji2
  have hji2q : decide (ji2 ≤ (l0.length : Int)) = true := decide_eq_true (by rw [← hji2_]; split <;> omega)
  by_cases c3 : 0 ≤ (ji2)
  · rw [if_pos c3] at H
    have c3b0 := eq_true c3
    have c3b1 : decide (0 ≤ (ji2)) = true := decide_eq_true c3
    clear c3
    by_cases c4 : (ji2) ≤ (l0.length : Int)
    · rw [if_pos c4] at H
      have c4b0 := eq_true c4
      have c4b1 : decide ((ji2) ≤ (l0.length : Int)) = true := decide_eq_true c4
      clear c4
      obtain ⟨y291, hy291⟩ : ∃ y_ : List (S45), y_ = (l0.take ((ji2) : Int).toNat) := ⟨_, rfl⟩
      replace H : ((power_Spectrum.f y291).bind fun bt295 => ((power_Total.f y291).bind fun bt299 => ((power_Peak.f k y291).bind fun bt302 => ((headroomref09_Narrow.f k y291).bind fun t304 => (if t304 = true then ((headroomref20_Total.f k y291).bind fun bt306 => (if bt295.2 = 0 then (if bt299.2.2 = 0 then ((headroomref20_Spectrum.f k y291).bind fun t309 => ((headroomref20_Same.f k bt295.1 t309).bind fun t312 => (if t312 = true then (if bt299.1 = bt306.1 then (if bt299.2.1 = bt306.2 then ((headroomlaw20_alive.f k).bind fun t313 => (headroomlaw20_PowerTells.j0 k y291 bt302.1 bt302.2 (!t313))) else (headroomlaw20_PowerTells.j0 k y291 bt302.1 bt302.2 true)) else (headroomlaw20_PowerTells.j0 k y291 bt302.1 bt302.2 true)) else (headroomlaw20_PowerTells.j0 k y291 bt302.1 bt302.2 true)))) else (headroomlaw20_PowerTells.j0 k y291 bt302.1 bt302.2 true)) else (headroomlaw20_PowerTells.j0 k y291 bt302.1 bt302.2 true))) else ((headroomlaw20_alive.f k).bind fun t305 => (if t305 = true then (if bt295.2 = 2 then (if bt299.2.2 = 2 then (if bt302.2 = 2 then (if (bt295.1.length : Int) = 0 then (if bt299.1 = 0 then (if bt299.2.1 = 0 then (some (bt302.1 == 0)) else (some false)) else (some false)) else (some false)) else (some false)) else (some false)) else (some false)) else (some false)))))))) = some r := by first | (rw [hy291]; with_reducible exact H) | (have H2_ := (Option.bind_some _ _).symm.trans H; rw [hy291]; with_reducible exact H2_) | (have H2_ := (Option.bind_some _ _).symm.trans H; with_reducible exact H2_) | with_reducible exact H | (rw [hy291]; exact H) | exact H
      have Ny291 := Aside0.mk hy291
      clear hy291
      replace H := Option.bind_eq_some_iff.mp H
      obtain ⟨⟨t295, t296⟩, A50, H⟩ := H
      replace H : ((power_Total.f y291).bind fun bt299 => ((power_Peak.f k y291).bind fun bt302 => ((headroomref09_Narrow.f k y291).bind fun t304 => (if t304 = true then ((headroomref20_Total.f k y291).bind fun bt306 => (if t296 = 0 then (if bt299.2.2 = 0 then ((headroomref20_Spectrum.f k y291).bind fun t309 => ((headroomref20_Same.f k t295 t309).bind fun t312 => (if t312 = true then (if bt299.1 = bt306.1 then (if bt299.2.1 = bt306.2 then ((headroomlaw20_alive.f k).bind fun t313 => (headroomlaw20_PowerTells.j0 k y291 bt302.1 bt302.2 (!t313))) else (headroomlaw20_PowerTells.j0 k y291 bt302.1 bt302.2 true)) else (headroomlaw20_PowerTells.j0 k y291 bt302.1 bt302.2 true)) else (headroomlaw20_PowerTells.j0 k y291 bt302.1 bt302.2 true)))) else (headroomlaw20_PowerTells.j0 k y291 bt302.1 bt302.2 true)) else (headroomlaw20_PowerTells.j0 k y291 bt302.1 bt302.2 true))) else ((headroomlaw20_alive.f k).bind fun t305 => (if t305 = true then (if t296 = 2 then (if bt299.2.2 = 2 then (if bt302.2 = 2 then (if (t295.length : Int) = 0 then (if bt299.1 = 0 then (if bt299.2.1 = 0 then (some (bt302.1 == 0)) else (some false)) else (some false)) else (some false)) else (some false)) else (some false)) else (some false)) else (some false))))))) = some r := H
      have A5 := Aside0.mk A50
      clear A50
      replace H := Option.bind_eq_some_iff.mp H
      obtain ⟨⟨t299, t300, t301⟩, A60, H⟩ := H
      replace H : ((power_Peak.f k y291).bind fun bt302 => ((headroomref09_Narrow.f k y291).bind fun t304 => (if t304 = true then ((headroomref20_Total.f k y291).bind fun bt306 => (if t296 = 0 then (if t301 = 0 then ((headroomref20_Spectrum.f k y291).bind fun t309 => ((headroomref20_Same.f k t295 t309).bind fun t312 => (if t312 = true then (if t299 = bt306.1 then (if t300 = bt306.2 then ((headroomlaw20_alive.f k).bind fun t313 => (headroomlaw20_PowerTells.j0 k y291 bt302.1 bt302.2 (!t313))) else (headroomlaw20_PowerTells.j0 k y291 bt302.1 bt302.2 true)) else (headroomlaw20_PowerTells.j0 k y291 bt302.1 bt302.2 true)) else (headroomlaw20_PowerTells.j0 k y291 bt302.1 bt302.2 true)))) else (headroomlaw20_PowerTells.j0 k y291 bt302.1 bt302.2 true)) else (headroomlaw20_PowerTells.j0 k y291 bt302.1 bt302.2 true))) else ((headroomlaw20_alive.f k).bind fun t305 => (if t305 = true then (if t296 = 2 then (if t301 = 2 then (if bt302.2 = 2 then (if (t295.length : Int) = 0 then (if t299 = 0 then (if t300 = 0 then (some (bt302.1 == 0)) else (some false)) else (some false)) else (some false)) else (some false)) else (some false)) else (some false)) else (some false)))))) = some r := H
      have A6 := Aside0.mk A60
      clear A60
      replace H := Option.bind_eq_some_iff.mp H
      obtain ⟨⟨t302, t303⟩, A70, H⟩ := H
      replace H : ((headroomref09_Narrow.f k y291).bind fun t304 => (if t304 = true then ((headroomref20_Total.f k y291).bind fun bt306 => (if t296 = 0 then (if t301 = 0 then ((headroomref20_Spectrum.f k y291).bind fun t309 => ((headroomref20_Same.f k t295 t309).bind fun t312 => (if t312 = true then (if t299 = bt306.1 then (if t300 = bt306.2 then ((headroomlaw20_alive.f k).bind fun t313 => (headroomlaw20_PowerTells.j0 k y291 t302 t303 (!t313))) else (headroomlaw20_PowerTells.j0 k y291 t302 t303 true)) else (headroomlaw20_PowerTells.j0 k y291 t302 t303 true)) else (headroomlaw20_PowerTells.j0 k y291 t302 t303 true)))) else (headroomlaw20_PowerTells.j0 k y291 t302 t303 true)) else (headroomlaw20_PowerTells.j0 k y291 t302 t303 true))) else ((headroomlaw20_alive.f k).bind fun t305 => (if t305 = true then (if t296 = 2 then (if t301 = 2 then (if t303 = 2 then (if (t295.length : Int) = 0 then (if t299 = 0 then (if t300 = 0 then (some (t302 == 0)) else (some false)) else (some false)) else (some false)) else (some false)) else (some false)) else (some false)) else (some false))))) = some r := H
      have A7 := Aside0.mk A70
      clear A70
      replace H := Option.bind_eq_some_iff.mp H
      obtain ⟨t304, A80, H⟩ := H
      replace H : (if t304 = true then ((headroomref20_Total.f k y291).bind fun bt306 => (if t296 = 0 then (if t301 = 0 then ((headroomref20_Spectrum.f k y291).bind fun t309 => ((headroomref20_Same.f k t295 t309).bind fun t312 => (if t312 = true then (if t299 = bt306.1 then (if t300 = bt306.2 then ((headroomlaw20_alive.f k).bind fun t313 => (headroomlaw20_PowerTells.j0 k y291 t302 t303 (!t313))) else (headroomlaw20_PowerTells.j0 k y291 t302 t303 true)) else (headroomlaw20_PowerTells.j0 k y291 t302 t303 true)) else (headroomlaw20_PowerTells.j0 k y291 t302 t303 true)))) else (headroomlaw20_PowerTells.j0 k y291 t302 t303 true)) else (headroomlaw20_PowerTells.j0 k y291 t302 t303 true))) else ((headroomlaw20_alive.f k).bind fun t305 => (if t305 = true then (if t296 = 2 then (if t301 = 2 then (if t303 = 2 then (if (t295.length : Int) = 0 then (if t299 = 0 then (if t300 = 0 then (some (t302 == 0)) else (some false)) else (some false)) else (some false)) else (some false)) else (some false)) else (some false)) else (some false)))) = some r := H
      have A8 := Aside0.mk A80
      clear A80
      by_cases c9 : t304 = true
      · subst c9
        have H1 : ((headroomref20_Total.f k y291).bind fun bt306 => (if t296 = 0 then (if t301 = 0 then ((headroomref20_Spectrum.f k y291).bind fun t309 => ((headroomref20_Same.f k t295 t309).bind fun t312 => (if t312 = true then (if t299 = bt306.1 then (if t300 = bt306.2 then ((headroomlaw20_alive.f k).bind fun t313 => (headroomlaw20_PowerTells.j0 k y291 t302 t303 (!t313))) else (headroomlaw20_PowerTells.j0 k y291 t302 t303 true)) else (headroomlaw20_PowerTells.j0 k y291 t302 t303 true)) else (headroomlaw20_PowerTells.j0 k y291 t302 t303 true)))) else (headroomlaw20_PowerTells.j0 k y291 t302 t303 true)) else (headroomlaw20_PowerTells.j0 k y291 t302 t303 true))) = some r := by rw [if_pos rfl] at H; exact H
        clear H
        have H := H1
        clear H1
        replace H := Option.bind_eq_some_iff.mp H
        obtain ⟨⟨t306, t307⟩, A100, H⟩ := H
        replace H : (if t296 = 0 then (if t301 = 0 then ((headroomref20_Spectrum.f k y291).bind fun t309 => ((headroomref20_Same.f k t295 t309).bind fun t312 => (if t312 = true then (if t299 = t306 then (if t300 = t307 then ((headroomlaw20_alive.f k).bind fun t313 => (headroomlaw20_PowerTells.j0 k y291 t302 t303 (!t313))) else (headroomlaw20_PowerTells.j0 k y291 t302 t303 true)) else (headroomlaw20_PowerTells.j0 k y291 t302 t303 true)) else (headroomlaw20_PowerTells.j0 k y291 t302 t303 true)))) else (headroomlaw20_PowerTells.j0 k y291 t302 t303 true)) else (headroomlaw20_PowerTells.j0 k y291 t302 t303 true)) = some r := H
        have A10 := Aside0.mk A100
        clear A100
        have HC11 := Aside0.mk H
        clear H
        have q12 : ((ji2) : Int) ≤ ((l0.length : Int) : Int) := of_decide_eq_true (by first | (with_reducible assumption) | assumption)
        obtain ⟨i012, hi012, _, hsz12, _⟩ := info_parts info45
        have hroom12 : l0.length ≤ c0 := HC0.out
        have hC12 : Kd.C k45 _ A0 l0.length l0 := HR0.out
        have hcut12 := cut_to (P := Try.prog) 37 45 .i64 Try.underlying37 hi012 A0 l0.length c0 (ji2) (of_decide_eq_true (by first | (with_reducible assumption) | assumption)) q12 hroom12
        have hr12 := Kd.C_take (m := ((ji2) : Int).toNat) hC12 (by omega)
        have hy12 : y291.length = ((ji2) : Int).toNat := (by rw [Ny291.out, List.length_take]; omega)
        rw [← Ny291.out] at hr12
        rw [← hy12] at hcut12
        have HR294 := Aside0.mk hr12
        have HC294 := Aside0.mk (show y291.length ≤ c0 from by omega)
        clear hr12 hC12 hroom12 hi012 hsz12
        have KY12 := Aside0.mk hy12
        clear hy12
        replace q12 := eq_true q12
        go_enter Try.func7, Try.ntmps7
        go_upto_region 8 with (first | ((with_reducible refine gate_callee (f := 25) rfl ?_); refine goesL_ (some 18) rfl rfl Try.func25 (by kernel_rfl) rfl #[.slice A0 y291.length c0] rfl (by (try simp only [List.map_toArray, List.map_cons, List.map_nil]); first | done | rfl | (simp only [List.length_drop, List.length_take]; rfl)) ?_; (with_reducible refine (power_Spectrum.calls _ _ y291 t295 t296 _ ?side1 ?side2 A5.out).mono ?_); (case side1 => repeat (first | exact HR294.out | (with_reducible refine Kd.C_alloc ?_ _) | (with_reducible refine Kd.C_drewN ?_ _) | (with_reducible refine Kd.C_drew ?_))); (case side2 => exact HC294.out); rintro e w13 ⟨v297, rfl, ho0, hb⟩; refine ⟨_, rfl, ?_⟩; have n0_ := Aside0.mk (Kd.R_lower ho0 (below_size (by repeat (first | (with_reducible first | exact HB.out | apply below_alloc | apply pw_below_drewN | apply below_drew1) | exact HB.out)))); have n1_ := Aside0.mk (below_step (by repeat (first | (with_reducible first | exact HB.out | apply below_alloc | apply pw_below_drewN | apply below_drew1) | exact HB.out)) hb); clear HB; have HO298 := n0_; have HB := n1_; clear n0_ n1_; (try clear hb); (try clear hb2); (try clear hk); (try clear hi); (try clear ho0)) | ((with_reducible refine gate_callee (f := 23) rfl ?_); refine goesL_ (some 23) rfl rfl Try.func23 (by kernel_rfl) rfl #[.slice A0 y291.length c0] rfl (by (try simp only [List.map_toArray, List.map_cons, List.map_nil]); first | done | rfl | (simp only [List.length_drop, List.length_take]; rfl)) ?_; (with_reducible refine (power_Total.calls _ _ y291 t299 t300 t301 _ ?side1 ?side2 A6.out).mono ?_); (case side1 => repeat (first | exact (Kd.C_below HR294.out HB.out) | (with_reducible refine Kd.C_alloc ?_ _) | (with_reducible refine Kd.C_drewN ?_ _) | (with_reducible refine Kd.C_drew ?_))); (case side2 => exact HC294.out); rintro e w14 ⟨rfl, hb⟩; refine ⟨_, rfl, ?_⟩; have n0_ := Aside0.mk (Kd.R_below (by (with_reducible repeat (first | apply Kd.R_alloc | apply Kd.R_drewN | apply Kd.R_drew)); exact HO298.out) hb); have n1_ := Aside0.mk (below_step (by repeat (first | (with_reducible first | exact HB.out | apply below_alloc | apply pw_below_drewN | apply below_drew1) | exact HB.out)) hb); clear HO298; clear HB; have HO298 := n0_; have HB := n1_; clear n0_ n1_; (try clear hb); (try clear hb2); (try clear hk); (try clear hi)) | ((with_reducible refine gate_callee (f := 26) rfl ?_); refine goesL_ (some 29) rfl rfl Try.func26 (by kernel_rfl) rfl #[.slice A0 y291.length c0] rfl (by (try simp only [List.map_toArray, List.map_cons, List.map_nil]); first | done | rfl | (simp only [List.length_drop, List.length_take]; rfl)) ?_; (with_reducible refine (power_Peak.calls k _ _ y291 t302 t303 _ ?side1 ?side2 A7.out).mono ?_); (case side1 => repeat (first | exact (Kd.C_below HR294.out HB.out) | (with_reducible refine Kd.C_alloc ?_ _) | (with_reducible refine Kd.C_drewN ?_ _) | (with_reducible refine Kd.C_drew ?_))); (case side2 => exact HC294.out); rintro e w15 ⟨rfl, hb⟩; refine ⟨_, rfl, ?_⟩; have n0_ := Aside0.mk (Kd.R_below (by (with_reducible repeat (first | apply Kd.R_alloc | apply Kd.R_drewN | apply Kd.R_drew)); exact HO298.out) hb); have n1_ := Aside0.mk (below_step (by repeat (first | (with_reducible first | exact HB.out | apply below_alloc | apply pw_below_drewN | apply below_drew1) | exact HB.out)) hb); clear HO298; clear HB; have HO298 := n0_; have HB := n1_; clear n0_ n1_; (try clear hb); (try clear hb2); (try clear hk); (try clear hi)) | ((with_reducible refine gate_callee (f := 27) rfl ?_); refine goesL_ (some 33) rfl rfl Try.func27 (by kernel_rfl) rfl #[.slice A0 y291.length c0] rfl (by (try simp only [List.map_toArray, List.map_cons, List.map_nil]); first | done | rfl | (simp only [List.length_drop, List.length_take]; rfl)) ?_; (with_reducible refine (headroomref09_Narrow.calls k _ _ y291 true _ ?side1 ?side2 A8.out).mono ?_); (case side1 => repeat (first | exact (Kd.C_below HR294.out HB.out) | (with_reducible refine Kd.C_alloc ?_ _) | (with_reducible refine Kd.C_drewN ?_ _) | (with_reducible refine Kd.C_drew ?_))); (case side2 => exact HC294.out); rintro e w16 ⟨rfl, hb⟩; refine ⟨_, rfl, ?_⟩; have n0_ := Aside0.mk (Kd.R_below (by (with_reducible repeat (first | apply Kd.R_alloc | apply Kd.R_drewN | apply Kd.R_drew)); exact HO298.out) hb); have n1_ := Aside0.mk (below_step (by repeat (first | (with_reducible first | exact HB.out | apply below_alloc | apply pw_below_drewN | apply below_drew1) | exact HB.out)) hb); clear HO298; clear HB; have HO298 := n0_; have HB := n1_; clear n0_ n1_; (try clear hb); (try clear hb2); (try clear hk); (try clear hi)) | ((with_reducible refine gate_callee (f := 28) rfl ?_); refine goesL_ (some 66) rfl rfl Try.func28 (by kernel_rfl) rfl #[.slice A0 y291.length c0] rfl (by (try simp only [List.map_toArray, List.map_cons, List.map_nil]); first | done | rfl | (simp only [List.length_drop, List.length_take]; rfl)) ?_; (with_reducible refine (headroomref20_Total.calls k _ _ y291 t306 t307 _ ?side1 ?side2 A10.out).mono ?_); (case side1 => repeat (first | exact (Kd.C_below HR294.out HB.out) | (with_reducible refine Kd.C_alloc ?_ _) | (with_reducible refine Kd.C_drewN ?_ _) | (with_reducible refine Kd.C_drew ?_))); (case side2 => exact HC294.out); rintro e w17 ⟨rfl, hb⟩; refine ⟨_, rfl, ?_⟩; have n0_ := Aside0.mk (Kd.R_below (by (with_reducible repeat (first | apply Kd.R_alloc | apply Kd.R_drewN | apply Kd.R_drew)); exact HO298.out) hb); have n1_ := Aside0.mk (below_step (by repeat (first | (with_reducible first | exact HB.out | apply below_alloc | apply pw_below_drewN | apply below_drew1) | exact HB.out)) hb); clear HO298; clear HB; have HO298 := n0_; have HB := n1_; clear n0_ n1_; (try clear hb); (try clear hb2); (try clear hk); (try clear hi)) | ((with_reducible refine gate_dst (N := 10) rfl ?_); (try (refine gate_guard (by rfl) ?_; dsimp only)); refine box_event ?hg (N := 10) ?hd (cs := #[.int .u64 0, .int .u64 0]) (t := 53) ?hr ?_; (case hd => rfl); (case hg => rfl); (case hr => first | (go_simp; done) | (go_simp; rfl)); intro gb308 hg w18 hbox hb; have n0_ := Aside0.mk (Kd.R_below (by (with_reducible repeat (first | apply Kd.R_alloc | apply Kd.R_drewN | apply Kd.R_drew)); exact HO298.out) hb); have n1_ := Aside0.mk (below_step (by repeat (first | (with_reducible first | exact HB.out | apply below_alloc | apply pw_below_drewN | apply below_drew1) | exact HB.out)) hb); have n2_ := Aside0.mk (hbox); have n3_ := Aside0.mk ((by rw [hg]; exact (below_size (by repeat (first | (with_reducible first | exact HB.out | apply below_alloc | apply pw_below_drewN | apply below_drew1) | exact HB.out))) : w.heap.size ≤ gb308)); have n4_ := Aside0.mk ((by rw [hg]; exact (below_size (by repeat (first | (with_reducible first | exact HB.out | apply below_alloc | apply pw_below_drewN | apply below_drew1) | exact HB.out))) : w.heap.size ≤ gb308)); clear HO298; clear HB; have HO298 := n0_; have HB := n1_; have BK308 := n2_; have GW308 := n3_; have GE308 := n4_; clear n0_ n1_ n2_ n3_ n4_; clear hb hbox hg; have hcz19_0 : w18.cell? ⟨gb308, 0, none⟩ = some (.int .u64 0) := (blk_cell BK308.out 0).trans rfl; have hcz19_1 : w18.cell? ⟨gb308, 1, none⟩ = some (.int .u64 0) := (blk_cell BK308.out 1).trans rfl; have hfz19_0 := blk_frozen BK308.out 0; have hfz19_1 := blk_frozen BK308.out 1))
        (try simp only [Act.put, List.setIfInBounds_toArray, List.set_cons_zero, List.set_cons_succ])
        go_cut [95] (fun v95 wc => ∃ (kq : Nat) (x95_10 : Bool), v95 = .bool x95_10 ∧ Aside0 (headroomlaw20_PowerTells.j0 kq y291 t302 t303 x95_10 = some r) ∧ Aside0 (kq ≤ k) ∧ Aside0 (wc.heap[gb308]? = some (.cells #[.int .u64 t306, .int .u64 t307] 53 (0, 0))) ∧ Aside0 (Below w.heap.size w wc))
        case first =>
          have H := HC11.out
          clear HC11
          by_cases c20 : t296 = 0
          · rw [if_pos c20] at H
            have c20b0 : (t296 == 0) = true := beq_iff_eq.mpr c20
            have c20b1 : (t296 != 0) = false := bne_eq_false_iff_eq.mpr c20
            clear c20
            (first | rw [c20b0] | (simp only [i64_w, i32_w]; rw [c20b0]) | skip)
            by_cases c21 : t301 = 0
            · rw [if_pos c21] at H
              have c21b0 : (t301 == 0) = true := beq_iff_eq.mpr c21
              have c21b1 : (t301 != 0) = false := bne_eq_false_iff_eq.mpr c21
              clear c21
              replace H := Option.bind_eq_some_iff.mp H
              obtain ⟨t309, A220, H⟩ := H
              replace H : ((headroomref20_Same.f k t295 t309).bind fun t312 => (if t312 = true then (if t299 = t306 then (if t300 = t307 then ((headroomlaw20_alive.f k).bind fun t313 => (headroomlaw20_PowerTells.j0 k y291 t302 t303 (!t313))) else (headroomlaw20_PowerTells.j0 k y291 t302 t303 true)) else (headroomlaw20_PowerTells.j0 k y291 t302 t303 true)) else (headroomlaw20_PowerTells.j0 k y291 t302 t303 true))) = some r := H
              have A22 := Aside0.mk A220
              clear A220
              replace H := Option.bind_eq_some_iff.mp H
              obtain ⟨t312, A230, H⟩ := H
              replace H : (if t312 = true then (if t299 = t306 then (if t300 = t307 then ((headroomlaw20_alive.f k).bind fun t313 => (headroomlaw20_PowerTells.j0 k y291 t302 t303 (!t313))) else (headroomlaw20_PowerTells.j0 k y291 t302 t303 true)) else (headroomlaw20_PowerTells.j0 k y291 t302 t303 true)) else (headroomlaw20_PowerTells.j0 k y291 t302 t303 true)) = some r := H
              have A23 := Aside0.mk A230
              clear A230
              by_cases c24 : t312 = true
              · subst c24
                have H1 : (if t299 = t306 then (if t300 = t307 then ((headroomlaw20_alive.f k).bind fun t313 => (headroomlaw20_PowerTells.j0 k y291 t302 t303 (!t313))) else (headroomlaw20_PowerTells.j0 k y291 t302 t303 true)) else (headroomlaw20_PowerTells.j0 k y291 t302 t303 true)) = some r := by rw [if_pos rfl] at H; exact H
                clear H
                have H := H1
                clear H1
                by_cases c25 : t299 = t306
                · rw [if_pos c25] at H
                  have c25b0 : (t299 == t306) = true := beq_iff_eq.mpr c25
                  have c25b1 : (t299 != t306) = false := bne_eq_false_iff_eq.mpr c25
                  clear c25
                  by_cases c26 : t300 = t307
                  · rw [if_pos c26] at H
                    have c26b0 : (t300 == t307) = true := beq_iff_eq.mpr c26
                    have c26b1 : (t300 != t307) = false := bne_eq_false_iff_eq.mpr c26
                    clear c26
                    replace H := Option.bind_eq_some_iff.mp H
                    obtain ⟨t313, A270, H⟩ := H
                    replace H : (headroomlaw20_PowerTells.j0 k y291 t302 t303 (!t313)) = some r := H
                    have A27 := Aside0.mk A270
                    clear A270
                    have H' := Aside0.mk H
                    clear H
                    go_wp2_with (first | (go_at_call 30; (with_reducible refine (headroomref20_Spectrum.calls k _ _ y291 t309 _ ?side1 ?side2 A22.out).mono ?_); (case side1 => exact Kd.C_below HR294.out (by repeat (first | (with_reducible first | exact HB.out | apply below_alloc | apply pw_below_drewN | apply below_drew1 | refine below_set ?_ GE308.out) | exact HB.out))); (case side2 => exact HC294.out); rintro e w28 ⟨v310, rfl, ho0, hb⟩; have n0_ := Aside0.mk (Kd.R_elder' (by (with_reducible repeat (first | apply Kd.R_alloc | apply Kd.R_drewN | apply Kd.R_drew)); exact (Kd.R_mono (Kd.R_far (p := ⟨gb308, 1, none⟩) (Kd.R_far (p := ⟨gb308, 0, none⟩) (Kd.R_types HO298.out BK308.out (by decide)) (fun _ hk => hk.2) (.int .u64 t306)) (fun _ hk => hk.2) (.int .u64 t307)) (fun _ h_ => h_.1))) (Kd.R_base ho0) hb); have n1_ := Aside0.mk (Kd.R_lower (Kd.R_new' ho0 (Kd.R_lt (by (with_reducible repeat (first | apply Kd.R_alloc | apply Kd.R_drewN | apply Kd.R_drew)); exact (Kd.R_mono (Kd.R_far (p := ⟨gb308, 1, none⟩) (Kd.R_far (p := ⟨gb308, 0, none⟩) (Kd.R_types HO298.out BK308.out (by decide)) (fun _ hk => hk.2) (.int .u64 t306)) (fun _ hk => hk.2) (.int .u64 t307)) (fun _ h_ => h_.1))))) (below_size (by repeat (first | (with_reducible first | exact HB.out | apply below_alloc | apply pw_below_drewN | apply below_drew1 | refine below_set ?_ GE308.out) | exact HB.out)))); have n2_ := Aside0.mk (blk_below (g := gb308) (o := .cells #[.int .u64 t306, .int .u64 t307] 53 (0, 0)) (by (with_reducible repeat (first | refine blk_drewN ?_ _ | refine blk_drew ?_ | refine blk_alloc ?_ _)); refine blk_put (cs := #[.int .u64 t306, .int .u64 0]) ?_ 1 _ rfl; (with_reducible repeat (first | refine blk_drewN ?_ _ | refine blk_drew ?_ | refine blk_alloc ?_ _)); refine blk_put (cs := #[.int .u64 0, .int .u64 0]) ?_ 0 _ rfl; (with_reducible repeat (first | refine blk_drewN ?_ _ | refine blk_drew ?_ | refine blk_alloc ?_ _)); exact BK308.out) hb); have n3_ := Aside0.mk (below_step (by repeat (first | (with_reducible first | exact HB.out | apply below_alloc | apply pw_below_drewN | apply below_drew1 | refine below_set ?_ GE308.out) | exact HB.out)) hb); clear HO298; clear BK308; clear HB; have HO298 := n0_; have HO311 := n1_; have BK308 := n2_; have HB := n3_; clear n0_ n1_ n2_ n3_; (try clear hb); (try clear hb2); (try clear hk); (try clear hi); (try clear ho0); obtain ⟨Ao29, co29, eo29⟩ := Kd.R_slice HO298.out; subst eo29; obtain ⟨Ao30, co30, eo30⟩ := Kd.R_slice HO311.out; subst eo30) | (go_at_call 29; (with_reducible refine (headroomref20_Same.calls k _ _ t295 _ _ t309 true _ ?side1 ?side2 ?side3 ?side4 A23.out).mono ?_); (case side1 => repeat (first | exact (Kd.R_reads' HO298.out).2.2 | (with_reducible refine Kd.C_alloc ?_ _) | (with_reducible refine Kd.C_drewN ?_ _) | (with_reducible refine Kd.C_drew ?_))); (case side2 => exact (Kd.R_reads' HO298.out).2.1); (case side3 => repeat (first | exact (Kd.R_reads' HO311.out).2.2 | (with_reducible refine Kd.C_alloc ?_ _) | (with_reducible refine Kd.C_drewN ?_ _) | (with_reducible refine Kd.C_drew ?_))); (case side4 => exact (Kd.R_reads' HO311.out).2.1); rintro e w' ⟨rfl, ⟨nd, rfl⟩⟩; have hcz31_0 : w28.cell? ⟨gb308, 0, none⟩ = some (.int .u64 t306) := (blk_cell BK308.out 0).trans rfl; have hcz31_1 : w28.cell? ⟨gb308, 1, none⟩ = some (.int .u64 t307) := (blk_cell BK308.out 1).trans rfl; have hfz31_0 := blk_frozen BK308.out 0; have hfz31_1 := blk_frozen BK308.out 1) | (go_at_call 24; (with_reducible refine (headroomlaw20_alive.calls k  t313 _ A27.out).mono ?_); rintro e w32 ⟨rfl, hb⟩; have n0_ := Aside0.mk (Kd.R_below (by (with_reducible repeat (first | apply Kd.R_alloc | apply Kd.R_drewN | apply Kd.R_drew)); exact HO298.out) hb); have n1_ := Aside0.mk (Kd.R_below (by (with_reducible repeat (first | apply Kd.R_alloc | apply Kd.R_drewN | apply Kd.R_drew)); exact HO311.out) hb); have n2_ := Aside0.mk (blk_below (g := gb308) (o := .cells #[.int .u64 t306, .int .u64 t307] 53 (0, 0)) (by (with_reducible repeat (first | refine blk_drewN ?_ _ | refine blk_drew ?_ | refine blk_alloc ?_ _)); exact BK308.out) hb); have n3_ := Aside0.mk (below_step (by repeat (first | (with_reducible first | exact HB.out | apply below_alloc | apply pw_below_drewN | apply below_drew1 | refine below_set ?_ GE308.out) | exact HB.out)) hb); clear HO298; clear HO311; clear BK308; clear HB; have HO298 := n0_; have HO311 := n1_; have BK308 := n2_; have HB := n3_; clear n0_ n1_ n2_ n3_; (try clear hb); (try clear hb2); (try clear hk); (try clear hi)))
                    go_meet
                    case rel => exact ⟨_, (!t313), (by first | rfl | (simp; done) | (simp [*]; done)), H', ⟨by first | omega | exact Nat.le_refl _⟩, ⟨by (with_reducible repeat (first | refine blk_drewN ?_ _ | refine blk_drew ?_ | refine blk_alloc ?_ _)); exact BK308.out⟩, ⟨by repeat (first | (with_reducible first | exact HB.out | apply below_alloc | apply pw_below_drewN | apply below_drew1 | refine below_set ?_ GE308.out) | exact HB.out)⟩⟩
                  · rw [if_neg c26] at H
                    have c26b0 : (t300 == t307) = false := beq_eq_false_iff_ne.mpr c26
                    have c26b1 : (t300 != t307) = true := bne_iff_ne.mpr c26
                    have H' := Aside0.mk H
                    clear H
                    go_wp2_with (first | (go_at_call 30; (with_reducible refine (headroomref20_Spectrum.calls k _ _ y291 t309 _ ?side1 ?side2 A22.out).mono ?_); (case side1 => exact Kd.C_below HR294.out (by repeat (first | (with_reducible first | exact HB.out | apply below_alloc | apply pw_below_drewN | apply below_drew1 | refine below_set ?_ GE308.out) | exact HB.out))); (case side2 => exact HC294.out); rintro e w33 ⟨v310, rfl, ho0, hb⟩; have n0_ := Aside0.mk (Kd.R_elder' (by (with_reducible repeat (first | apply Kd.R_alloc | apply Kd.R_drewN | apply Kd.R_drew)); exact (Kd.R_mono (Kd.R_far (p := ⟨gb308, 1, none⟩) (Kd.R_far (p := ⟨gb308, 0, none⟩) (Kd.R_types HO298.out BK308.out (by decide)) (fun _ hk => hk.2) (.int .u64 t306)) (fun _ hk => hk.2) (.int .u64 t307)) (fun _ h_ => h_.1))) (Kd.R_base ho0) hb); have n1_ := Aside0.mk (Kd.R_lower (Kd.R_new' ho0 (Kd.R_lt (by (with_reducible repeat (first | apply Kd.R_alloc | apply Kd.R_drewN | apply Kd.R_drew)); exact (Kd.R_mono (Kd.R_far (p := ⟨gb308, 1, none⟩) (Kd.R_far (p := ⟨gb308, 0, none⟩) (Kd.R_types HO298.out BK308.out (by decide)) (fun _ hk => hk.2) (.int .u64 t306)) (fun _ hk => hk.2) (.int .u64 t307)) (fun _ h_ => h_.1))))) (below_size (by repeat (first | (with_reducible first | exact HB.out | apply below_alloc | apply pw_below_drewN | apply below_drew1 | refine below_set ?_ GE308.out) | exact HB.out)))); have n2_ := Aside0.mk (blk_below (g := gb308) (o := .cells #[.int .u64 t306, .int .u64 t307] 53 (0, 0)) (by (with_reducible repeat (first | refine blk_drewN ?_ _ | refine blk_drew ?_ | refine blk_alloc ?_ _)); refine blk_put (cs := #[.int .u64 t306, .int .u64 0]) ?_ 1 _ rfl; (with_reducible repeat (first | refine blk_drewN ?_ _ | refine blk_drew ?_ | refine blk_alloc ?_ _)); refine blk_put (cs := #[.int .u64 0, .int .u64 0]) ?_ 0 _ rfl; (with_reducible repeat (first | refine blk_drewN ?_ _ | refine blk_drew ?_ | refine blk_alloc ?_ _)); exact BK308.out) hb); have n3_ := Aside0.mk (below_step (by repeat (first | (with_reducible first | exact HB.out | apply below_alloc | apply pw_below_drewN | apply below_drew1 | refine below_set ?_ GE308.out) | exact HB.out)) hb); clear HO298; clear BK308; clear HB; have HO298 := n0_; have HO311 := n1_; have BK308 := n2_; have HB := n3_; clear n0_ n1_ n2_ n3_; (try clear hb); (try clear hb2); (try clear hk); (try clear hi); (try clear ho0); obtain ⟨Ao34, co34, eo34⟩ := Kd.R_slice HO298.out; subst eo34; obtain ⟨Ao35, co35, eo35⟩ := Kd.R_slice HO311.out; subst eo35) | (go_at_call 29; (with_reducible refine (headroomref20_Same.calls k _ _ t295 _ _ t309 true _ ?side1 ?side2 ?side3 ?side4 A23.out).mono ?_); (case side1 => repeat (first | exact (Kd.R_reads' HO298.out).2.2 | (with_reducible refine Kd.C_alloc ?_ _) | (with_reducible refine Kd.C_drewN ?_ _) | (with_reducible refine Kd.C_drew ?_))); (case side2 => exact (Kd.R_reads' HO298.out).2.1); (case side3 => repeat (first | exact (Kd.R_reads' HO311.out).2.2 | (with_reducible refine Kd.C_alloc ?_ _) | (with_reducible refine Kd.C_drewN ?_ _) | (with_reducible refine Kd.C_drew ?_))); (case side4 => exact (Kd.R_reads' HO311.out).2.1); rintro e w' ⟨rfl, ⟨nd, rfl⟩⟩; have hcz36_0 : w33.cell? ⟨gb308, 0, none⟩ = some (.int .u64 t306) := (blk_cell BK308.out 0).trans rfl; have hcz36_1 : w33.cell? ⟨gb308, 1, none⟩ = some (.int .u64 t307) := (blk_cell BK308.out 1).trans rfl; have hfz36_0 := blk_frozen BK308.out 0; have hfz36_1 := blk_frozen BK308.out 1))
                    go_meet
                    case rel => exact ⟨_, (true), (by first | rfl | (simp; done) | (simp [*]; done)), H', ⟨by first | omega | exact Nat.le_refl _⟩, ⟨by (with_reducible repeat (first | refine blk_drewN ?_ _ | refine blk_drew ?_ | refine blk_alloc ?_ _)); exact BK308.out⟩, ⟨by repeat (first | (with_reducible first | exact HB.out | apply below_alloc | apply pw_below_drewN | apply below_drew1 | refine below_set ?_ GE308.out) | exact HB.out)⟩⟩
                · rw [if_neg c25] at H
                  have c25b0 : (t299 == t306) = false := beq_eq_false_iff_ne.mpr c25
                  have c25b1 : (t299 != t306) = true := bne_iff_ne.mpr c25
                  have H' := Aside0.mk H
                  clear H
                  go_wp2_with (first | (go_at_call 30; (with_reducible refine (headroomref20_Spectrum.calls k _ _ y291 t309 _ ?side1 ?side2 A22.out).mono ?_); (case side1 => exact Kd.C_below HR294.out (by repeat (first | (with_reducible first | exact HB.out | apply below_alloc | apply pw_below_drewN | apply below_drew1 | refine below_set ?_ GE308.out) | exact HB.out))); (case side2 => exact HC294.out); rintro e w37 ⟨v310, rfl, ho0, hb⟩; have n0_ := Aside0.mk (Kd.R_elder' (by (with_reducible repeat (first | apply Kd.R_alloc | apply Kd.R_drewN | apply Kd.R_drew)); exact (Kd.R_mono (Kd.R_far (p := ⟨gb308, 1, none⟩) (Kd.R_far (p := ⟨gb308, 0, none⟩) (Kd.R_types HO298.out BK308.out (by decide)) (fun _ hk => hk.2) (.int .u64 t306)) (fun _ hk => hk.2) (.int .u64 t307)) (fun _ h_ => h_.1))) (Kd.R_base ho0) hb); have n1_ := Aside0.mk (Kd.R_lower (Kd.R_new' ho0 (Kd.R_lt (by (with_reducible repeat (first | apply Kd.R_alloc | apply Kd.R_drewN | apply Kd.R_drew)); exact (Kd.R_mono (Kd.R_far (p := ⟨gb308, 1, none⟩) (Kd.R_far (p := ⟨gb308, 0, none⟩) (Kd.R_types HO298.out BK308.out (by decide)) (fun _ hk => hk.2) (.int .u64 t306)) (fun _ hk => hk.2) (.int .u64 t307)) (fun _ h_ => h_.1))))) (below_size (by repeat (first | (with_reducible first | exact HB.out | apply below_alloc | apply pw_below_drewN | apply below_drew1 | refine below_set ?_ GE308.out) | exact HB.out)))); have n2_ := Aside0.mk (blk_below (g := gb308) (o := .cells #[.int .u64 t306, .int .u64 t307] 53 (0, 0)) (by (with_reducible repeat (first | refine blk_drewN ?_ _ | refine blk_drew ?_ | refine blk_alloc ?_ _)); refine blk_put (cs := #[.int .u64 t306, .int .u64 0]) ?_ 1 _ rfl; (with_reducible repeat (first | refine blk_drewN ?_ _ | refine blk_drew ?_ | refine blk_alloc ?_ _)); refine blk_put (cs := #[.int .u64 0, .int .u64 0]) ?_ 0 _ rfl; (with_reducible repeat (first | refine blk_drewN ?_ _ | refine blk_drew ?_ | refine blk_alloc ?_ _)); exact BK308.out) hb); have n3_ := Aside0.mk (below_step (by repeat (first | (with_reducible first | exact HB.out | apply below_alloc | apply pw_below_drewN | apply below_drew1 | refine below_set ?_ GE308.out) | exact HB.out)) hb); clear HO298; clear BK308; clear HB; have HO298 := n0_; have HO311 := n1_; have BK308 := n2_; have HB := n3_; clear n0_ n1_ n2_ n3_; (try clear hb); (try clear hb2); (try clear hk); (try clear hi); (try clear ho0); obtain ⟨Ao38, co38, eo38⟩ := Kd.R_slice HO298.out; subst eo38; obtain ⟨Ao39, co39, eo39⟩ := Kd.R_slice HO311.out; subst eo39) | (go_at_call 29; (with_reducible refine (headroomref20_Same.calls k _ _ t295 _ _ t309 true _ ?side1 ?side2 ?side3 ?side4 A23.out).mono ?_); (case side1 => repeat (first | exact (Kd.R_reads' HO298.out).2.2 | (with_reducible refine Kd.C_alloc ?_ _) | (with_reducible refine Kd.C_drewN ?_ _) | (with_reducible refine Kd.C_drew ?_))); (case side2 => exact (Kd.R_reads' HO298.out).2.1); (case side3 => repeat (first | exact (Kd.R_reads' HO311.out).2.2 | (with_reducible refine Kd.C_alloc ?_ _) | (with_reducible refine Kd.C_drewN ?_ _) | (with_reducible refine Kd.C_drew ?_))); (case side4 => exact (Kd.R_reads' HO311.out).2.1); rintro e w' ⟨rfl, ⟨nd, rfl⟩⟩; have hcz40_0 : w37.cell? ⟨gb308, 0, none⟩ = some (.int .u64 t306) := (blk_cell BK308.out 0).trans rfl; have hcz40_1 : w37.cell? ⟨gb308, 1, none⟩ = some (.int .u64 t307) := (blk_cell BK308.out 1).trans rfl; have hfz40_0 := blk_frozen BK308.out 0; have hfz40_1 := blk_frozen BK308.out 1))
                  go_meet
                  case rel => exact ⟨_, (true), (by first | rfl | (simp; done) | (simp [*]; done)), H', ⟨by first | omega | exact Nat.le_refl _⟩, ⟨by (with_reducible repeat (first | refine blk_drewN ?_ _ | refine blk_drew ?_ | refine blk_alloc ?_ _)); exact BK308.out⟩, ⟨by repeat (first | (with_reducible first | exact HB.out | apply below_alloc | apply pw_below_drewN | apply below_drew1 | refine below_set ?_ GE308.out) | exact HB.out)⟩⟩
              · replace c24 := Bool.eq_false_iff.mpr c24
                subst c24
                have H1 : (headroomlaw20_PowerTells.j0 k y291 t302 t303 true) = some r := by rw [if_neg (show ¬ (false = true) by decide)] at H; exact H
                clear H
                have H := H1
                clear H1
                have H' := Aside0.mk H
                clear H
                go_wp2_with (first | (go_at_call 30; (with_reducible refine (headroomref20_Spectrum.calls k _ _ y291 t309 _ ?side1 ?side2 A22.out).mono ?_); (case side1 => exact Kd.C_below HR294.out (by repeat (first | (with_reducible first | exact HB.out | apply below_alloc | apply pw_below_drewN | apply below_drew1 | refine below_set ?_ GE308.out) | exact HB.out))); (case side2 => exact HC294.out); rintro e w41 ⟨v310, rfl, ho0, hb⟩; have n0_ := Aside0.mk (Kd.R_elder' (by (with_reducible repeat (first | apply Kd.R_alloc | apply Kd.R_drewN | apply Kd.R_drew)); exact (Kd.R_mono (Kd.R_far (p := ⟨gb308, 1, none⟩) (Kd.R_far (p := ⟨gb308, 0, none⟩) (Kd.R_types HO298.out BK308.out (by decide)) (fun _ hk => hk.2) (.int .u64 t306)) (fun _ hk => hk.2) (.int .u64 t307)) (fun _ h_ => h_.1))) (Kd.R_base ho0) hb); have n1_ := Aside0.mk (Kd.R_lower (Kd.R_new' ho0 (Kd.R_lt (by (with_reducible repeat (first | apply Kd.R_alloc | apply Kd.R_drewN | apply Kd.R_drew)); exact (Kd.R_mono (Kd.R_far (p := ⟨gb308, 1, none⟩) (Kd.R_far (p := ⟨gb308, 0, none⟩) (Kd.R_types HO298.out BK308.out (by decide)) (fun _ hk => hk.2) (.int .u64 t306)) (fun _ hk => hk.2) (.int .u64 t307)) (fun _ h_ => h_.1))))) (below_size (by repeat (first | (with_reducible first | exact HB.out | apply below_alloc | apply pw_below_drewN | apply below_drew1 | refine below_set ?_ GE308.out) | exact HB.out)))); have n2_ := Aside0.mk (blk_below (g := gb308) (o := .cells #[.int .u64 t306, .int .u64 t307] 53 (0, 0)) (by (with_reducible repeat (first | refine blk_drewN ?_ _ | refine blk_drew ?_ | refine blk_alloc ?_ _)); refine blk_put (cs := #[.int .u64 t306, .int .u64 0]) ?_ 1 _ rfl; (with_reducible repeat (first | refine blk_drewN ?_ _ | refine blk_drew ?_ | refine blk_alloc ?_ _)); refine blk_put (cs := #[.int .u64 0, .int .u64 0]) ?_ 0 _ rfl; (with_reducible repeat (first | refine blk_drewN ?_ _ | refine blk_drew ?_ | refine blk_alloc ?_ _)); exact BK308.out) hb); have n3_ := Aside0.mk (below_step (by repeat (first | (with_reducible first | exact HB.out | apply below_alloc | apply pw_below_drewN | apply below_drew1 | refine below_set ?_ GE308.out) | exact HB.out)) hb); clear HO298; clear BK308; clear HB; have HO298 := n0_; have HO311 := n1_; have BK308 := n2_; have HB := n3_; clear n0_ n1_ n2_ n3_; (try clear hb); (try clear hb2); (try clear hk); (try clear hi); (try clear ho0); obtain ⟨Ao42, co42, eo42⟩ := Kd.R_slice HO298.out; subst eo42; obtain ⟨Ao43, co43, eo43⟩ := Kd.R_slice HO311.out; subst eo43) | (go_at_call 29; (with_reducible refine (headroomref20_Same.calls k _ _ t295 _ _ t309 false _ ?side1 ?side2 ?side3 ?side4 A23.out).mono ?_); (case side1 => repeat (first | exact (Kd.R_reads' HO298.out).2.2 | (with_reducible refine Kd.C_alloc ?_ _) | (with_reducible refine Kd.C_drewN ?_ _) | (with_reducible refine Kd.C_drew ?_))); (case side2 => exact (Kd.R_reads' HO298.out).2.1); (case side3 => repeat (first | exact (Kd.R_reads' HO311.out).2.2 | (with_reducible refine Kd.C_alloc ?_ _) | (with_reducible refine Kd.C_drewN ?_ _) | (with_reducible refine Kd.C_drew ?_))); (case side4 => exact (Kd.R_reads' HO311.out).2.1); rintro e w' ⟨rfl, ⟨nd, rfl⟩⟩))
                go_meet
                case rel => exact ⟨_, (true), (by first | rfl | (simp; done) | (simp [*]; done)), H', ⟨by first | omega | exact Nat.le_refl _⟩, ⟨by (with_reducible repeat (first | refine blk_drewN ?_ _ | refine blk_drew ?_ | refine blk_alloc ?_ _)); exact BK308.out⟩, ⟨by repeat (first | (with_reducible first | exact HB.out | apply below_alloc | apply pw_below_drewN | apply below_drew1 | refine below_set ?_ GE308.out) | exact HB.out)⟩⟩
            · rw [if_neg c21] at H
              have c21b0 : (t301 == 0) = false := beq_eq_false_iff_ne.mpr c21
              have c21b1 : (t301 != 0) = true := bne_iff_ne.mpr c21
              have H' := Aside0.mk H
              clear H
              go_wp2
              go_meet
              case rel => exact ⟨_, (true), (by first | rfl | (simp; done) | (simp [*]; done)), H', ⟨by first | omega | exact Nat.le_refl _⟩, ⟨by (with_reducible repeat (first | refine blk_drewN ?_ _ | refine blk_drew ?_ | refine blk_alloc ?_ _)); refine blk_put (cs := #[.int .u64 t306, .int .u64 0]) ?_ 1 _ rfl; (with_reducible repeat (first | refine blk_drewN ?_ _ | refine blk_drew ?_ | refine blk_alloc ?_ _)); refine blk_put (cs := #[.int .u64 0, .int .u64 0]) ?_ 0 _ rfl; (with_reducible repeat (first | refine blk_drewN ?_ _ | refine blk_drew ?_ | refine blk_alloc ?_ _)); exact BK308.out⟩, ⟨by repeat (first | (with_reducible first | exact HB.out | apply below_alloc | apply pw_below_drewN | apply below_drew1 | refine below_set ?_ GE308.out) | exact HB.out)⟩⟩
          · rw [if_neg c20] at H
            have c20b0 : (t296 == 0) = false := beq_eq_false_iff_ne.mpr c20
            have c20b1 : (t296 != 0) = true := bne_iff_ne.mpr c20
            (first | rw [c20b0] | (simp only [i64_w, i32_w]; rw [c20b0]) | skip)
            have H' := Aside0.mk H
            clear H
            go_wp2
            go_meet
            case rel => exact ⟨_, (true), (by first | rfl | (simp; done) | (simp [*]; done)), H', ⟨by first | omega | exact Nat.le_refl _⟩, ⟨by (with_reducible repeat (first | refine blk_drewN ?_ _ | refine blk_drew ?_ | refine blk_alloc ?_ _)); refine blk_put (cs := #[.int .u64 t306, .int .u64 0]) ?_ 1 _ rfl; (with_reducible repeat (first | refine blk_drewN ?_ _ | refine blk_drew ?_ | refine blk_alloc ?_ _)); refine blk_put (cs := #[.int .u64 0, .int .u64 0]) ?_ 0 _ rfl; (with_reducible repeat (first | refine blk_drewN ?_ _ | refine blk_drew ?_ | refine blk_alloc ?_ _)); exact BK308.out⟩, ⟨by repeat (first | (with_reducible first | exact HB.out | apply below_alloc | apply pw_below_drewN | apply below_drew1 | refine below_set ?_ GE308.out) | exact HB.out)⟩⟩
        case rest =>
          clear HC11
          try clear q1
          try clear c2
          try clear p2
          try clear c3
          try clear c3b0
          try clear c3b1
          try clear c4
          try clear c4b0
          try clear c4b1
          try clear c7
          try clear c9
          try clear q12
          try clear c20
          try clear c20b0
          try clear c20b1
          try clear c21
          try clear c21b0
          try clear c21b1
          try clear c23
          try clear c24
          try clear c25
          try clear c25b0
          try clear c25b1
          try clear c26
          try clear c26b0
          try clear c26b1
          try clear c27
          try clear c28
          try clear hcz19_0
          try clear hcz19_1
          try clear hcz31_0
          try clear hcz31_1
          try clear hcz36_0
          try clear hcz36_1
          try clear hcz40_0
          try clear hcz40_1
          try clear hfz19_0
          try clear hfz19_1
          try clear hfz31_0
          try clear hfz31_1
          try clear hfz36_0
          try clear hfz36_1
          try clear hfz40_0
          try clear hfz40_1
          try clear q12
          obtain ⟨kq, x95_10, rfl, HA, HJ10, BK308, HB⟩ := hcut
          cases kq with
          | zero => exact absurd HA.out (by simp [headroomlaw20_PowerTells.j0])
          | succ kj10 =>
            have H := HA.out
            clear HA
            simp only [headroomlaw20_PowerTells.j0] at H
            by_cases c44 : x95_10 = true
            · subst c44
              have H1 : (some false) = some r := by rw [if_pos rfl] at H; exact H
              clear H
              have H := H1
              clear H1
              obtain rfl := Option.some.inj H
              go_wp2
              go_ret
              exact ⟨by first | rfl | (simp [errW_none, errW_some] <;> rfl) | (simp only [← hji2]; first | rfl | (simp [errW_none, errW_some] <;> rfl)) | (simp [*, errW_none, errW_some] <;> rfl), by repeat (first | (with_reducible first | exact HB.out | apply below_alloc | apply pw_below_drewN | apply below_drew1 | refine below_set ?_ GE308.out) | exact HB.out)⟩
            · replace c44 := Bool.eq_false_iff.mpr c44
              subst c44
              have H1 : (if (y291.length : Int) = 0 then (if t303 = 6 then (some (t302 == 0)) else (some false)) else (if t303 = 0 then ((headroomref20_Peak.f kj10 y291).bind fun t314 => (some (t302 == t314))) else (some false))) = some r := by rw [if_neg (show ¬ (false = true) by decide)] at H; exact H
              clear H
              have H := H1
              clear H1
              by_cases c45 : (y291.length : Int) = 0
              · rw [if_pos c45] at H
                have c45b0 : ((y291.length : Int) == 0) = true := beq_iff_eq.mpr c45
                have c45b1 : ((y291.length : Int) != 0) = false := bne_eq_false_iff_eq.mpr c45
                clear c45
                by_cases c46 : t303 = 6
                · rw [if_pos c46] at H
                  have c46b0 : (t303 == 6) = true := beq_iff_eq.mpr c46
                  have c46b1 : (t303 != 6) = false := bne_eq_false_iff_eq.mpr c46
                  clear c46
                  obtain rfl := Option.some.inj H
                  go_wp2
                  go_ret
                  exact ⟨by first | rfl | (simp [errW_none, errW_some] <;> rfl) | (simp only [← hji2]; first | rfl | (simp [errW_none, errW_some] <;> rfl)) | (simp [*, errW_none, errW_some] <;> rfl), by repeat (first | (with_reducible first | exact HB.out | apply below_alloc | apply pw_below_drewN | apply below_drew1 | refine below_set ?_ GE308.out) | exact HB.out)⟩
                · rw [if_neg c46] at H
                  have c46b0 : (t303 == 6) = false := beq_eq_false_iff_ne.mpr c46
                  have c46b1 : (t303 != 6) = true := bne_iff_ne.mpr c46
                  obtain rfl := Option.some.inj H
                  go_wp2
                  go_ret
                  exact ⟨by first | rfl | (simp [errW_none, errW_some] <;> rfl) | (simp only [← hji2]; first | rfl | (simp [errW_none, errW_some] <;> rfl)) | (simp [*, errW_none, errW_some] <;> rfl), by repeat (first | (with_reducible first | exact HB.out | apply below_alloc | apply pw_below_drewN | apply below_drew1 | refine below_set ?_ GE308.out) | exact HB.out)⟩
              · rw [if_neg c45] at H
                have c45b0 : ((y291.length : Int) == 0) = false := beq_eq_false_iff_ne.mpr c45
                have c45b1 : ((y291.length : Int) != 0) = true := bne_iff_ne.mpr c45
                have c45b2 : ¬ (y291 = []) := fun h_ => c45 (by rw [h_]; rfl)
                by_cases c47 : t303 = 0
                · rw [if_pos c47] at H
                  have c47b0 : (t303 == 0) = true := beq_iff_eq.mpr c47
                  have c47b1 : (t303 != 0) = false := bne_eq_false_iff_eq.mpr c47
                  clear c47
                  replace H := Option.bind_eq_some_iff.mp H
                  obtain ⟨t314, A480, H⟩ := H
                  replace H : (some (t302 == t314)) = some r := H
                  have A48 := Aside0.mk A480
                  clear A480
                  obtain rfl := Option.some.inj H
                  go_wp2_with (first | (go_at_call 31; (with_reducible refine (headroomref20_Peak.calls kj10 _ _ y291 t314 _ ?side1 ?side2 A48.out).mono ?_); (case side1 => repeat (first | exact (Kd.C_below HR294.out HB.out) | (with_reducible refine Kd.C_alloc ?_ _) | (with_reducible refine Kd.C_drewN ?_ _) | (with_reducible refine Kd.C_drew ?_))); (case side2 => exact HC294.out); rintro e w49 ⟨rfl, hb⟩; have n0_ := Aside0.mk (blk_below (g := gb308) (o := .cells #[.int .u64 t306, .int .u64 t307] 53 (0, 0)) (by (with_reducible repeat (first | refine blk_drewN ?_ _ | refine blk_drew ?_ | refine blk_alloc ?_ _)); exact BK308.out) hb); have n1_ := Aside0.mk (below_step (by repeat (first | (with_reducible first | exact HB.out | apply below_alloc | apply pw_below_drewN | apply below_drew1 | refine below_set ?_ GE308.out) | exact HB.out)) hb); clear BK308; clear HB; have BK308 := n0_; have HB := n1_; clear n0_ n1_; (try clear hb); (try clear hb2); (try clear hk); (try clear hi)))
                  go_ret
                  exact ⟨by first | rfl | (simp [errW_none, errW_some] <;> rfl) | (simp only [← hji2]; first | rfl | (simp [errW_none, errW_some] <;> rfl)) | (simp [*, errW_none, errW_some] <;> rfl), by repeat (first | (with_reducible first | exact HB.out | apply below_alloc | apply pw_below_drewN | apply below_drew1 | refine below_set ?_ GE308.out) | exact HB.out)⟩
                · rw [if_neg c47] at H
                  have c47b0 : (t303 == 0) = false := beq_eq_false_iff_ne.mpr c47
                  have c47b1 : (t303 != 0) = true := bne_iff_ne.mpr c47
                  obtain rfl := Option.some.inj H
                  go_wp2
                  go_ret
                  exact ⟨by first | rfl | (simp [errW_none, errW_some] <;> rfl) | (simp only [← hji2]; first | rfl | (simp [errW_none, errW_some] <;> rfl)) | (simp [*, errW_none, errW_some] <;> rfl), by repeat (first | (with_reducible first | exact HB.out | apply below_alloc | apply pw_below_drewN | apply below_drew1 | refine below_set ?_ GE308.out) | exact HB.out)⟩
      · replace c9 := Bool.eq_false_iff.mpr c9
        subst c9
        have H1 : ((headroomlaw20_alive.f k).bind fun t305 => (if t305 = true then (if t296 = 2 then (if t301 = 2 then (if t303 = 2 then (if (t295.length : Int) = 0 then (if t299 = 0 then (if t300 = 0 then (some (t302 == 0)) else (some false)) else (some false)) else (some false)) else (some false)) else (some false)) else (some false)) else (some false))) = some r := by rw [if_neg (show ¬ (false = true) by decide)] at H; exact H
        clear H
        have H := H1
        clear H1
        replace H := Option.bind_eq_some_iff.mp H
        obtain ⟨t305, A500, H⟩ := H
        replace H : (if t305 = true then (if t296 = 2 then (if t301 = 2 then (if t303 = 2 then (if (t295.length : Int) = 0 then (if t299 = 0 then (if t300 = 0 then (some (t302 == 0)) else (some false)) else (some false)) else (some false)) else (some false)) else (some false)) else (some false)) else (some false)) = some r := H
        have A50 := Aside0.mk A500
        clear A500
        by_cases c51 : t305 = true
        · subst c51
          have H1 : (if t296 = 2 then (if t301 = 2 then (if t303 = 2 then (if (t295.length : Int) = 0 then (if t299 = 0 then (if t300 = 0 then (some (t302 == 0)) else (some false)) else (some false)) else (some false)) else (some false)) else (some false)) else (some false)) = some r := by rw [if_pos rfl] at H; exact H
          clear H
          have H := H1
          clear H1
          by_cases c52 : t296 = 2
          · rw [if_pos c52] at H
            have c52b0 : (t296 == 2) = true := beq_iff_eq.mpr c52
            have c52b1 : (t296 != 2) = false := bne_eq_false_iff_eq.mpr c52
            clear c52
            by_cases c53 : t301 = 2
            · rw [if_pos c53] at H
              have c53b0 : (t301 == 2) = true := beq_iff_eq.mpr c53
              have c53b1 : (t301 != 2) = false := bne_eq_false_iff_eq.mpr c53
              clear c53
              by_cases c54 : t303 = 2
              · rw [if_pos c54] at H
                have c54b0 : (t303 == 2) = true := beq_iff_eq.mpr c54
                have c54b1 : (t303 != 2) = false := bne_eq_false_iff_eq.mpr c54
                clear c54
                by_cases c55 : (t295.length : Int) = 0
                · rw [if_pos c55] at H
                  have c55b0 : ((t295.length : Int) == 0) = true := beq_iff_eq.mpr c55
                  have c55b1 : ((t295.length : Int) != 0) = false := bne_eq_false_iff_eq.mpr c55
                  clear c55
                  by_cases c56 : t299 = 0
                  · rw [if_pos c56] at H
                    have c56b0 : (t299 == 0) = true := beq_iff_eq.mpr c56
                    have c56b1 : (t299 != 0) = false := bne_eq_false_iff_eq.mpr c56
                    clear c56
                    by_cases c57 : t300 = 0
                    · rw [if_pos c57] at H
                      have c57b0 : (t300 == 0) = true := beq_iff_eq.mpr c57
                      have c57b1 : (t300 != 0) = false := bne_eq_false_iff_eq.mpr c57
                      clear c57
                      obtain rfl := Option.some.inj H
                      have q58 : ((ji2) : Int) ≤ ((l0.length : Int) : Int) := of_decide_eq_true (by first | (with_reducible assumption) | assumption)
                      obtain ⟨i058, hi058, _, hsz58, _⟩ := info_parts info45
                      have hroom58 : l0.length ≤ c0 := HC0.out
                      have hC58 : Kd.C k45 _ A0 l0.length l0 := HR0.out
                      have hcut58 := cut_to (P := Try.prog) 37 45 .i64 Try.underlying37 hi058 A0 l0.length c0 (ji2) (of_decide_eq_true (by first | (with_reducible assumption) | assumption)) q58 hroom58
                      have hr58 := Kd.C_take (m := ((ji2) : Int).toNat) hC58 (by omega)
                      have hy58 : y291.length = ((ji2) : Int).toNat := (by rw [Ny291.out, List.length_take]; omega)
                      rw [← Ny291.out] at hr58
                      rw [← hy58] at hcut58
                      have HR294 := Aside0.mk hr58
                      have HC294 := Aside0.mk (show y291.length ≤ c0 from by omega)
                      clear hr58 hC58 hroom58 hi058 hsz58
                      have KY58 := Aside0.mk hy58
                      clear hy58
                      replace q58 := eq_true q58
                      go_enter Try.func7, Try.ntmps7
                      go_wp2_with (first | ((with_reducible refine gate_callee (f := 25) rfl ?_); refine goesL_ (some 18) rfl rfl Try.func25 (by kernel_rfl) rfl #[.slice A0 y291.length c0] rfl (by (try simp only [List.map_toArray, List.map_cons, List.map_nil]); first | done | rfl | (simp only [List.length_drop, List.length_take]; rfl)) ?_; (with_reducible refine (power_Spectrum.calls _ _ y291 t295 t296 _ ?side1 ?side2 A5.out).mono ?_); (case side1 => repeat (first | exact HR294.out | (with_reducible refine Kd.C_alloc ?_ _) | (with_reducible refine Kd.C_drewN ?_ _) | (with_reducible refine Kd.C_drew ?_))); (case side2 => exact HC294.out); rintro e w59 ⟨v297, rfl, ho0, hb⟩; refine ⟨_, rfl, ?_⟩; have n0_ := Aside0.mk (Kd.R_lower ho0 (below_size (by repeat (first | (with_reducible first | exact HB.out | apply below_alloc | apply pw_below_drewN | apply below_drew1) | exact HB.out)))); have n1_ := Aside0.mk (below_step (by repeat (first | (with_reducible first | exact HB.out | apply below_alloc | apply pw_below_drewN | apply below_drew1) | exact HB.out)) hb); clear HB; have HO298 := n0_; have HB := n1_; clear n0_ n1_; (try clear hb); (try clear hb2); (try clear hk); (try clear hi); (try clear ho0)) | ((with_reducible refine gate_callee (f := 23) rfl ?_); refine goesL_ (some 23) rfl rfl Try.func23 (by kernel_rfl) rfl #[.slice A0 y291.length c0] rfl (by (try simp only [List.map_toArray, List.map_cons, List.map_nil]); first | done | rfl | (simp only [List.length_drop, List.length_take]; rfl)) ?_; (with_reducible refine (power_Total.calls _ _ y291 t299 t300 t301 _ ?side1 ?side2 A6.out).mono ?_); (case side1 => repeat (first | exact (Kd.C_below HR294.out HB.out) | (with_reducible refine Kd.C_alloc ?_ _) | (with_reducible refine Kd.C_drewN ?_ _) | (with_reducible refine Kd.C_drew ?_))); (case side2 => exact HC294.out); rintro e w60 ⟨rfl, hb⟩; refine ⟨_, rfl, ?_⟩; have n0_ := Aside0.mk (Kd.R_below (by (with_reducible repeat (first | apply Kd.R_alloc | apply Kd.R_drewN | apply Kd.R_drew)); exact HO298.out) hb); have n1_ := Aside0.mk (below_step (by repeat (first | (with_reducible first | exact HB.out | apply below_alloc | apply pw_below_drewN | apply below_drew1) | exact HB.out)) hb); clear HO298; clear HB; have HO298 := n0_; have HB := n1_; clear n0_ n1_; (try clear hb); (try clear hb2); (try clear hk); (try clear hi)) | ((with_reducible refine gate_callee (f := 26) rfl ?_); refine goesL_ (some 29) rfl rfl Try.func26 (by kernel_rfl) rfl #[.slice A0 y291.length c0] rfl (by (try simp only [List.map_toArray, List.map_cons, List.map_nil]); first | done | rfl | (simp only [List.length_drop, List.length_take]; rfl)) ?_; (with_reducible refine (power_Peak.calls k _ _ y291 t302 t303 _ ?side1 ?side2 A7.out).mono ?_); (case side1 => repeat (first | exact (Kd.C_below HR294.out HB.out) | (with_reducible refine Kd.C_alloc ?_ _) | (with_reducible refine Kd.C_drewN ?_ _) | (with_reducible refine Kd.C_drew ?_))); (case side2 => exact HC294.out); rintro e w61 ⟨rfl, hb⟩; refine ⟨_, rfl, ?_⟩; have n0_ := Aside0.mk (Kd.R_below (by (with_reducible repeat (first | apply Kd.R_alloc | apply Kd.R_drewN | apply Kd.R_drew)); exact HO298.out) hb); have n1_ := Aside0.mk (below_step (by repeat (first | (with_reducible first | exact HB.out | apply below_alloc | apply pw_below_drewN | apply below_drew1) | exact HB.out)) hb); clear HO298; clear HB; have HO298 := n0_; have HB := n1_; clear n0_ n1_; (try clear hb); (try clear hb2); (try clear hk); (try clear hi)) | ((with_reducible refine gate_callee (f := 27) rfl ?_); refine goesL_ (some 33) rfl rfl Try.func27 (by kernel_rfl) rfl #[.slice A0 y291.length c0] rfl (by (try simp only [List.map_toArray, List.map_cons, List.map_nil]); first | done | rfl | (simp only [List.length_drop, List.length_take]; rfl)) ?_; (with_reducible refine (headroomref09_Narrow.calls k _ _ y291 false _ ?side1 ?side2 A8.out).mono ?_); (case side1 => repeat (first | exact (Kd.C_below HR294.out HB.out) | (with_reducible refine Kd.C_alloc ?_ _) | (with_reducible refine Kd.C_drewN ?_ _) | (with_reducible refine Kd.C_drew ?_))); (case side2 => exact HC294.out); rintro e w62 ⟨rfl, hb⟩; refine ⟨_, rfl, ?_⟩; have n0_ := Aside0.mk (Kd.R_below (by (with_reducible repeat (first | apply Kd.R_alloc | apply Kd.R_drewN | apply Kd.R_drew)); exact HO298.out) hb); have n1_ := Aside0.mk (below_step (by repeat (first | (with_reducible first | exact HB.out | apply below_alloc | apply pw_below_drewN | apply below_drew1) | exact HB.out)) hb); clear HO298; clear HB; have HO298 := n0_; have HB := n1_; clear n0_ n1_; (try clear hb); (try clear hb2); (try clear hk); (try clear hi)) | ((with_reducible refine gate_callee (f := 24) rfl ?_); refine goesL_ (some 35) rfl rfl Try.func24 (by kernel_rfl) rfl #[] rfl (by (try simp only [List.map_toArray, List.map_cons, List.map_nil]); first | done | rfl | (simp only [List.length_drop, List.length_take]; rfl)) ?_; (with_reducible refine (headroomlaw20_alive.calls k  true _ A50.out).mono ?_); rintro e w63 ⟨rfl, hb⟩; refine ⟨_, rfl, ?_⟩; have n0_ := Aside0.mk (Kd.R_below (by (with_reducible repeat (first | apply Kd.R_alloc | apply Kd.R_drewN | apply Kd.R_drew)); exact HO298.out) hb); have n1_ := Aside0.mk (below_step (by repeat (first | (with_reducible first | exact HB.out | apply below_alloc | apply pw_below_drewN | apply below_drew1) | exact HB.out)) hb); clear HO298; clear HB; have HO298 := n0_; have HB := n1_; clear n0_ n1_; (try clear hb); (try clear hb2); (try clear hk); (try clear hi); obtain ⟨Ao64, co64, eo64⟩ := Kd.R_slice HO298.out; subst eo64))
                      go_ret
                      exact ⟨by first | rfl | (simp [errW_none, errW_some] <;> rfl) | (simp only [← hji2]; first | rfl | (simp [errW_none, errW_some] <;> rfl)) | (simp [*, errW_none, errW_some] <;> rfl), by repeat (first | (with_reducible first | exact HB.out | apply below_alloc | apply pw_below_drewN | apply below_drew1) | exact HB.out)⟩
                    · rw [if_neg c57] at H
                      have c57b0 : (t300 == 0) = false := beq_eq_false_iff_ne.mpr c57
                      have c57b1 : (t300 != 0) = true := bne_iff_ne.mpr c57
                      obtain rfl := Option.some.inj H
                      have q65 : ((ji2) : Int) ≤ ((l0.length : Int) : Int) := of_decide_eq_true (by first | (with_reducible assumption) | assumption)
                      obtain ⟨i065, hi065, _, hsz65, _⟩ := info_parts info45
                      have hroom65 : l0.length ≤ c0 := HC0.out
                      have hC65 : Kd.C k45 _ A0 l0.length l0 := HR0.out
                      have hcut65 := cut_to (P := Try.prog) 37 45 .i64 Try.underlying37 hi065 A0 l0.length c0 (ji2) (of_decide_eq_true (by first | (with_reducible assumption) | assumption)) q65 hroom65
                      have hr65 := Kd.C_take (m := ((ji2) : Int).toNat) hC65 (by omega)
                      have hy65 : y291.length = ((ji2) : Int).toNat := (by rw [Ny291.out, List.length_take]; omega)
                      rw [← Ny291.out] at hr65
                      rw [← hy65] at hcut65
                      have HR294 := Aside0.mk hr65
                      have HC294 := Aside0.mk (show y291.length ≤ c0 from by omega)
                      clear hr65 hC65 hroom65 hi065 hsz65
                      have KY65 := Aside0.mk hy65
                      clear hy65
                      replace q65 := eq_true q65
                      go_enter Try.func7, Try.ntmps7
                      go_wp2_with (first | ((with_reducible refine gate_callee (f := 25) rfl ?_); refine goesL_ (some 18) rfl rfl Try.func25 (by kernel_rfl) rfl #[.slice A0 y291.length c0] rfl (by (try simp only [List.map_toArray, List.map_cons, List.map_nil]); first | done | rfl | (simp only [List.length_drop, List.length_take]; rfl)) ?_; (with_reducible refine (power_Spectrum.calls _ _ y291 t295 t296 _ ?side1 ?side2 A5.out).mono ?_); (case side1 => repeat (first | exact HR294.out | (with_reducible refine Kd.C_alloc ?_ _) | (with_reducible refine Kd.C_drewN ?_ _) | (with_reducible refine Kd.C_drew ?_))); (case side2 => exact HC294.out); rintro e w66 ⟨v297, rfl, ho0, hb⟩; refine ⟨_, rfl, ?_⟩; have n0_ := Aside0.mk (Kd.R_lower ho0 (below_size (by repeat (first | (with_reducible first | exact HB.out | apply below_alloc | apply pw_below_drewN | apply below_drew1) | exact HB.out)))); have n1_ := Aside0.mk (below_step (by repeat (first | (with_reducible first | exact HB.out | apply below_alloc | apply pw_below_drewN | apply below_drew1) | exact HB.out)) hb); clear HB; have HO298 := n0_; have HB := n1_; clear n0_ n1_; (try clear hb); (try clear hb2); (try clear hk); (try clear hi); (try clear ho0)) | ((with_reducible refine gate_callee (f := 23) rfl ?_); refine goesL_ (some 23) rfl rfl Try.func23 (by kernel_rfl) rfl #[.slice A0 y291.length c0] rfl (by (try simp only [List.map_toArray, List.map_cons, List.map_nil]); first | done | rfl | (simp only [List.length_drop, List.length_take]; rfl)) ?_; (with_reducible refine (power_Total.calls _ _ y291 t299 t300 t301 _ ?side1 ?side2 A6.out).mono ?_); (case side1 => repeat (first | exact (Kd.C_below HR294.out HB.out) | (with_reducible refine Kd.C_alloc ?_ _) | (with_reducible refine Kd.C_drewN ?_ _) | (with_reducible refine Kd.C_drew ?_))); (case side2 => exact HC294.out); rintro e w67 ⟨rfl, hb⟩; refine ⟨_, rfl, ?_⟩; have n0_ := Aside0.mk (Kd.R_below (by (with_reducible repeat (first | apply Kd.R_alloc | apply Kd.R_drewN | apply Kd.R_drew)); exact HO298.out) hb); have n1_ := Aside0.mk (below_step (by repeat (first | (with_reducible first | exact HB.out | apply below_alloc | apply pw_below_drewN | apply below_drew1) | exact HB.out)) hb); clear HO298; clear HB; have HO298 := n0_; have HB := n1_; clear n0_ n1_; (try clear hb); (try clear hb2); (try clear hk); (try clear hi)) | ((with_reducible refine gate_callee (f := 26) rfl ?_); refine goesL_ (some 29) rfl rfl Try.func26 (by kernel_rfl) rfl #[.slice A0 y291.length c0] rfl (by (try simp only [List.map_toArray, List.map_cons, List.map_nil]); first | done | rfl | (simp only [List.length_drop, List.length_take]; rfl)) ?_; (with_reducible refine (power_Peak.calls k _ _ y291 t302 t303 _ ?side1 ?side2 A7.out).mono ?_); (case side1 => repeat (first | exact (Kd.C_below HR294.out HB.out) | (with_reducible refine Kd.C_alloc ?_ _) | (with_reducible refine Kd.C_drewN ?_ _) | (with_reducible refine Kd.C_drew ?_))); (case side2 => exact HC294.out); rintro e w68 ⟨rfl, hb⟩; refine ⟨_, rfl, ?_⟩; have n0_ := Aside0.mk (Kd.R_below (by (with_reducible repeat (first | apply Kd.R_alloc | apply Kd.R_drewN | apply Kd.R_drew)); exact HO298.out) hb); have n1_ := Aside0.mk (below_step (by repeat (first | (with_reducible first | exact HB.out | apply below_alloc | apply pw_below_drewN | apply below_drew1) | exact HB.out)) hb); clear HO298; clear HB; have HO298 := n0_; have HB := n1_; clear n0_ n1_; (try clear hb); (try clear hb2); (try clear hk); (try clear hi)) | ((with_reducible refine gate_callee (f := 27) rfl ?_); refine goesL_ (some 33) rfl rfl Try.func27 (by kernel_rfl) rfl #[.slice A0 y291.length c0] rfl (by (try simp only [List.map_toArray, List.map_cons, List.map_nil]); first | done | rfl | (simp only [List.length_drop, List.length_take]; rfl)) ?_; (with_reducible refine (headroomref09_Narrow.calls k _ _ y291 false _ ?side1 ?side2 A8.out).mono ?_); (case side1 => repeat (first | exact (Kd.C_below HR294.out HB.out) | (with_reducible refine Kd.C_alloc ?_ _) | (with_reducible refine Kd.C_drewN ?_ _) | (with_reducible refine Kd.C_drew ?_))); (case side2 => exact HC294.out); rintro e w69 ⟨rfl, hb⟩; refine ⟨_, rfl, ?_⟩; have n0_ := Aside0.mk (Kd.R_below (by (with_reducible repeat (first | apply Kd.R_alloc | apply Kd.R_drewN | apply Kd.R_drew)); exact HO298.out) hb); have n1_ := Aside0.mk (below_step (by repeat (first | (with_reducible first | exact HB.out | apply below_alloc | apply pw_below_drewN | apply below_drew1) | exact HB.out)) hb); clear HO298; clear HB; have HO298 := n0_; have HB := n1_; clear n0_ n1_; (try clear hb); (try clear hb2); (try clear hk); (try clear hi)) | ((with_reducible refine gate_callee (f := 24) rfl ?_); refine goesL_ (some 35) rfl rfl Try.func24 (by kernel_rfl) rfl #[] rfl (by (try simp only [List.map_toArray, List.map_cons, List.map_nil]); first | done | rfl | (simp only [List.length_drop, List.length_take]; rfl)) ?_; (with_reducible refine (headroomlaw20_alive.calls k  true _ A50.out).mono ?_); rintro e w70 ⟨rfl, hb⟩; refine ⟨_, rfl, ?_⟩; have n0_ := Aside0.mk (Kd.R_below (by (with_reducible repeat (first | apply Kd.R_alloc | apply Kd.R_drewN | apply Kd.R_drew)); exact HO298.out) hb); have n1_ := Aside0.mk (below_step (by repeat (first | (with_reducible first | exact HB.out | apply below_alloc | apply pw_below_drewN | apply below_drew1) | exact HB.out)) hb); clear HO298; clear HB; have HO298 := n0_; have HB := n1_; clear n0_ n1_; (try clear hb); (try clear hb2); (try clear hk); (try clear hi); obtain ⟨Ao71, co71, eo71⟩ := Kd.R_slice HO298.out; subst eo71))
                      go_ret
                      exact ⟨by first | rfl | (simp [errW_none, errW_some] <;> rfl) | (simp only [← hji2]; first | rfl | (simp [errW_none, errW_some] <;> rfl)) | (simp [*, errW_none, errW_some] <;> rfl), by repeat (first | (with_reducible first | exact HB.out | apply below_alloc | apply pw_below_drewN | apply below_drew1) | exact HB.out)⟩
                  · rw [if_neg c56] at H
                    have c56b0 : (t299 == 0) = false := beq_eq_false_iff_ne.mpr c56
                    have c56b1 : (t299 != 0) = true := bne_iff_ne.mpr c56
                    obtain rfl := Option.some.inj H
                    have q72 : ((ji2) : Int) ≤ ((l0.length : Int) : Int) := of_decide_eq_true (by first | (with_reducible assumption) | assumption)
                    obtain ⟨i072, hi072, _, hsz72, _⟩ := info_parts info45
                    have hroom72 : l0.length ≤ c0 := HC0.out
                    have hC72 : Kd.C k45 _ A0 l0.length l0 := HR0.out
                    have hcut72 := cut_to (P := Try.prog) 37 45 .i64 Try.underlying37 hi072 A0 l0.length c0 (ji2) (of_decide_eq_true (by first | (with_reducible assumption) | assumption)) q72 hroom72
                    have hr72 := Kd.C_take (m := ((ji2) : Int).toNat) hC72 (by omega)
                    have hy72 : y291.length = ((ji2) : Int).toNat := (by rw [Ny291.out, List.length_take]; omega)
                    rw [← Ny291.out] at hr72
                    rw [← hy72] at hcut72
                    have HR294 := Aside0.mk hr72
                    have HC294 := Aside0.mk (show y291.length ≤ c0 from by omega)
                    clear hr72 hC72 hroom72 hi072 hsz72
                    have KY72 := Aside0.mk hy72
                    clear hy72
                    replace q72 := eq_true q72
                    go_enter Try.func7, Try.ntmps7
                    go_wp2_with (first | ((with_reducible refine gate_callee (f := 25) rfl ?_); refine goesL_ (some 18) rfl rfl Try.func25 (by kernel_rfl) rfl #[.slice A0 y291.length c0] rfl (by (try simp only [List.map_toArray, List.map_cons, List.map_nil]); first | done | rfl | (simp only [List.length_drop, List.length_take]; rfl)) ?_; (with_reducible refine (power_Spectrum.calls _ _ y291 t295 t296 _ ?side1 ?side2 A5.out).mono ?_); (case side1 => repeat (first | exact HR294.out | (with_reducible refine Kd.C_alloc ?_ _) | (with_reducible refine Kd.C_drewN ?_ _) | (with_reducible refine Kd.C_drew ?_))); (case side2 => exact HC294.out); rintro e w73 ⟨v297, rfl, ho0, hb⟩; refine ⟨_, rfl, ?_⟩; have n0_ := Aside0.mk (Kd.R_lower ho0 (below_size (by repeat (first | (with_reducible first | exact HB.out | apply below_alloc | apply pw_below_drewN | apply below_drew1) | exact HB.out)))); have n1_ := Aside0.mk (below_step (by repeat (first | (with_reducible first | exact HB.out | apply below_alloc | apply pw_below_drewN | apply below_drew1) | exact HB.out)) hb); clear HB; have HO298 := n0_; have HB := n1_; clear n0_ n1_; (try clear hb); (try clear hb2); (try clear hk); (try clear hi); (try clear ho0)) | ((with_reducible refine gate_callee (f := 23) rfl ?_); refine goesL_ (some 23) rfl rfl Try.func23 (by kernel_rfl) rfl #[.slice A0 y291.length c0] rfl (by (try simp only [List.map_toArray, List.map_cons, List.map_nil]); first | done | rfl | (simp only [List.length_drop, List.length_take]; rfl)) ?_; (with_reducible refine (power_Total.calls _ _ y291 t299 t300 t301 _ ?side1 ?side2 A6.out).mono ?_); (case side1 => repeat (first | exact (Kd.C_below HR294.out HB.out) | (with_reducible refine Kd.C_alloc ?_ _) | (with_reducible refine Kd.C_drewN ?_ _) | (with_reducible refine Kd.C_drew ?_))); (case side2 => exact HC294.out); rintro e w74 ⟨rfl, hb⟩; refine ⟨_, rfl, ?_⟩; have n0_ := Aside0.mk (Kd.R_below (by (with_reducible repeat (first | apply Kd.R_alloc | apply Kd.R_drewN | apply Kd.R_drew)); exact HO298.out) hb); have n1_ := Aside0.mk (below_step (by repeat (first | (with_reducible first | exact HB.out | apply below_alloc | apply pw_below_drewN | apply below_drew1) | exact HB.out)) hb); clear HO298; clear HB; have HO298 := n0_; have HB := n1_; clear n0_ n1_; (try clear hb); (try clear hb2); (try clear hk); (try clear hi)) | ((with_reducible refine gate_callee (f := 26) rfl ?_); refine goesL_ (some 29) rfl rfl Try.func26 (by kernel_rfl) rfl #[.slice A0 y291.length c0] rfl (by (try simp only [List.map_toArray, List.map_cons, List.map_nil]); first | done | rfl | (simp only [List.length_drop, List.length_take]; rfl)) ?_; (with_reducible refine (power_Peak.calls k _ _ y291 t302 t303 _ ?side1 ?side2 A7.out).mono ?_); (case side1 => repeat (first | exact (Kd.C_below HR294.out HB.out) | (with_reducible refine Kd.C_alloc ?_ _) | (with_reducible refine Kd.C_drewN ?_ _) | (with_reducible refine Kd.C_drew ?_))); (case side2 => exact HC294.out); rintro e w75 ⟨rfl, hb⟩; refine ⟨_, rfl, ?_⟩; have n0_ := Aside0.mk (Kd.R_below (by (with_reducible repeat (first | apply Kd.R_alloc | apply Kd.R_drewN | apply Kd.R_drew)); exact HO298.out) hb); have n1_ := Aside0.mk (below_step (by repeat (first | (with_reducible first | exact HB.out | apply below_alloc | apply pw_below_drewN | apply below_drew1) | exact HB.out)) hb); clear HO298; clear HB; have HO298 := n0_; have HB := n1_; clear n0_ n1_; (try clear hb); (try clear hb2); (try clear hk); (try clear hi)) | ((with_reducible refine gate_callee (f := 27) rfl ?_); refine goesL_ (some 33) rfl rfl Try.func27 (by kernel_rfl) rfl #[.slice A0 y291.length c0] rfl (by (try simp only [List.map_toArray, List.map_cons, List.map_nil]); first | done | rfl | (simp only [List.length_drop, List.length_take]; rfl)) ?_; (with_reducible refine (headroomref09_Narrow.calls k _ _ y291 false _ ?side1 ?side2 A8.out).mono ?_); (case side1 => repeat (first | exact (Kd.C_below HR294.out HB.out) | (with_reducible refine Kd.C_alloc ?_ _) | (with_reducible refine Kd.C_drewN ?_ _) | (with_reducible refine Kd.C_drew ?_))); (case side2 => exact HC294.out); rintro e w76 ⟨rfl, hb⟩; refine ⟨_, rfl, ?_⟩; have n0_ := Aside0.mk (Kd.R_below (by (with_reducible repeat (first | apply Kd.R_alloc | apply Kd.R_drewN | apply Kd.R_drew)); exact HO298.out) hb); have n1_ := Aside0.mk (below_step (by repeat (first | (with_reducible first | exact HB.out | apply below_alloc | apply pw_below_drewN | apply below_drew1) | exact HB.out)) hb); clear HO298; clear HB; have HO298 := n0_; have HB := n1_; clear n0_ n1_; (try clear hb); (try clear hb2); (try clear hk); (try clear hi)) | ((with_reducible refine gate_callee (f := 24) rfl ?_); refine goesL_ (some 35) rfl rfl Try.func24 (by kernel_rfl) rfl #[] rfl (by (try simp only [List.map_toArray, List.map_cons, List.map_nil]); first | done | rfl | (simp only [List.length_drop, List.length_take]; rfl)) ?_; (with_reducible refine (headroomlaw20_alive.calls k  true _ A50.out).mono ?_); rintro e w77 ⟨rfl, hb⟩; refine ⟨_, rfl, ?_⟩; have n0_ := Aside0.mk (Kd.R_below (by (with_reducible repeat (first | apply Kd.R_alloc | apply Kd.R_drewN | apply Kd.R_drew)); exact HO298.out) hb); have n1_ := Aside0.mk (below_step (by repeat (first | (with_reducible first | exact HB.out | apply below_alloc | apply pw_below_drewN | apply below_drew1) | exact HB.out)) hb); clear HO298; clear HB; have HO298 := n0_; have HB := n1_; clear n0_ n1_; (try clear hb); (try clear hb2); (try clear hk); (try clear hi); obtain ⟨Ao78, co78, eo78⟩ := Kd.R_slice HO298.out; subst eo78))
                    go_ret
                    exact ⟨by first | rfl | (simp [errW_none, errW_some] <;> rfl) | (simp only [← hji2]; first | rfl | (simp [errW_none, errW_some] <;> rfl)) | (simp [*, errW_none, errW_some] <;> rfl), by repeat (first | (with_reducible first | exact HB.out | apply below_alloc | apply pw_below_drewN | apply below_drew1) | exact HB.out)⟩
                · rw [if_neg c55] at H
                  have c55b0 : ((t295.length : Int) == 0) = false := beq_eq_false_iff_ne.mpr c55
                  have c55b1 : ((t295.length : Int) != 0) = true := bne_iff_ne.mpr c55
                  have c55b2 : ¬ (t295 = []) := fun h_ => c55 (by rw [h_]; rfl)
                  obtain rfl := Option.some.inj H
                  have q79 : ((ji2) : Int) ≤ ((l0.length : Int) : Int) := of_decide_eq_true (by first | (with_reducible assumption) | assumption)
                  obtain ⟨i079, hi079, _, hsz79, _⟩ := info_parts info45
                  have hroom79 : l0.length ≤ c0 := HC0.out
                  have hC79 : Kd.C k45 _ A0 l0.length l0 := HR0.out
                  have hcut79 := cut_to (P := Try.prog) 37 45 .i64 Try.underlying37 hi079 A0 l0.length c0 (ji2) (of_decide_eq_true (by first | (with_reducible assumption) | assumption)) q79 hroom79
                  have hr79 := Kd.C_take (m := ((ji2) : Int).toNat) hC79 (by omega)
                  have hy79 : y291.length = ((ji2) : Int).toNat := (by rw [Ny291.out, List.length_take]; omega)
                  rw [← Ny291.out] at hr79
                  rw [← hy79] at hcut79
                  have HR294 := Aside0.mk hr79
                  have HC294 := Aside0.mk (show y291.length ≤ c0 from by omega)
                  clear hr79 hC79 hroom79 hi079 hsz79
                  have KY79 := Aside0.mk hy79
                  clear hy79
                  replace q79 := eq_true q79
                  go_enter Try.func7, Try.ntmps7
                  go_wp2_with (first | ((with_reducible refine gate_callee (f := 25) rfl ?_); refine goesL_ (some 18) rfl rfl Try.func25 (by kernel_rfl) rfl #[.slice A0 y291.length c0] rfl (by (try simp only [List.map_toArray, List.map_cons, List.map_nil]); first | done | rfl | (simp only [List.length_drop, List.length_take]; rfl)) ?_; (with_reducible refine (power_Spectrum.calls _ _ y291 t295 t296 _ ?side1 ?side2 A5.out).mono ?_); (case side1 => repeat (first | exact HR294.out | (with_reducible refine Kd.C_alloc ?_ _) | (with_reducible refine Kd.C_drewN ?_ _) | (with_reducible refine Kd.C_drew ?_))); (case side2 => exact HC294.out); rintro e w80 ⟨v297, rfl, ho0, hb⟩; refine ⟨_, rfl, ?_⟩; have n0_ := Aside0.mk (Kd.R_lower ho0 (below_size (by repeat (first | (with_reducible first | exact HB.out | apply below_alloc | apply pw_below_drewN | apply below_drew1) | exact HB.out)))); have n1_ := Aside0.mk (below_step (by repeat (first | (with_reducible first | exact HB.out | apply below_alloc | apply pw_below_drewN | apply below_drew1) | exact HB.out)) hb); clear HB; have HO298 := n0_; have HB := n1_; clear n0_ n1_; (try clear hb); (try clear hb2); (try clear hk); (try clear hi); (try clear ho0)) | ((with_reducible refine gate_callee (f := 23) rfl ?_); refine goesL_ (some 23) rfl rfl Try.func23 (by kernel_rfl) rfl #[.slice A0 y291.length c0] rfl (by (try simp only [List.map_toArray, List.map_cons, List.map_nil]); first | done | rfl | (simp only [List.length_drop, List.length_take]; rfl)) ?_; (with_reducible refine (power_Total.calls _ _ y291 t299 t300 t301 _ ?side1 ?side2 A6.out).mono ?_); (case side1 => repeat (first | exact (Kd.C_below HR294.out HB.out) | (with_reducible refine Kd.C_alloc ?_ _) | (with_reducible refine Kd.C_drewN ?_ _) | (with_reducible refine Kd.C_drew ?_))); (case side2 => exact HC294.out); rintro e w81 ⟨rfl, hb⟩; refine ⟨_, rfl, ?_⟩; have n0_ := Aside0.mk (Kd.R_below (by (with_reducible repeat (first | apply Kd.R_alloc | apply Kd.R_drewN | apply Kd.R_drew)); exact HO298.out) hb); have n1_ := Aside0.mk (below_step (by repeat (first | (with_reducible first | exact HB.out | apply below_alloc | apply pw_below_drewN | apply below_drew1) | exact HB.out)) hb); clear HO298; clear HB; have HO298 := n0_; have HB := n1_; clear n0_ n1_; (try clear hb); (try clear hb2); (try clear hk); (try clear hi)) | ((with_reducible refine gate_callee (f := 26) rfl ?_); refine goesL_ (some 29) rfl rfl Try.func26 (by kernel_rfl) rfl #[.slice A0 y291.length c0] rfl (by (try simp only [List.map_toArray, List.map_cons, List.map_nil]); first | done | rfl | (simp only [List.length_drop, List.length_take]; rfl)) ?_; (with_reducible refine (power_Peak.calls k _ _ y291 t302 t303 _ ?side1 ?side2 A7.out).mono ?_); (case side1 => repeat (first | exact (Kd.C_below HR294.out HB.out) | (with_reducible refine Kd.C_alloc ?_ _) | (with_reducible refine Kd.C_drewN ?_ _) | (with_reducible refine Kd.C_drew ?_))); (case side2 => exact HC294.out); rintro e w82 ⟨rfl, hb⟩; refine ⟨_, rfl, ?_⟩; have n0_ := Aside0.mk (Kd.R_below (by (with_reducible repeat (first | apply Kd.R_alloc | apply Kd.R_drewN | apply Kd.R_drew)); exact HO298.out) hb); have n1_ := Aside0.mk (below_step (by repeat (first | (with_reducible first | exact HB.out | apply below_alloc | apply pw_below_drewN | apply below_drew1) | exact HB.out)) hb); clear HO298; clear HB; have HO298 := n0_; have HB := n1_; clear n0_ n1_; (try clear hb); (try clear hb2); (try clear hk); (try clear hi)) | ((with_reducible refine gate_callee (f := 27) rfl ?_); refine goesL_ (some 33) rfl rfl Try.func27 (by kernel_rfl) rfl #[.slice A0 y291.length c0] rfl (by (try simp only [List.map_toArray, List.map_cons, List.map_nil]); first | done | rfl | (simp only [List.length_drop, List.length_take]; rfl)) ?_; (with_reducible refine (headroomref09_Narrow.calls k _ _ y291 false _ ?side1 ?side2 A8.out).mono ?_); (case side1 => repeat (first | exact (Kd.C_below HR294.out HB.out) | (with_reducible refine Kd.C_alloc ?_ _) | (with_reducible refine Kd.C_drewN ?_ _) | (with_reducible refine Kd.C_drew ?_))); (case side2 => exact HC294.out); rintro e w83 ⟨rfl, hb⟩; refine ⟨_, rfl, ?_⟩; have n0_ := Aside0.mk (Kd.R_below (by (with_reducible repeat (first | apply Kd.R_alloc | apply Kd.R_drewN | apply Kd.R_drew)); exact HO298.out) hb); have n1_ := Aside0.mk (below_step (by repeat (first | (with_reducible first | exact HB.out | apply below_alloc | apply pw_below_drewN | apply below_drew1) | exact HB.out)) hb); clear HO298; clear HB; have HO298 := n0_; have HB := n1_; clear n0_ n1_; (try clear hb); (try clear hb2); (try clear hk); (try clear hi)) | ((with_reducible refine gate_callee (f := 24) rfl ?_); refine goesL_ (some 35) rfl rfl Try.func24 (by kernel_rfl) rfl #[] rfl (by (try simp only [List.map_toArray, List.map_cons, List.map_nil]); first | done | rfl | (simp only [List.length_drop, List.length_take]; rfl)) ?_; (with_reducible refine (headroomlaw20_alive.calls k  true _ A50.out).mono ?_); rintro e w84 ⟨rfl, hb⟩; refine ⟨_, rfl, ?_⟩; have n0_ := Aside0.mk (Kd.R_below (by (with_reducible repeat (first | apply Kd.R_alloc | apply Kd.R_drewN | apply Kd.R_drew)); exact HO298.out) hb); have n1_ := Aside0.mk (below_step (by repeat (first | (with_reducible first | exact HB.out | apply below_alloc | apply pw_below_drewN | apply below_drew1) | exact HB.out)) hb); clear HO298; clear HB; have HO298 := n0_; have HB := n1_; clear n0_ n1_; (try clear hb); (try clear hb2); (try clear hk); (try clear hi); obtain ⟨Ao85, co85, eo85⟩ := Kd.R_slice HO298.out; subst eo85))
                  go_ret
                  exact ⟨by first | rfl | (simp [errW_none, errW_some] <;> rfl) | (simp only [← hji2]; first | rfl | (simp [errW_none, errW_some] <;> rfl)) | (simp [*, errW_none, errW_some] <;> rfl), by repeat (first | (with_reducible first | exact HB.out | apply below_alloc | apply pw_below_drewN | apply below_drew1) | exact HB.out)⟩
              · rw [if_neg c54] at H
                have c54b0 : (t303 == 2) = false := beq_eq_false_iff_ne.mpr c54
                have c54b1 : (t303 != 2) = true := bne_iff_ne.mpr c54
                obtain rfl := Option.some.inj H
                have q86 : ((ji2) : Int) ≤ ((l0.length : Int) : Int) := of_decide_eq_true (by first | (with_reducible assumption) | assumption)
                obtain ⟨i086, hi086, _, hsz86, _⟩ := info_parts info45
                have hroom86 : l0.length ≤ c0 := HC0.out
                have hC86 : Kd.C k45 _ A0 l0.length l0 := HR0.out
                have hcut86 := cut_to (P := Try.prog) 37 45 .i64 Try.underlying37 hi086 A0 l0.length c0 (ji2) (of_decide_eq_true (by first | (with_reducible assumption) | assumption)) q86 hroom86
                have hr86 := Kd.C_take (m := ((ji2) : Int).toNat) hC86 (by omega)
                have hy86 : y291.length = ((ji2) : Int).toNat := (by rw [Ny291.out, List.length_take]; omega)
                rw [← Ny291.out] at hr86
                rw [← hy86] at hcut86
                have HR294 := Aside0.mk hr86
                have HC294 := Aside0.mk (show y291.length ≤ c0 from by omega)
                clear hr86 hC86 hroom86 hi086 hsz86
                have KY86 := Aside0.mk hy86
                clear hy86
                replace q86 := eq_true q86
                go_enter Try.func7, Try.ntmps7
                go_wp2_with (first | ((with_reducible refine gate_callee (f := 25) rfl ?_); refine goesL_ (some 18) rfl rfl Try.func25 (by kernel_rfl) rfl #[.slice A0 y291.length c0] rfl (by (try simp only [List.map_toArray, List.map_cons, List.map_nil]); first | done | rfl | (simp only [List.length_drop, List.length_take]; rfl)) ?_; (with_reducible refine (power_Spectrum.calls _ _ y291 t295 t296 _ ?side1 ?side2 A5.out).mono ?_); (case side1 => repeat (first | exact HR294.out | (with_reducible refine Kd.C_alloc ?_ _) | (with_reducible refine Kd.C_drewN ?_ _) | (with_reducible refine Kd.C_drew ?_))); (case side2 => exact HC294.out); rintro e w87 ⟨v297, rfl, ho0, hb⟩; refine ⟨_, rfl, ?_⟩; have n0_ := Aside0.mk (Kd.R_lower ho0 (below_size (by repeat (first | (with_reducible first | exact HB.out | apply below_alloc | apply pw_below_drewN | apply below_drew1) | exact HB.out)))); have n1_ := Aside0.mk (below_step (by repeat (first | (with_reducible first | exact HB.out | apply below_alloc | apply pw_below_drewN | apply below_drew1) | exact HB.out)) hb); clear HB; have HO298 := n0_; have HB := n1_; clear n0_ n1_; (try clear hb); (try clear hb2); (try clear hk); (try clear hi); (try clear ho0)) | ((with_reducible refine gate_callee (f := 23) rfl ?_); refine goesL_ (some 23) rfl rfl Try.func23 (by kernel_rfl) rfl #[.slice A0 y291.length c0] rfl (by (try simp only [List.map_toArray, List.map_cons, List.map_nil]); first | done | rfl | (simp only [List.length_drop, List.length_take]; rfl)) ?_; (with_reducible refine (power_Total.calls _ _ y291 t299 t300 t301 _ ?side1 ?side2 A6.out).mono ?_); (case side1 => repeat (first | exact (Kd.C_below HR294.out HB.out) | (with_reducible refine Kd.C_alloc ?_ _) | (with_reducible refine Kd.C_drewN ?_ _) | (with_reducible refine Kd.C_drew ?_))); (case side2 => exact HC294.out); rintro e w88 ⟨rfl, hb⟩; refine ⟨_, rfl, ?_⟩; have n0_ := Aside0.mk (Kd.R_below (by (with_reducible repeat (first | apply Kd.R_alloc | apply Kd.R_drewN | apply Kd.R_drew)); exact HO298.out) hb); have n1_ := Aside0.mk (below_step (by repeat (first | (with_reducible first | exact HB.out | apply below_alloc | apply pw_below_drewN | apply below_drew1) | exact HB.out)) hb); clear HO298; clear HB; have HO298 := n0_; have HB := n1_; clear n0_ n1_; (try clear hb); (try clear hb2); (try clear hk); (try clear hi)) | ((with_reducible refine gate_callee (f := 26) rfl ?_); refine goesL_ (some 29) rfl rfl Try.func26 (by kernel_rfl) rfl #[.slice A0 y291.length c0] rfl (by (try simp only [List.map_toArray, List.map_cons, List.map_nil]); first | done | rfl | (simp only [List.length_drop, List.length_take]; rfl)) ?_; (with_reducible refine (power_Peak.calls k _ _ y291 t302 t303 _ ?side1 ?side2 A7.out).mono ?_); (case side1 => repeat (first | exact (Kd.C_below HR294.out HB.out) | (with_reducible refine Kd.C_alloc ?_ _) | (with_reducible refine Kd.C_drewN ?_ _) | (with_reducible refine Kd.C_drew ?_))); (case side2 => exact HC294.out); rintro e w89 ⟨rfl, hb⟩; refine ⟨_, rfl, ?_⟩; have n0_ := Aside0.mk (Kd.R_below (by (with_reducible repeat (first | apply Kd.R_alloc | apply Kd.R_drewN | apply Kd.R_drew)); exact HO298.out) hb); have n1_ := Aside0.mk (below_step (by repeat (first | (with_reducible first | exact HB.out | apply below_alloc | apply pw_below_drewN | apply below_drew1) | exact HB.out)) hb); clear HO298; clear HB; have HO298 := n0_; have HB := n1_; clear n0_ n1_; (try clear hb); (try clear hb2); (try clear hk); (try clear hi)) | ((with_reducible refine gate_callee (f := 27) rfl ?_); refine goesL_ (some 33) rfl rfl Try.func27 (by kernel_rfl) rfl #[.slice A0 y291.length c0] rfl (by (try simp only [List.map_toArray, List.map_cons, List.map_nil]); first | done | rfl | (simp only [List.length_drop, List.length_take]; rfl)) ?_; (with_reducible refine (headroomref09_Narrow.calls k _ _ y291 false _ ?side1 ?side2 A8.out).mono ?_); (case side1 => repeat (first | exact (Kd.C_below HR294.out HB.out) | (with_reducible refine Kd.C_alloc ?_ _) | (with_reducible refine Kd.C_drewN ?_ _) | (with_reducible refine Kd.C_drew ?_))); (case side2 => exact HC294.out); rintro e w90 ⟨rfl, hb⟩; refine ⟨_, rfl, ?_⟩; have n0_ := Aside0.mk (Kd.R_below (by (with_reducible repeat (first | apply Kd.R_alloc | apply Kd.R_drewN | apply Kd.R_drew)); exact HO298.out) hb); have n1_ := Aside0.mk (below_step (by repeat (first | (with_reducible first | exact HB.out | apply below_alloc | apply pw_below_drewN | apply below_drew1) | exact HB.out)) hb); clear HO298; clear HB; have HO298 := n0_; have HB := n1_; clear n0_ n1_; (try clear hb); (try clear hb2); (try clear hk); (try clear hi)) | ((with_reducible refine gate_callee (f := 24) rfl ?_); refine goesL_ (some 35) rfl rfl Try.func24 (by kernel_rfl) rfl #[] rfl (by (try simp only [List.map_toArray, List.map_cons, List.map_nil]); first | done | rfl | (simp only [List.length_drop, List.length_take]; rfl)) ?_; (with_reducible refine (headroomlaw20_alive.calls k  true _ A50.out).mono ?_); rintro e w91 ⟨rfl, hb⟩; refine ⟨_, rfl, ?_⟩; have n0_ := Aside0.mk (Kd.R_below (by (with_reducible repeat (first | apply Kd.R_alloc | apply Kd.R_drewN | apply Kd.R_drew)); exact HO298.out) hb); have n1_ := Aside0.mk (below_step (by repeat (first | (with_reducible first | exact HB.out | apply below_alloc | apply pw_below_drewN | apply below_drew1) | exact HB.out)) hb); clear HO298; clear HB; have HO298 := n0_; have HB := n1_; clear n0_ n1_; (try clear hb); (try clear hb2); (try clear hk); (try clear hi)))
                go_ret
                exact ⟨by first | rfl | (simp [errW_none, errW_some] <;> rfl) | (simp only [← hji2]; first | rfl | (simp [errW_none, errW_some] <;> rfl)) | (simp [*, errW_none, errW_some] <;> rfl), by repeat (first | (with_reducible first | exact HB.out | apply below_alloc | apply pw_below_drewN | apply below_drew1) | exact HB.out)⟩
            · rw [if_neg c53] at H
              have c53b0 : (t301 == 2) = false := beq_eq_false_iff_ne.mpr c53
              have c53b1 : (t301 != 2) = true := bne_iff_ne.mpr c53
              obtain rfl := Option.some.inj H
              have q92 : ((ji2) : Int) ≤ ((l0.length : Int) : Int) := of_decide_eq_true (by first | (with_reducible assumption) | assumption)
              obtain ⟨i092, hi092, _, hsz92, _⟩ := info_parts info45
              have hroom92 : l0.length ≤ c0 := HC0.out
              have hC92 : Kd.C k45 _ A0 l0.length l0 := HR0.out
              have hcut92 := cut_to (P := Try.prog) 37 45 .i64 Try.underlying37 hi092 A0 l0.length c0 (ji2) (of_decide_eq_true (by first | (with_reducible assumption) | assumption)) q92 hroom92
              have hr92 := Kd.C_take (m := ((ji2) : Int).toNat) hC92 (by omega)
              have hy92 : y291.length = ((ji2) : Int).toNat := (by rw [Ny291.out, List.length_take]; omega)
              rw [← Ny291.out] at hr92
              rw [← hy92] at hcut92
              have HR294 := Aside0.mk hr92
              have HC294 := Aside0.mk (show y291.length ≤ c0 from by omega)
              clear hr92 hC92 hroom92 hi092 hsz92
              have KY92 := Aside0.mk hy92
              clear hy92
              replace q92 := eq_true q92
              go_enter Try.func7, Try.ntmps7
              go_wp2_with (first | ((with_reducible refine gate_callee (f := 25) rfl ?_); refine goesL_ (some 18) rfl rfl Try.func25 (by kernel_rfl) rfl #[.slice A0 y291.length c0] rfl (by (try simp only [List.map_toArray, List.map_cons, List.map_nil]); first | done | rfl | (simp only [List.length_drop, List.length_take]; rfl)) ?_; (with_reducible refine (power_Spectrum.calls _ _ y291 t295 t296 _ ?side1 ?side2 A5.out).mono ?_); (case side1 => repeat (first | exact HR294.out | (with_reducible refine Kd.C_alloc ?_ _) | (with_reducible refine Kd.C_drewN ?_ _) | (with_reducible refine Kd.C_drew ?_))); (case side2 => exact HC294.out); rintro e w93 ⟨v297, rfl, ho0, hb⟩; refine ⟨_, rfl, ?_⟩; have n0_ := Aside0.mk (Kd.R_lower ho0 (below_size (by repeat (first | (with_reducible first | exact HB.out | apply below_alloc | apply pw_below_drewN | apply below_drew1) | exact HB.out)))); have n1_ := Aside0.mk (below_step (by repeat (first | (with_reducible first | exact HB.out | apply below_alloc | apply pw_below_drewN | apply below_drew1) | exact HB.out)) hb); clear HB; have HO298 := n0_; have HB := n1_; clear n0_ n1_; (try clear hb); (try clear hb2); (try clear hk); (try clear hi); (try clear ho0)) | ((with_reducible refine gate_callee (f := 23) rfl ?_); refine goesL_ (some 23) rfl rfl Try.func23 (by kernel_rfl) rfl #[.slice A0 y291.length c0] rfl (by (try simp only [List.map_toArray, List.map_cons, List.map_nil]); first | done | rfl | (simp only [List.length_drop, List.length_take]; rfl)) ?_; (with_reducible refine (power_Total.calls _ _ y291 t299 t300 t301 _ ?side1 ?side2 A6.out).mono ?_); (case side1 => repeat (first | exact (Kd.C_below HR294.out HB.out) | (with_reducible refine Kd.C_alloc ?_ _) | (with_reducible refine Kd.C_drewN ?_ _) | (with_reducible refine Kd.C_drew ?_))); (case side2 => exact HC294.out); rintro e w94 ⟨rfl, hb⟩; refine ⟨_, rfl, ?_⟩; have n0_ := Aside0.mk (Kd.R_below (by (with_reducible repeat (first | apply Kd.R_alloc | apply Kd.R_drewN | apply Kd.R_drew)); exact HO298.out) hb); have n1_ := Aside0.mk (below_step (by repeat (first | (with_reducible first | exact HB.out | apply below_alloc | apply pw_below_drewN | apply below_drew1) | exact HB.out)) hb); clear HO298; clear HB; have HO298 := n0_; have HB := n1_; clear n0_ n1_; (try clear hb); (try clear hb2); (try clear hk); (try clear hi)) | ((with_reducible refine gate_callee (f := 26) rfl ?_); refine goesL_ (some 29) rfl rfl Try.func26 (by kernel_rfl) rfl #[.slice A0 y291.length c0] rfl (by (try simp only [List.map_toArray, List.map_cons, List.map_nil]); first | done | rfl | (simp only [List.length_drop, List.length_take]; rfl)) ?_; (with_reducible refine (power_Peak.calls k _ _ y291 t302 t303 _ ?side1 ?side2 A7.out).mono ?_); (case side1 => repeat (first | exact (Kd.C_below HR294.out HB.out) | (with_reducible refine Kd.C_alloc ?_ _) | (with_reducible refine Kd.C_drewN ?_ _) | (with_reducible refine Kd.C_drew ?_))); (case side2 => exact HC294.out); rintro e w95 ⟨rfl, hb⟩; refine ⟨_, rfl, ?_⟩; have n0_ := Aside0.mk (Kd.R_below (by (with_reducible repeat (first | apply Kd.R_alloc | apply Kd.R_drewN | apply Kd.R_drew)); exact HO298.out) hb); have n1_ := Aside0.mk (below_step (by repeat (first | (with_reducible first | exact HB.out | apply below_alloc | apply pw_below_drewN | apply below_drew1) | exact HB.out)) hb); clear HO298; clear HB; have HO298 := n0_; have HB := n1_; clear n0_ n1_; (try clear hb); (try clear hb2); (try clear hk); (try clear hi)) | ((with_reducible refine gate_callee (f := 27) rfl ?_); refine goesL_ (some 33) rfl rfl Try.func27 (by kernel_rfl) rfl #[.slice A0 y291.length c0] rfl (by (try simp only [List.map_toArray, List.map_cons, List.map_nil]); first | done | rfl | (simp only [List.length_drop, List.length_take]; rfl)) ?_; (with_reducible refine (headroomref09_Narrow.calls k _ _ y291 false _ ?side1 ?side2 A8.out).mono ?_); (case side1 => repeat (first | exact (Kd.C_below HR294.out HB.out) | (with_reducible refine Kd.C_alloc ?_ _) | (with_reducible refine Kd.C_drewN ?_ _) | (with_reducible refine Kd.C_drew ?_))); (case side2 => exact HC294.out); rintro e w96 ⟨rfl, hb⟩; refine ⟨_, rfl, ?_⟩; have n0_ := Aside0.mk (Kd.R_below (by (with_reducible repeat (first | apply Kd.R_alloc | apply Kd.R_drewN | apply Kd.R_drew)); exact HO298.out) hb); have n1_ := Aside0.mk (below_step (by repeat (first | (with_reducible first | exact HB.out | apply below_alloc | apply pw_below_drewN | apply below_drew1) | exact HB.out)) hb); clear HO298; clear HB; have HO298 := n0_; have HB := n1_; clear n0_ n1_; (try clear hb); (try clear hb2); (try clear hk); (try clear hi)) | ((with_reducible refine gate_callee (f := 24) rfl ?_); refine goesL_ (some 35) rfl rfl Try.func24 (by kernel_rfl) rfl #[] rfl (by (try simp only [List.map_toArray, List.map_cons, List.map_nil]); first | done | rfl | (simp only [List.length_drop, List.length_take]; rfl)) ?_; (with_reducible refine (headroomlaw20_alive.calls k  true _ A50.out).mono ?_); rintro e w97 ⟨rfl, hb⟩; refine ⟨_, rfl, ?_⟩; have n0_ := Aside0.mk (Kd.R_below (by (with_reducible repeat (first | apply Kd.R_alloc | apply Kd.R_drewN | apply Kd.R_drew)); exact HO298.out) hb); have n1_ := Aside0.mk (below_step (by repeat (first | (with_reducible first | exact HB.out | apply below_alloc | apply pw_below_drewN | apply below_drew1) | exact HB.out)) hb); clear HO298; clear HB; have HO298 := n0_; have HB := n1_; clear n0_ n1_; (try clear hb); (try clear hb2); (try clear hk); (try clear hi)))
              go_ret
              exact ⟨by first | rfl | (simp [errW_none, errW_some] <;> rfl) | (simp only [← hji2]; first | rfl | (simp [errW_none, errW_some] <;> rfl)) | (simp [*, errW_none, errW_some] <;> rfl), by repeat (first | (with_reducible first | exact HB.out | apply below_alloc | apply pw_below_drewN | apply below_drew1) | exact HB.out)⟩
          · rw [if_neg c52] at H
            have c52b0 : (t296 == 2) = false := beq_eq_false_iff_ne.mpr c52
            have c52b1 : (t296 != 2) = true := bne_iff_ne.mpr c52
            obtain rfl := Option.some.inj H
            have q98 : ((ji2) : Int) ≤ ((l0.length : Int) : Int) := of_decide_eq_true (by first | (with_reducible assumption) | assumption)
            obtain ⟨i098, hi098, _, hsz98, _⟩ := info_parts info45
            have hroom98 : l0.length ≤ c0 := HC0.out
            have hC98 : Kd.C k45 _ A0 l0.length l0 := HR0.out
            have hcut98 := cut_to (P := Try.prog) 37 45 .i64 Try.underlying37 hi098 A0 l0.length c0 (ji2) (of_decide_eq_true (by first | (with_reducible assumption) | assumption)) q98 hroom98
            have hr98 := Kd.C_take (m := ((ji2) : Int).toNat) hC98 (by omega)
            have hy98 : y291.length = ((ji2) : Int).toNat := (by rw [Ny291.out, List.length_take]; omega)
            rw [← Ny291.out] at hr98
            rw [← hy98] at hcut98
            have HR294 := Aside0.mk hr98
            have HC294 := Aside0.mk (show y291.length ≤ c0 from by omega)
            clear hr98 hC98 hroom98 hi098 hsz98
            have KY98 := Aside0.mk hy98
            clear hy98
            replace q98 := eq_true q98
            go_enter Try.func7, Try.ntmps7
            go_wp2_with (first | ((with_reducible refine gate_callee (f := 25) rfl ?_); refine goesL_ (some 18) rfl rfl Try.func25 (by kernel_rfl) rfl #[.slice A0 y291.length c0] rfl (by (try simp only [List.map_toArray, List.map_cons, List.map_nil]); first | done | rfl | (simp only [List.length_drop, List.length_take]; rfl)) ?_; (with_reducible refine (power_Spectrum.calls _ _ y291 t295 t296 _ ?side1 ?side2 A5.out).mono ?_); (case side1 => repeat (first | exact HR294.out | (with_reducible refine Kd.C_alloc ?_ _) | (with_reducible refine Kd.C_drewN ?_ _) | (with_reducible refine Kd.C_drew ?_))); (case side2 => exact HC294.out); rintro e w99 ⟨v297, rfl, ho0, hb⟩; refine ⟨_, rfl, ?_⟩; have n0_ := Aside0.mk (Kd.R_lower ho0 (below_size (by repeat (first | (with_reducible first | exact HB.out | apply below_alloc | apply pw_below_drewN | apply below_drew1) | exact HB.out)))); have n1_ := Aside0.mk (below_step (by repeat (first | (with_reducible first | exact HB.out | apply below_alloc | apply pw_below_drewN | apply below_drew1) | exact HB.out)) hb); clear HB; have HO298 := n0_; have HB := n1_; clear n0_ n1_; (try clear hb); (try clear hb2); (try clear hk); (try clear hi); (try clear ho0)) | ((with_reducible refine gate_callee (f := 23) rfl ?_); refine goesL_ (some 23) rfl rfl Try.func23 (by kernel_rfl) rfl #[.slice A0 y291.length c0] rfl (by (try simp only [List.map_toArray, List.map_cons, List.map_nil]); first | done | rfl | (simp only [List.length_drop, List.length_take]; rfl)) ?_; (with_reducible refine (power_Total.calls _ _ y291 t299 t300 t301 _ ?side1 ?side2 A6.out).mono ?_); (case side1 => repeat (first | exact (Kd.C_below HR294.out HB.out) | (with_reducible refine Kd.C_alloc ?_ _) | (with_reducible refine Kd.C_drewN ?_ _) | (with_reducible refine Kd.C_drew ?_))); (case side2 => exact HC294.out); rintro e w100 ⟨rfl, hb⟩; refine ⟨_, rfl, ?_⟩; have n0_ := Aside0.mk (Kd.R_below (by (with_reducible repeat (first | apply Kd.R_alloc | apply Kd.R_drewN | apply Kd.R_drew)); exact HO298.out) hb); have n1_ := Aside0.mk (below_step (by repeat (first | (with_reducible first | exact HB.out | apply below_alloc | apply pw_below_drewN | apply below_drew1) | exact HB.out)) hb); clear HO298; clear HB; have HO298 := n0_; have HB := n1_; clear n0_ n1_; (try clear hb); (try clear hb2); (try clear hk); (try clear hi)) | ((with_reducible refine gate_callee (f := 26) rfl ?_); refine goesL_ (some 29) rfl rfl Try.func26 (by kernel_rfl) rfl #[.slice A0 y291.length c0] rfl (by (try simp only [List.map_toArray, List.map_cons, List.map_nil]); first | done | rfl | (simp only [List.length_drop, List.length_take]; rfl)) ?_; (with_reducible refine (power_Peak.calls k _ _ y291 t302 t303 _ ?side1 ?side2 A7.out).mono ?_); (case side1 => repeat (first | exact (Kd.C_below HR294.out HB.out) | (with_reducible refine Kd.C_alloc ?_ _) | (with_reducible refine Kd.C_drewN ?_ _) | (with_reducible refine Kd.C_drew ?_))); (case side2 => exact HC294.out); rintro e w101 ⟨rfl, hb⟩; refine ⟨_, rfl, ?_⟩; have n0_ := Aside0.mk (Kd.R_below (by (with_reducible repeat (first | apply Kd.R_alloc | apply Kd.R_drewN | apply Kd.R_drew)); exact HO298.out) hb); have n1_ := Aside0.mk (below_step (by repeat (first | (with_reducible first | exact HB.out | apply below_alloc | apply pw_below_drewN | apply below_drew1) | exact HB.out)) hb); clear HO298; clear HB; have HO298 := n0_; have HB := n1_; clear n0_ n1_; (try clear hb); (try clear hb2); (try clear hk); (try clear hi)) | ((with_reducible refine gate_callee (f := 27) rfl ?_); refine goesL_ (some 33) rfl rfl Try.func27 (by kernel_rfl) rfl #[.slice A0 y291.length c0] rfl (by (try simp only [List.map_toArray, List.map_cons, List.map_nil]); first | done | rfl | (simp only [List.length_drop, List.length_take]; rfl)) ?_; (with_reducible refine (headroomref09_Narrow.calls k _ _ y291 false _ ?side1 ?side2 A8.out).mono ?_); (case side1 => repeat (first | exact (Kd.C_below HR294.out HB.out) | (with_reducible refine Kd.C_alloc ?_ _) | (with_reducible refine Kd.C_drewN ?_ _) | (with_reducible refine Kd.C_drew ?_))); (case side2 => exact HC294.out); rintro e w102 ⟨rfl, hb⟩; refine ⟨_, rfl, ?_⟩; have n0_ := Aside0.mk (Kd.R_below (by (with_reducible repeat (first | apply Kd.R_alloc | apply Kd.R_drewN | apply Kd.R_drew)); exact HO298.out) hb); have n1_ := Aside0.mk (below_step (by repeat (first | (with_reducible first | exact HB.out | apply below_alloc | apply pw_below_drewN | apply below_drew1) | exact HB.out)) hb); clear HO298; clear HB; have HO298 := n0_; have HB := n1_; clear n0_ n1_; (try clear hb); (try clear hb2); (try clear hk); (try clear hi)) | ((with_reducible refine gate_callee (f := 24) rfl ?_); refine goesL_ (some 35) rfl rfl Try.func24 (by kernel_rfl) rfl #[] rfl (by (try simp only [List.map_toArray, List.map_cons, List.map_nil]); first | done | rfl | (simp only [List.length_drop, List.length_take]; rfl)) ?_; (with_reducible refine (headroomlaw20_alive.calls k  true _ A50.out).mono ?_); rintro e w103 ⟨rfl, hb⟩; refine ⟨_, rfl, ?_⟩; have n0_ := Aside0.mk (Kd.R_below (by (with_reducible repeat (first | apply Kd.R_alloc | apply Kd.R_drewN | apply Kd.R_drew)); exact HO298.out) hb); have n1_ := Aside0.mk (below_step (by repeat (first | (with_reducible first | exact HB.out | apply below_alloc | apply pw_below_drewN | apply below_drew1) | exact HB.out)) hb); clear HO298; clear HB; have HO298 := n0_; have HB := n1_; clear n0_ n1_; (try clear hb); (try clear hb2); (try clear hk); (try clear hi)))
            go_ret
            exact ⟨by first | rfl | (simp [errW_none, errW_some] <;> rfl) | (simp only [← hji2]; first | rfl | (simp [errW_none, errW_some] <;> rfl)) | (simp [*, errW_none, errW_some] <;> rfl), by repeat (first | (with_reducible first | exact HB.out | apply below_alloc | apply pw_below_drewN | apply below_drew1) | exact HB.out)⟩
        · replace c51 := Bool.eq_false_iff.mpr c51
          subst c51
          have H1 : (some false) = some r := by rw [if_neg (show ¬ (false = true) by decide)] at H; exact H
          clear H
          have H := H1
          clear H1
          obtain rfl := Option.some.inj H
          have q104 : ((ji2) : Int) ≤ ((l0.length : Int) : Int) := of_decide_eq_true (by first | (with_reducible assumption) | assumption)
          obtain ⟨i0104, hi0104, _, hsz104, _⟩ := info_parts info45
          have hroom104 : l0.length ≤ c0 := HC0.out
          have hC104 : Kd.C k45 _ A0 l0.length l0 := HR0.out
          have hcut104 := cut_to (P := Try.prog) 37 45 .i64 Try.underlying37 hi0104 A0 l0.length c0 (ji2) (of_decide_eq_true (by first | (with_reducible assumption) | assumption)) q104 hroom104
          have hr104 := Kd.C_take (m := ((ji2) : Int).toNat) hC104 (by omega)
          have hy104 : y291.length = ((ji2) : Int).toNat := (by rw [Ny291.out, List.length_take]; omega)
          rw [← Ny291.out] at hr104
          rw [← hy104] at hcut104
          have HR294 := Aside0.mk hr104
          have HC294 := Aside0.mk (show y291.length ≤ c0 from by omega)
          clear hr104 hC104 hroom104 hi0104 hsz104
          have KY104 := Aside0.mk hy104
          clear hy104
          replace q104 := eq_true q104
          go_enter Try.func7, Try.ntmps7
          go_wp2_with (first | ((with_reducible refine gate_callee (f := 25) rfl ?_); refine goesL_ (some 18) rfl rfl Try.func25 (by kernel_rfl) rfl #[.slice A0 y291.length c0] rfl (by (try simp only [List.map_toArray, List.map_cons, List.map_nil]); first | done | rfl | (simp only [List.length_drop, List.length_take]; rfl)) ?_; (with_reducible refine (power_Spectrum.calls _ _ y291 t295 t296 _ ?side1 ?side2 A5.out).mono ?_); (case side1 => repeat (first | exact HR294.out | (with_reducible refine Kd.C_alloc ?_ _) | (with_reducible refine Kd.C_drewN ?_ _) | (with_reducible refine Kd.C_drew ?_))); (case side2 => exact HC294.out); rintro e w105 ⟨v297, rfl, ho0, hb⟩; refine ⟨_, rfl, ?_⟩; have n0_ := Aside0.mk (Kd.R_lower ho0 (below_size (by repeat (first | (with_reducible first | exact HB.out | apply below_alloc | apply pw_below_drewN | apply below_drew1) | exact HB.out)))); have n1_ := Aside0.mk (below_step (by repeat (first | (with_reducible first | exact HB.out | apply below_alloc | apply pw_below_drewN | apply below_drew1) | exact HB.out)) hb); clear HB; have HO298 := n0_; have HB := n1_; clear n0_ n1_; (try clear hb); (try clear hb2); (try clear hk); (try clear hi); (try clear ho0)) | ((with_reducible refine gate_callee (f := 23) rfl ?_); refine goesL_ (some 23) rfl rfl Try.func23 (by kernel_rfl) rfl #[.slice A0 y291.length c0] rfl (by (try simp only [List.map_toArray, List.map_cons, List.map_nil]); first | done | rfl | (simp only [List.length_drop, List.length_take]; rfl)) ?_; (with_reducible refine (power_Total.calls _ _ y291 t299 t300 t301 _ ?side1 ?side2 A6.out).mono ?_); (case side1 => repeat (first | exact (Kd.C_below HR294.out HB.out) | (with_reducible refine Kd.C_alloc ?_ _) | (with_reducible refine Kd.C_drewN ?_ _) | (with_reducible refine Kd.C_drew ?_))); (case side2 => exact HC294.out); rintro e w106 ⟨rfl, hb⟩; refine ⟨_, rfl, ?_⟩; have n0_ := Aside0.mk (Kd.R_below (by (with_reducible repeat (first | apply Kd.R_alloc | apply Kd.R_drewN | apply Kd.R_drew)); exact HO298.out) hb); have n1_ := Aside0.mk (below_step (by repeat (first | (with_reducible first | exact HB.out | apply below_alloc | apply pw_below_drewN | apply below_drew1) | exact HB.out)) hb); clear HO298; clear HB; have HO298 := n0_; have HB := n1_; clear n0_ n1_; (try clear hb); (try clear hb2); (try clear hk); (try clear hi)) | ((with_reducible refine gate_callee (f := 26) rfl ?_); refine goesL_ (some 29) rfl rfl Try.func26 (by kernel_rfl) rfl #[.slice A0 y291.length c0] rfl (by (try simp only [List.map_toArray, List.map_cons, List.map_nil]); first | done | rfl | (simp only [List.length_drop, List.length_take]; rfl)) ?_; (with_reducible refine (power_Peak.calls k _ _ y291 t302 t303 _ ?side1 ?side2 A7.out).mono ?_); (case side1 => repeat (first | exact (Kd.C_below HR294.out HB.out) | (with_reducible refine Kd.C_alloc ?_ _) | (with_reducible refine Kd.C_drewN ?_ _) | (with_reducible refine Kd.C_drew ?_))); (case side2 => exact HC294.out); rintro e w107 ⟨rfl, hb⟩; refine ⟨_, rfl, ?_⟩; have n0_ := Aside0.mk (Kd.R_below (by (with_reducible repeat (first | apply Kd.R_alloc | apply Kd.R_drewN | apply Kd.R_drew)); exact HO298.out) hb); have n1_ := Aside0.mk (below_step (by repeat (first | (with_reducible first | exact HB.out | apply below_alloc | apply pw_below_drewN | apply below_drew1) | exact HB.out)) hb); clear HO298; clear HB; have HO298 := n0_; have HB := n1_; clear n0_ n1_; (try clear hb); (try clear hb2); (try clear hk); (try clear hi)) | ((with_reducible refine gate_callee (f := 27) rfl ?_); refine goesL_ (some 33) rfl rfl Try.func27 (by kernel_rfl) rfl #[.slice A0 y291.length c0] rfl (by (try simp only [List.map_toArray, List.map_cons, List.map_nil]); first | done | rfl | (simp only [List.length_drop, List.length_take]; rfl)) ?_; (with_reducible refine (headroomref09_Narrow.calls k _ _ y291 false _ ?side1 ?side2 A8.out).mono ?_); (case side1 => repeat (first | exact (Kd.C_below HR294.out HB.out) | (with_reducible refine Kd.C_alloc ?_ _) | (with_reducible refine Kd.C_drewN ?_ _) | (with_reducible refine Kd.C_drew ?_))); (case side2 => exact HC294.out); rintro e w108 ⟨rfl, hb⟩; refine ⟨_, rfl, ?_⟩; have n0_ := Aside0.mk (Kd.R_below (by (with_reducible repeat (first | apply Kd.R_alloc | apply Kd.R_drewN | apply Kd.R_drew)); exact HO298.out) hb); have n1_ := Aside0.mk (below_step (by repeat (first | (with_reducible first | exact HB.out | apply below_alloc | apply pw_below_drewN | apply below_drew1) | exact HB.out)) hb); clear HO298; clear HB; have HO298 := n0_; have HB := n1_; clear n0_ n1_; (try clear hb); (try clear hb2); (try clear hk); (try clear hi)) | ((with_reducible refine gate_callee (f := 24) rfl ?_); refine goesL_ (some 35) rfl rfl Try.func24 (by kernel_rfl) rfl #[] rfl (by (try simp only [List.map_toArray, List.map_cons, List.map_nil]); first | done | rfl | (simp only [List.length_drop, List.length_take]; rfl)) ?_; (with_reducible refine (headroomlaw20_alive.calls k  false _ A50.out).mono ?_); rintro e w109 ⟨rfl, hb⟩; refine ⟨_, rfl, ?_⟩; have n0_ := Aside0.mk (Kd.R_below (by (with_reducible repeat (first | apply Kd.R_alloc | apply Kd.R_drewN | apply Kd.R_drew)); exact HO298.out) hb); have n1_ := Aside0.mk (below_step (by repeat (first | (with_reducible first | exact HB.out | apply below_alloc | apply pw_below_drewN | apply below_drew1) | exact HB.out)) hb); clear HO298; clear HB; have HO298 := n0_; have HB := n1_; clear n0_ n1_; (try clear hb); (try clear hb2); (try clear hk); (try clear hi)))
          go_ret
          exact ⟨by first | rfl | (simp [errW_none, errW_some] <;> rfl) | (simp only [← hji2]; first | rfl | (simp [errW_none, errW_some] <;> rfl)) | (simp [*, errW_none, errW_some] <;> rfl), by repeat (first | (with_reducible first | exact HB.out | apply below_alloc | apply pw_below_drewN | apply below_drew1) | exact HB.out)⟩
    · rw [if_neg c4] at H
      exact absurd H (by simp)
  · rw [if_neg c3] at H
    exact absurd H (by simp)

end Go.Proofs.Ytajgpilcbaoneaa.P
