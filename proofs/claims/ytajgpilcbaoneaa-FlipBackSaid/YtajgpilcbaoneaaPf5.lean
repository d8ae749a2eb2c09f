-- Printed for this claim by drive.py (a program of this session's) through the kit's print program; not trusted: Lean checks it.
import Derived.Test.YtajgpilcbaoneaaP0
import Derived.Test.YtajgpilcbaoneaaPf19
import Derived.Test.YtajgpilcbaoneaaPg1
import Derived.Test.YtajgpilcbaoneaaPg2
import Derived.Test.YtajgpilcbaoneaaPg3
namespace Go.Proofs.Ytajgpilcbaoneaa.P
open Go.RowKit Go.Proofs.YtajgpilcbaoneaaW.PrintWords Go.Proofs.YtajgpilcbaoneaaW.PrintLast Go.Proofs.YtajgpilcbaoneaaW.PrintMore
attribute [local go_sem] max2_int min2_int max_two min_two max_three min_three max_four min_four   -- for this text's walks alone
set_option linter.unusedVariables false
set_option linter.unusedSimpArgs false

/-! ### headroomlaw08_FlipBack: function 5 -/
mutual
def headroomlaw08_FlipBack.j0 : Nat → Int → List Int → List Int → Int → Bool → Option (Bool)
  | 0, _, _, _, _, _ => none
  | k + 1, x7, x9, x11, x12, x82 => if x82 = true then (some false) else (headroomlaw08_FlipBack.l0 k x7 x9 x11 x12 0 x9 (x9.length : Int) 0)
def headroomlaw08_FlipBack.l0 : Nat → Int → List Int → List Int → Int → Int → List Int → Int → Int → Option (Bool)
  | 0, _, _, _, _, _, _, _, _ => none
  | k + 1, x7, x9, x11, x12, x13, x83, x84, x85 => if x85 < x84 then (if 0 ≤ x85 then (if x85 < (x83.length : Int) then (if (rd x83 x85) < 0 then (headroomlaw08_FlipBack.j2 k x7 x9 x11 x12 x13 x85 (rd x83 x85) x83 x84 x85 true) else (if (rd x83 x85) ≥ (x9.length : Int) then (headroomlaw08_FlipBack.j2 k x7 x9 x11 x12 x13 x85 (rd x83 x85) x83 x84 x85 true) else (if 0 ≤ (rd x83 x85) then (headroomlaw08_FlipBack.j2 k x7 x9 x11 x12 x13 x85 (rd x83 x85) x83 x84 x85 ((Go.bits .and .u64 (shr .u64 x13 (rd x83 x85)) 1) == 1)) else (none)))) else (none)) else (none)) else (if x12 = 0 then (some true) else (some (x7 == 2)))
def headroomlaw08_FlipBack.j2 : Nat → Int → List Int → List Int → Int → Int → Int → Int → List Int → Int → Int → Bool → Option (Bool)
  | 0, _, _, _, _, _, _, _, _, _, _, _ => none
  | k + 1, x7, x9, x11, x12, x13, x14, x15, x83, x84, x85, x104 => if x104 = true then (some false) else (if 0 ≤ x15 then (if x12 = 0 then (if x14 < (x11.length : Int) then (if (Int.tmod x15 2) = 0 then (if 0 ≤ x14 then (if (wrap64 (Int.tdiv x15 2)) = (rd x11 x14) then (headroomlaw08_FlipBack.l0 k x7 x9 x11 x12 (Go.bits .or .u64 x13 (shl .u64 1 x15)) x83 x84 (wrap64 (x85 + 1))) else (some false)) else (none)) else (some false)) else (headroomlaw08_FlipBack.l0 k x7 x9 x11 x12 (Go.bits .or .u64 x13 (shl .u64 1 x15)) x83 x84 (wrap64 (x85 + 1)))) else (headroomlaw08_FlipBack.l0 k x7 x9 x11 x12 (Go.bits .or .u64 x13 (shl .u64 1 x15)) x83 x84 (wrap64 (x85 + 1)))) else (none))
end
def headroomlaw08_FlipBack.f (k : Nat) (l0 : List (S45)) : Option (Bool) := if 0 ≤ (mn (l0.length : Int) 70) then (if (mn (l0.length : Int) 70) ≤ (l0.length : Int) then ((some (l0.take ((mn (l0.length : Int) 70) : Int).toNat : List (S45))).bind fun y188 => ((flip_Flip.f k y188).bind fun bt192 => ((flip_Flip.f k bt192.1).bind fun bt196 => (if bt192.2 = 0 then ((flip_Log.f k (y188.length : Int)).bind fun bt201 => ((flip_Row.f k bt201.1).bind fun bt203 => ((flip_Row.f k (wrap64 (bt201.1 - 1))).bind fun bt207 => (if bt196.2 = 0 then (if bt201.2 = 0 then (if bt203.2 = 0 then (if (bt203.1.length : Int) = (y188.length : Int) then ((headroomref03_Same.f k bt196.1 y188).bind fun t211 => (if t211 = true then ((headroomlaw08_alive.f k).bind fun t212 => (headroomlaw08_FlipBack.j0 k bt201.1 bt203.1 bt207.1 bt207.2 (!t212))) else (headroomlaw08_FlipBack.j0 k bt201.1 bt203.1 bt207.1 bt207.2 true))) else (headroomlaw08_FlipBack.j0 k bt201.1 bt203.1 bt207.1 bt207.2 true)) else (headroomlaw08_FlipBack.j0 k bt201.1 bt203.1 bt207.1 bt207.2 true)) else (headroomlaw08_FlipBack.j0 k bt201.1 bt203.1 bt207.1 bt207.2 true)) else (headroomlaw08_FlipBack.j0 k bt201.1 bt203.1 bt207.1 bt207.2 true))))) else ((headroomlaw08_alive.f k).bind fun t200 => (if t200 = true then (some ((bt192.1.length : Int) == 0)) else (some false))))))) else (none)) else (none)
theorem headroomlaw08_FlipBack.mono_l : ∀ k, (∀ y0 y1 y2 y3 y4, LeO (headroomlaw08_FlipBack.j0 k y0 y1 y2 y3 y4) (headroomlaw08_FlipBack.j0 (k + 1) y0 y1 y2 y3 y4)) ∧ (∀ y0 y1 y2 y3 y4 y5 y6 y7, LeO (headroomlaw08_FlipBack.l0 k y0 y1 y2 y3 y4 y5 y6 y7) (headroomlaw08_FlipBack.l0 (k + 1) y0 y1 y2 y3 y4 y5 y6 y7)) ∧ (∀ y0 y1 y2 y3 y4 y5 y6 y7 y8 y9 y10, LeO (headroomlaw08_FlipBack.j2 k y0 y1 y2 y3 y4 y5 y6 y7 y8 y9 y10) (headroomlaw08_FlipBack.j2 (k + 1) y0 y1 y2 y3 y4 y5 y6 y7 y8 y9 y10))
  | 0 => ⟨fun _ _ _ _ _ r h => by simp [headroomlaw08_FlipBack.j0] at h, fun _ _ _ _ _ _ _ _ r h => by simp [headroomlaw08_FlipBack.l0] at h, fun _ _ _ _ _ _ _ _ _ _ _ r h => by simp [headroomlaw08_FlipBack.j2] at h⟩
  | k + 1 => by
    obtain ⟨ih0, ih1, ih2⟩ := headroomlaw08_FlipBack.mono_l k
    refine ⟨?_, ?_, ?_⟩
    · intro y0 y1 y2 y3 y4
      unfold headroomlaw08_FlipBack.j0
      repeat' first
      | (with_reducible exact ih0 _ _ _ _ _)
      | (with_reducible exact ih1 _ _ _ _ _ _ _ _)
      | (with_reducible exact ih2 _ _ _ _ _ _ _ _ _ _ _)
      | (with_reducible exact flip_Flip.mono _ _)
      | (with_reducible exact flip_Log.mono _ _)
      | (with_reducible exact flip_Row.mono _ _)
      | (with_reducible exact headroomlaw08_alive.mono _)
      | (with_reducible exact headroomref03_Same.mono _ _ _)
      | (with_reducible exact LeO.refl _)
      | (with_reducible exact LeO.none _)
      | (with_reducible refine LeO.ite ?_ ?_)
      | (with_reducible refine LeO.bind ?_ (fun _ => ?_))
      | exact ih0 _ _ _ _ _
      | exact ih1 _ _ _ _ _ _ _ _
      | exact ih2 _ _ _ _ _ _ _ _ _ _ _
      | exact flip_Flip.mono _ _
      | exact flip_Log.mono _ _
      | exact flip_Row.mono _ _
      | exact headroomlaw08_alive.mono _
      | exact headroomref03_Same.mono _ _ _
      | exact LeO.none _
      | refine LeO.ite ?_ ?_
      | refine LeO.bind ?_ (fun _ => ?_)
    · intro y0 y1 y2 y3 y4 y5 y6 y7
      unfold headroomlaw08_FlipBack.l0
      repeat' first
      | (with_reducible exact ih0 _ _ _ _ _)
      | (with_reducible exact ih1 _ _ _ _ _ _ _ _)
      | (with_reducible exact ih2 _ _ _ _ _ _ _ _ _ _ _)
      | (with_reducible exact flip_Flip.mono _ _)
      | (with_reducible exact flip_Log.mono _ _)
      | (with_reducible exact flip_Row.mono _ _)
      | (with_reducible exact headroomlaw08_alive.mono _)
      | (with_reducible exact headroomref03_Same.mono _ _ _)
      | (with_reducible exact LeO.refl _)
      | (with_reducible exact LeO.none _)
      | (with_reducible refine LeO.ite ?_ ?_)
      | (with_reducible refine LeO.bind ?_ (fun _ => ?_))
      | exact ih0 _ _ _ _ _
      | exact ih1 _ _ _ _ _ _ _ _
      | exact ih2 _ _ _ _ _ _ _ _ _ _ _
      | exact flip_Flip.mono _ _
      | exact flip_Log.mono _ _
      | exact flip_Row.mono _ _
      | exact headroomlaw08_alive.mono _
      | exact headroomref03_Same.mono _ _ _
      | exact LeO.none _
      | refine LeO.ite ?_ ?_
      | refine LeO.bind ?_ (fun _ => ?_)
    · intro y0 y1 y2 y3 y4 y5 y6 y7 y8 y9 y10
      unfold headroomlaw08_FlipBack.j2
      repeat' first
      | (with_reducible exact ih0 _ _ _ _ _)
      | (with_reducible exact ih1 _ _ _ _ _ _ _ _)
      | (with_reducible exact ih2 _ _ _ _ _ _ _ _ _ _ _)
      | (with_reducible exact flip_Flip.mono _ _)
      | (with_reducible exact flip_Log.mono _ _)
      | (with_reducible exact flip_Row.mono _ _)
      | (with_reducible exact headroomlaw08_alive.mono _)
      | (with_reducible exact headroomref03_Same.mono _ _ _)
      | (with_reducible exact LeO.refl _)
      | (with_reducible exact LeO.none _)
      | (with_reducible refine LeO.ite ?_ ?_)
      | (with_reducible refine LeO.bind ?_ (fun _ => ?_))
      | exact ih0 _ _ _ _ _
      | exact ih1 _ _ _ _ _ _ _ _
      | exact ih2 _ _ _ _ _ _ _ _ _ _ _
      | exact flip_Flip.mono _ _
      | exact flip_Log.mono _ _
      | exact flip_Row.mono _ _
      | exact headroomlaw08_alive.mono _
      | exact headroomref03_Same.mono _ _ _
      | exact LeO.none _
      | refine LeO.ite ?_ ?_
      | refine LeO.bind ?_ (fun _ => ?_)
theorem headroomlaw08_FlipBack.mono : ∀ a0 k, LeO (headroomlaw08_FlipBack.f k a0) (headroomlaw08_FlipBack.f (k + 1) a0) := by
  intro a0 k
  obtain ⟨ih0, ih1, ih2⟩ := headroomlaw08_FlipBack.mono_l k
  unfold headroomlaw08_FlipBack.f
  repeat' first
      | (with_reducible exact ih0 _ _ _ _ _)
      | (with_reducible exact ih1 _ _ _ _ _ _ _ _)
      | (with_reducible exact ih2 _ _ _ _ _ _ _ _ _ _ _)
      | (with_reducible exact flip_Flip.mono _ _)
      | (with_reducible exact flip_Log.mono _ _)
      | (with_reducible exact flip_Row.mono _ _)
      | (with_reducible exact headroomlaw08_alive.mono _)
      | (with_reducible exact headroomref03_Same.mono _ _ _)
      | (with_reducible exact LeO.refl _)
      | (with_reducible exact LeO.none _)
      | (with_reducible refine LeO.ite ?_ ?_)
      | (with_reducible refine LeO.bind ?_ (fun _ => ?_))
      | exact ih0 _ _ _ _ _
      | exact ih1 _ _ _ _ _ _ _ _
      | exact ih2 _ _ _ _ _ _ _ _ _ _ _
      | exact flip_Flip.mono _ _
      | exact flip_Log.mono _ _
      | exact flip_Row.mono _ _
      | exact headroomlaw08_alive.mono _
      | exact headroomref03_Same.mono _ _ _
      | exact LeO.none _
      | refine LeO.ite ?_ ?_
      | refine LeO.bind ?_ (fun _ => ?_)
set_option maxHeartbeats 8000000 in
set_option maxRecDepth 100000 in
theorem headroomlaw08_FlipBack.calls (k : Nat) (A0 : Option Addr) (c0 : Nat) (l0 : List (S45)) (r : Bool) (w : World) (hr0 : Kd.C k45 w A0 l0.length l0) (hc0 : l0.length ≤ c0) (h : headroomlaw08_FlipBack.f k l0 = some r) :
    Calls Try.prog 5 #[.slice A0 l0.length c0] w fun e w' => e = .returned (.bool r) ∧ Below w.heap.size w w' := by
  have HR0 := Aside0.mk hr0
  have HC0 := Aside0.mk hc0
  clear hr0 hc0
  have HB := Aside0.mk (Below.refl w.heap.size w)
  have H : (if 0 ≤ (mn (l0.length : Int) 70) then (if (mn (l0.length : Int) 70) ≤ (l0.length : Int) then ((some (l0.take ((mn (l0.length : Int) 70) : Int).toNat : List (S45))).bind fun y188 => ((flip_Flip.f k y188).bind fun bt192 => ((flip_Flip.f k bt192.1).bind fun bt196 => (if bt192.2 = 0 then ((flip_Log.f k (y188.length : Int)).bind fun bt201 => ((flip_Row.f k bt201.1).bind fun bt203 => ((flip_Row.f k (wrap64 (bt201.1 - 1))).bind fun bt207 => (if bt196.2 = 0 then (if bt201.2 = 0 then (if bt203.2 = 0 then (if (bt203.1.length : Int) = (y188.length : Int) then ((headroomref03_Same.f k bt196.1 y188).bind fun t211 => (if t211 = true then ((headroomlaw08_alive.f k).bind fun t212 => (headroomlaw08_FlipBack.j0 k bt201.1 bt203.1 bt207.1 bt207.2 (!t212))) else (headroomlaw08_FlipBack.j0 k bt201.1 bt203.1 bt207.1 bt207.2 true))) else (headroomlaw08_FlipBack.j0 k bt201.1 bt203.1 bt207.1 bt207.2 true)) else (headroomlaw08_FlipBack.j0 k bt201.1 bt203.1 bt207.1 bt207.2 true)) else (headroomlaw08_FlipBack.j0 k bt201.1 bt203.1 bt207.1 bt207.2 true)) else (headroomlaw08_FlipBack.j0 k bt201.1 bt203.1 bt207.1 bt207.2 true))))) else ((headroomlaw08_alive.f k).bind fun t200 => (if t200 = true then (some ((bt192.1.length : Int) == 0)) else (some false))))))) else (none)) else (none)) = some r := h
  clear h
  obtain ⟨ji2, hji2⟩ : ∃ j_ : Int, (mn (l0.length : Int) 70) = j_ := ⟨_, rfl⟩
  replace H : (if 0 ≤ (ji2) then (if (ji2) ≤ (l0.length : Int) then ((some (l0.take ((ji2) : Int).toNat : List (S45))).bind fun y188 => ((flip_Flip.f k y188).bind fun bt192 => ((flip_Flip.f k bt192.1).bind fun bt196 => (if bt192.2 = 0 then ((flip_Log.f k (y188.length : Int)).bind fun bt201 => ((flip_Row.f k bt201.1).bind fun bt203 => ((flip_Row.f k (wrap64 (bt201.1 - 1))).bind fun bt207 => (if bt196.2 = 0 then (if bt201.2 = 0 then (if bt203.2 = 0 then (if (bt203.1.length : Int) = (y188.length : Int) then ((headroomref03_Same.f k bt196.1 y188).bind fun t211 => (if t211 = true then ((headroomlaw08_alive.f k).bind fun t212 => (headroomlaw08_FlipBack.j0 k bt201.1 bt203.1 bt207.1 bt207.2 (!t212))) else (headroomlaw08_FlipBack.j0 k bt201.1 bt203.1 bt207.1 bt207.2 true))) else (headroomlaw08_FlipBack.j0 k bt201.1 bt203.1 bt207.1 bt207.2 true)) else (headroomlaw08_FlipBack.j0 k bt201.1 bt203.1 bt207.1 bt207.2 true)) else (headroomlaw08_FlipBack.j0 k bt201.1 bt203.1 bt207.1 bt207.2 true)) else (headroomlaw08_FlipBack.j0 k bt201.1 bt203.1 bt207.1 bt207.2 true))))) else ((headroomlaw08_alive.f k).bind fun t200 => (if t200 = true then (some ((bt192.1.length : Int) == 0)) else (some false))))))) else (none)) else (none)) = some r := by first | (rw [hji2] at H; exact H) | (simp only [hji2] at H ⊢; exact H)
  (try (have hji2h : ji2 ≤ 70 := by (rw [← hji2]; unfold mn; (repeat' split) <;> omega)))
  (try (have hji2g : ji2 ≤ 64 := by omega))
  (try (have hji2l : 0 ≤ ji2 := by (rw [← hji2]; unfold mn; (repeat' split) <;> omega)))
  (try (have hji2m : 0 ≤ ji2 := by omega))
  have hji2_ : (if 70 < (l0.length : Int) then 70 else (l0.length : Int)) = ji2 := hji2
  have hji2q : decide (ji2 ≤ (l0.length : Int)) = true := decide_eq_true (by rw [← hji2_]; split <;> omega)
  by_cases c3 : 0 ≤ (ji2)
  · rw [if_pos c3] at H
    have c3b0 := eq_true c3
    have c3b1 : decide (0 ≤ (ji2)) = true := decide_eq_true c3
    clear c3
    by_cases c4 : (ji2) ≤ (l0.length : Int)
    · rw [if_pos c4] at H
      have c4b0 := eq_true c4
      have c4b1 : decide ((ji2) ≤ (l0.length : Int)) = true := decide_eq_true c4
      clear c4
      obtain ⟨y188, hy188⟩ : ∃ y_ : List (S45), y_ = (l0.take ((ji2) : Int).toNat) := ⟨_, rfl⟩
      replace H : ((flip_Flip.f k y188).bind fun bt192 => ((flip_Flip.f k bt192.1).bind fun bt196 => (if bt192.2 = 0 then ((flip_Log.f k (y188.length : Int)).bind fun bt201 => ((flip_Row.f k bt201.1).bind fun bt203 => ((flip_Row.f k (wrap64 (bt201.1 - 1))).bind fun bt207 => (if bt196.2 = 0 then (if bt201.2 = 0 then (if bt203.2 = 0 then (if (bt203.1.length : Int) = (y188.length : Int) then ((headroomref03_Same.f k bt196.1 y188).bind fun t211 => (if t211 = true then ((headroomlaw08_alive.f k).bind fun t212 => (headroomlaw08_FlipBack.j0 k bt201.1 bt203.1 bt207.1 bt207.2 (!t212))) else (headroomlaw08_FlipBack.j0 k bt201.1 bt203.1 bt207.1 bt207.2 true))) else (headroomlaw08_FlipBack.j0 k bt201.1 bt203.1 bt207.1 bt207.2 true)) else (headroomlaw08_FlipBack.j0 k bt201.1 bt203.1 bt207.1 bt207.2 true)) else (headroomlaw08_FlipBack.j0 k bt201.1 bt203.1 bt207.1 bt207.2 true)) else (headroomlaw08_FlipBack.j0 k bt201.1 bt203.1 bt207.1 bt207.2 true))))) else ((headroomlaw08_alive.f k).bind fun t200 => (if t200 = true then (some ((bt192.1.length : Int) == 0)) else (some false)))))) = some r := by first | (rw [hy188]; with_reducible exact H) | (have H2_ := (Option.bind_some _ _).symm.trans H; rw [hy188]; with_reducible exact H2_) | (have H2_ := (Option.bind_some _ _).symm.trans H; with_reducible exact H2_) | with_reducible exact H | (rw [hy188]; exact H) | exact H
      have Ny188 := Aside0.mk hy188
      clear hy188
      replace H := Option.bind_eq_some_iff.mp H
      obtain ⟨⟨t192, t193⟩, A50, H⟩ := H
      replace H : ((flip_Flip.f k t192).bind fun bt196 => (if t193 = 0 then ((flip_Log.f k (y188.length : Int)).bind fun bt201 => ((flip_Row.f k bt201.1).bind fun bt203 => ((flip_Row.f k (wrap64 (bt201.1 - 1))).bind fun bt207 => (if bt196.2 = 0 then (if bt201.2 = 0 then (if bt203.2 = 0 then (if (bt203.1.length : Int) = (y188.length : Int) then ((headroomref03_Same.f k bt196.1 y188).bind fun t211 => (if t211 = true then ((headroomlaw08_alive.f k).bind fun t212 => (headroomlaw08_FlipBack.j0 k bt201.1 bt203.1 bt207.1 bt207.2 (!t212))) else (headroomlaw08_FlipBack.j0 k bt201.1 bt203.1 bt207.1 bt207.2 true))) else (headroomlaw08_FlipBack.j0 k bt201.1 bt203.1 bt207.1 bt207.2 true)) else (headroomlaw08_FlipBack.j0 k bt201.1 bt203.1 bt207.1 bt207.2 true)) else (headroomlaw08_FlipBack.j0 k bt201.1 bt203.1 bt207.1 bt207.2 true)) else (headroomlaw08_FlipBack.j0 k bt201.1 bt203.1 bt207.1 bt207.2 true))))) else ((headroomlaw08_alive.f k).bind fun t200 => (if t200 = true then (some ((t192.length : Int) == 0)) else (some false))))) = some r := H
      have A5 := Aside0.mk A50
      clear A50
      replace H := Option.bind_eq_some_iff.mp H
      obtain ⟨⟨t196, t197⟩, A60, H⟩ := H
      replace H : (if t193 = 0 then ((flip_Log.f k (y188.length : Int)).bind fun bt201 => ((flip_Row.f k bt201.1).bind fun bt203 => ((flip_Row.f k (wrap64 (bt201.1 - 1))).bind fun bt207 => (if t197 = 0 then (if bt201.2 = 0 then (if bt203.2 = 0 then (if (bt203.1.length : Int) = (y188.length : Int) then ((headroomref03_Same.f k t196 y188).bind fun t211 => (if t211 = true then ((headroomlaw08_alive.f k).bind fun t212 => (headroomlaw08_FlipBack.j0 k bt201.1 bt203.1 bt207.1 bt207.2 (!t212))) else (headroomlaw08_FlipBack.j0 k bt201.1 bt203.1 bt207.1 bt207.2 true))) else (headroomlaw08_FlipBack.j0 k bt201.1 bt203.1 bt207.1 bt207.2 true)) else (headroomlaw08_FlipBack.j0 k bt201.1 bt203.1 bt207.1 bt207.2 true)) else (headroomlaw08_FlipBack.j0 k bt201.1 bt203.1 bt207.1 bt207.2 true)) else (headroomlaw08_FlipBack.j0 k bt201.1 bt203.1 bt207.1 bt207.2 true))))) else ((headroomlaw08_alive.f k).bind fun t200 => (if t200 = true then (some ((t192.length : Int) == 0)) else (some false)))) = some r := H
      have A6 := Aside0.mk A60
      clear A60
      by_cases c7 : t193 = 0
      · rw [if_pos c7] at H
        have c7b0 : (t193 == 0) = true := beq_iff_eq.mpr c7
        have c7b1 : (t193 != 0) = false := bne_eq_false_iff_eq.mpr c7
        clear c7
        replace H := Option.bind_eq_some_iff.mp H
        obtain ⟨⟨t201, t202⟩, A80, H⟩ := H
        replace H : ((flip_Row.f k t201).bind fun bt203 => ((flip_Row.f k (wrap64 (t201 - 1))).bind fun bt207 => (if t197 = 0 then (if t202 = 0 then (if bt203.2 = 0 then (if (bt203.1.length : Int) = (y188.length : Int) then ((headroomref03_Same.f k t196 y188).bind fun t211 => (if t211 = true then ((headroomlaw08_alive.f k).bind fun t212 => (headroomlaw08_FlipBack.j0 k t201 bt203.1 bt207.1 bt207.2 (!t212))) else (headroomlaw08_FlipBack.j0 k t201 bt203.1 bt207.1 bt207.2 true))) else (headroomlaw08_FlipBack.j0 k t201 bt203.1 bt207.1 bt207.2 true)) else (headroomlaw08_FlipBack.j0 k t201 bt203.1 bt207.1 bt207.2 true)) else (headroomlaw08_FlipBack.j0 k t201 bt203.1 bt207.1 bt207.2 true)) else (headroomlaw08_FlipBack.j0 k t201 bt203.1 bt207.1 bt207.2 true)))) = some r := H
        have A8 := Aside0.mk A80
        clear A80
        replace H := Option.bind_eq_some_iff.mp H
        obtain ⟨⟨t203, t204⟩, A90, H⟩ := H
        replace H : ((flip_Row.f k (wrap64 (t201 - 1))).bind fun bt207 => (if t197 = 0 then (if t202 = 0 then (if t204 = 0 then (if (t203.length : Int) = (y188.length : Int) then ((headroomref03_Same.f k t196 y188).bind fun t211 => (if t211 = true then ((headroomlaw08_alive.f k).bind fun t212 => (headroomlaw08_FlipBack.j0 k t201 t203 bt207.1 bt207.2 (!t212))) else (headroomlaw08_FlipBack.j0 k t201 t203 bt207.1 bt207.2 true))) else (headroomlaw08_FlipBack.j0 k t201 t203 bt207.1 bt207.2 true)) else (headroomlaw08_FlipBack.j0 k t201 t203 bt207.1 bt207.2 true)) else (headroomlaw08_FlipBack.j0 k t201 t203 bt207.1 bt207.2 true)) else (headroomlaw08_FlipBack.j0 k t201 t203 bt207.1 bt207.2 true))) = some r := H
        have A9 := Aside0.mk A90
        clear A90
        replace H := Option.bind_eq_some_iff.mp H
        obtain ⟨⟨t207, t208⟩, A100, H⟩ := H
        replace H : (if t197 = 0 then (if t202 = 0 then (if t204 = 0 then (if (t203.length : Int) = (y188.length : Int) then ((headroomref03_Same.f k t196 y188).bind fun t211 => (if t211 = true then ((headroomlaw08_alive.f k).bind fun t212 => (headroomlaw08_FlipBack.j0 k t201 t203 t207 t208 (!t212))) else (headroomlaw08_FlipBack.j0 k t201 t203 t207 t208 true))) else (headroomlaw08_FlipBack.j0 k t201 t203 t207 t208 true)) else (headroomlaw08_FlipBack.j0 k t201 t203 t207 t208 true)) else (headroomlaw08_FlipBack.j0 k t201 t203 t207 t208 true)) else (headroomlaw08_FlipBack.j0 k t201 t203 t207 t208 true)) = some r := H
        have A10 := Aside0.mk A100
        clear A100
        have HC11 := Aside0.mk H
        clear H
        have q12 : ((ji2) : Int) ≤ ((l0.length : Int) : Int) := of_decide_eq_true (by first | (with_reducible assumption) | assumption)
        obtain ⟨i012, hi012, _, hsz12, _⟩ := info_parts info45
        have hroom12 : l0.length ≤ c0 := HC0.out
        have hC12 : Kd.C k45 _ A0 l0.length l0 := HR0.out
        have hcut12 := cut_to (P := Try.prog) 37 45 .i64 Try.underlying37 hi012 A0 l0.length c0 (ji2) (of_decide_eq_true (by first | (with_reducible assumption) | assumption)) q12 hroom12
        have hr12 := Kd.C_take (m := ((ji2) : Int).toNat) hC12 (by omega)
        have hy12 : y188.length = ((ji2) : Int).toNat := (by rw [Ny188.out, List.length_take]; omega)
        rw [← Ny188.out] at hr12
        rw [← hy12] at hcut12
        have HR191 := Aside0.mk hr12
        have HC191 := Aside0.mk (show y188.length ≤ c0 from by omega)
        clear hr12 hC12 hroom12 hi012 hsz12
        have KY12 := Aside0.mk hy12
        clear hy12
        replace q12 := eq_true q12
        go_enter Try.func5, Try.ntmps5
        go_upto_region 9 with (first | ((with_reducible refine gate_callee (f := 19) rfl ?_); refine goesL_ (some 23) rfl rfl Try.func19 (by kernel_rfl) rfl #[.slice A0 y188.length c0] rfl (by (try simp only [List.map_toArray, List.map_cons, List.map_nil]); first | done | rfl | (simp only [List.length_drop, List.length_take]; rfl)) ?_; (with_reducible refine (flip_Flip.calls k _ _ y188 t192 t193 _ ?side1 ?side2 A5.out).mono ?_); (case side1 => repeat (first | exact HR191.out | (with_reducible refine Kd.C_alloc ?_ _) | (with_reducible refine Kd.C_drewN ?_ _) | (with_reducible refine Kd.C_drew ?_))); (case side2 => exact HC191.out); rintro e w13 ⟨v194, rfl, ho0, hb⟩; refine ⟨_, rfl, ?_⟩; have n0_ := Aside0.mk (Kd.R_lower ho0 (below_size (by repeat (first | (with_reducible first | exact HB.out | apply below_alloc | apply pw_below_drewN | apply below_drew1) | exact HB.out)))); have n1_ := Aside0.mk (below_step (by repeat (first | (with_reducible first | exact HB.out | apply below_alloc | apply pw_below_drewN | apply below_drew1) | exact HB.out)) hb); clear HB; have HO195 := n0_; have HB := n1_; clear n0_ n1_; (try clear hb); (try clear hb2); (try clear hk); (try clear hi); (try clear ho0); obtain ⟨Ao14, co14, eo14⟩ := Kd.R_slice HO195.out; subst eo14) | ((with_reducible refine gate_callee (f := 19) rfl ?_); refine goesL_ (some 28) rfl rfl Try.func19 (by kernel_rfl) rfl #[.slice Ao14 t192.length co14] rfl (by (try simp only [List.map_toArray, List.map_cons, List.map_nil]); first | done | rfl | (simp only [List.length_drop, List.length_take]; rfl)) ?_; (with_reducible refine (flip_Flip.calls k _ _ t192 t196 t197 _ ?side1 ?side2 A6.out).mono ?_); (case side1 => repeat (first | exact (Kd.R_reads' HO195.out).2.2 | (with_reducible refine Kd.C_alloc ?_ _) | (with_reducible refine Kd.C_drewN ?_ _) | (with_reducible refine Kd.C_drew ?_))); (case side2 => exact (Kd.R_reads' HO195.out).2.1); rintro e w15 ⟨v198, rfl, ho0, hb⟩; refine ⟨_, rfl, ?_⟩; have n0_ := Aside0.mk (Kd.R_elder' (by (with_reducible repeat (first | apply Kd.R_alloc | apply Kd.R_drewN | apply Kd.R_drew)); exact HO195.out) (Kd.R_base ho0) hb); have n1_ := Aside0.mk (Kd.R_lower (Kd.R_new' ho0 (Kd.R_lt (by (with_reducible repeat (first | apply Kd.R_alloc | apply Kd.R_drewN | apply Kd.R_drew)); exact HO195.out))) (below_size (by repeat (first | (with_reducible first | exact HB.out | apply below_alloc | apply pw_below_drewN | apply below_drew1) | exact HB.out)))); have n2_ := Aside0.mk (below_step (by repeat (first | (with_reducible first | exact HB.out | apply below_alloc | apply pw_below_drewN | apply below_drew1) | exact HB.out)) hb); clear HO195; clear HB; have HO195 := n0_; have HO199 := n1_; have HB := n2_; clear n0_ n1_ n2_; (try clear hb); (try clear hb2); (try clear hk); (try clear hi); (try clear ho0)) | ((with_reducible refine gate_callee (f := 11) rfl ?_); refine goesL_ (some 42) rfl rfl Try.func11 (by kernel_rfl) rfl #[.int .i64 (y188.length : Int)] rfl (by (try simp only [List.map_toArray, List.map_cons, List.map_nil]); first | done | rfl | (simp only [List.length_drop, List.length_take]; rfl)) ?_; (with_reducible refine (flip_Log.calls k (y188.length : Int) t201 t202 _ A8.out).mono ?_); rintro e w' ⟨rfl, ⟨nd, rfl⟩⟩; refine ⟨_, rfl, ?_⟩) | ((with_reducible refine gate_callee (f := 10) rfl ?_); refine goesL_ (some 47) rfl rfl Try.func10 (by kernel_rfl) rfl #[.int .i64 t201] rfl (by (try simp only [List.map_toArray, List.map_cons, List.map_nil]); first | done | rfl | (simp only [List.length_drop, List.length_take]; rfl)) ?_; (with_reducible refine (flip_Row.calls k t201 t203 t204 _ A9.out).mono ?_); rintro e w16 ⟨v205, rfl, ho0, hb⟩; refine ⟨_, rfl, ?_⟩; have n0_ := Aside0.mk (Kd.R_below (by (with_reducible repeat (first | apply Kd.R_alloc | apply Kd.R_drewN | apply Kd.R_drew)); exact HO195.out) hb); have n1_ := Aside0.mk (Kd.R_below (by (with_reducible repeat (first | apply Kd.R_alloc | apply Kd.R_drewN | apply Kd.R_drew)); exact HO199.out) hb); have n2_ := Aside0.mk (Kd.R_lower ho0 (below_size (by repeat (first | (with_reducible first | exact HB.out | apply below_alloc | apply pw_below_drewN | apply below_drew1) | exact HB.out)))); have n3_ := Aside0.mk (below_step (by repeat (first | (with_reducible first | exact HB.out | apply below_alloc | apply pw_below_drewN | apply below_drew1) | exact HB.out)) hb); clear HO195; clear HO199; clear HB; have HO195 := n0_; have HO199 := n1_; have HO206 := n2_; have HB := n3_; clear n0_ n1_ n2_ n3_; (try clear hb); (try clear hb2); (try clear hk); (try clear hi); (try clear ho0)) | ((with_reducible refine gate_callee (f := 10) rfl ?_); refine goesL_ (some 53) rfl rfl Try.func10 (by kernel_rfl) rfl #[.int .i64 (wrap64 (t201 - 1))] rfl (by (try simp only [List.map_toArray, List.map_cons, List.map_nil]); first | done | rfl | (simp only [List.length_drop, List.length_take]; rfl)) ?_; (with_reducible refine (flip_Row.calls k (wrap64 (t201 - 1)) t207 t208 _ A10.out).mono ?_); rintro e w17 ⟨v209, rfl, ho0, hb⟩; refine ⟨_, rfl, ?_⟩; have n0_ := Aside0.mk (Kd.R_below (by (with_reducible repeat (first | apply Kd.R_alloc | apply Kd.R_drewN | apply Kd.R_drew)); exact HO195.out) hb); have n1_ := Aside0.mk (Kd.R_below (by (with_reducible repeat (first | apply Kd.R_alloc | apply Kd.R_drewN | apply Kd.R_drew)); exact HO199.out) hb); have n2_ := Aside0.mk (Kd.R_elder' (by (with_reducible repeat (first | apply Kd.R_alloc | apply Kd.R_drewN | apply Kd.R_drew)); exact HO206.out) (Kd.R_base ho0) hb); have n3_ := Aside0.mk (Kd.R_lower (Kd.R_new' ho0 (Kd.R_lt (by (with_reducible repeat (first | apply Kd.R_alloc | apply Kd.R_drewN | apply Kd.R_drew)); exact HO206.out))) (below_size (by repeat (first | (with_reducible first | exact HB.out | apply below_alloc | apply pw_below_drewN | apply below_drew1) | exact HB.out)))); have n4_ := Aside0.mk (below_step (by repeat (first | (with_reducible first | exact HB.out | apply below_alloc | apply pw_below_drewN | apply below_drew1) | exact HB.out)) hb); clear HO195; clear HO199; clear HO206; clear HB; have HO195 := n0_; have HO199 := n1_; have HO206 := n2_; have HO210 := n3_; have HB := n4_; clear n0_ n1_ n2_ n3_ n4_; (try clear hb); (try clear hb2); (try clear hk); (try clear hi); (try clear ho0)))
        (try simp only [Act.put, List.setIfInBounds_toArray, List.set_cons_zero, List.set_cons_succ])
        go_cut [82] (fun v82 wc => ∃ (kq : Nat) (x82_10 : Bool), v82 = .bool x82_10 ∧ Aside0 (headroomlaw08_FlipBack.j0 kq t201 t203 t207 t208 x82_10 = some r) ∧ Aside0 (kq ≤ k) ∧ Aside0 (Kd.R (Kd.int .i64) 3 wc w.heap.size (fun k_ => some k_ ≠ (v209 : Value).ownBlock) v205 t203) ∧ Aside0 (Kd.R (Kd.int .i64) 3 wc w.heap.size (fun k_ => some k_ ≠ (v205 : Value).ownBlock) v209 t207) ∧ Aside0 (Below w.heap.size w wc))
        case first =>
          have H := HC11.out
          clear HC11
          by_cases c18 : t197 = 0
          · rw [if_pos c18] at H
            have c18b0 : (t197 == 0) = true := beq_iff_eq.mpr c18
            have c18b1 : (t197 != 0) = false := bne_eq_false_iff_eq.mpr c18
            clear c18
            (first | rw [c18b0] | (simp only [i64_w, i32_w]; rw [c18b0]) | skip)
            by_cases c19 : t202 = 0
            · rw [if_pos c19] at H
              have c19b0 : (t202 == 0) = true := beq_iff_eq.mpr c19
              have c19b1 : (t202 != 0) = false := bne_eq_false_iff_eq.mpr c19
              clear c19
              by_cases c20 : t204 = 0
              · rw [if_pos c20] at H
                have c20b0 : (t204 == 0) = true := beq_iff_eq.mpr c20
                have c20b1 : (t204 != 0) = false := bne_eq_false_iff_eq.mpr c20
                clear c20
                by_cases c21 : (t203.length : Int) = (y188.length : Int)
                · rw [if_pos c21] at H
                  have c21b0 : ((t203.length : Int) == (y188.length : Int)) = true := beq_iff_eq.mpr c21
                  have c21b1 : ((t203.length : Int) != (y188.length : Int)) = false := bne_eq_false_iff_eq.mpr c21
                  have c21b2 : (t203.length == y188.length) = true := by first | simpa using c21 | (simp at c21 ⊢; omega)
                  clear c21
                  replace H := Option.bind_eq_some_iff.mp H
                  obtain ⟨t211, A220, H⟩ := H
                  replace H : (if t211 = true then ((headroomlaw08_alive.f k).bind fun t212 => (headroomlaw08_FlipBack.j0 k t201 t203 t207 t208 (!t212))) else (headroomlaw08_FlipBack.j0 k t201 t203 t207 t208 true)) = some r := H
                  have A22 := Aside0.mk A220
                  clear A220
                  by_cases c23 : t211 = true
                  · subst c23
                    have H1 : ((headroomlaw08_alive.f k).bind fun t212 => (headroomlaw08_FlipBack.j0 k t201 t203 t207 t208 (!t212))) = some r := by rw [if_pos rfl] at H; exact H
                    clear H
                    have H := H1
                    clear H1
                    replace H := Option.bind_eq_some_iff.mp H
                    obtain ⟨t212, A240, H⟩ := H
                    replace H : (headroomlaw08_FlipBack.j0 k t201 t203 t207 t208 (!t212)) = some r := H
                    have A24 := Aside0.mk A240
                    clear A240
                    have H' := Aside0.mk H
                    clear H
                    obtain ⟨Ao25, co25, eo25⟩ := Kd.R_slice HO206.out
                    subst eo25
                    obtain ⟨Ao26, co26, eo26⟩ := Kd.R_slice HO199.out
                    subst eo26
                    go_wp2_with (first | (go_at_call 20; (with_reducible refine (headroomref03_Same.calls k _ _ t196 _ _ y188 true _ ?side1 ?side2 ?side3 ?side4 A22.out).mono ?_); (case side1 => repeat (first | exact (Kd.R_reads' HO199.out).2.2 | (with_reducible refine Kd.C_alloc ?_ _) | (with_reducible refine Kd.C_drewN ?_ _) | (with_reducible refine Kd.C_drew ?_))); (case side2 => exact (Kd.R_reads' HO199.out).2.1); (case side3 => repeat (first | exact (Kd.C_below HR191.out HB.out) | (with_reducible refine Kd.C_alloc ?_ _) | (with_reducible refine Kd.C_drewN ?_ _) | (with_reducible refine Kd.C_drew ?_))); (case side4 => exact HC191.out); rintro e w' ⟨rfl, ⟨nd, rfl⟩⟩) | (go_at_call 14; (with_reducible refine (headroomlaw08_alive.calls k  t212 _ A24.out).mono ?_); rintro e w' ⟨rfl, ⟨nd, rfl⟩⟩))
                    go_meet
                    case rel => exact ⟨_, (!t212), (by first | rfl | (simp; done) | (simp [*]; done)), H', ⟨by first | omega | exact Nat.le_refl _⟩, ⟨by (with_reducible repeat (first | apply Kd.R_alloc | apply Kd.R_drewN | apply Kd.R_drew)); exact Kd.R_mono HO206.out (fun _ hk => hk.2)⟩, ⟨by (with_reducible repeat (first | apply Kd.R_alloc | apply Kd.R_drewN | apply Kd.R_drew)); exact Kd.R_mono HO210.out (fun _ hk => hk.2)⟩, ⟨by repeat (first | (with_reducible first | exact HB.out | apply below_alloc | apply pw_below_drewN | apply below_drew1) | exact HB.out)⟩⟩
                  · replace c23 := Bool.eq_false_iff.mpr c23
                    subst c23
                    have H1 : (headroomlaw08_FlipBack.j0 k t201 t203 t207 t208 true) = some r := by rw [if_neg (show ¬ (false = true) by decide)] at H; exact H
                    clear H
                    have H := H1
                    clear H1
                    have H' := Aside0.mk H
                    clear H
                    obtain ⟨Ao27, co27, eo27⟩ := Kd.R_slice HO206.out
                    subst eo27
                    obtain ⟨Ao28, co28, eo28⟩ := Kd.R_slice HO199.out
                    subst eo28
                    go_wp2_with (first | (go_at_call 20; (with_reducible refine (headroomref03_Same.calls k _ _ t196 _ _ y188 false _ ?side1 ?side2 ?side3 ?side4 A22.out).mono ?_); (case side1 => repeat (first | exact (Kd.R_reads' HO199.out).2.2 | (with_reducible refine Kd.C_alloc ?_ _) | (with_reducible refine Kd.C_drewN ?_ _) | (with_reducible refine Kd.C_drew ?_))); (case side2 => exact (Kd.R_reads' HO199.out).2.1); (case side3 => repeat (first | exact (Kd.C_below HR191.out HB.out) | (with_reducible refine Kd.C_alloc ?_ _) | (with_reducible refine Kd.C_drewN ?_ _) | (with_reducible refine Kd.C_drew ?_))); (case side4 => exact HC191.out); rintro e w' ⟨rfl, ⟨nd, rfl⟩⟩))
                    go_meet
                    case rel => exact ⟨_, (true), (by first | rfl | (simp; done) | (simp [*]; done)), H', ⟨by first | omega | exact Nat.le_refl _⟩, ⟨by (with_reducible repeat (first | apply Kd.R_alloc | apply Kd.R_drewN | apply Kd.R_drew)); exact Kd.R_mono HO206.out (fun _ hk => hk.2)⟩, ⟨by (with_reducible repeat (first | apply Kd.R_alloc | apply Kd.R_drewN | apply Kd.R_drew)); exact Kd.R_mono HO210.out (fun _ hk => hk.2)⟩, ⟨by repeat (first | (with_reducible first | exact HB.out | apply below_alloc | apply pw_below_drewN | apply below_drew1) | exact HB.out)⟩⟩
                · rw [if_neg c21] at H
                  have c21b0 : ((t203.length : Int) == (y188.length : Int)) = false := beq_eq_false_iff_ne.mpr c21
                  have c21b1 : ((t203.length : Int) != (y188.length : Int)) = true := bne_iff_ne.mpr c21
                  have c21b2 : (t203.length == y188.length) = false := by first | simpa using c21 | (simp at c21 ⊢; omega)
                  have H' := Aside0.mk H
                  clear H
                  obtain ⟨Ao29, co29, eo29⟩ := Kd.R_slice HO206.out
                  subst eo29
                  go_wp2
                  go_meet
                  case rel => exact ⟨_, (true), (by first | rfl | (simp; done) | (simp [*]; done)), H', ⟨by first | omega | exact Nat.le_refl _⟩, ⟨by (with_reducible repeat (first | apply Kd.R_alloc | apply Kd.R_drewN | apply Kd.R_drew)); exact Kd.R_mono HO206.out (fun _ hk => hk.2)⟩, ⟨by (with_reducible repeat (first | apply Kd.R_alloc | apply Kd.R_drewN | apply Kd.R_drew)); exact Kd.R_mono HO210.out (fun _ hk => hk.2)⟩, ⟨by repeat (first | (with_reducible first | exact HB.out | apply below_alloc | apply pw_below_drewN | apply below_drew1) | exact HB.out)⟩⟩
              · rw [if_neg c20] at H
                have c20b0 : (t204 == 0) = false := beq_eq_false_iff_ne.mpr c20
                have c20b1 : (t204 != 0) = true := bne_iff_ne.mpr c20
                have H' := Aside0.mk H
                clear H
                go_wp2
                go_meet
                case rel => exact ⟨_, (true), (by first | rfl | (simp; done) | (simp [*]; done)), H', ⟨by first | omega | exact Nat.le_refl _⟩, ⟨by (with_reducible repeat (first | apply Kd.R_alloc | apply Kd.R_drewN | apply Kd.R_drew)); exact Kd.R_mono HO206.out (fun _ hk => hk.2)⟩, ⟨by (with_reducible repeat (first | apply Kd.R_alloc | apply Kd.R_drewN | apply Kd.R_drew)); exact Kd.R_mono HO210.out (fun _ hk => hk.2)⟩, ⟨by repeat (first | (with_reducible first | exact HB.out | apply below_alloc | apply pw_below_drewN | apply below_drew1) | exact HB.out)⟩⟩
            · rw [if_neg c19] at H
              have c19b0 : (t202 == 0) = false := beq_eq_false_iff_ne.mpr c19
              have c19b1 : (t202 != 0) = true := bne_iff_ne.mpr c19
              have H' := Aside0.mk H
              clear H
              go_wp2
              go_meet
              case rel => exact ⟨_, (true), (by first | rfl | (simp; done) | (simp [*]; done)), H', ⟨by first | omega | exact Nat.le_refl _⟩, ⟨by (with_reducible repeat (first | apply Kd.R_alloc | apply Kd.R_drewN | apply Kd.R_drew)); exact Kd.R_mono HO206.out (fun _ hk => hk.2)⟩, ⟨by (with_reducible repeat (first | apply Kd.R_alloc | apply Kd.R_drewN | apply Kd.R_drew)); exact Kd.R_mono HO210.out (fun _ hk => hk.2)⟩, ⟨by repeat (first | (with_reducible first | exact HB.out | apply below_alloc | apply pw_below_drewN | apply below_drew1) | exact HB.out)⟩⟩
          · rw [if_neg c18] at H
            have c18b0 : (t197 == 0) = false := beq_eq_false_iff_ne.mpr c18
            have c18b1 : (t197 != 0) = true := bne_iff_ne.mpr c18
            (first | rw [c18b0] | (simp only [i64_w, i32_w]; rw [c18b0]) | skip)
            have H' := Aside0.mk H
            clear H
            go_wp2
            go_meet
            case rel => exact ⟨_, (true), (by first | rfl | (simp; done) | (simp [*]; done)), H', ⟨by first | omega | exact Nat.le_refl _⟩, ⟨by (with_reducible repeat (first | apply Kd.R_alloc | apply Kd.R_drewN | apply Kd.R_drew)); exact Kd.R_mono HO206.out (fun _ hk => hk.2)⟩, ⟨by (with_reducible repeat (first | apply Kd.R_alloc | apply Kd.R_drewN | apply Kd.R_drew)); exact Kd.R_mono HO210.out (fun _ hk => hk.2)⟩, ⟨by repeat (first | (with_reducible first | exact HB.out | apply below_alloc | apply pw_below_drewN | apply below_drew1) | exact HB.out)⟩⟩
        case rest =>
          clear HC11
          try clear c1
          try clear q1
          try clear c2
          try clear p2
          try clear c3
          try clear c3b0
          try clear c3b1
          try clear c4
          try clear c4b0
          try clear c4b1
          try clear c5
          try clear p6
          try clear c7
          try clear c7b0
          try clear c7b1
          try clear c10
          try clear c11
          try clear q12
          try clear c18
          try clear c18b0
          try clear c18b1
          try clear c19
          try clear c19b0
          try clear c19b1
          try clear c20
          try clear c20b0
          try clear c20b1
          try clear c21
          try clear c21b0
          try clear c21b1
          try clear c21b2
          try clear c23
          try clear q12
          obtain ⟨kq, x82_10, rfl, HA, HJ10, HO_9, HO_11, HB⟩ := hcut
          cases kq with
          | zero => exact absurd HA.out (by simp [headroomlaw08_FlipBack.j0])
          | succ kj10 =>
            have H := HA.out
            clear HA
            simp only [headroomlaw08_FlipBack.j0] at H
            by_cases c30 : x82_10 = true
            · subst c30
              have H1 : (some false) = some r := by rw [if_pos rfl] at H; exact H
              clear H
              have H := H1
              clear H1
              obtain rfl := Option.some.inj H
              go_wp2
              go_ret
              exact ⟨by first | rfl | (simp [errW_none, errW_some] <;> rfl) | (simp only [← hji2]; first | rfl | (simp [errW_none, errW_some] <;> rfl)) | (simp [*, errW_none, errW_some] <;> rfl), by repeat (first | (with_reducible first | exact HB.out | apply below_alloc | apply pw_below_drewN | apply below_drew1) | exact HB.out)⟩
            · replace c30 := Bool.eq_false_iff.mpr c30
              subst c30
              have H1 : (headroomlaw08_FlipBack.l0 kj10 t201 t203 t207 t208 0 t203 (t203.length : Int) 0) = some r := by rw [if_neg (show ¬ (false = true) by decide)] at H; exact H
              clear H
              have H := H1
              clear H1
              have H' := Aside0.mk H
              clear H
              obtain ⟨Ao31, co31, eo31⟩ := Kd.R_slice HO_9.out
              subst eo31
              go_wp2
              go_loopg [13, 85] kj10 (fun kq v13 v85 w' => ∃ (x13_2 : Int) (x85_2 : Int), v13 = .int .u64 x13_2 ∧ v85 = .int .i64 x85_2 ∧ Aside0 (headroomlaw08_FlipBack.l0 kq t201 t203 t207 t208 x13_2 t203 (t203.length : Int) x85_2 = some r) ∧ Aside0 (kq ≤ kj10) ∧ Aside0 (Kd.R (Kd.int .i64) 3 w' w.heap.size (fun k_ => some k_ ≠ (v209 : Value).ownBlock) (.slice Ao31 t203.length co31) t203) ∧ Aside0 (Kd.R (Kd.int .i64) 3 w' w.heap.size (fun k_ => some k_ ≠ ((.slice Ao31 t203.length co31) : Value).ownBlock ∧ some k_ ≠ ((.slice Ao31 t203.length co31) : Value).ownBlock) v209 t207) ∧ Aside0 (Kd.R (Kd.int .i64) 3 w' w.heap.size (fun k_ => some k_ ≠ (v209 : Value).ownBlock) (.slice Ao31 t203.length co31) t203) ∧ Aside0 (Below w.heap.size w w'))
              case atStart => exact ⟨(0), (0), (by first | rfl | (simp; done) | (simp [*]; done)), (by first | rfl | (simp; done) | (simp [*]; done)), H', ⟨Nat.le_refl _⟩, ⟨by (with_reducible repeat (first | apply Kd.R_alloc | apply Kd.R_drewN | apply Kd.R_drew)); exact HO_9.out⟩, ⟨by (with_reducible repeat (first | apply Kd.R_alloc | apply Kd.R_drewN | apply Kd.R_drew)); exact Kd.R_mono HO_11.out (fun _ hk => ⟨hk, hk⟩)⟩, ⟨by (with_reducible repeat (first | apply Kd.R_alloc | apply Kd.R_drewN | apply Kd.R_drew)); exact HO_9.out⟩, ⟨by repeat (first | (with_reducible first | exact HB.out | apply below_alloc | apply pw_below_drewN | apply below_drew1) | exact HB.out)⟩⟩
              case round =>
                clear H'
                try clear c1
                try clear q1
                try clear c2
                try clear p2
                try clear c3
                try clear c3b0
                try clear c3b1
                try clear c4
                try clear c4b0
                try clear c4b1
                try clear c5
                try clear p6
                try clear c7
                try clear c7b0
                try clear c7b1
                try clear c10
                try clear c11
                try clear q12
                try clear c18
                try clear c18b0
                try clear c18b1
                try clear c19
                try clear c19b0
                try clear c19b1
                try clear c20
                try clear c20b0
                try clear c20b1
                try clear c21
                try clear c21b0
                try clear c21b1
                try clear c21b2
                try clear c23
                try clear c30
                try clear p2
                try clear p6
                try clear q1
                try clear q12
                obtain ⟨x13_2, x85_2, rfl, rfl, HA, HK2, HO_9, HO_11, HO_83, HB⟩ := hrel
                cases gk with
                | zero => exact absurd HA.out (by simp [headroomlaw08_FlipBack.l0])
                | succ k2 =>
                  have H := HA.out
                  clear HA
                  simp only [headroomlaw08_FlipBack.l0] at H
                  by_cases c32 : x85_2 < (t203.length : Int)
                  · rw [if_pos c32] at H
                    have c32b0 : decide (x85_2 < (t203.length : Int)) = true := decide_eq_true c32
                    clear c32
                    by_cases c33 : 0 ≤ x85_2
                    · rw [if_pos c33] at H
                      have c33b0 : decide (0 ≤ x85_2) = true := decide_eq_true c33
                      clear c33
                      by_cases c34 : x85_2 < (t203.length : Int)
                      · rw [if_pos c34] at H
                        have c34b0 : decide (x85_2 < (t203.length : Int)) = true := decide_eq_true c34
                        clear c34
                        have HC35 := Aside0.mk H
                        clear H
                        have p213 : 0 ≤ (x85_2 : Int) := of_decide_eq_true (by first | (with_reducible assumption) | assumption)
                        have q213 : x85_2 < (t203.length : Int) := of_decide_eq_true (by first | (with_reducible assumption) | assumption)
                        obtain ⟨ad213, e213, hx213_0⟩ := Kd.at_int (Kd.R_reads' HO_83.out).2.2 x85_2 p213 q213
                        cases e213
                        replace p213 := eq_true p213
                        replace q213 := eq_true q213
                        go_upto_region 15 with (fail)
                        go_cut [104] (fun v104 wc => ∃ (kq : Nat) (x104_34 : Bool), v104 = .bool x104_34 ∧ Aside0 (headroomlaw08_FlipBack.j2 kq t201 t203 t207 t208 x13_2 x85_2 (rd t203 x85_2) t203 (t203.length : Int) x85_2 x104_34 = some r) ∧ Aside0 (kq ≤ k2) ∧ Aside0 (Kd.R (Kd.int .i64) 3 wc w.heap.size (fun k_ => some k_ ≠ (v209 : Value).ownBlock) (.slice (some ad213) t203.length co31) t203) ∧ Aside0 (Kd.R (Kd.int .i64) 3 wc w.heap.size (fun k_ => some k_ ≠ ((.slice (some ad213) t203.length co31) : Value).ownBlock ∧ some k_ ≠ ((.slice (some ad213) t203.length co31) : Value).ownBlock) v209 t207) ∧ Aside0 (Kd.R (Kd.int .i64) 3 wc w.heap.size (fun k_ => some k_ ≠ (v209 : Value).ownBlock) (.slice (some ad213) t203.length co31) t203) ∧ Aside0 (Below w.heap.size w wc))
                        case first =>
                          have H := HC35.out
                          clear HC35
                          by_cases c36 : (rd t203 x85_2) < 0
                          · rw [if_pos c36] at H
                            have c36b0 : decide ((rd t203 x85_2) < 0) = true := decide_eq_true c36
                            clear c36
                            (first | rw [c36b0] | (simp only [i64_w, i32_w]; rw [c36b0]) | skip)
                            have H' := Aside0.mk H
                            clear H
                            go_wp2
                            go_meet
                            case rel => exact ⟨_, (true), (by first | rfl | (simp; done) | (simp [*]; done)), H', ⟨by have := HJ10.out; have := HK2.out; first | omega | exact Nat.le_refl _⟩, ⟨by (with_reducible repeat (first | apply Kd.R_alloc | apply Kd.R_drewN | apply Kd.R_drew)); exact HO_9.out⟩, ⟨by (with_reducible repeat (first | apply Kd.R_alloc | apply Kd.R_drewN | apply Kd.R_drew)); exact HO_11.out⟩, ⟨by (with_reducible repeat (first | apply Kd.R_alloc | apply Kd.R_drewN | apply Kd.R_drew)); exact HO_83.out⟩, ⟨by repeat (first | (with_reducible first | exact HB.out | apply below_alloc | apply pw_below_drewN | apply below_drew1) | exact HB.out)⟩⟩
                          · rw [if_neg c36] at H
                            have c36b0 : decide ((rd t203 x85_2) < 0) = false := decide_eq_false c36
                            clear c36
                            (first | rw [c36b0] | (simp only [i64_w, i32_w]; rw [c36b0]) | skip)
                            by_cases c37 : (rd t203 x85_2) ≥ (t203.length : Int)
                            · rw [if_pos c37] at H
                              have c37b0 : decide ((t203.length : Int) ≤ (rd t203 x85_2)) = true := decide_eq_true c37
                              clear c37
                              have H' := Aside0.mk H
                              clear H
                              go_wp2
                              go_meet
                              case rel => exact ⟨_, (true), (by first | rfl | (simp; done) | (simp [*]; done)), H', ⟨by have := HJ10.out; have := HK2.out; first | omega | exact Nat.le_refl _⟩, ⟨by (with_reducible repeat (first | apply Kd.R_alloc | apply Kd.R_drewN | apply Kd.R_drew)); exact HO_9.out⟩, ⟨by (with_reducible repeat (first | apply Kd.R_alloc | apply Kd.R_drewN | apply Kd.R_drew)); exact HO_11.out⟩, ⟨by (with_reducible repeat (first | apply Kd.R_alloc | apply Kd.R_drewN | apply Kd.R_drew)); exact HO_83.out⟩, ⟨by repeat (first | (with_reducible first | exact HB.out | apply below_alloc | apply pw_below_drewN | apply below_drew1) | exact HB.out)⟩⟩
                            · rw [if_neg c37] at H
                              have c37b0 : decide ((t203.length : Int) ≤ (rd t203 x85_2)) = false := decide_eq_false c37
                              clear c37
                              by_cases c38 : 0 ≤ (rd t203 x85_2)
                              · rw [if_pos c38] at H
                                have c38b0 := eq_true c38
                                have c38b1 : decide (0 ≤ (rd t203 x85_2)) = true := decide_eq_true c38
                                clear c38
                                obtain ⟨ji39, hji39⟩ : ∃ j_ : Int, (shr .u64 x13_2 (rd t203 x85_2)) = j_ := ⟨_, rfl⟩
                                replace H : (headroomlaw08_FlipBack.j2 k2 t201 t203 t207 t208 x13_2 x85_2 (rd t203 x85_2) t203 (t203.length : Int) x85_2 ((Go.bits .and .u64 (ji39) 1) == 1)) = some r := by first | (rw [hji39] at H; exact H) | (simp only [hji39] at H ⊢; exact H)
                                have hji39_ : (x13_2 / 2 ^ min (rd t203 x85_2).toNat 64) = ji39 := hji39
                                have hji39z : (rd t203 x85_2) ≤ 64 → (x13_2 / 2 ^ (rd t203 x85_2).toNat) = ji39 := shr_small hji39
                                have H' := Aside0.mk H
                                clear H
                                go_wp2
                                go_meet
                                case rel => exact ⟨_, (((Go.bits .and .u64 (ji39) 1) == 1)), (by first | rfl | (simp; done) | (simp only [← hji39] <;> (first | rfl | simp)) | (simp [*]; done)), H', ⟨by have := HJ10.out; have := HK2.out; first | omega | exact Nat.le_refl _⟩, ⟨by (with_reducible repeat (first | apply Kd.R_alloc | apply Kd.R_drewN | apply Kd.R_drew)); exact HO_9.out⟩, ⟨by (with_reducible repeat (first | apply Kd.R_alloc | apply Kd.R_drewN | apply Kd.R_drew)); exact HO_11.out⟩, ⟨by (with_reducible repeat (first | apply Kd.R_alloc | apply Kd.R_drewN | apply Kd.R_drew)); exact HO_83.out⟩, ⟨by repeat (first | (with_reducible first | exact HB.out | apply below_alloc | apply pw_below_drewN | apply below_drew1) | exact HB.out)⟩⟩
                              · rw [if_neg c38] at H
                                exact absurd H (by simp)
                        case rest =>
                          clear HC35
                          try clear c1
                          try clear q1
                          try clear c2
                          try clear p2
                          try clear q2
                          try clear hx2
                          try clear c3
                          try clear c3b0
                          try clear c3b1
                          try clear c4
                          try clear c4b0
                          try clear c4b1
                          try clear c5
                          try clear p6
                          try clear c7
                          try clear c7b0
                          try clear c7b1
                          try clear c10
                          try clear c11
                          try clear q12
                          try clear c18
                          try clear c18b0
                          try clear c18b1
                          try clear c19
                          try clear c19b0
                          try clear c19b1
                          try clear c20
                          try clear c20b0
                          try clear c20b1
                          try clear c21
                          try clear c21b0
                          try clear c21b1
                          try clear c21b2
                          try clear p21
                          try clear q21
                          try clear hx21
                          try clear c23
                          try clear c30
                          try clear c32
                          try clear c32b0
                          try clear c33
                          try clear c33b0
                          try clear c34
                          try clear c34b0
                          try clear c36
                          try clear c36b0
                          try clear c37
                          try clear c37b0
                          try clear c38
                          try clear c38b0
                          try clear c38b1
                          try clear hx213_0
                          try clear p2
                          try clear p213
                          try clear p6
                          try clear q1
                          try clear q12
                          try clear q213
                          obtain ⟨kq, x104_34, rfl, HA, HJ34, HO_9, HO_11, HO_83, HB⟩ := hcut
                          cases kq with
                          | zero => exact absurd HA.out (by simp [headroomlaw08_FlipBack.j2])
                          | succ kj34 =>
                            have H := HA.out
                            clear HA
                            simp only [headroomlaw08_FlipBack.j2] at H
                            by_cases c40 : x104_34 = true
                            · subst c40
                              have H1 : (some false) = some r := by rw [if_pos rfl] at H; exact H
                              clear H
                              have H := H1
                              clear H1
                              obtain rfl := Option.some.inj H
                              go_wp2
                              go_ret
                              exact ⟨by first | rfl | (simp [errW_none, errW_some] <;> rfl) | (simp only [← hji2]; first | rfl | (simp [errW_none, errW_some] <;> rfl)) | (simp [*, errW_none, errW_some] <;> rfl), by repeat (first | (with_reducible first | exact HB.out | apply below_alloc | apply pw_below_drewN | apply below_drew1) | exact HB.out)⟩
                            · replace c40 := Bool.eq_false_iff.mpr c40
                              subst c40
                              have H1 : (if 0 ≤ (rd t203 x85_2) then (if t208 = 0 then (if x85_2 < (t207.length : Int) then (if (Int.tmod (rd t203 x85_2) 2) = 0 then (if 0 ≤ x85_2 then (if (wrap64 (Int.tdiv (rd t203 x85_2) 2)) = (rd t207 x85_2) then (headroomlaw08_FlipBack.l0 kj34 t201 t203 t207 t208 (Go.bits .or .u64 x13_2 (shl .u64 1 (rd t203 x85_2))) t203 (t203.length : Int) (wrap64 (x85_2 + 1))) else (some false)) else (none)) else (some false)) else (headroomlaw08_FlipBack.l0 kj34 t201 t203 t207 t208 (Go.bits .or .u64 x13_2 (shl .u64 1 (rd t203 x85_2))) t203 (t203.length : Int) (wrap64 (x85_2 + 1)))) else (headroomlaw08_FlipBack.l0 kj34 t201 t203 t207 t208 (Go.bits .or .u64 x13_2 (shl .u64 1 (rd t203 x85_2))) t203 (t203.length : Int) (wrap64 (x85_2 + 1)))) else (none)) = some r := by rw [if_neg (show ¬ (false = true) by decide)] at H; exact H
                              clear H
                              have H := H1
                              clear H1
                              by_cases c41 : 0 ≤ (rd t203 x85_2)
                              · rw [if_pos c41] at H
                                have c41b0 := eq_true c41
                                have c41b1 : decide (0 ≤ (rd t203 x85_2)) = true := decide_eq_true c41
                                clear c41
                                obtain ⟨ji42, hji42⟩ : ∃ j_ : Int, (shl .u64 1 (rd t203 x85_2)) = j_ := ⟨_, rfl⟩
                                replace H : (if t208 = 0 then (if x85_2 < (t207.length : Int) then (if (Int.tmod (rd t203 x85_2) 2) = 0 then (if 0 ≤ x85_2 then (if (wrap64 (Int.tdiv (rd t203 x85_2) 2)) = (rd t207 x85_2) then (headroomlaw08_FlipBack.l0 kj34 t201 t203 t207 t208 (Go.bits .or .u64 x13_2 (ji42)) t203 (t203.length : Int) (wrap64 (x85_2 + 1))) else (some false)) else (none)) else (some false)) else (headroomlaw08_FlipBack.l0 kj34 t201 t203 t207 t208 (Go.bits .or .u64 x13_2 (ji42)) t203 (t203.length : Int) (wrap64 (x85_2 + 1)))) else (headroomlaw08_FlipBack.l0 kj34 t201 t203 t207 t208 (Go.bits .or .u64 x13_2 (ji42)) t203 (t203.length : Int) (wrap64 (x85_2 + 1)))) = some r := by first | (rw [hji42] at H; exact H) | (simp only [hji42] at H ⊢; exact H)
                                have hji42_ : (IntKind.u64.wrap (1 * 2 ^ min (rd t203 x85_2).toNat 64)) = ji42 := hji42
                                have hji42z : (rd t203 x85_2) ≤ 64 → (IntKind.u64.wrap (1 * 2 ^ (rd t203 x85_2).toNat)) = ji42 := shl_small hji42
                                have hji42u : (IntKind.u64.wrap (2 ^ min (rd t203 x85_2).toNat 64)) = ji42 := by have h_ := hji42_; rw [Int.one_mul] at h_; exact h_
                                have hji42v : (rd t203 x85_2) ≤ 64 → (IntKind.u64.wrap (2 ^ (rd t203 x85_2).toNat)) = ji42 := fun hle_ => by have h_ := hji42z hle_; rw [Int.one_mul] at h_; exact h_
                                by_cases c43 : t208 = 0
                                · rw [if_pos c43] at H
                                  have c43b0 : (t208 == 0) = true := beq_iff_eq.mpr c43
                                  have c43b1 : (t208 != 0) = false := bne_eq_false_iff_eq.mpr c43
                                  clear c43
                                  by_cases c44 : x85_2 < (t207.length : Int)
                                  · rw [if_pos c44] at H
                                    have c44b0 : decide (x85_2 < (t207.length : Int)) = true := decide_eq_true c44
                                    clear c44
                                    by_cases c45 : (Int.tmod (rd t203 x85_2) 2) = 0
                                    · rw [if_pos c45] at H
                                      have c45b0 : ((Int.tmod (rd t203 x85_2) 2) == 0) = true := beq_iff_eq.mpr c45
                                      have c45b1 : ((Int.tmod (rd t203 x85_2) 2) != 0) = false := bne_eq_false_iff_eq.mpr c45
                                      clear c45
                                      by_cases c46 : 0 ≤ x85_2
                                      · rw [if_pos c46] at H
                                        have c46b0 : decide (0 ≤ x85_2) = true := decide_eq_true c46
                                        clear c46
                                        by_cases c47 : (wrap64 (Int.tdiv (rd t203 x85_2) 2)) = (rd t207 x85_2)
                                        · rw [if_pos c47] at H
                                          have c47b0 : ((wrap64 (Int.tdiv (rd t203 x85_2) 2)) == (rd t207 x85_2)) = true := beq_iff_eq.mpr c47
                                          have c47b1 : ((wrap64 (Int.tdiv (rd t203 x85_2) 2)) != (rd t207 x85_2)) = false := bne_eq_false_iff_eq.mpr c47
                                          clear c47
                                          have H' := Aside0.mk H
                                          clear H
                                          obtain ⟨Ao48, co48, eo48⟩ := Kd.R_slice HO_11.out
                                          subst eo48
                                          have p214 : 0 ≤ (x85_2 : Int) := of_decide_eq_true (by first | (with_reducible assumption) | assumption)
                                          have q214 : x85_2 < (t207.length : Int) := of_decide_eq_true (by first | (with_reducible assumption) | assumption)
                                          obtain ⟨ad214, e214, hx214_0⟩ := Kd.at_int (Kd.R_reads' HO_11.out).2.2 x85_2 p214 q214
                                          cases e214
                                          replace p214 := eq_true p214
                                          replace q214 := eq_true q214
                                          go_wp2
                                          go_roundg kj34
                                          case measure => have := HJ10.out; have := HK2.out; have := HJ34.out; omega
                                          case rel => exact ⟨(Go.bits .or .u64 x13_2 (ji42)), (wrap64 (x85_2 + 1)), (by first | rfl | (simp; done) | (simp only [← hji42] <;> (first | rfl | simp)) | (simp [*]; done)), (by first | rfl | (simp; done) | (simp [*]; done)), H', ⟨by have := HJ10.out; have := HK2.out; have := HJ34.out; omega⟩, ⟨by (with_reducible repeat (first | apply Kd.R_alloc | apply Kd.R_drewN | apply Kd.R_drew)); exact HO_9.out⟩, ⟨by (with_reducible repeat (first | apply Kd.R_alloc | apply Kd.R_drewN | apply Kd.R_drew)); exact HO_11.out⟩, ⟨by (with_reducible repeat (first | apply Kd.R_alloc | apply Kd.R_drewN | apply Kd.R_drew)); exact HO_83.out⟩, ⟨by repeat (first | (with_reducible first | exact HB.out | apply below_alloc | apply pw_below_drewN | apply below_drew1) | exact HB.out)⟩⟩
                                        · rw [if_neg c47] at H
                                          have c47b0 : ((wrap64 (Int.tdiv (rd t203 x85_2) 2)) == (rd t207 x85_2)) = false := beq_eq_false_iff_ne.mpr c47
                                          have c47b1 : ((wrap64 (Int.tdiv (rd t203 x85_2) 2)) != (rd t207 x85_2)) = true := bne_iff_ne.mpr c47
                                          obtain rfl := Option.some.inj H
                                          obtain ⟨Ao49, co49, eo49⟩ := Kd.R_slice HO_11.out
                                          subst eo49
                                          have p214 : 0 ≤ (x85_2 : Int) := of_decide_eq_true (by first | (with_reducible assumption) | assumption)
                                          have q214 : x85_2 < (t207.length : Int) := of_decide_eq_true (by first | (with_reducible assumption) | assumption)
                                          obtain ⟨ad214, e214, hx214_0⟩ := Kd.at_int (Kd.R_reads' HO_11.out).2.2 x85_2 p214 q214
                                          cases e214
                                          replace p214 := eq_true p214
                                          replace q214 := eq_true q214
                                          go_wp2
                                          go_ret
                                          exact ⟨by first | rfl | (simp [errW_none, errW_some] <;> rfl) | (simp only [← hji2, ← hji42]; first | rfl | (simp [errW_none, errW_some] <;> rfl)) | (simp [*, errW_none, errW_some] <;> rfl), by repeat (first | (with_reducible first | exact HB.out | apply below_alloc | apply pw_below_drewN | apply below_drew1) | exact HB.out)⟩
                                      · rw [if_neg c46] at H
                                        exact absurd H (by simp)
                                    · rw [if_neg c45] at H
                                      have c45b0 : ((Int.tmod (rd t203 x85_2) 2) == 0) = false := beq_eq_false_iff_ne.mpr c45
                                      have c45b1 : ((Int.tmod (rd t203 x85_2) 2) != 0) = true := bne_iff_ne.mpr c45
                                      obtain rfl := Option.some.inj H
                                      obtain ⟨Ao50, co50, eo50⟩ := Kd.R_slice HO_11.out
                                      subst eo50
                                      go_wp2
                                      go_ret
                                      exact ⟨by first | rfl | (simp [errW_none, errW_some] <;> rfl) | (simp only [← hji2, ← hji42]; first | rfl | (simp [errW_none, errW_some] <;> rfl)) | (simp [*, errW_none, errW_some] <;> rfl), by repeat (first | (with_reducible first | exact HB.out | apply below_alloc | apply pw_below_drewN | apply below_drew1) | exact HB.out)⟩
                                  · rw [if_neg c44] at H
                                    have c44b0 : decide (x85_2 < (t207.length : Int)) = false := decide_eq_false c44
                                    clear c44
                                    have H' := Aside0.mk H
                                    clear H
                                    obtain ⟨Ao51, co51, eo51⟩ := Kd.R_slice HO_11.out
                                    subst eo51
                                    go_wp2
                                    go_roundg kj34
                                    case measure => have := HJ10.out; have := HK2.out; have := HJ34.out; omega
                                    case rel => exact ⟨(Go.bits .or .u64 x13_2 (ji42)), (wrap64 (x85_2 + 1)), (by first | rfl | (simp; done) | (simp only [← hji42] <;> (first | rfl | simp)) | (simp [*]; done)), (by first | rfl | (simp; done) | (simp [*]; done)), H', ⟨by have := HJ10.out; have := HK2.out; have := HJ34.out; omega⟩, ⟨by (with_reducible repeat (first | apply Kd.R_alloc | apply Kd.R_drewN | apply Kd.R_drew)); exact HO_9.out⟩, ⟨by (with_reducible repeat (first | apply Kd.R_alloc | apply Kd.R_drewN | apply Kd.R_drew)); exact HO_11.out⟩, ⟨by (with_reducible repeat (first | apply Kd.R_alloc | apply Kd.R_drewN | apply Kd.R_drew)); exact HO_83.out⟩, ⟨by repeat (first | (with_reducible first | exact HB.out | apply below_alloc | apply pw_below_drewN | apply below_drew1) | exact HB.out)⟩⟩
                                · rw [if_neg c43] at H
                                  have c43b0 : (t208 == 0) = false := beq_eq_false_iff_ne.mpr c43
                                  have c43b1 : (t208 != 0) = true := bne_iff_ne.mpr c43
                                  have H' := Aside0.mk H
                                  clear H
                                  go_wp2
                                  go_roundg kj34
                                  case measure => have := HJ10.out; have := HK2.out; have := HJ34.out; omega
                                  case rel => exact ⟨(Go.bits .or .u64 x13_2 (ji42)), (wrap64 (x85_2 + 1)), (by first | rfl | (simp; done) | (simp only [← hji42] <;> (first | rfl | simp)) | (simp [*]; done)), (by first | rfl | (simp; done) | (simp [*]; done)), H', ⟨by have := HJ10.out; have := HK2.out; have := HJ34.out; omega⟩, ⟨by (with_reducible repeat (first | apply Kd.R_alloc | apply Kd.R_drewN | apply Kd.R_drew)); exact HO_9.out⟩, ⟨by (with_reducible repeat (first | apply Kd.R_alloc | apply Kd.R_drewN | apply Kd.R_drew)); exact HO_11.out⟩, ⟨by (with_reducible repeat (first | apply Kd.R_alloc | apply Kd.R_drewN | apply Kd.R_drew)); exact HO_83.out⟩, ⟨by repeat (first | (with_reducible first | exact HB.out | apply below_alloc | apply pw_below_drewN | apply below_drew1) | exact HB.out)⟩⟩
                              · rw [if_neg c41] at H
                                exact absurd H (by simp)
                      · rw [if_neg c34] at H
                        exact absurd H (by simp)
                    · rw [if_neg c33] at H
                      exact absurd H (by simp)
                  · rw [if_neg c32] at H
                    have c32b0 : decide (x85_2 < (t203.length : Int)) = false := decide_eq_false c32
                    clear c32
                    by_cases c52 : t208 = 0
                    · rw [if_pos c52] at H
                      have c52b0 : (t208 == 0) = true := beq_iff_eq.mpr c52
                      have c52b1 : (t208 != 0) = false := bne_eq_false_iff_eq.mpr c52
                      clear c52
                      obtain rfl := Option.some.inj H
                      go_wp2
                      go_ret
                      exact ⟨by first | rfl | (simp [errW_none, errW_some] <;> rfl) | (simp only [← hji2]; first | rfl | (simp [errW_none, errW_some] <;> rfl)) | (simp [*, errW_none, errW_some] <;> rfl), by repeat (first | (with_reducible first | exact HB.out | apply below_alloc | apply pw_below_drewN | apply below_drew1) | exact HB.out)⟩
                    · rw [if_neg c52] at H
                      have c52b0 : (t208 == 0) = false := beq_eq_false_iff_ne.mpr c52
                      have c52b1 : (t208 != 0) = true := bne_iff_ne.mpr c52
                      obtain rfl := Option.some.inj H
                      go_wp2
                      go_ret
                      exact ⟨by first | rfl | (simp [errW_none, errW_some] <;> rfl) | (simp only [← hji2]; first | rfl | (simp [errW_none, errW_some] <;> rfl)) | (simp [*, errW_none, errW_some] <;> rfl), by repeat (first | (with_reducible first | exact HB.out | apply below_alloc | apply pw_below_drewN | apply below_drew1) | exact HB.out)⟩
      · rw [if_neg c7] at H
        have c7b0 : (t193 == 0) = false := beq_eq_false_iff_ne.mpr c7
        have c7b1 : (t193 != 0) = true := bne_iff_ne.mpr c7
        replace H := Option.bind_eq_some_iff.mp H
        obtain ⟨t200, A530, H⟩ := H
        replace H : (if t200 = true then (some ((t192.length : Int) == 0)) else (some false)) = some r := H
        have A53 := Aside0.mk A530
        clear A530
        by_cases c54 : t200 = true
        · subst c54
          have H1 : (some ((t192.length : Int) == 0)) = some r := by rw [if_pos rfl] at H; exact H
          clear H
          have H := H1
          clear H1
          obtain rfl := Option.some.inj H
          have q55 : ((ji2) : Int) ≤ ((l0.length : Int) : Int) := of_decide_eq_true (by first | (with_reducible assumption) | assumption)
          obtain ⟨i055, hi055, _, hsz55, _⟩ := info_parts info45
          have hroom55 : l0.length ≤ c0 := HC0.out
          have hC55 : Kd.C k45 _ A0 l0.length l0 := HR0.out
          have hcut55 := cut_to (P := Try.prog) 37 45 .i64 Try.underlying37 hi055 A0 l0.length c0 (ji2) (of_decide_eq_true (by first | (with_reducible assumption) | assumption)) q55 hroom55
          have hr55 := Kd.C_take (m := ((ji2) : Int).toNat) hC55 (by omega)
          have hy55 : y188.length = ((ji2) : Int).toNat := (by rw [Ny188.out, List.length_take]; omega)
          rw [← Ny188.out] at hr55
          rw [← hy55] at hcut55
          have HR191 := Aside0.mk hr55
          have HC191 := Aside0.mk (show y188.length ≤ c0 from by omega)
          clear hr55 hC55 hroom55 hi055 hsz55
          have KY55 := Aside0.mk hy55
          clear hy55
          replace q55 := eq_true q55
          go_enter Try.func5, Try.ntmps5
          go_wp2_with (first | ((with_reducible refine gate_callee (f := 19) rfl ?_); refine goesL_ (some 23) rfl rfl Try.func19 (by kernel_rfl) rfl #[.slice A0 y188.length c0] rfl (by (try simp only [List.map_toArray, List.map_cons, List.map_nil]); first | done | rfl | (simp only [List.length_drop, List.length_take]; rfl)) ?_; (with_reducible refine (flip_Flip.calls k _ _ y188 t192 t193 _ ?side1 ?side2 A5.out).mono ?_); (case side1 => repeat (first | exact HR191.out | (with_reducible refine Kd.C_alloc ?_ _) | (with_reducible refine Kd.C_drewN ?_ _) | (with_reducible refine Kd.C_drew ?_))); (case side2 => exact HC191.out); rintro e w56 ⟨v194, rfl, ho0, hb⟩; refine ⟨_, rfl, ?_⟩; have n0_ := Aside0.mk (Kd.R_lower ho0 (below_size (by repeat (first | (with_reducible first | exact HB.out | apply below_alloc | apply pw_below_drewN | apply below_drew1) | exact HB.out)))); have n1_ := Aside0.mk (below_step (by repeat (first | (with_reducible first | exact HB.out | apply below_alloc | apply pw_below_drewN | apply below_drew1) | exact HB.out)) hb); clear HB; have HO195 := n0_; have HB := n1_; clear n0_ n1_; (try clear hb); (try clear hb2); (try clear hk); (try clear hi); (try clear ho0); obtain ⟨Ao57, co57, eo57⟩ := Kd.R_slice HO195.out; subst eo57) | ((with_reducible refine gate_callee (f := 19) rfl ?_); refine goesL_ (some 28) rfl rfl Try.func19 (by kernel_rfl) rfl #[.slice Ao57 t192.length co57] rfl (by (try simp only [List.map_toArray, List.map_cons, List.map_nil]); first | done | rfl | (simp only [List.length_drop, List.length_take]; rfl)) ?_; (with_reducible refine (flip_Flip.calls k _ _ t192 t196 t197 _ ?side1 ?side2 A6.out).mono ?_); (case side1 => repeat (first | exact (Kd.R_reads' HO195.out).2.2 | (with_reducible refine Kd.C_alloc ?_ _) | (with_reducible refine Kd.C_drewN ?_ _) | (with_reducible refine Kd.C_drew ?_))); (case side2 => exact (Kd.R_reads' HO195.out).2.1); rintro e w58 ⟨v198, rfl, ho0, hb⟩; refine ⟨_, rfl, ?_⟩; have n0_ := Aside0.mk (Kd.R_elder' (by (with_reducible repeat (first | apply Kd.R_alloc | apply Kd.R_drewN | apply Kd.R_drew)); exact HO195.out) (Kd.R_base ho0) hb); have n1_ := Aside0.mk (Kd.R_lower (Kd.R_new' ho0 (Kd.R_lt (by (with_reducible repeat (first | apply Kd.R_alloc | apply Kd.R_drewN | apply Kd.R_drew)); exact HO195.out))) (below_size (by repeat (first | (with_reducible first | exact HB.out | apply below_alloc | apply pw_below_drewN | apply below_drew1) | exact HB.out)))); have n2_ := Aside0.mk (below_step (by repeat (first | (with_reducible first | exact HB.out | apply below_alloc | apply pw_below_drewN | apply below_drew1) | exact HB.out)) hb); clear HO195; clear HB; have HO195 := n0_; have HO199 := n1_; have HB := n2_; clear n0_ n1_ n2_; (try clear hb); (try clear hb2); (try clear hk); (try clear hi); (try clear ho0)) | ((with_reducible refine gate_callee (f := 14) rfl ?_); refine goesL_ (some 33) rfl rfl Try.func14 (by kernel_rfl) rfl #[] rfl (by (try simp only [List.map_toArray, List.map_cons, List.map_nil]); first | done | rfl | (simp only [List.length_drop, List.length_take]; rfl)) ?_; (with_reducible refine (headroomlaw08_alive.calls k  true _ A53.out).mono ?_); rintro e w' ⟨rfl, ⟨nd, rfl⟩⟩; refine ⟨_, rfl, ?_⟩))
          go_ret
          exact ⟨by first | rfl | (simp [errW_none, errW_some] <;> rfl) | (simp only [← hji2]; first | rfl | (simp [errW_none, errW_some] <;> rfl)) | (simp [*, errW_none, errW_some] <;> rfl), by repeat (first | (with_reducible first | exact HB.out | apply below_alloc | apply pw_below_drewN | apply below_drew1) | exact HB.out)⟩
        · replace c54 := Bool.eq_false_iff.mpr c54
          subst c54
          have H1 : (some false) = some r := by rw [if_neg (show ¬ (false = true) by decide)] at H; exact H
          clear H
          have H := H1
          clear H1
          obtain rfl := Option.some.inj H
          have q59 : ((ji2) : Int) ≤ ((l0.length : Int) : Int) := of_decide_eq_true (by first | (with_reducible assumption) | assumption)
          obtain ⟨i059, hi059, _, hsz59, _⟩ := info_parts info45
          have hroom59 : l0.length ≤ c0 := HC0.out
          have hC59 : Kd.C k45 _ A0 l0.length l0 := HR0.out
          have hcut59 := cut_to (P := Try.prog) 37 45 .i64 Try.underlying37 hi059 A0 l0.length c0 (ji2) (of_decide_eq_true (by first | (with_reducible assumption) | assumption)) q59 hroom59
          have hr59 := Kd.C_take (m := ((ji2) : Int).toNat) hC59 (by omega)
          have hy59 : y188.length = ((ji2) : Int).toNat := (by rw [Ny188.out, List.length_take]; omega)
          rw [← Ny188.out] at hr59
          rw [← hy59] at hcut59
          have HR191 := Aside0.mk hr59
          have HC191 := Aside0.mk (show y188.length ≤ c0 from by omega)
          clear hr59 hC59 hroom59 hi059 hsz59
          have KY59 := Aside0.mk hy59
          clear hy59
          replace q59 := eq_true q59
          go_enter Try.func5, Try.ntmps5
          go_wp2_with (first | ((with_reducible refine gate_callee (f := 19) rfl ?_); refine goesL_ (some 23) rfl rfl Try.func19 (by kernel_rfl) rfl #[.slice A0 y188.length c0] rfl (by (try simp only [List.map_toArray, List.map_cons, List.map_nil]); first | done | rfl | (simp only [List.length_drop, List.length_take]; rfl)) ?_; (with_reducible refine (flip_Flip.calls k _ _ y188 t192 t193 _ ?side1 ?side2 A5.out).mono ?_); (case side1 => repeat (first | exact HR191.out | (with_reducible refine Kd.C_alloc ?_ _) | (with_reducible refine Kd.C_drewN ?_ _) | (with_reducible refine Kd.C_drew ?_))); (case side2 => exact HC191.out); rintro e w60 ⟨v194, rfl, ho0, hb⟩; refine ⟨_, rfl, ?_⟩; have n0_ := Aside0.mk (Kd.R_lower ho0 (below_size (by repeat (first | (with_reducible first | exact HB.out | apply below_alloc | apply pw_below_drewN | apply below_drew1) | exact HB.out)))); have n1_ := Aside0.mk (below_step (by repeat (first | (with_reducible first | exact HB.out | apply below_alloc | apply pw_below_drewN | apply below_drew1) | exact HB.out)) hb); clear HB; have HO195 := n0_; have HB := n1_; clear n0_ n1_; (try clear hb); (try clear hb2); (try clear hk); (try clear hi); (try clear ho0); obtain ⟨Ao61, co61, eo61⟩ := Kd.R_slice HO195.out; subst eo61) | ((with_reducible refine gate_callee (f := 19) rfl ?_); refine goesL_ (some 28) rfl rfl Try.func19 (by kernel_rfl) rfl #[.slice Ao61 t192.length co61] rfl (by (try simp only [List.map_toArray, List.map_cons, List.map_nil]); first | done | rfl | (simp only [List.length_drop, List.length_take]; rfl)) ?_; (with_reducible refine (flip_Flip.calls k _ _ t192 t196 t197 _ ?side1 ?side2 A6.out).mono ?_); (case side1 => repeat (first | exact (Kd.R_reads' HO195.out).2.2 | (with_reducible refine Kd.C_alloc ?_ _) | (with_reducible refine Kd.C_drewN ?_ _) | (with_reducible refine Kd.C_drew ?_))); (case side2 => exact (Kd.R_reads' HO195.out).2.1); rintro e w62 ⟨v198, rfl, ho0, hb⟩; refine ⟨_, rfl, ?_⟩; have n0_ := Aside0.mk (Kd.R_elder' (by (with_reducible repeat (first | apply Kd.R_alloc | apply Kd.R_drewN | apply Kd.R_drew)); exact HO195.out) (Kd.R_base ho0) hb); have n1_ := Aside0.mk (Kd.R_lower (Kd.R_new' ho0 (Kd.R_lt (by (with_reducible repeat (first | apply Kd.R_alloc | apply Kd.R_drewN | apply Kd.R_drew)); exact HO195.out))) (below_size (by repeat (first | (with_reducible first | exact HB.out | apply below_alloc | apply pw_below_drewN | apply below_drew1) | exact HB.out)))); have n2_ := Aside0.mk (below_step (by repeat (first | (with_reducible first | exact HB.out | apply below_alloc | apply pw_below_drewN | apply below_drew1) | exact HB.out)) hb); clear HO195; clear HB; have HO195 := n0_; have HO199 := n1_; have HB := n2_; clear n0_ n1_ n2_; (try clear hb); (try clear hb2); (try clear hk); (try clear hi); (try clear ho0)) | ((with_reducible refine gate_callee (f := 14) rfl ?_); refine goesL_ (some 33) rfl rfl Try.func14 (by kernel_rfl) rfl #[] rfl (by (try simp only [List.map_toArray, List.map_cons, List.map_nil]); first | done | rfl | (simp only [List.length_drop, List.length_take]; rfl)) ?_; (with_reducible refine (headroomlaw08_alive.calls k  false _ A53.out).mono ?_); rintro e w' ⟨rfl, ⟨nd, rfl⟩⟩; refine ⟨_, rfl, ?_⟩))
          go_ret
          exact ⟨by first | rfl | (simp [errW_none, errW_some] <;> rfl) | (simp only [← hji2]; first | rfl | (simp [errW_none, errW_some] <;> rfl)) | (simp [*, errW_none, errW_some] <;> rfl), by repeat (first | (with_reducible first | exact HB.out | apply below_alloc | apply pw_below_drewN | apply below_drew1) | exact HB.out)⟩
    · rw [if_neg c4] at H
      exact absurd H (by simp)
  · rw [if_neg c3] at H
    exact absurd H (by simp)

end Go.Proofs.Ytajgpilcbaoneaa.P
