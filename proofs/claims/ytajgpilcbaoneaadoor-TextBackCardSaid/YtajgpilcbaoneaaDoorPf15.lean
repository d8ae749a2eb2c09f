-- Printed for this claim by drive.py (a program of this session's) through the kit's print program; not trusted: Lean checks it.
import Derived.Test.YtajgpilcbaoneaaDoorP0
import Derived.Test.YtajgpilcbaoneaaDoorPf20
namespace Go.Proofs.YtajgpilcbaoneaaDoor.P
open Go.RowKit Go.Proofs.YtajgpilcbaoneaaDoorW.PrintWords Go.Proofs.YtajgpilcbaoneaaDoorW.PrintLast Go.Proofs.YtajgpilcbaoneaaDoorW.PrintMore
attribute [local go_sem] max2_int min2_int max_two min_two max_three min_three max_four min_four   -- for this text's walks alone
set_option linter.unusedVariables false
set_option linter.unusedSimpArgs false

section
open Go.RowKit
variable {P : Program} {ops : Array Oper} {Q : Exit → Act → World → Prop} {md : Region.Mode} {S S' : World → Prop}
/-- In the midst of a region its word may grow, if what is more holds now. -/
theorem strong_go (hSS : ∀ w, S' w → S w) : ∀ (fuel : Nat) (l : Array Bool) (a : Act) (w : World), S' w → wpAnyLast P md ops Q S' [] fuel l a w → wpAnyLast P md ops Q S [] fuel l a w
  | 0, _, _, _, _, h => h
  | fuel + 1, _, _, _, hS, h => ⟨h.1, fun i hi => wpOp_mono (fun a' w' h' => ⟨fun _ _ => hSS _ (h'.1 (by simp) hS), strong_go hSS fuel _ a' w' (h'.1 (by simp) hS) h'.2⟩) (h.2 i hi)⟩
theorem strong_ (S' : World → Prop) (hSS : ∀ w, S' w → S w) {fuel : Nat} {l : Array Bool} {a : Act} {w : World} (hS : S' w) (h : S' w → wpAnyLast P md ops Q S' [] fuel l a w) : wpAnyLast P md ops Q S [] fuel l a w := strong_go hSS fuel l a w hS (h hS)
end
/-! ### headroomref24_Print: function 15 -/
def headroomref24_Print.f (a0_0 : Int) (a0_1 : Int) (a0_2 : Int) (a0_3 : Int) (a0_4 : Int) (a0_5 : Bool) : Option (ByteArray) := (headroomref24_May.f 0).bind fun t208 => (if 0 ≤ a0_0 then (if a0_0 < (t208.length : Int) then (if (rdOf ByteArray.empty t208 a0_0).size + 1 ≤ 9223372036854775807 then ((headroomref24_May.f 1).bind fun t212 => (if 0 ≤ (wrap64 (a0_1 - 2)) then (if (wrap64 (a0_1 - 2)) < (t212.length : Int) then (if ((rdOf ByteArray.empty t208 a0_0) ++ (⟨#[32]⟩ : ByteArray)).size + (rdOf ByteArray.empty t212 (wrap64 (a0_1 - 2))).size ≤ 9223372036854775807 then (if (((rdOf ByteArray.empty t208 a0_0) ++ (⟨#[32]⟩ : ByteArray)) ++ (rdOf ByteArray.empty t212 (wrap64 (a0_1 - 2)))).size + 1 ≤ 9223372036854775807 then ((headroomref24_May.f 2).bind fun t216 => (if 0 ≤ a0_2 then (if a0_2 < (t216.length : Int) then (if ((((rdOf ByteArray.empty t208 a0_0) ++ (⟨#[32]⟩ : ByteArray)) ++ (rdOf ByteArray.empty t212 (wrap64 (a0_1 - 2)))) ++ (⟨#[32]⟩ : ByteArray)).size + (rdOf ByteArray.empty t216 a0_2).size ≤ 9223372036854775807 then (if (((((rdOf ByteArray.empty t208 a0_0) ++ (⟨#[32]⟩ : ByteArray)) ++ (rdOf ByteArray.empty t212 (wrap64 (a0_1 - 2)))) ++ (⟨#[32]⟩ : ByteArray)) ++ (rdOf ByteArray.empty t216 a0_2)).size + 1 ≤ 9223372036854775807 then ((headroomref24_May.f 3).bind fun t220 => (if 0 ≤ a0_3 then (if a0_3 < (t220.length : Int) then (if ((((((rdOf ByteArray.empty t208 a0_0) ++ (⟨#[32]⟩ : ByteArray)) ++ (rdOf ByteArray.empty t212 (wrap64 (a0_1 - 2)))) ++ (⟨#[32]⟩ : ByteArray)) ++ (rdOf ByteArray.empty t216 a0_2)) ++ (⟨#[32]⟩ : ByteArray)).size + (rdOf ByteArray.empty t220 a0_3).size ≤ 9223372036854775807 then (if (((((((rdOf ByteArray.empty t208 a0_0) ++ (⟨#[32]⟩ : ByteArray)) ++ (rdOf ByteArray.empty t212 (wrap64 (a0_1 - 2)))) ++ (⟨#[32]⟩ : ByteArray)) ++ (rdOf ByteArray.empty t216 a0_2)) ++ (⟨#[32]⟩ : ByteArray)) ++ (rdOf ByteArray.empty t220 a0_3)).size + 1 ≤ 9223372036854775807 then ((headroomref24_May.f 4).bind fun t224 => (if 0 ≤ a0_4 then (if a0_4 < (t224.length : Int) then (if ((((((((rdOf ByteArray.empty t208 a0_0) ++ (⟨#[32]⟩ : ByteArray)) ++ (rdOf ByteArray.empty t212 (wrap64 (a0_1 - 2)))) ++ (⟨#[32]⟩ : ByteArray)) ++ (rdOf ByteArray.empty t216 a0_2)) ++ (⟨#[32]⟩ : ByteArray)) ++ (rdOf ByteArray.empty t220 a0_3)) ++ (⟨#[32]⟩ : ByteArray)).size + (rdOf ByteArray.empty t224 a0_4).size ≤ 9223372036854775807 then (if a0_5 = true then (if (((((((((rdOf ByteArray.empty t208 a0_0) ++ (⟨#[32]⟩ : ByteArray)) ++ (rdOf ByteArray.empty t212 (wrap64 (a0_1 - 2)))) ++ (⟨#[32]⟩ : ByteArray)) ++ (rdOf ByteArray.empty t216 a0_2)) ++ (⟨#[32]⟩ : ByteArray)) ++ (rdOf ByteArray.empty t220 a0_3)) ++ (⟨#[32]⟩ : ByteArray)) ++ (rdOf ByteArray.empty t224 a0_4)).size + 8 ≤ 9223372036854775807 then (some ((((((((((rdOf ByteArray.empty t208 a0_0) ++ (⟨#[32]⟩ : ByteArray)) ++ (rdOf ByteArray.empty t212 (wrap64 (a0_1 - 2)))) ++ (⟨#[32]⟩ : ByteArray)) ++ (rdOf ByteArray.empty t216 a0_2)) ++ (⟨#[32]⟩ : ByteArray)) ++ (rdOf ByteArray.empty t220 a0_3)) ++ (⟨#[32]⟩ : ByteArray)) ++ (rdOf ByteArray.empty t224 a0_4)) ++ (⟨#[32, 105, 110, 118, 101, 114, 115, 101]⟩ : ByteArray))) else (none)) else (if (((((((((rdOf ByteArray.empty t208 a0_0) ++ (⟨#[32]⟩ : ByteArray)) ++ (rdOf ByteArray.empty t212 (wrap64 (a0_1 - 2)))) ++ (⟨#[32]⟩ : ByteArray)) ++ (rdOf ByteArray.empty t216 a0_2)) ++ (⟨#[32]⟩ : ByteArray)) ++ (rdOf ByteArray.empty t220 a0_3)) ++ (⟨#[32]⟩ : ByteArray)) ++ (rdOf ByteArray.empty t224 a0_4)).size + 8 ≤ 9223372036854775807 then (some ((((((((((rdOf ByteArray.empty t208 a0_0) ++ (⟨#[32]⟩ : ByteArray)) ++ (rdOf ByteArray.empty t212 (wrap64 (a0_1 - 2)))) ++ (⟨#[32]⟩ : ByteArray)) ++ (rdOf ByteArray.empty t216 a0_2)) ++ (⟨#[32]⟩ : ByteArray)) ++ (rdOf ByteArray.empty t220 a0_3)) ++ (⟨#[32]⟩ : ByteArray)) ++ (rdOf ByteArray.empty t224 a0_4)) ++ (⟨#[32, 102, 111, 114, 119, 97, 114, 100]⟩ : ByteArray))) else (none))) else (none)) else (none)) else (none))) else (none)) else (none)) else (none)) else (none))) else (none)) else (none)) else (none)) else (none))) else (none)) else (none)) else (none)) else (none))) else (none)) else (none)) else (none))
def headroomref24_Print.T1 : Bool × List (List Nat × List Nat) := (true, [([], []), ([], []), ([1], [1]), ([0, 2], [0, 2]), ([3], [3]), ([4], [4]), ([0], []), ([], []), ([7], [7]), ([8], [8]), ([6, 9], [6, 9]), ([10], [10]), ([5, 11], [5, 11]), ([12], [12]), ([6], []), ([], []), ([15], [15]), ([14, 16], [14, 16]), ([17], [17]), ([13, 18], [13, 18]), ([19], [19]), ([14], []), ([], []), ([22], [22]), ([21, 23], [21, 23]), ([24], [24]), ([20, 25], [20, 25]), ([26], [26]), ([21], []), ([], []), ([29], [29]), ([28, 30], [28, 30]), ([31], [31]), ([27, 32], [27, 32]), ([33, 28, 0, 1, 2, 3, 4, 5, 6, 7, 8, 9, 10, 11, 12, 13, 14, 15, 16, 17, 18, 19, 20, 21, 22, 23, 24, 25, 26, 27, 28, 29, 30, 31, 32, 33], [33])])
def headroomref24_Print.B1 : List Nat := [0, 0, 2, 7, 15, 31, 1, 0, 128, 384, 961, 1985, 4095, 8191, 65, 0, 32768, 114753, 245825, 524287, 1048575, 16449, 0, 4194304, 14696513, 31473729, 67108863, 134217727, 2113601, 0, 536870912, 1881161793, 4028645441, 8589934591, 17179869183]
theorem headroomref24_Print.tab1 : rtab .any (opsOf Tryd.f15 1) = headroomref24_Print.T1 := by kernel_rfl
theorem headroomref24_Print.bits1 : waitsOk headroomref24_Print.T1.2 headroomref24_Print.B1 = true := by kernel_rfl
set_option maxHeartbeats 8000000 in
set_option maxRecDepth 100000 in
theorem headroomref24_Print.calls (a0_0 : Int) (a0_1 : Int) (a0_2 : Int) (a0_3 : Int) (a0_4 : Int) (a0_5 : Bool) (r : ByteArray) (w : World) (h : headroomref24_Print.f a0_0 a0_1 a0_2 a0_3 a0_4 a0_5 = some r) :
    Calls Tryd.prog 15 #[.agg #[.int .i64 a0_0, .int .i64 a0_1, .int .i64 a0_2, .int .i64 a0_3, .int .i64 a0_4, .bool a0_5]] w fun e w' => e = .returned (.string r) ∧ Below w.heap.size w w' := by
  have hu23 := Tryd.underlying23
  have HB := Aside0.mk (Below.refl w.heap.size w)
  have H : ((headroomref24_May.f 0).bind fun t208 => (if 0 ≤ a0_0 then (if a0_0 < (t208.length : Int) then (if (rdOf ByteArray.empty t208 a0_0).size + 1 ≤ 9223372036854775807 then ((headroomref24_May.f 1).bind fun t212 => (if 0 ≤ (wrap64 (a0_1 - 2)) then (if (wrap64 (a0_1 - 2)) < (t212.length : Int) then (if ((rdOf ByteArray.empty t208 a0_0) ++ (⟨#[32]⟩ : ByteArray)).size + (rdOf ByteArray.empty t212 (wrap64 (a0_1 - 2))).size ≤ 9223372036854775807 then (if (((rdOf ByteArray.empty t208 a0_0) ++ (⟨#[32]⟩ : ByteArray)) ++ (rdOf ByteArray.empty t212 (wrap64 (a0_1 - 2)))).size + 1 ≤ 9223372036854775807 then ((headroomref24_May.f 2).bind fun t216 => (if 0 ≤ a0_2 then (if a0_2 < (t216.length : Int) then (if ((((rdOf ByteArray.empty t208 a0_0) ++ (⟨#[32]⟩ : ByteArray)) ++ (rdOf ByteArray.empty t212 (wrap64 (a0_1 - 2)))) ++ (⟨#[32]⟩ : ByteArray)).size + (rdOf ByteArray.empty t216 a0_2).size ≤ 9223372036854775807 then (if (((((rdOf ByteArray.empty t208 a0_0) ++ (⟨#[32]⟩ : ByteArray)) ++ (rdOf ByteArray.empty t212 (wrap64 (a0_1 - 2)))) ++ (⟨#[32]⟩ : ByteArray)) ++ (rdOf ByteArray.empty t216 a0_2)).size + 1 ≤ 9223372036854775807 then ((headroomref24_May.f 3).bind fun t220 => (if 0 ≤ a0_3 then (if a0_3 < (t220.length : Int) then (if ((((((rdOf ByteArray.empty t208 a0_0) ++ (⟨#[32]⟩ : ByteArray)) ++ (rdOf ByteArray.empty t212 (wrap64 (a0_1 - 2)))) ++ (⟨#[32]⟩ : ByteArray)) ++ (rdOf ByteArray.empty t216 a0_2)) ++ (⟨#[32]⟩ : ByteArray)).size + (rdOf ByteArray.empty t220 a0_3).size ≤ 9223372036854775807 then (if (((((((rdOf ByteArray.empty t208 a0_0) ++ (⟨#[32]⟩ : ByteArray)) ++ (rdOf ByteArray.empty t212 (wrap64 (a0_1 - 2)))) ++ (⟨#[32]⟩ : ByteArray)) ++ (rdOf ByteArray.empty t216 a0_2)) ++ (⟨#[32]⟩ : ByteArray)) ++ (rdOf ByteArray.empty t220 a0_3)).size + 1 ≤ 9223372036854775807 then ((headroomref24_May.f 4).bind fun t224 => (if 0 ≤ a0_4 then (if a0_4 < (t224.length : Int) then (if ((((((((rdOf ByteArray.empty t208 a0_0) ++ (⟨#[32]⟩ : ByteArray)) ++ (rdOf ByteArray.empty t212 (wrap64 (a0_1 - 2)))) ++ (⟨#[32]⟩ : ByteArray)) ++ (rdOf ByteArray.empty t216 a0_2)) ++ (⟨#[32]⟩ : ByteArray)) ++ (rdOf ByteArray.empty t220 a0_3)) ++ (⟨#[32]⟩ : ByteArray)).size + (rdOf ByteArray.empty t224 a0_4).size ≤ 9223372036854775807 then (if a0_5 = true then (if (((((((((rdOf ByteArray.empty t208 a0_0) ++ (⟨#[32]⟩ : ByteArray)) ++ (rdOf ByteArray.empty t212 (wrap64 (a0_1 - 2)))) ++ (⟨#[32]⟩ : ByteArray)) ++ (rdOf ByteArray.empty t216 a0_2)) ++ (⟨#[32]⟩ : ByteArray)) ++ (rdOf ByteArray.empty t220 a0_3)) ++ (⟨#[32]⟩ : ByteArray)) ++ (rdOf ByteArray.empty t224 a0_4)).size + 8 ≤ 9223372036854775807 then (some ((((((((((rdOf ByteArray.empty t208 a0_0) ++ (⟨#[32]⟩ : ByteArray)) ++ (rdOf ByteArray.empty t212 (wrap64 (a0_1 - 2)))) ++ (⟨#[32]⟩ : ByteArray)) ++ (rdOf ByteArray.empty t216 a0_2)) ++ (⟨#[32]⟩ : ByteArray)) ++ (rdOf ByteArray.empty t220 a0_3)) ++ (⟨#[32]⟩ : ByteArray)) ++ (rdOf ByteArray.empty t224 a0_4)) ++ (⟨#[32, 105, 110, 118, 101, 114, 115, 101]⟩ : ByteArray))) else (none)) else (if (((((((((rdOf ByteArray.empty t208 a0_0) ++ (⟨#[32]⟩ : ByteArray)) ++ (rdOf ByteArray.empty t212 (wrap64 (a0_1 - 2)))) ++ (⟨#[32]⟩ : ByteArray)) ++ (rdOf ByteArray.empty t216 a0_2)) ++ (⟨#[32]⟩ : ByteArray)) ++ (rdOf ByteArray.empty t220 a0_3)) ++ (⟨#[32]⟩ : ByteArray)) ++ (rdOf ByteArray.empty t224 a0_4)).size + 8 ≤ 9223372036854775807 then (some ((((((((((rdOf ByteArray.empty t208 a0_0) ++ (⟨#[32]⟩ : ByteArray)) ++ (rdOf ByteArray.empty t212 (wrap64 (a0_1 - 2)))) ++ (⟨#[32]⟩ : ByteArray)) ++ (rdOf ByteArray.empty t216 a0_2)) ++ (⟨#[32]⟩ : ByteArray)) ++ (rdOf ByteArray.empty t220 a0_3)) ++ (⟨#[32]⟩ : ByteArray)) ++ (rdOf ByteArray.empty t224 a0_4)) ++ (⟨#[32, 102, 111, 114, 119, 97, 114, 100]⟩ : ByteArray))) else (none))) else (none)) else (none)) else (none))) else (none)) else (none)) else (none)) else (none))) else (none)) else (none)) else (none)) else (none))) else (none)) else (none)) else (none)) else (none))) else (none)) else (none)) else (none))) = some r := h
  clear h
  replace H := Option.bind_eq_some_iff.mp H
  obtain ⟨t208, A20, H⟩ := H
  replace H : (if 0 ≤ a0_0 then (if a0_0 < (t208.length : Int) then (if (rdOf ByteArray.empty t208 a0_0).size + 1 ≤ 9223372036854775807 then ((headroomref24_May.f 1).bind fun t212 => (if 0 ≤ (wrap64 (a0_1 - 2)) then (if (wrap64 (a0_1 - 2)) < (t212.length : Int) then (if ((rdOf ByteArray.empty t208 a0_0) ++ (⟨#[32]⟩ : ByteArray)).size + (rdOf ByteArray.empty t212 (wrap64 (a0_1 - 2))).size ≤ 9223372036854775807 then (if (((rdOf ByteArray.empty t208 a0_0) ++ (⟨#[32]⟩ : ByteArray)) ++ (rdOf ByteArray.empty t212 (wrap64 (a0_1 - 2)))).size + 1 ≤ 9223372036854775807 then ((headroomref24_May.f 2).bind fun t216 => (if 0 ≤ a0_2 then (if a0_2 < (t216.length : Int) then (if ((((rdOf ByteArray.empty t208 a0_0) ++ (⟨#[32]⟩ : ByteArray)) ++ (rdOf ByteArray.empty t212 (wrap64 (a0_1 - 2)))) ++ (⟨#[32]⟩ : ByteArray)).size + (rdOf ByteArray.empty t216 a0_2).size ≤ 9223372036854775807 then (if (((((rdOf ByteArray.empty t208 a0_0) ++ (⟨#[32]⟩ : ByteArray)) ++ (rdOf ByteArray.empty t212 (wrap64 (a0_1 - 2)))) ++ (⟨#[32]⟩ : ByteArray)) ++ (rdOf ByteArray.empty t216 a0_2)).size + 1 ≤ 9223372036854775807 then ((headroomref24_May.f 3).bind fun t220 => (if 0 ≤ a0_3 then (if a0_3 < (t220.length : Int) then (if ((((((rdOf ByteArray.empty t208 a0_0) ++ (⟨#[32]⟩ : ByteArray)) ++ (rdOf ByteArray.empty t212 (wrap64 (a0_1 - 2)))) ++ (⟨#[32]⟩ : ByteArray)) ++ (rdOf ByteArray.empty t216 a0_2)) ++ (⟨#[32]⟩ : ByteArray)).size + (rdOf ByteArray.empty t220 a0_3).size ≤ 9223372036854775807 then (if (((((((rdOf ByteArray.empty t208 a0_0) ++ (⟨#[32]⟩ : ByteArray)) ++ (rdOf ByteArray.empty t212 (wrap64 (a0_1 - 2)))) ++ (⟨#[32]⟩ : ByteArray)) ++ (rdOf ByteArray.empty t216 a0_2)) ++ (⟨#[32]⟩ : ByteArray)) ++ (rdOf ByteArray.empty t220 a0_3)).size + 1 ≤ 9223372036854775807 then ((headroomref24_May.f 4).bind fun t224 => (if 0 ≤ a0_4 then (if a0_4 < (t224.length : Int) then (if ((((((((rdOf ByteArray.empty t208 a0_0) ++ (⟨#[32]⟩ : ByteArray)) ++ (rdOf ByteArray.empty t212 (wrap64 (a0_1 - 2)))) ++ (⟨#[32]⟩ : ByteArray)) ++ (rdOf ByteArray.empty t216 a0_2)) ++ (⟨#[32]⟩ : ByteArray)) ++ (rdOf ByteArray.empty t220 a0_3)) ++ (⟨#[32]⟩ : ByteArray)).size + (rdOf ByteArray.empty t224 a0_4).size ≤ 9223372036854775807 then (if a0_5 = true then (if (((((((((rdOf ByteArray.empty t208 a0_0) ++ (⟨#[32]⟩ : ByteArray)) ++ (rdOf ByteArray.empty t212 (wrap64 (a0_1 - 2)))) ++ (⟨#[32]⟩ : ByteArray)) ++ (rdOf ByteArray.empty t216 a0_2)) ++ (⟨#[32]⟩ : ByteArray)) ++ (rdOf ByteArray.empty t220 a0_3)) ++ (⟨#[32]⟩ : ByteArray)) ++ (rdOf ByteArray.empty t224 a0_4)).size + 8 ≤ 9223372036854775807 then (some ((((((((((rdOf ByteArray.empty t208 a0_0) ++ (⟨#[32]⟩ : ByteArray)) ++ (rdOf ByteArray.empty t212 (wrap64 (a0_1 - 2)))) ++ (⟨#[32]⟩ : ByteArray)) ++ (rdOf ByteArray.empty t216 a0_2)) ++ (⟨#[32]⟩ : ByteArray)) ++ (rdOf ByteArray.empty t220 a0_3)) ++ (⟨#[32]⟩ : ByteArray)) ++ (rdOf ByteArray.empty t224 a0_4)) ++ (⟨#[32, 105, 110, 118, 101, 114, 115, 101]⟩ : ByteArray))) else (none)) else (if (((((((((rdOf ByteArray.empty t208 a0_0) ++ (⟨#[32]⟩ : ByteArray)) ++ (rdOf ByteArray.empty t212 (wrap64 (a0_1 - 2)))) ++ (⟨#[32]⟩ : ByteArray)) ++ (rdOf ByteArray.empty t216 a0_2)) ++ (⟨#[32]⟩ : ByteArray)) ++ (rdOf ByteArray.empty t220 a0_3)) ++ (⟨#[32]⟩ : ByteArray)) ++ (rdOf ByteArray.empty t224 a0_4)).size + 8 ≤ 9223372036854775807 then (some ((((((((((rdOf ByteArray.empty t208 a0_0) ++ (⟨#[32]⟩ : ByteArray)) ++ (rdOf ByteArray.empty t212 (wrap64 (a0_1 - 2)))) ++ (⟨#[32]⟩ : ByteArray)) ++ (rdOf ByteArray.empty t216 a0_2)) ++ (⟨#[32]⟩ : ByteArray)) ++ (rdOf ByteArray.empty t220 a0_3)) ++ (⟨#[32]⟩ : ByteArray)) ++ (rdOf ByteArray.empty t224 a0_4)) ++ (⟨#[32, 102, 111, 114, 119, 97, 114, 100]⟩ : ByteArray))) else (none))) else (none)) else (none)) else (none))) else (none)) else (none)) else (none)) else (none))) else (none)) else (none)) else (none)) else (none))) else (none)) else (none)) else (none)) else (none))) else (none)) else (none)) else (none)) = some r := H
  have A2 := Aside0.mk A20
  clear A20
  by_cases c3 : 0 ≤ a0_0
  · rw [if_pos c3] at H
    have c3b0 : decide (0 ≤ a0_0) = true := decide_eq_true c3
    clear c3
    by_cases c4 : a0_0 < (t208.length : Int)
    · rw [if_pos c4] at H
      have c4b0 : decide (a0_0 < (t208.length : Int)) = true := decide_eq_true c4
      clear c4
      by_cases c5 : (rdOf ByteArray.empty t208 a0_0).size + 1 ≤ 9223372036854775807
      · rw [if_pos c5] at H
        have c5b0 := eq_true c5
        have c5b1 : decide ((rdOf ByteArray.empty t208 a0_0).size + 1 ≤ 9223372036854775807) = true := decide_eq_true c5
        try have c5b2 : (9223372036854775807 < (rdOf ByteArray.empty t208 a0_0).size + 1) = False := eq_false (Nat.not_lt.2 c5)
        replace H := Option.bind_eq_some_iff.mp H
        obtain ⟨t212, A60, H⟩ := H
        replace H : (if 0 ≤ (wrap64 (a0_1 - 2)) then (if (wrap64 (a0_1 - 2)) < (t212.length : Int) then (if ((rdOf ByteArray.empty t208 a0_0) ++ (⟨#[32]⟩ : ByteArray)).size + (rdOf ByteArray.empty t212 (wrap64 (a0_1 - 2))).size ≤ 9223372036854775807 then (if (((rdOf ByteArray.empty t208 a0_0) ++ (⟨#[32]⟩ : ByteArray)) ++ (rdOf ByteArray.empty t212 (wrap64 (a0_1 - 2)))).size + 1 ≤ 9223372036854775807 then ((headroomref24_May.f 2).bind fun t216 => (if 0 ≤ a0_2 then (if a0_2 < (t216.length : Int) then (if ((((rdOf ByteArray.empty t208 a0_0) ++ (⟨#[32]⟩ : ByteArray)) ++ (rdOf ByteArray.empty t212 (wrap64 (a0_1 - 2)))) ++ (⟨#[32]⟩ : ByteArray)).size + (rdOf ByteArray.empty t216 a0_2).size ≤ 9223372036854775807 then (if (((((rdOf ByteArray.empty t208 a0_0) ++ (⟨#[32]⟩ : ByteArray)) ++ (rdOf ByteArray.empty t212 (wrap64 (a0_1 - 2)))) ++ (⟨#[32]⟩ : ByteArray)) ++ (rdOf ByteArray.empty t216 a0_2)).size + 1 ≤ 9223372036854775807 then ((headroomref24_May.f 3).bind fun t220 => (if 0 ≤ a0_3 then (if a0_3 < (t220.length : Int) then (if ((((((rdOf ByteArray.empty t208 a0_0) ++ (⟨#[32]⟩ : ByteArray)) ++ (rdOf ByteArray.empty t212 (wrap64 (a0_1 - 2)))) ++ (⟨#[32]⟩ : ByteArray)) ++ (rdOf ByteArray.empty t216 a0_2)) ++ (⟨#[32]⟩ : ByteArray)).size + (rdOf ByteArray.empty t220 a0_3).size ≤ 9223372036854775807 then (if (((((((rdOf ByteArray.empty t208 a0_0) ++ (⟨#[32]⟩ : ByteArray)) ++ (rdOf ByteArray.empty t212 (wrap64 (a0_1 - 2)))) ++ (⟨#[32]⟩ : ByteArray)) ++ (rdOf ByteArray.empty t216 a0_2)) ++ (⟨#[32]⟩ : ByteArray)) ++ (rdOf ByteArray.empty t220 a0_3)).size + 1 ≤ 9223372036854775807 then ((headroomref24_May.f 4).bind fun t224 => (if 0 ≤ a0_4 then (if a0_4 < (t224.length : Int) then (if ((((((((rdOf ByteArray.empty t208 a0_0) ++ (⟨#[32]⟩ : ByteArray)) ++ (rdOf ByteArray.empty t212 (wrap64 (a0_1 - 2)))) ++ (⟨#[32]⟩ : ByteArray)) ++ (rdOf ByteArray.empty t216 a0_2)) ++ (⟨#[32]⟩ : ByteArray)) ++ (rdOf ByteArray.empty t220 a0_3)) ++ (⟨#[32]⟩ : ByteArray)).size + (rdOf ByteArray.empty t224 a0_4).size ≤ 9223372036854775807 then (if a0_5 = true then (if (((((((((rdOf ByteArray.empty t208 a0_0) ++ (⟨#[32]⟩ : ByteArray)) ++ (rdOf ByteArray.empty t212 (wrap64 (a0_1 - 2)))) ++ (⟨#[32]⟩ : ByteArray)) ++ (rdOf ByteArray.empty t216 a0_2)) ++ (⟨#[32]⟩ : ByteArray)) ++ (rdOf ByteArray.empty t220 a0_3)) ++ (⟨#[32]⟩ : ByteArray)) ++ (rdOf ByteArray.empty t224 a0_4)).size + 8 ≤ 9223372036854775807 then (some ((((((((((rdOf ByteArray.empty t208 a0_0) ++ (⟨#[32]⟩ : ByteArray)) ++ (rdOf ByteArray.empty t212 (wrap64 (a0_1 - 2)))) ++ (⟨#[32]⟩ : ByteArray)) ++ (rdOf ByteArray.empty t216 a0_2)) ++ (⟨#[32]⟩ : ByteArray)) ++ (rdOf ByteArray.empty t220 a0_3)) ++ (⟨#[32]⟩ : ByteArray)) ++ (rdOf ByteArray.empty t224 a0_4)) ++ (⟨#[32, 105, 110, 118, 101, 114, 115, 101]⟩ : ByteArray))) else (none)) else (if (((((((((rdOf ByteArray.empty t208 a0_0) ++ (⟨#[32]⟩ : ByteArray)) ++ (rdOf ByteArray.empty t212 (wrap64 (a0_1 - 2)))) ++ (⟨#[32]⟩ : ByteArray)) ++ (rdOf ByteArray.empty t216 a0_2)) ++ (⟨#[32]⟩ : ByteArray)) ++ (rdOf ByteArray.empty t220 a0_3)) ++ (⟨#[32]⟩ : ByteArray)) ++ (rdOf ByteArray.empty t224 a0_4)).size + 8 ≤ 9223372036854775807 then (some ((((((((((rdOf ByteArray.empty t208 a0_0) ++ (⟨#[32]⟩ : ByteArray)) ++ (rdOf ByteArray.empty t212 (wrap64 (a0_1 - 2)))) ++ (⟨#[32]⟩ : ByteArray)) ++ (rdOf ByteArray.empty t216 a0_2)) ++ (⟨#[32]⟩ : ByteArray)) ++ (rdOf ByteArray.empty t220 a0_3)) ++ (⟨#[32]⟩ : ByteArray)) ++ (rdOf ByteArray.empty t224 a0_4)) ++ (⟨#[32, 102, 111, 114, 119, 97, 114, 100]⟩ : ByteArray))) else (none))) else (none)) else (none)) else (none))) else (none)) else (none)) else (none)) else (none))) else (none)) else (none)) else (none)) else (none))) else (none)) else (none)) else (none)) else (none)) = some r := H
        have A6 := Aside0.mk A60
        clear A60
        obtain ⟨ji7, hji7⟩ : ∃ j_ : Int, (wrap64 (a0_1 - 2)) = j_ := ⟨_, rfl⟩
        replace H : (if 0 ≤ (ji7) then (if (ji7) < (t212.length : Int) then (if ((rdOf ByteArray.empty t208 a0_0) ++ (⟨#[32]⟩ : ByteArray)).size + (rdOf ByteArray.empty t212 (ji7)).size ≤ 9223372036854775807 then (if (((rdOf ByteArray.empty t208 a0_0) ++ (⟨#[32]⟩ : ByteArray)) ++ (rdOf ByteArray.empty t212 (ji7))).size + 1 ≤ 9223372036854775807 then ((headroomref24_May.f 2).bind fun t216 => (if 0 ≤ a0_2 then (if a0_2 < (t216.length : Int) then (if ((((rdOf ByteArray.empty t208 a0_0) ++ (⟨#[32]⟩ : ByteArray)) ++ (rdOf ByteArray.empty t212 (ji7))) ++ (⟨#[32]⟩ : ByteArray)).size + (rdOf ByteArray.empty t216 a0_2).size ≤ 9223372036854775807 then (if (((((rdOf ByteArray.empty t208 a0_0) ++ (⟨#[32]⟩ : ByteArray)) ++ (rdOf ByteArray.empty t212 (ji7))) ++ (⟨#[32]⟩ : ByteArray)) ++ (rdOf ByteArray.empty t216 a0_2)).size + 1 ≤ 9223372036854775807 then ((headroomref24_May.f 3).bind fun t220 => (if 0 ≤ a0_3 then (if a0_3 < (t220.length : Int) then (if ((((((rdOf ByteArray.empty t208 a0_0) ++ (⟨#[32]⟩ : ByteArray)) ++ (rdOf ByteArray.empty t212 (ji7))) ++ (⟨#[32]⟩ : ByteArray)) ++ (rdOf ByteArray.empty t216 a0_2)) ++ (⟨#[32]⟩ : ByteArray)).size + (rdOf ByteArray.empty t220 a0_3).size ≤ 9223372036854775807 then (if (((((((rdOf ByteArray.empty t208 a0_0) ++ (⟨#[32]⟩ : ByteArray)) ++ (rdOf ByteArray.empty t212 (ji7))) ++ (⟨#[32]⟩ : ByteArray)) ++ (rdOf ByteArray.empty t216 a0_2)) ++ (⟨#[32]⟩ : ByteArray)) ++ (rdOf ByteArray.empty t220 a0_3)).size + 1 ≤ 9223372036854775807 then ((headroomref24_May.f 4).bind fun t224 => (if 0 ≤ a0_4 then (if a0_4 < (t224.length : Int) then (if ((((((((rdOf ByteArray.empty t208 a0_0) ++ (⟨#[32]⟩ : ByteArray)) ++ (rdOf ByteArray.empty t212 (ji7))) ++ (⟨#[32]⟩ : ByteArray)) ++ (rdOf ByteArray.empty t216 a0_2)) ++ (⟨#[32]⟩ : ByteArray)) ++ (rdOf ByteArray.empty t220 a0_3)) ++ (⟨#[32]⟩ : ByteArray)).size + (rdOf ByteArray.empty t224 a0_4).size ≤ 9223372036854775807 then (if a0_5 = true then (if (((((((((rdOf ByteArray.empty t208 a0_0) ++ (⟨#[32]⟩ : ByteArray)) ++ (rdOf ByteArray.empty t212 (ji7))) ++ (⟨#[32]⟩ : ByteArray)) ++ (rdOf ByteArray.empty t216 a0_2)) ++ (⟨#[32]⟩ : ByteArray)) ++ (rdOf ByteArray.empty t220 a0_3)) ++ (⟨#[32]⟩ : ByteArray)) ++ (rdOf ByteArray.empty t224 a0_4)).size + 8 ≤ 9223372036854775807 then (some ((((((((((rdOf ByteArray.empty t208 a0_0) ++ (⟨#[32]⟩ : ByteArray)) ++ (rdOf ByteArray.empty t212 (ji7))) ++ (⟨#[32]⟩ : ByteArray)) ++ (rdOf ByteArray.empty t216 a0_2)) ++ (⟨#[32]⟩ : ByteArray)) ++ (rdOf ByteArray.empty t220 a0_3)) ++ (⟨#[32]⟩ : ByteArray)) ++ (rdOf ByteArray.empty t224 a0_4)) ++ (⟨#[32, 105, 110, 118, 101, 114, 115, 101]⟩ : ByteArray))) else (none)) else (if (((((((((rdOf ByteArray.empty t208 a0_0) ++ (⟨#[32]⟩ : ByteArray)) ++ (rdOf ByteArray.empty t212 (ji7))) ++ (⟨#[32]⟩ : ByteArray)) ++ (rdOf ByteArray.empty t216 a0_2)) ++ (⟨#[32]⟩ : ByteArray)) ++ (rdOf ByteArray.empty t220 a0_3)) ++ (⟨#[32]⟩ : ByteArray)) ++ (rdOf ByteArray.empty t224 a0_4)).size + 8 ≤ 9223372036854775807 then (some ((((((((((rdOf ByteArray.empty t208 a0_0) ++ (⟨#[32]⟩ : ByteArray)) ++ (rdOf ByteArray.empty t212 (ji7))) ++ (⟨#[32]⟩ : ByteArray)) ++ (rdOf ByteArray.empty t216 a0_2)) ++ (⟨#[32]⟩ : ByteArray)) ++ (rdOf ByteArray.empty t220 a0_3)) ++ (⟨#[32]⟩ : ByteArray)) ++ (rdOf ByteArray.empty t224 a0_4)) ++ (⟨#[32, 102, 111, 114, 119, 97, 114, 100]⟩ : ByteArray))) else (none))) else (none)) else (none)) else (none))) else (none)) else (none)) else (none)) else (none))) else (none)) else (none)) else (none)) else (none))) else (none)) else (none)) else (none)) else (none)) = some r := by first | (rw [hji7] at H; exact H) | (simp only [hji7] at H ⊢; exact H)
        (try rw [hji7] at A2)
        (try rw [hji7] at A6)
        have hji7w : (IntKind.i64.wrap (a0_1 - 2)) = ji7 := (i64_w _).trans hji7
        by_cases c8 : 0 ≤ (ji7)
        · rw [if_pos c8] at H
          have c8b0 : decide (0 ≤ (ji7)) = true := decide_eq_true c8
          clear c8
          by_cases c9 : (ji7) < (t212.length : Int)
          · rw [if_pos c9] at H
            have c9b0 : decide ((ji7) < (t212.length : Int)) = true := decide_eq_true c9
            clear c9
            by_cases c10 : ((rdOf ByteArray.empty t208 a0_0) ++ (⟨#[32]⟩ : ByteArray)).size + (rdOf ByteArray.empty t212 (ji7)).size ≤ 9223372036854775807
            · rw [if_pos c10] at H
              have c10b0 := eq_true c10
              have c10b1 : decide (((rdOf ByteArray.empty t208 a0_0) ++ (⟨#[32]⟩ : ByteArray)).size + (rdOf ByteArray.empty t212 (ji7)).size ≤ 9223372036854775807) = true := decide_eq_true c10
              try have c10b2 : (9223372036854775807 < ((rdOf ByteArray.empty t208 a0_0) ++ (⟨#[32]⟩ : ByteArray)).size + (rdOf ByteArray.empty t212 (ji7)).size) = False := eq_false (Nat.not_lt.2 c10)
              have c10b4 : (9223372036854775807 < (rdOf ByteArray.empty t208 a0_0).size + 1 + (rdOf ByteArray.empty t212 (ji7)).size) = False := eq_false (Nat.not_lt.2 (by have h_ := c10; simp only [ByteArray.size_append] at h_; exact h_))
              by_cases c11 : (((rdOf ByteArray.empty t208 a0_0) ++ (⟨#[32]⟩ : ByteArray)) ++ (rdOf ByteArray.empty t212 (ji7))).size + 1 ≤ 9223372036854775807
              · rw [if_pos c11] at H
                have c11b0 := eq_true c11
                have c11b1 : decide ((((rdOf ByteArray.empty t208 a0_0) ++ (⟨#[32]⟩ : ByteArray)) ++ (rdOf ByteArray.empty t212 (ji7))).size + 1 ≤ 9223372036854775807) = true := decide_eq_true c11
                try have c11b2 : (9223372036854775807 < (((rdOf ByteArray.empty t208 a0_0) ++ (⟨#[32]⟩ : ByteArray)) ++ (rdOf ByteArray.empty t212 (ji7))).size + 1) = False := eq_false (Nat.not_lt.2 c11)
                have c11b4 : (9223372036854775807 < (rdOf ByteArray.empty t208 a0_0).size + 1 + (rdOf ByteArray.empty t212 (ji7)).size + 1) = False := eq_false (Nat.not_lt.2 (by have h_ := c11; simp only [ByteArray.size_append] at h_; exact h_))
                replace H := Option.bind_eq_some_iff.mp H
                obtain ⟨t216, A120, H⟩ := H
                replace H : (if 0 ≤ a0_2 then (if a0_2 < (t216.length : Int) then (if ((((rdOf ByteArray.empty t208 a0_0) ++ (⟨#[32]⟩ : ByteArray)) ++ (rdOf ByteArray.empty t212 (ji7))) ++ (⟨#[32]⟩ : ByteArray)).size + (rdOf ByteArray.empty t216 a0_2).size ≤ 9223372036854775807 then (if (((((rdOf ByteArray.empty t208 a0_0) ++ (⟨#[32]⟩ : ByteArray)) ++ (rdOf ByteArray.empty t212 (ji7))) ++ (⟨#[32]⟩ : ByteArray)) ++ (rdOf ByteArray.empty t216 a0_2)).size + 1 ≤ 9223372036854775807 then ((headroomref24_May.f 3).bind fun t220 => (if 0 ≤ a0_3 then (if a0_3 < (t220.length : Int) then (if ((((((rdOf ByteArray.empty t208 a0_0) ++ (⟨#[32]⟩ : ByteArray)) ++ (rdOf ByteArray.empty t212 (ji7))) ++ (⟨#[32]⟩ : ByteArray)) ++ (rdOf ByteArray.empty t216 a0_2)) ++ (⟨#[32]⟩ : ByteArray)).size + (rdOf ByteArray.empty t220 a0_3).size ≤ 9223372036854775807 then (if (((((((rdOf ByteArray.empty t208 a0_0) ++ (⟨#[32]⟩ : ByteArray)) ++ (rdOf ByteArray.empty t212 (ji7))) ++ (⟨#[32]⟩ : ByteArray)) ++ (rdOf ByteArray.empty t216 a0_2)) ++ (⟨#[32]⟩ : ByteArray)) ++ (rdOf ByteArray.empty t220 a0_3)).size + 1 ≤ 9223372036854775807 then ((headroomref24_May.f 4).bind fun t224 => (if 0 ≤ a0_4 then (if a0_4 < (t224.length : Int) then (if ((((((((rdOf ByteArray.empty t208 a0_0) ++ (⟨#[32]⟩ : ByteArray)) ++ (rdOf ByteArray.empty t212 (ji7))) ++ (⟨#[32]⟩ : ByteArray)) ++ (rdOf ByteArray.empty t216 a0_2)) ++ (⟨#[32]⟩ : ByteArray)) ++ (rdOf ByteArray.empty t220 a0_3)) ++ (⟨#[32]⟩ : ByteArray)).size + (rdOf ByteArray.empty t224 a0_4).size ≤ 9223372036854775807 then (if a0_5 = true then (if (((((((((rdOf ByteArray.empty t208 a0_0) ++ (⟨#[32]⟩ : ByteArray)) ++ (rdOf ByteArray.empty t212 (ji7))) ++ (⟨#[32]⟩ : ByteArray)) ++ (rdOf ByteArray.empty t216 a0_2)) ++ (⟨#[32]⟩ : ByteArray)) ++ (rdOf ByteArray.empty t220 a0_3)) ++ (⟨#[32]⟩ : ByteArray)) ++ (rdOf ByteArray.empty t224 a0_4)).size + 8 ≤ 9223372036854775807 then (some ((((((((((rdOf ByteArray.empty t208 a0_0) ++ (⟨#[32]⟩ : ByteArray)) ++ (rdOf ByteArray.empty t212 (ji7))) ++ (⟨#[32]⟩ : ByteArray)) ++ (rdOf ByteArray.empty t216 a0_2)) ++ (⟨#[32]⟩ : ByteArray)) ++ (rdOf ByteArray.empty t220 a0_3)) ++ (⟨#[32]⟩ : ByteArray)) ++ (rdOf ByteArray.empty t224 a0_4)) ++ (⟨#[32, 105, 110, 118, 101, 114, 115, 101]⟩ : ByteArray))) else (none)) else (if (((((((((rdOf ByteArray.empty t208 a0_0) ++ (⟨#[32]⟩ : ByteArray)) ++ (rdOf ByteArray.empty t212 (ji7))) ++ (⟨#[32]⟩ : ByteArray)) ++ (rdOf ByteArray.empty t216 a0_2)) ++ (⟨#[32]⟩ : ByteArray)) ++ (rdOf ByteArray.empty t220 a0_3)) ++ (⟨#[32]⟩ : ByteArray)) ++ (rdOf ByteArray.empty t224 a0_4)).size + 8 ≤ 9223372036854775807 then (some ((((((((((rdOf ByteArray.empty t208 a0_0) ++ (⟨#[32]⟩ : ByteArray)) ++ (rdOf ByteArray.empty t212 (ji7))) ++ (⟨#[32]⟩ : ByteArray)) ++ (rdOf ByteArray.empty t216 a0_2)) ++ (⟨#[32]⟩ : ByteArray)) ++ (rdOf ByteArray.empty t220 a0_3)) ++ (⟨#[32]⟩ : ByteArray)) ++ (rdOf ByteArray.empty t224 a0_4)) ++ (⟨#[32, 102, 111, 114, 119, 97, 114, 100]⟩ : ByteArray))) else (none))) else (none)) else (none)) else (none))) else (none)) else (none)) else (none)) else (none))) else (none)) else (none)) else (none)) else (none)) = some r := H
                have A12 := Aside0.mk A120
                clear A120
                by_cases c13 : 0 ≤ a0_2
                · rw [if_pos c13] at H
                  have c13b0 : decide (0 ≤ a0_2) = true := decide_eq_true c13
                  clear c13
                  by_cases c14 : a0_2 < (t216.length : Int)
                  · rw [if_pos c14] at H
                    have c14b0 : decide (a0_2 < (t216.length : Int)) = true := decide_eq_true c14
                    clear c14
                    by_cases c15 : ((((rdOf ByteArray.empty t208 a0_0) ++ (⟨#[32]⟩ : ByteArray)) ++ (rdOf ByteArray.empty t212 (ji7))) ++ (⟨#[32]⟩ : ByteArray)).size + (rdOf ByteArray.empty t216 a0_2).size ≤ 9223372036854775807
                    · rw [if_pos c15] at H
                      have c15b0 := eq_true c15
                      have c15b1 : decide (((((rdOf ByteArray.empty t208 a0_0) ++ (⟨#[32]⟩ : ByteArray)) ++ (rdOf ByteArray.empty t212 (ji7))) ++ (⟨#[32]⟩ : ByteArray)).size + (rdOf ByteArray.empty t216 a0_2).size ≤ 9223372036854775807) = true := decide_eq_true c15
                      try have c15b2 : (9223372036854775807 < ((((rdOf ByteArray.empty t208 a0_0) ++ (⟨#[32]⟩ : ByteArray)) ++ (rdOf ByteArray.empty t212 (ji7))) ++ (⟨#[32]⟩ : ByteArray)).size + (rdOf ByteArray.empty t216 a0_2).size) = False := eq_false (Nat.not_lt.2 c15)
                      have c15b4 : (9223372036854775807 < (rdOf ByteArray.empty t208 a0_0).size + 1 + (rdOf ByteArray.empty t212 (ji7)).size + 1 + (rdOf ByteArray.empty t216 a0_2).size) = False := eq_false (Nat.not_lt.2 (by have h_ := c15; simp only [ByteArray.size_append] at h_; exact h_))
                      by_cases c16 : (((((rdOf ByteArray.empty t208 a0_0) ++ (⟨#[32]⟩ : ByteArray)) ++ (rdOf ByteArray.empty t212 (ji7))) ++ (⟨#[32]⟩ : ByteArray)) ++ (rdOf ByteArray.empty t216 a0_2)).size + 1 ≤ 9223372036854775807
                      · rw [if_pos c16] at H
                        have c16b0 := eq_true c16
                        have c16b1 : decide ((((((rdOf ByteArray.empty t208 a0_0) ++ (⟨#[32]⟩ : ByteArray)) ++ (rdOf ByteArray.empty t212 (ji7))) ++ (⟨#[32]⟩ : ByteArray)) ++ (rdOf ByteArray.empty t216 a0_2)).size + 1 ≤ 9223372036854775807) = true := decide_eq_true c16
                        try have c16b2 : (9223372036854775807 < (((((rdOf ByteArray.empty t208 a0_0) ++ (⟨#[32]⟩ : ByteArray)) ++ (rdOf ByteArray.empty t212 (ji7))) ++ (⟨#[32]⟩ : ByteArray)) ++ (rdOf ByteArray.empty t216 a0_2)).size + 1) = False := eq_false (Nat.not_lt.2 c16)
                        have c16b4 : (9223372036854775807 < (rdOf ByteArray.empty t208 a0_0).size + 1 + (rdOf ByteArray.empty t212 (ji7)).size + 1 + (rdOf ByteArray.empty t216 a0_2).size + 1) = False := eq_false (Nat.not_lt.2 (by have h_ := c16; simp only [ByteArray.size_append] at h_; exact h_))
                        replace H := Option.bind_eq_some_iff.mp H
                        obtain ⟨t220, A170, H⟩ := H
                        replace H : (if 0 ≤ a0_3 then (if a0_3 < (t220.length : Int) then (if ((((((rdOf ByteArray.empty t208 a0_0) ++ (⟨#[32]⟩ : ByteArray)) ++ (rdOf ByteArray.empty t212 (ji7))) ++ (⟨#[32]⟩ : ByteArray)) ++ (rdOf ByteArray.empty t216 a0_2)) ++ (⟨#[32]⟩ : ByteArray)).size + (rdOf ByteArray.empty t220 a0_3).size ≤ 9223372036854775807 then (if (((((((rdOf ByteArray.empty t208 a0_0) ++ (⟨#[32]⟩ : ByteArray)) ++ (rdOf ByteArray.empty t212 (ji7))) ++ (⟨#[32]⟩ : ByteArray)) ++ (rdOf ByteArray.empty t216 a0_2)) ++ (⟨#[32]⟩ : ByteArray)) ++ (rdOf ByteArray.empty t220 a0_3)).size + 1 ≤ 9223372036854775807 then ((headroomref24_May.f 4).bind fun t224 => (if 0 ≤ a0_4 then (if a0_4 < (t224.length : Int) then (if ((((((((rdOf ByteArray.empty t208 a0_0) ++ (⟨#[32]⟩ : ByteArray)) ++ (rdOf ByteArray.empty t212 (ji7))) ++ (⟨#[32]⟩ : ByteArray)) ++ (rdOf ByteArray.empty t216 a0_2)) ++ (⟨#[32]⟩ : ByteArray)) ++ (rdOf ByteArray.empty t220 a0_3)) ++ (⟨#[32]⟩ : ByteArray)).size + (rdOf ByteArray.empty t224 a0_4).size ≤ 9223372036854775807 then (if a0_5 = true then (if (((((((((rdOf ByteArray.empty t208 a0_0) ++ (⟨#[32]⟩ : ByteArray)) ++ (rdOf ByteArray.empty t212 (ji7))) ++ (⟨#[32]⟩ : ByteArray)) ++ (rdOf ByteArray.empty t216 a0_2)) ++ (⟨#[32]⟩ : ByteArray)) ++ (rdOf ByteArray.empty t220 a0_3)) ++ (⟨#[32]⟩ : ByteArray)) ++ (rdOf ByteArray.empty t224 a0_4)).size + 8 ≤ 9223372036854775807 then (some ((((((((((rdOf ByteArray.empty t208 a0_0) ++ (⟨#[32]⟩ : ByteArray)) ++ (rdOf ByteArray.empty t212 (ji7))) ++ (⟨#[32]⟩ : ByteArray)) ++ (rdOf ByteArray.empty t216 a0_2)) ++ (⟨#[32]⟩ : ByteArray)) ++ (rdOf ByteArray.empty t220 a0_3)) ++ (⟨#[32]⟩ : ByteArray)) ++ (rdOf ByteArray.empty t224 a0_4)) ++ (⟨#[32, 105, 110, 118, 101, 114, 115, 101]⟩ : ByteArray))) else (none)) else (if (((((((((rdOf ByteArray.empty t208 a0_0) ++ (⟨#[32]⟩ : ByteArray)) ++ (rdOf ByteArray.empty t212 (ji7))) ++ (⟨#[32]⟩ : ByteArray)) ++ (rdOf ByteArray.empty t216 a0_2)) ++ (⟨#[32]⟩ : ByteArray)) ++ (rdOf ByteArray.empty t220 a0_3)) ++ (⟨#[32]⟩ : ByteArray)) ++ (rdOf ByteArray.empty t224 a0_4)).size + 8 ≤ 9223372036854775807 then (some ((((((((((rdOf ByteArray.empty t208 a0_0) ++ (⟨#[32]⟩ : ByteArray)) ++ (rdOf ByteArray.empty t212 (ji7))) ++ (⟨#[32]⟩ : ByteArray)) ++ (rdOf ByteArray.empty t216 a0_2)) ++ (⟨#[32]⟩ : ByteArray)) ++ (rdOf ByteArray.empty t220 a0_3)) ++ (⟨#[32]⟩ : ByteArray)) ++ (rdOf ByteArray.empty t224 a0_4)) ++ (⟨#[32, 102, 111, 114, 119, 97, 114, 100]⟩ : ByteArray))) else (none))) else (none)) else (none)) else (none))) else (none)) else (none)) else (none)) else (none)) = some r := H
                        have A17 := Aside0.mk A170
                        clear A170
                        by_cases c18 : 0 ≤ a0_3
                        · rw [if_pos c18] at H
                          have c18b0 : decide (0 ≤ a0_3) = true := decide_eq_true c18
                          clear c18
                          by_cases c19 : a0_3 < (t220.length : Int)
                          · rw [if_pos c19] at H
                            have c19b0 : decide (a0_3 < (t220.length : Int)) = true := decide_eq_true c19
                            clear c19
                            by_cases c20 : ((((((rdOf ByteArray.empty t208 a0_0) ++ (⟨#[32]⟩ : ByteArray)) ++ (rdOf ByteArray.empty t212 (ji7))) ++ (⟨#[32]⟩ : ByteArray)) ++ (rdOf ByteArray.empty t216 a0_2)) ++ (⟨#[32]⟩ : ByteArray)).size + (rdOf ByteArray.empty t220 a0_3).size ≤ 9223372036854775807
                            · rw [if_pos c20] at H
                              have c20b0 := eq_true c20
                              have c20b1 : decide (((((((rdOf ByteArray.empty t208 a0_0) ++ (⟨#[32]⟩ : ByteArray)) ++ (rdOf ByteArray.empty t212 (ji7))) ++ (⟨#[32]⟩ : ByteArray)) ++ (rdOf ByteArray.empty t216 a0_2)) ++ (⟨#[32]⟩ : ByteArray)).size + (rdOf ByteArray.empty t220 a0_3).size ≤ 9223372036854775807) = true := decide_eq_true c20
                              try have c20b2 : (9223372036854775807 < ((((((rdOf ByteArray.empty t208 a0_0) ++ (⟨#[32]⟩ : ByteArray)) ++ (rdOf ByteArray.empty t212 (ji7))) ++ (⟨#[32]⟩ : ByteArray)) ++ (rdOf ByteArray.empty t216 a0_2)) ++ (⟨#[32]⟩ : ByteArray)).size + (rdOf ByteArray.empty t220 a0_3).size) = False := eq_false (Nat.not_lt.2 c20)
                              have c20b4 : (9223372036854775807 < (rdOf ByteArray.empty t208 a0_0).size + 1 + (rdOf ByteArray.empty t212 (ji7)).size + 1 + (rdOf ByteArray.empty t216 a0_2).size + 1 + (rdOf ByteArray.empty t220 a0_3).size) = False := eq_false (Nat.not_lt.2 (by have h_ := c20; simp only [ByteArray.size_append] at h_; exact h_))
                              by_cases c21 : (((((((rdOf ByteArray.empty t208 a0_0) ++ (⟨#[32]⟩ : ByteArray)) ++ (rdOf ByteArray.empty t212 (ji7))) ++ (⟨#[32]⟩ : ByteArray)) ++ (rdOf ByteArray.empty t216 a0_2)) ++ (⟨#[32]⟩ : ByteArray)) ++ (rdOf ByteArray.empty t220 a0_3)).size + 1 ≤ 9223372036854775807
                              · rw [if_pos c21] at H
                                have c21b0 := eq_true c21
                                have c21b1 : decide ((((((((rdOf ByteArray.empty t208 a0_0) ++ (⟨#[32]⟩ : ByteArray)) ++ (rdOf ByteArray.empty t212 (ji7))) ++ (⟨#[32]⟩ : ByteArray)) ++ (rdOf ByteArray.empty t216 a0_2)) ++ (⟨#[32]⟩ : ByteArray)) ++ (rdOf ByteArray.empty t220 a0_3)).size + 1 ≤ 9223372036854775807) = true := decide_eq_true c21
                                try have c21b2 : (9223372036854775807 < (((((((rdOf ByteArray.empty t208 a0_0) ++ (⟨#[32]⟩ : ByteArray)) ++ (rdOf ByteArray.empty t212 (ji7))) ++ (⟨#[32]⟩ : ByteArray)) ++ (rdOf ByteArray.empty t216 a0_2)) ++ (⟨#[32]⟩ : ByteArray)) ++ (rdOf ByteArray.empty t220 a0_3)).size + 1) = False := eq_false (Nat.not_lt.2 c21)
                                have c21b4 : (9223372036854775807 < (rdOf ByteArray.empty t208 a0_0).size + 1 + (rdOf ByteArray.empty t212 (ji7)).size + 1 + (rdOf ByteArray.empty t216 a0_2).size + 1 + (rdOf ByteArray.empty t220 a0_3).size + 1) = False := eq_false (Nat.not_lt.2 (by have h_ := c21; simp only [ByteArray.size_append] at h_; exact h_))
                                replace H := Option.bind_eq_some_iff.mp H
                                obtain ⟨t224, A220, H⟩ := H
                                replace H : (if 0 ≤ a0_4 then (if a0_4 < (t224.length : Int) then (if ((((((((rdOf ByteArray.empty t208 a0_0) ++ (⟨#[32]⟩ : ByteArray)) ++ (rdOf ByteArray.empty t212 (ji7))) ++ (⟨#[32]⟩ : ByteArray)) ++ (rdOf ByteArray.empty t216 a0_2)) ++ (⟨#[32]⟩ : ByteArray)) ++ (rdOf ByteArray.empty t220 a0_3)) ++ (⟨#[32]⟩ : ByteArray)).size + (rdOf ByteArray.empty t224 a0_4).size ≤ 9223372036854775807 then (if a0_5 = true then (if (((((((((rdOf ByteArray.empty t208 a0_0) ++ (⟨#[32]⟩ : ByteArray)) ++ (rdOf ByteArray.empty t212 (ji7))) ++ (⟨#[32]⟩ : ByteArray)) ++ (rdOf ByteArray.empty t216 a0_2)) ++ (⟨#[32]⟩ : ByteArray)) ++ (rdOf ByteArray.empty t220 a0_3)) ++ (⟨#[32]⟩ : ByteArray)) ++ (rdOf ByteArray.empty t224 a0_4)).size + 8 ≤ 9223372036854775807 then (some ((((((((((rdOf ByteArray.empty t208 a0_0) ++ (⟨#[32]⟩ : ByteArray)) ++ (rdOf ByteArray.empty t212 (ji7))) ++ (⟨#[32]⟩ : ByteArray)) ++ (rdOf ByteArray.empty t216 a0_2)) ++ (⟨#[32]⟩ : ByteArray)) ++ (rdOf ByteArray.empty t220 a0_3)) ++ (⟨#[32]⟩ : ByteArray)) ++ (rdOf ByteArray.empty t224 a0_4)) ++ (⟨#[32, 105, 110, 118, 101, 114, 115, 101]⟩ : ByteArray))) else (none)) else (if (((((((((rdOf ByteArray.empty t208 a0_0) ++ (⟨#[32]⟩ : ByteArray)) ++ (rdOf ByteArray.empty t212 (ji7))) ++ (⟨#[32]⟩ : ByteArray)) ++ (rdOf ByteArray.empty t216 a0_2)) ++ (⟨#[32]⟩ : ByteArray)) ++ (rdOf ByteArray.empty t220 a0_3)) ++ (⟨#[32]⟩ : ByteArray)) ++ (rdOf ByteArray.empty t224 a0_4)).size + 8 ≤ 9223372036854775807 then (some ((((((((((rdOf ByteArray.empty t208 a0_0) ++ (⟨#[32]⟩ : ByteArray)) ++ (rdOf ByteArray.empty t212 (ji7))) ++ (⟨#[32]⟩ : ByteArray)) ++ (rdOf ByteArray.empty t216 a0_2)) ++ (⟨#[32]⟩ : ByteArray)) ++ (rdOf ByteArray.empty t220 a0_3)) ++ (⟨#[32]⟩ : ByteArray)) ++ (rdOf ByteArray.empty t224 a0_4)) ++ (⟨#[32, 102, 111, 114, 119, 97, 114, 100]⟩ : ByteArray))) else (none))) else (none)) else (none)) else (none)) = some r := H
                                have A22 := Aside0.mk A220
                                clear A220
                                by_cases c23 : 0 ≤ a0_4
                                · rw [if_pos c23] at H
                                  have c23b0 : decide (0 ≤ a0_4) = true := decide_eq_true c23
                                  clear c23
                                  by_cases c24 : a0_4 < (t224.length : Int)
                                  · rw [if_pos c24] at H
                                    have c24b0 : decide (a0_4 < (t224.length : Int)) = true := decide_eq_true c24
                                    clear c24
                                    by_cases c25 : ((((((((rdOf ByteArray.empty t208 a0_0) ++ (⟨#[32]⟩ : ByteArray)) ++ (rdOf ByteArray.empty t212 (ji7))) ++ (⟨#[32]⟩ : ByteArray)) ++ (rdOf ByteArray.empty t216 a0_2)) ++ (⟨#[32]⟩ : ByteArray)) ++ (rdOf ByteArray.empty t220 a0_3)) ++ (⟨#[32]⟩ : ByteArray)).size + (rdOf ByteArray.empty t224 a0_4).size ≤ 9223372036854775807
                                    · rw [if_pos c25] at H
                                      have c25b0 := eq_true c25
                                      have c25b1 : decide (((((((((rdOf ByteArray.empty t208 a0_0) ++ (⟨#[32]⟩ : ByteArray)) ++ (rdOf ByteArray.empty t212 (ji7))) ++ (⟨#[32]⟩ : ByteArray)) ++ (rdOf ByteArray.empty t216 a0_2)) ++ (⟨#[32]⟩ : ByteArray)) ++ (rdOf ByteArray.empty t220 a0_3)) ++ (⟨#[32]⟩ : ByteArray)).size + (rdOf ByteArray.empty t224 a0_4).size ≤ 9223372036854775807) = true := decide_eq_true c25
                                      try have c25b2 : (9223372036854775807 < ((((((((rdOf ByteArray.empty t208 a0_0) ++ (⟨#[32]⟩ : ByteArray)) ++ (rdOf ByteArray.empty t212 (ji7))) ++ (⟨#[32]⟩ : ByteArray)) ++ (rdOf ByteArray.empty t216 a0_2)) ++ (⟨#[32]⟩ : ByteArray)) ++ (rdOf ByteArray.empty t220 a0_3)) ++ (⟨#[32]⟩ : ByteArray)).size + (rdOf ByteArray.empty t224 a0_4).size) = False := eq_false (Nat.not_lt.2 c25)
                                      have c25b4 : (9223372036854775807 < (rdOf ByteArray.empty t208 a0_0).size + 1 + (rdOf ByteArray.empty t212 (ji7)).size + 1 + (rdOf ByteArray.empty t216 a0_2).size + 1 + (rdOf ByteArray.empty t220 a0_3).size + 1 + (rdOf ByteArray.empty t224 a0_4).size) = False := eq_false (Nat.not_lt.2 (by have h_ := c25; simp only [ByteArray.size_append] at h_; exact h_))
                                      by_cases c26 : a0_5 = true
                                      · subst c26
                                        have H1 : (if (((((((((rdOf ByteArray.empty t208 a0_0) ++ (⟨#[32]⟩ : ByteArray)) ++ (rdOf ByteArray.empty t212 (ji7))) ++ (⟨#[32]⟩ : ByteArray)) ++ (rdOf ByteArray.empty t216 a0_2)) ++ (⟨#[32]⟩ : ByteArray)) ++ (rdOf ByteArray.empty t220 a0_3)) ++ (⟨#[32]⟩ : ByteArray)) ++ (rdOf ByteArray.empty t224 a0_4)).size + 8 ≤ 9223372036854775807 then (some ((((((((((rdOf ByteArray.empty t208 a0_0) ++ (⟨#[32]⟩ : ByteArray)) ++ (rdOf ByteArray.empty t212 (ji7))) ++ (⟨#[32]⟩ : ByteArray)) ++ (rdOf ByteArray.empty t216 a0_2)) ++ (⟨#[32]⟩ : ByteArray)) ++ (rdOf ByteArray.empty t220 a0_3)) ++ (⟨#[32]⟩ : ByteArray)) ++ (rdOf ByteArray.empty t224 a0_4)) ++ (⟨#[32, 105, 110, 118, 101, 114, 115, 101]⟩ : ByteArray))) else (none)) = some r := by rw [if_pos rfl] at H; exact H
                                        clear H
                                        have H := H1
                                        clear H1
                                        by_cases c27 : (((((((((rdOf ByteArray.empty t208 a0_0) ++ (⟨#[32]⟩ : ByteArray)) ++ (rdOf ByteArray.empty t212 (ji7))) ++ (⟨#[32]⟩ : ByteArray)) ++ (rdOf ByteArray.empty t216 a0_2)) ++ (⟨#[32]⟩ : ByteArray)) ++ (rdOf ByteArray.empty t220 a0_3)) ++ (⟨#[32]⟩ : ByteArray)) ++ (rdOf ByteArray.empty t224 a0_4)).size + 8 ≤ 9223372036854775807
                                        · rw [if_pos c27] at H
                                          have c27b0 := eq_true c27
                                          have c27b1 : decide ((((((((((rdOf ByteArray.empty t208 a0_0) ++ (⟨#[32]⟩ : ByteArray)) ++ (rdOf ByteArray.empty t212 (ji7))) ++ (⟨#[32]⟩ : ByteArray)) ++ (rdOf ByteArray.empty t216 a0_2)) ++ (⟨#[32]⟩ : ByteArray)) ++ (rdOf ByteArray.empty t220 a0_3)) ++ (⟨#[32]⟩ : ByteArray)) ++ (rdOf ByteArray.empty t224 a0_4)).size + 8 ≤ 9223372036854775807) = true := decide_eq_true c27
                                          try have c27b2 : (9223372036854775807 < (((((((((rdOf ByteArray.empty t208 a0_0) ++ (⟨#[32]⟩ : ByteArray)) ++ (rdOf ByteArray.empty t212 (ji7))) ++ (⟨#[32]⟩ : ByteArray)) ++ (rdOf ByteArray.empty t216 a0_2)) ++ (⟨#[32]⟩ : ByteArray)) ++ (rdOf ByteArray.empty t220 a0_3)) ++ (⟨#[32]⟩ : ByteArray)) ++ (rdOf ByteArray.empty t224 a0_4)).size + 8) = False := eq_false (Nat.not_lt.2 c27)
                                          have c27b4 : (9223372036854775807 < (rdOf ByteArray.empty t208 a0_0).size + 1 + (rdOf ByteArray.empty t212 (ji7)).size + 1 + (rdOf ByteArray.empty t216 a0_2).size + 1 + (rdOf ByteArray.empty t220 a0_3).size + 1 + (rdOf ByteArray.empty t224 a0_4).size + 8) = False := eq_false (Nat.not_lt.2 (by have h_ := c27; simp only [ByteArray.size_append] at h_; exact h_))
                                          obtain rfl := Option.some.inj H
                                          go_enter Tryd.func15, Tryd.ntmps15
                                          try go_wp2_with (first | ((with_reducible refine gate_dst (N := 1) rfl ?_); refine box_event ?hg (N := 1) ?hd (cs := #[.int .i64 a0_0, .int .i64 a0_1, .int .i64 a0_2, .int .i64 a0_3, .int .i64 a0_4, .bool true]) (t := 23) ?hr ?_; (case hd => rfl); (case hg => rfl); (case hr => first | (go_simp; done) | (go_simp; rfl)); intro gb207 hg w28 hbox hb; have n0_ := Aside0.mk (below_step (by repeat (first | (with_reducible first | exact HB.out | apply below_alloc | apply pw_below_drewN | apply below_drew1) | exact HB.out)) hb); have n1_ := Aside0.mk (hbox); have n2_ := Aside0.mk ((by rw [hg]; exact (below_size (by repeat (first | (with_reducible first | exact HB.out | apply below_alloc | apply pw_below_drewN | apply below_drew1) | exact HB.out))) : w.heap.size ≤ gb207)); have n3_ := Aside0.mk ((by rw [hg]; exact (below_size (by repeat (first | (with_reducible first | exact HB.out | apply below_alloc | apply pw_below_drewN | apply below_drew1) | exact HB.out))) : w.heap.size ≤ gb207)); clear HB; have HB := n0_; have BK207 := n1_; have GW207 := n2_; have GE207 := n3_; clear n0_ n1_ n2_ n3_; clear hb hbox hg))
                                          have n0_ := Aside0.mk (blk_drew BK207.out)
                                          have n1_ := Aside0.mk (below_drew1 HB.out)
                                          clear BK207
                                          clear HB
                                          have BK207 := n0_
                                          have HB := n1_
                                          clear n0_ n1_
                                          refine start_ (n := 35) (S := fun w' => w'.cell? ⟨gb207, 0, none⟩ = some (.int .i64 a0_0) ∧ w'.cell? ⟨gb207, 1, none⟩ = some (.int .i64 a0_1) ∧ w'.cell? ⟨gb207, 2, none⟩ = some (.int .i64 a0_2) ∧ w'.cell? ⟨gb207, 3, none⟩ = some (.int .i64 a0_3) ∧ w'.cell? ⟨gb207, 4, none⟩ = some (.int .i64 a0_4) ∧ w'.cell? ⟨gb207, 5, none⟩ = some (.bool true)) (ds := []) #[false, false, false, false, false, false, false, false, false, false, false, false, false, false, false, false, false, false, false, false, false, false, false, false, false, false, false, false, false, false, false, false, false, false, false] (by kernel_rfl) rfl rfl ⟨(blk_cell BK207.out 0).trans rfl, (blk_cell BK207.out 1).trans rfl, (blk_cell BK207.out 2).trans rfl, (blk_cell BK207.out 3).trans rfl, (blk_cell BK207.out 4).trans rfl, (blk_cell BK207.out 5).trans rfl⟩ (fun hHeld => ?_); refine with_tabW headroomref24_Print.tab1 headroomref24_Print.bits1 (fun HT_ HW_ => ?_)
                                          generalize w28.drew = w29 at BK207 HB hHeld ⊢
                                          refine pure_ (i := 1) (N := some 5) (v := ?_) (a' := ?_) #[false, true, false, false, false, false, false, false, false, false, false, false, false, false, false, false, false, false, false, false, false, false, false, false, false, false, false, false, false, false, false, false, false, false, false] rfl rfl (any_of HT_.out (by kernel_rfl)) (fun _ _ _ h => h) (Or.inl ⟨by rfl, ?_⟩) ?_ ?_
                                          rotate_left
                                          · intro w'
                                            go_simp
                                            with_reducible rfl
                                          rotate_left
                                          · simp only [Act.put, List.setIfInBounds_toArray, List.set_cons_zero, List.set_cons_succ, i64_w, i32_w]
                                            rfl
                                          refine pure_ (i := 7) (N := some 11) (v := ?_) (a' := ?_) #[false, true, false, false, false, false, false, true, false, false, false, false, false, false, false, false, false, false, false, false, false, false, false, false, false, false, false, false, false, false, false, false, false, false, false] rfl rfl (any_of HT_.out (by kernel_rfl)) (fun _ _ _ h => h) (Or.inl ⟨by rfl, ?_⟩) ?_ ?_
                                          rotate_left
                                          · intro w'
                                            go_simp
                                            with_reducible rfl
                                          rotate_left
                                          · simp only [Act.put, List.setIfInBounds_toArray, List.set_cons_zero, List.set_cons_succ, i64_w, i32_w]
                                            rfl
                                          refine pure_ (i := 15) (N := some 19) (v := ?_) (a' := ?_) #[false, true, false, false, false, false, false, true, false, false, false, false, false, false, false, true, false, false, false, false, false, false, false, false, false, false, false, false, false, false, false, false, false, false, false] rfl rfl (any_of HT_.out (by kernel_rfl)) (fun _ _ _ h => h) (Or.inl ⟨by rfl, ?_⟩) ?_ ?_
                                          rotate_left
                                          · intro w'
                                            go_simp
                                            with_reducible rfl
                                          rotate_left
                                          · simp only [Act.put, List.setIfInBounds_toArray, List.set_cons_zero, List.set_cons_succ, i64_w, i32_w]
                                            rfl
                                          refine pure_ (i := 22) (N := some 26) (v := ?_) (a' := ?_) #[false, true, false, false, false, false, false, true, false, false, false, false, false, false, false, true, false, false, false, false, false, false, true, false, false, false, false, false, false, false, false, false, false, false, false] rfl rfl (any_of HT_.out (by kernel_rfl)) (fun _ _ _ h => h) (Or.inl ⟨by rfl, ?_⟩) ?_ ?_
                                          rotate_left
                                          · intro w'
                                            go_simp
                                            with_reducible rfl
                                          rotate_left
                                          · simp only [Act.put, List.setIfInBounds_toArray, List.set_cons_zero, List.set_cons_succ, i64_w, i32_w]
                                            rfl
                                          refine pure_ (i := 29) (N := some 33) (v := ?_) (a' := ?_) #[false, true, false, false, false, false, false, true, false, false, false, false, false, false, false, true, false, false, false, false, false, false, true, false, false, false, false, false, false, true, false, false, false, false, false] rfl rfl (any_of HT_.out (by kernel_rfl)) (fun _ _ _ h => h) (Or.inl ⟨by rfl, ?_⟩) ?_ ?_
                                          rotate_left
                                          · intro w'
                                            go_simp
                                            with_reducible rfl
                                          rotate_left
                                          · simp only [Act.put, List.setIfInBounds_toArray, List.set_cons_zero, List.set_cons_succ, i64_w, i32_w]
                                            rfl
                                          refine take_ (i := 2) (N := some 6) (v := ?_) (a' := ?_) #[false, true, true, false, false, false, false, true, false, false, false, false, false, false, false, true, false, false, false, false, false, false, true, false, false, false, false, false, false, true, false, false, false, false, false] rfl rfl (take_ofW HT_.out HW_.out (by kernel_rfl)) (fun _ _ _ h => h) (Or.inl ⟨by rfl, ?_⟩) hHeld ?_ ?_
                                          rotate_left
                                          · rintro w' ⟨s0, s1, s2, s3, s4, s5⟩
                                            go_simp
                                            with_reducible rfl
                                          rotate_left
                                          · simp only [Act.put, List.setIfInBounds_toArray, List.set_cons_zero, List.set_cons_succ, i64_w, i32_w]
                                            rfl
                                          refine take_ (i := 8) (N := some 12) (v := ?_) (a' := ?_) #[false, true, true, false, false, false, false, true, true, false, false, false, false, false, false, true, false, false, false, false, false, false, true, false, false, false, false, false, false, true, false, false, false, false, false] rfl rfl (take_ofW HT_.out HW_.out (by kernel_rfl)) (fun _ _ _ h => h) (Or.inl ⟨by rfl, ?_⟩) hHeld ?_ ?_
                                          rotate_left
                                          · rintro w' ⟨s0, s1, s2, s3, s4, s5⟩
                                            go_simp
                                            with_reducible rfl
                                          rotate_left
                                          · simp only [Act.put, List.setIfInBounds_toArray, List.set_cons_zero, List.set_cons_succ, i64_w, i32_w]
                                            rfl
                                          refine pure_ (i := 9) (N := some 13) (v := ?_) (a' := ?_) #[false, true, true, false, false, false, false, true, true, true, false, false, false, false, false, true, false, false, false, false, false, false, true, false, false, false, false, false, false, true, false, false, false, false, false] rfl rfl (any_of HT_.out (by kernel_rfl)) (fun _ _ _ h => h) (Or.inl ⟨by rfl, ?_⟩) ?_ ?_
                                          rotate_left
                                          · intro w'
                                            go_simp
                                            with_reducible rfl
                                          rotate_left
                                          · simp only [Act.put, List.setIfInBounds_toArray, List.set_cons_zero, List.set_cons_succ, i64_w, i32_w]
                                            rfl
                                          refine take_ (i := 16) (N := some 20) (v := ?_) (a' := ?_) #[false, true, true, false, false, false, false, true, true, true, false, false, false, false, false, true, true, false, false, false, false, false, true, false, false, false, false, false, false, true, false, false, false, false, false] rfl rfl (take_ofW HT_.out HW_.out (by kernel_rfl)) (fun _ _ _ h => h) (Or.inl ⟨by rfl, ?_⟩) hHeld ?_ ?_
                                          rotate_left
                                          · rintro w' ⟨s0, s1, s2, s3, s4, s5⟩
                                            go_simp
                                            with_reducible rfl
                                          rotate_left
                                          · simp only [Act.put, List.setIfInBounds_toArray, List.set_cons_zero, List.set_cons_succ, i64_w, i32_w]
                                            rfl
                                          refine take_ (i := 23) (N := some 27) (v := ?_) (a' := ?_) #[false, true, true, false, false, false, false, true, true, true, false, false, false, false, false, true, true, false, false, false, false, false, true, true, false, false, false, false, false, true, false, false, false, false, false] rfl rfl (take_ofW HT_.out HW_.out (by kernel_rfl)) (fun _ _ _ h => h) (Or.inl ⟨by rfl, ?_⟩) hHeld ?_ ?_
                                          rotate_left
                                          · rintro w' ⟨s0, s1, s2, s3, s4, s5⟩
                                            go_simp
                                            with_reducible rfl
                                          rotate_left
                                          · simp only [Act.put, List.setIfInBounds_toArray, List.set_cons_zero, List.set_cons_succ, i64_w, i32_w]
                                            rfl
                                          refine take_ (i := 30) (N := some 34) (v := ?_) (a' := ?_) #[false, true, true, false, false, false, false, true, true, true, false, false, false, false, false, true, true, false, false, false, false, false, true, true, false, false, false, false, false, true, true, false, false, false, false] rfl rfl (take_ofW HT_.out HW_.out (by kernel_rfl)) (fun _ _ _ h => h) (Or.inl ⟨by rfl, ?_⟩) hHeld ?_ ?_
                                          rotate_left
                                          · rintro w' ⟨s0, s1, s2, s3, s4, s5⟩
                                            go_simp
                                            with_reducible rfl
                                          rotate_left
                                          · simp only [Act.put, List.setIfInBounds_toArray, List.set_cons_zero, List.set_cons_succ, i64_w, i32_w]
                                            rfl
                                          refine one_ (i := 0) (N := some 4) #[true, true, true, false, false, false, false, true, true, true, false, false, false, false, false, true, true, false, false, false, false, false, true, true, false, false, false, false, false, true, true, false, false, false, false] rfl rfl (one_of HT_.out (by kernel_rfl)) (by decide) (fun K hK => ?_)
                                          refine goes_ Tryd.func20 (by kernel_rfl) rfl #[.int .i64 0] (by rfl) rfl rfl (by (try simp only [List.map_toArray, List.map_cons, List.map_nil]); first | done | rfl | (simp only [List.length_drop, List.length_take]; rfl)) ?_
                                          with_reducible refine (headroomref24_May.calls 0 t208 _ A2.out).mono ?_
                                          rintro e w30 ⟨v209, rfl, ho0, hb⟩
                                          refine ⟨_, rfl, ?_⟩
                                          have n0_ := Aside0.mk (Kd.R_lower ho0 (below_size (by repeat (first | (with_reducible first | exact HB.out | apply below_alloc | apply pw_below_drewN | apply below_drew1 | refine below_set ?_ GE207.out) | exact HB.out))))
                                          have n1_ := Aside0.mk (blk_below (g := gb207) (o := .cells #[.int .i64 a0_0, .int .i64 a0_1, .int .i64 a0_2, .int .i64 a0_3, .int .i64 a0_4, .bool true] 23 (0, 0)) (by (with_reducible repeat (first | refine blk_drewN ?_ _ | refine blk_drew ?_ | refine blk_alloc ?_ _)); exact BK207.out) hb)
                                          have n2_ := Aside0.mk (below_step (by repeat (first | (with_reducible first | exact HB.out | apply below_alloc | apply pw_below_drewN | apply below_drew1 | refine below_set ?_ GE207.out) | exact HB.out)) hb)
                                          clear BK207
                                          clear HB
                                          have HO210 := n0_
                                          have BK207 := n1_
                                          have HB := n2_
                                          clear n0_ n1_ n2_
                                          (try clear hb)
                                          (try clear hb2)
                                          (try clear hk)
                                          (try clear hi)
                                          (try clear ho0)
                                          obtain ⟨Ao31, co31, eo31⟩ := Kd.R_slice HO210.out
                                          (first | subst eo31 | (injection eo31 with f1_ f2_ f3_; have f4_ := f1_.symm; have f5_ := f3_.symm; clear f1_ f2_ f3_; subst f4_; subst f5_))
                                          have p211 : 0 ≤ (a0_0 : Int) := of_decide_eq_true (by first | (with_reducible assumption) | assumption)
                                          have q211 : a0_0 < (t208.length : Int) := of_decide_eq_true (by first | (with_reducible assumption) | assumption)
                                          obtain ⟨ad211, e211, hx211_0⟩ := Kd.at_string (Kd.R_reads' HO210.out).2.2 a0_0 p211 q211
                                          cases e211
                                          replace p211 := eq_true p211
                                          replace q211 := eq_true q211
                                          refine hK.out _ _ ⟨(blk_cell BK207.out 0).trans rfl, (blk_cell BK207.out 1).trans rfl, (blk_cell BK207.out 2).trans rfl, (blk_cell BK207.out 3).trans rfl, (blk_cell BK207.out 4).trans rfl, (blk_cell BK207.out 5).trans rfl⟩ (fun hHeld => ?_)
                                          clear hK K
                                          refine strong_ (fun w' => w'.cell? (ad211.add (a0_0).toNat) = some (.string (rdOf ByteArray.empty t208 a0_0)) ∧ w'.cell? ⟨gb207, 0, none⟩ = some (.int .i64 a0_0) ∧ w'.cell? ⟨gb207, 1, none⟩ = some (.int .i64 a0_1) ∧ w'.cell? ⟨gb207, 2, none⟩ = some (.int .i64 a0_2) ∧ w'.cell? ⟨gb207, 3, none⟩ = some (.int .i64 a0_3) ∧ w'.cell? ⟨gb207, 4, none⟩ = some (.int .i64 a0_4) ∧ w'.cell? ⟨gb207, 5, none⟩ = some (.bool true)) (fun _ h => h.2) ⟨hx211_0, hHeld⟩ (fun hHeld => ?_)
                                          refine norm_ (a' := ?_) ?_ ?_
                                          rotate_left
                                          · show Act.put _ (some 4) _ = _
                                            simp only [Act.put, List.setIfInBounds_toArray, List.set_cons_zero, List.set_cons_succ, i64_w, i32_w]
                                            rfl
                                          refine pure_ (i := 3) (N := some 7) (v := ?_) (a' := ?_) #[true, true, true, true, false, false, false, true, true, true, false, false, false, false, false, true, true, false, false, false, false, false, true, true, false, false, false, false, false, true, true, false, false, false, false] rfl rfl (any_of HT_.out (by kernel_rfl)) (fun _ _ _ h => h) (Or.inl ⟨by rfl, ?_⟩) ?_ ?_
                                          rotate_left
                                          · intro w'
                                            go_simp
                                            with_reducible rfl
                                          rotate_left
                                          · simp only [Act.put, List.setIfInBounds_toArray, List.set_cons_zero, List.set_cons_succ, i64_w, i32_w]
                                            rfl
                                          refine take_ (i := 4) (N := some 8) (v := ?_) (a' := ?_) #[true, true, true, true, true, false, false, true, true, true, false, false, false, false, false, true, true, false, false, false, false, false, true, true, false, false, false, false, false, true, true, false, false, false, false] rfl rfl (take_ofW HT_.out HW_.out (by kernel_rfl)) (fun _ _ _ h => h) (Or.inl ⟨by rfl, ?_⟩) hHeld ?_ ?_
                                          rotate_left
                                          · rintro w' ⟨t0, s0, s1, s2, s3, s4, s5⟩
                                            go_simp
                                            with_reducible rfl
                                          rotate_left
                                          · simp only [Act.put, List.setIfInBounds_toArray, List.set_cons_zero, List.set_cons_succ, i64_w, i32_w]
                                            rfl
                                          refine pure_ (i := 5) (N := some 9) (v := ?_) (a' := ?_) #[true, true, true, true, true, true, false, true, true, true, false, false, false, false, false, true, true, false, false, false, false, false, true, true, false, false, false, false, false, true, true, false, false, false, false] rfl rfl (any_of HT_.out (by kernel_rfl)) (fun _ _ _ h => h) (Or.inl ⟨by rfl, ?_⟩) ?_ ?_
                                          rotate_left
                                          · intro w'
                                            go_simp
                                            with_reducible rfl
                                          rotate_left
                                          · simp only [Act.put, List.setIfInBounds_toArray, List.set_cons_zero, List.set_cons_succ, i64_w, i32_w]
                                            rfl
                                          refine one_ (i := 6) (N := some 10) #[true, true, true, true, true, true, true, true, true, true, false, false, false, false, false, true, true, false, false, false, false, false, true, true, false, false, false, false, false, true, true, false, false, false, false] rfl rfl (one_of HT_.out (by kernel_rfl)) (by decide) (fun K hK => ?_)
                                          refine goes_ Tryd.func20 (by kernel_rfl) rfl #[.int .i64 1] (by rfl) rfl rfl (by (try simp only [List.map_toArray, List.map_cons, List.map_nil]); first | done | rfl | (simp only [List.length_drop, List.length_take]; rfl)) ?_
                                          with_reducible refine (headroomref24_May.calls 1 t212 _ A6.out).mono ?_
                                          rintro e w32 ⟨v213, rfl, ho0, hb⟩
                                          have HS0_ := (hb.cell (World.block_lt_of_cell? _ _ (hHeld.1))).trans (hHeld.1)
                                          refine ⟨_, rfl, ?_⟩
                                          have n0_ := Aside0.mk (Kd.R_elder' (by (with_reducible repeat (first | apply Kd.R_alloc | apply Kd.R_drewN | apply Kd.R_drew)); exact HO210.out) (Kd.R_base ho0) hb)
                                          have n1_ := Aside0.mk (Kd.R_lower (Kd.R_new' ho0 (Kd.R_lt (by (with_reducible repeat (first | apply Kd.R_alloc | apply Kd.R_drewN | apply Kd.R_drew)); exact HO210.out))) (below_size (by repeat (first | (with_reducible first | exact HB.out | apply below_alloc | apply pw_below_drewN | apply below_drew1 | refine below_set ?_ GE207.out) | exact HB.out))))
                                          have n2_ := Aside0.mk (blk_below (g := gb207) (o := .cells #[.int .i64 a0_0, .int .i64 a0_1, .int .i64 a0_2, .int .i64 a0_3, .int .i64 a0_4, .bool true] 23 (0, 0)) (by (with_reducible repeat (first | refine blk_drewN ?_ _ | refine blk_drew ?_ | refine blk_alloc ?_ _)); exact BK207.out) hb)
                                          have n3_ := Aside0.mk (below_step (by repeat (first | (with_reducible first | exact HB.out | apply below_alloc | apply pw_below_drewN | apply below_drew1 | refine below_set ?_ GE207.out) | exact HB.out)) hb)
                                          clear HO210
                                          clear BK207
                                          clear HB
                                          have HO210 := n0_
                                          have HO214 := n1_
                                          have BK207 := n2_
                                          have HB := n3_
                                          clear n0_ n1_ n2_ n3_
                                          (try clear hb)
                                          (try clear hb2)
                                          (try clear hk)
                                          (try clear hi)
                                          (try clear ho0)
                                          obtain ⟨Ao33, co33, eo33⟩ := Kd.R_slice HO214.out
                                          (first | subst eo33 | (injection eo33 with f1_ f2_ f3_; have f4_ := f1_.symm; have f5_ := f3_.symm; clear f1_ f2_ f3_; subst f4_; subst f5_))
                                          have p215 : 0 ≤ ((ji7) : Int) := of_decide_eq_true (by first | (with_reducible assumption) | assumption)
                                          have q215 : (ji7) < (t212.length : Int) := of_decide_eq_true (by first | (with_reducible assumption) | assumption)
                                          obtain ⟨ad215, e215, hx215_0⟩ := Kd.at_string (Kd.R_reads' HO214.out).2.2 (ji7) p215 q215
                                          cases e215
                                          replace p215 := eq_true p215
                                          replace q215 := eq_true q215
                                          refine hK.out _ _ ⟨HS0_, (blk_cell BK207.out 0).trans rfl, (blk_cell BK207.out 1).trans rfl, (blk_cell BK207.out 2).trans rfl, (blk_cell BK207.out 3).trans rfl, (blk_cell BK207.out 4).trans rfl, (blk_cell BK207.out 5).trans rfl⟩ (fun hHeld => ?_)
                                          clear hK K
                                          refine strong_ (fun w' => w'.cell? (ad215.add ((ji7)).toNat) = some (.string (rdOf ByteArray.empty t212 (ji7))) ∧ w'.cell? (ad211.add (a0_0).toNat) = some (.string (rdOf ByteArray.empty t208 a0_0)) ∧ w'.cell? ⟨gb207, 0, none⟩ = some (.int .i64 a0_0) ∧ w'.cell? ⟨gb207, 1, none⟩ = some (.int .i64 a0_1) ∧ w'.cell? ⟨gb207, 2, none⟩ = some (.int .i64 a0_2) ∧ w'.cell? ⟨gb207, 3, none⟩ = some (.int .i64 a0_3) ∧ w'.cell? ⟨gb207, 4, none⟩ = some (.int .i64 a0_4) ∧ w'.cell? ⟨gb207, 5, none⟩ = some (.bool true)) (fun _ h => h.2) ⟨hx215_0, hHeld⟩ (fun hHeld => ?_)
                                          refine norm_ (a' := ?_) ?_ ?_
                                          rotate_left
                                          · show Act.put _ (some 10) _ = _
                                            simp only [Act.put, List.setIfInBounds_toArray, List.set_cons_zero, List.set_cons_succ, i64_w, i32_w]
                                            rfl
                                          refine pure_ (i := 10) (N := some 14) (v := ?_) (a' := ?_) #[true, true, true, true, true, true, true, true, true, true, true, false, false, false, false, true, true, false, false, false, false, false, true, true, false, false, false, false, false, true, true, false, false, false, false] rfl rfl (any_of HT_.out (by kernel_rfl)) (fun _ _ _ h => h) (Or.inl ⟨by rfl, ?_⟩) ?_ ?_
                                          rotate_left
                                          · intro w'
                                            go_simp
                                            with_reducible rfl
                                          rotate_left
                                          · simp only [Act.put, List.setIfInBounds_toArray, List.set_cons_zero, List.set_cons_succ, i64_w, i32_w]
                                            rfl
                                          refine take_ (i := 11) (N := some 15) (v := ?_) (a' := ?_) #[true, true, true, true, true, true, true, true, true, true, true, true, false, false, false, true, true, false, false, false, false, false, true, true, false, false, false, false, false, true, true, false, false, false, false] rfl rfl (take_ofW HT_.out HW_.out (by kernel_rfl)) (fun _ _ _ h => h) (Or.inl ⟨by rfl, ?_⟩) hHeld ?_ ?_
                                          rotate_left
                                          · rintro w' ⟨t1, t0, s0, s1, s2, s3, s4, s5⟩
                                            go_simp
                                            with_reducible rfl
                                          rotate_left
                                          · simp only [Act.put, List.setIfInBounds_toArray, List.set_cons_zero, List.set_cons_succ, i64_w, i32_w]
                                            rfl
                                          refine pure_ (i := 12) (N := some 16) (v := ?_) (a' := ?_) #[true, true, true, true, true, true, true, true, true, true, true, true, true, false, false, true, true, false, false, false, false, false, true, true, false, false, false, false, false, true, true, false, false, false, false] rfl rfl (any_of HT_.out (by kernel_rfl)) (fun _ _ _ h => h) (Or.inl ⟨by rfl, ?_⟩) ?_ ?_
                                          rotate_left
                                          · intro w'
                                            go_simp
                                            with_reducible rfl
                                          rotate_left
                                          · simp only [Act.put, List.setIfInBounds_toArray, List.set_cons_zero, List.set_cons_succ, i64_w, i32_w]
                                            rfl
                                          refine pure_ (i := 13) (N := some 17) (v := ?_) (a' := ?_) #[true, true, true, true, true, true, true, true, true, true, true, true, true, true, false, true, true, false, false, false, false, false, true, true, false, false, false, false, false, true, true, false, false, false, false] rfl rfl (any_of HT_.out (by kernel_rfl)) (fun _ _ _ h => h) (Or.inl ⟨by rfl, ?_⟩) ?_ ?_
                                          rotate_left
                                          · intro w'
                                            go_simp
                                            with_reducible rfl
                                          rotate_left
                                          · simp only [Act.put, List.setIfInBounds_toArray, List.set_cons_zero, List.set_cons_succ, i64_w, i32_w]
                                            rfl
                                          refine one_ (i := 14) (N := some 18) #[true, true, true, true, true, true, true, true, true, true, true, true, true, true, true, true, true, false, false, false, false, false, true, true, false, false, false, false, false, true, true, false, false, false, false] rfl rfl (one_of HT_.out (by kernel_rfl)) (by decide) (fun K hK => ?_)
                                          refine goes_ Tryd.func20 (by kernel_rfl) rfl #[.int .i64 2] (by rfl) rfl rfl (by (try simp only [List.map_toArray, List.map_cons, List.map_nil]); first | done | rfl | (simp only [List.length_drop, List.length_take]; rfl)) ?_
                                          with_reducible refine (headroomref24_May.calls 2 t216 _ A12.out).mono ?_
                                          rintro e w34 ⟨v217, rfl, ho0, hb⟩
                                          have HS0_ := (hb.cell (World.block_lt_of_cell? _ _ (hHeld.2.1))).trans (hHeld.2.1)
                                          have HS1_ := (hb.cell (World.block_lt_of_cell? _ _ (hHeld.1))).trans (hHeld.1)
                                          refine ⟨_, rfl, ?_⟩
                                          have n0_ := Aside0.mk (Kd.R_elder' (by (with_reducible repeat (first | apply Kd.R_alloc | apply Kd.R_drewN | apply Kd.R_drew)); exact HO210.out) (Kd.R_base ho0) hb)
                                          have n1_ := Aside0.mk (Kd.R_elder' (by (with_reducible repeat (first | apply Kd.R_alloc | apply Kd.R_drewN | apply Kd.R_drew)); exact HO214.out) (Kd.R_base ho0) hb)
                                          have n2_ := Aside0.mk (Kd.R_lower (Kd.R_new' (Kd.R_new' ho0 (Kd.R_lt (by (with_reducible repeat (first | apply Kd.R_alloc | apply Kd.R_drewN | apply Kd.R_drew)); exact HO210.out))) (Kd.R_lt (by (with_reducible repeat (first | apply Kd.R_alloc | apply Kd.R_drewN | apply Kd.R_drew)); exact HO214.out))) (below_size (by repeat (first | (with_reducible first | exact HB.out | apply below_alloc | apply pw_below_drewN | apply below_drew1 | refine below_set ?_ GE207.out) | exact HB.out))))
                                          have n3_ := Aside0.mk (blk_below (g := gb207) (o := .cells #[.int .i64 a0_0, .int .i64 a0_1, .int .i64 a0_2, .int .i64 a0_3, .int .i64 a0_4, .bool true] 23 (0, 0)) (by (with_reducible repeat (first | refine blk_drewN ?_ _ | refine blk_drew ?_ | refine blk_alloc ?_ _)); exact BK207.out) hb)
                                          have n4_ := Aside0.mk (below_step (by repeat (first | (with_reducible first | exact HB.out | apply below_alloc | apply pw_below_drewN | apply below_drew1 | refine below_set ?_ GE207.out) | exact HB.out)) hb)
                                          clear HO210
                                          clear HO214
                                          clear BK207
                                          clear HB
                                          have HO210 := n0_
                                          have HO214 := n1_
                                          have HO218 := n2_
                                          have BK207 := n3_
                                          have HB := n4_
                                          clear n0_ n1_ n2_ n3_ n4_
                                          (try clear hb)
                                          (try clear hb2)
                                          (try clear hk)
                                          (try clear hi)
                                          (try clear ho0)
                                          obtain ⟨Ao35, co35, eo35⟩ := Kd.R_slice HO218.out
                                          (first | subst eo35 | (injection eo35 with f1_ f2_ f3_; have f4_ := f1_.symm; have f5_ := f3_.symm; clear f1_ f2_ f3_; subst f4_; subst f5_))
                                          have p219 : 0 ≤ (a0_2 : Int) := of_decide_eq_true (by first | (with_reducible assumption) | assumption)
                                          have q219 : a0_2 < (t216.length : Int) := of_decide_eq_true (by first | (with_reducible assumption) | assumption)
                                          obtain ⟨ad219, e219, hx219_0⟩ := Kd.at_string (Kd.R_reads' HO218.out).2.2 a0_2 p219 q219
                                          cases e219
                                          replace p219 := eq_true p219
                                          replace q219 := eq_true q219
                                          refine hK.out _ _ ⟨HS1_, HS0_, (blk_cell BK207.out 0).trans rfl, (blk_cell BK207.out 1).trans rfl, (blk_cell BK207.out 2).trans rfl, (blk_cell BK207.out 3).trans rfl, (blk_cell BK207.out 4).trans rfl, (blk_cell BK207.out 5).trans rfl⟩ (fun hHeld => ?_)
                                          clear hK K
                                          refine strong_ (fun w' => w'.cell? (ad219.add (a0_2).toNat) = some (.string (rdOf ByteArray.empty t216 a0_2)) ∧ w'.cell? (ad215.add ((ji7)).toNat) = some (.string (rdOf ByteArray.empty t212 (ji7))) ∧ w'.cell? (ad211.add (a0_0).toNat) = some (.string (rdOf ByteArray.empty t208 a0_0)) ∧ w'.cell? ⟨gb207, 0, none⟩ = some (.int .i64 a0_0) ∧ w'.cell? ⟨gb207, 1, none⟩ = some (.int .i64 a0_1) ∧ w'.cell? ⟨gb207, 2, none⟩ = some (.int .i64 a0_2) ∧ w'.cell? ⟨gb207, 3, none⟩ = some (.int .i64 a0_3) ∧ w'.cell? ⟨gb207, 4, none⟩ = some (.int .i64 a0_4) ∧ w'.cell? ⟨gb207, 5, none⟩ = some (.bool true)) (fun _ h => h.2) ⟨hx219_0, hHeld⟩ (fun hHeld => ?_)
                                          refine norm_ (a' := ?_) ?_ ?_
                                          rotate_left
                                          · show Act.put _ (some 18) _ = _
                                            simp only [Act.put, List.setIfInBounds_toArray, List.set_cons_zero, List.set_cons_succ, i64_w, i32_w]
                                            rfl
                                          refine pure_ (i := 17) (N := some 21) (v := ?_) (a' := ?_) #[true, true, true, true, true, true, true, true, true, true, true, true, true, true, true, true, true, true, false, false, false, false, true, true, false, false, false, false, false, true, true, false, false, false, false] rfl rfl (any_of HT_.out (by kernel_rfl)) (fun _ _ _ h => h) (Or.inl ⟨by rfl, ?_⟩) ?_ ?_
                                          rotate_left
                                          · intro w'
                                            go_simp
                                            with_reducible rfl
                                          rotate_left
                                          · simp only [Act.put, List.setIfInBounds_toArray, List.set_cons_zero, List.set_cons_succ, i64_w, i32_w]
                                            rfl
                                          refine take_ (i := 18) (N := some 22) (v := ?_) (a' := ?_) #[true, true, true, true, true, true, true, true, true, true, true, true, true, true, true, true, true, true, true, false, false, false, true, true, false, false, false, false, false, true, true, false, false, false, false] rfl rfl (take_ofW HT_.out HW_.out (by kernel_rfl)) (fun _ _ _ h => h) (Or.inl ⟨by rfl, ?_⟩) hHeld ?_ ?_
                                          rotate_left
                                          · rintro w' ⟨t2, t1, t0, s0, s1, s2, s3, s4, s5⟩
                                            go_simp
                                            with_reducible rfl
                                          rotate_left
                                          · simp only [Act.put, List.setIfInBounds_toArray, List.set_cons_zero, List.set_cons_succ, i64_w, i32_w]
                                            rfl
                                          refine pure_ (i := 19) (N := some 23) (v := ?_) (a' := ?_) #[true, true, true, true, true, true, true, true, true, true, true, true, true, true, true, true, true, true, true, true, false, false, true, true, false, false, false, false, false, true, true, false, false, false, false] rfl rfl (any_of HT_.out (by kernel_rfl)) (fun _ _ _ h => h) (Or.inl ⟨by rfl, ?_⟩) ?_ ?_
                                          rotate_left
                                          · intro w'
                                            go_simp
                                            with_reducible rfl
                                          rotate_left
                                          · simp only [Act.put, List.setIfInBounds_toArray, List.set_cons_zero, List.set_cons_succ, i64_w, i32_w]
                                            rfl
                                          refine pure_ (i := 20) (N := some 24) (v := ?_) (a' := ?_) #[true, true, true, true, true, true, true, true, true, true, true, true, true, true, true, true, true, true, true, true, true, false, true, true, false, false, false, false, false, true, true, false, false, false, false] rfl rfl (any_of HT_.out (by kernel_rfl)) (fun _ _ _ h => h) (Or.inl ⟨by rfl, ?_⟩) ?_ ?_
                                          rotate_left
                                          · intro w'
                                            go_simp
                                            with_reducible rfl
                                          rotate_left
                                          · simp only [Act.put, List.setIfInBounds_toArray, List.set_cons_zero, List.set_cons_succ, i64_w, i32_w]
                                            rfl
                                          refine one_ (i := 21) (N := some 25) #[true, true, true, true, true, true, true, true, true, true, true, true, true, true, true, true, true, true, true, true, true, true, true, true, false, false, false, false, false, true, true, false, false, false, false] rfl rfl (one_of HT_.out (by kernel_rfl)) (by decide) (fun K hK => ?_)
                                          refine goes_ Tryd.func20 (by kernel_rfl) rfl #[.int .i64 3] (by rfl) rfl rfl (by (try simp only [List.map_toArray, List.map_cons, List.map_nil]); first | done | rfl | (simp only [List.length_drop, List.length_take]; rfl)) ?_
                                          with_reducible refine (headroomref24_May.calls 3 t220 _ A17.out).mono ?_
                                          rintro e w36 ⟨v221, rfl, ho0, hb⟩
                                          have HS0_ := (hb.cell (World.block_lt_of_cell? _ _ (hHeld.2.2.1))).trans (hHeld.2.2.1)
                                          have HS1_ := (hb.cell (World.block_lt_of_cell? _ _ (hHeld.2.1))).trans (hHeld.2.1)
                                          have HS2_ := (hb.cell (World.block_lt_of_cell? _ _ (hHeld.1))).trans (hHeld.1)
                                          refine ⟨_, rfl, ?_⟩
                                          have n0_ := Aside0.mk (Kd.R_elder' (by (with_reducible repeat (first | apply Kd.R_alloc | apply Kd.R_drewN | apply Kd.R_drew)); exact HO210.out) (Kd.R_base ho0) hb)
                                          have n1_ := Aside0.mk (Kd.R_elder' (by (with_reducible repeat (first | apply Kd.R_alloc | apply Kd.R_drewN | apply Kd.R_drew)); exact HO214.out) (Kd.R_base ho0) hb)
                                          have n2_ := Aside0.mk (Kd.R_elder' (by (with_reducible repeat (first | apply Kd.R_alloc | apply Kd.R_drewN | apply Kd.R_drew)); exact HO218.out) (Kd.R_base ho0) hb)
                                          have n3_ := Aside0.mk (Kd.R_lower (Kd.R_new' (Kd.R_new' (Kd.R_new' ho0 (Kd.R_lt (by (with_reducible repeat (first | apply Kd.R_alloc | apply Kd.R_drewN | apply Kd.R_drew)); exact HO210.out))) (Kd.R_lt (by (with_reducible repeat (first | apply Kd.R_alloc | apply Kd.R_drewN | apply Kd.R_drew)); exact HO214.out))) (Kd.R_lt (by (with_reducible repeat (first | apply Kd.R_alloc | apply Kd.R_drewN | apply Kd.R_drew)); exact HO218.out))) (below_size (by repeat (first | (with_reducible first | exact HB.out | apply below_alloc | apply pw_below_drewN | apply below_drew1 | refine below_set ?_ GE207.out) | exact HB.out))))
                                          have n4_ := Aside0.mk (blk_below (g := gb207) (o := .cells #[.int .i64 a0_0, .int .i64 a0_1, .int .i64 a0_2, .int .i64 a0_3, .int .i64 a0_4, .bool true] 23 (0, 0)) (by (with_reducible repeat (first | refine blk_drewN ?_ _ | refine blk_drew ?_ | refine blk_alloc ?_ _)); exact BK207.out) hb)
                                          have n5_ := Aside0.mk (below_step (by repeat (first | (with_reducible first | exact HB.out | apply below_alloc | apply pw_below_drewN | apply below_drew1 | refine below_set ?_ GE207.out) | exact HB.out)) hb)
                                          clear HO210
                                          clear HO214
                                          clear HO218
                                          clear BK207
                                          clear HB
                                          have HO210 := n0_
                                          have HO214 := n1_
                                          have HO218 := n2_
                                          have HO222 := n3_
                                          have BK207 := n4_
                                          have HB := n5_
                                          clear n0_ n1_ n2_ n3_ n4_ n5_
                                          (try clear hb)
                                          (try clear hb2)
                                          (try clear hk)
                                          (try clear hi)
                                          (try clear ho0)
                                          obtain ⟨Ao37, co37, eo37⟩ := Kd.R_slice HO222.out
                                          (first | subst eo37 | (injection eo37 with f1_ f2_ f3_; have f4_ := f1_.symm; have f5_ := f3_.symm; clear f1_ f2_ f3_; subst f4_; subst f5_))
                                          have p223 : 0 ≤ (a0_3 : Int) := of_decide_eq_true (by first | (with_reducible assumption) | assumption)
                                          have q223 : a0_3 < (t220.length : Int) := of_decide_eq_true (by first | (with_reducible assumption) | assumption)
                                          obtain ⟨ad223, e223, hx223_0⟩ := Kd.at_string (Kd.R_reads' HO222.out).2.2 a0_3 p223 q223
                                          cases e223
                                          replace p223 := eq_true p223
                                          replace q223 := eq_true q223
                                          refine hK.out _ _ ⟨HS2_, HS1_, HS0_, (blk_cell BK207.out 0).trans rfl, (blk_cell BK207.out 1).trans rfl, (blk_cell BK207.out 2).trans rfl, (blk_cell BK207.out 3).trans rfl, (blk_cell BK207.out 4).trans rfl, (blk_cell BK207.out 5).trans rfl⟩ (fun hHeld => ?_)
                                          clear hK K
                                          refine strong_ (fun w' => w'.cell? (ad223.add (a0_3).toNat) = some (.string (rdOf ByteArray.empty t220 a0_3)) ∧ w'.cell? (ad219.add (a0_2).toNat) = some (.string (rdOf ByteArray.empty t216 a0_2)) ∧ w'.cell? (ad215.add ((ji7)).toNat) = some (.string (rdOf ByteArray.empty t212 (ji7))) ∧ w'.cell? (ad211.add (a0_0).toNat) = some (.string (rdOf ByteArray.empty t208 a0_0)) ∧ w'.cell? ⟨gb207, 0, none⟩ = some (.int .i64 a0_0) ∧ w'.cell? ⟨gb207, 1, none⟩ = some (.int .i64 a0_1) ∧ w'.cell? ⟨gb207, 2, none⟩ = some (.int .i64 a0_2) ∧ w'.cell? ⟨gb207, 3, none⟩ = some (.int .i64 a0_3) ∧ w'.cell? ⟨gb207, 4, none⟩ = some (.int .i64 a0_4) ∧ w'.cell? ⟨gb207, 5, none⟩ = some (.bool true)) (fun _ h => h.2) ⟨hx223_0, hHeld⟩ (fun hHeld => ?_)
                                          refine norm_ (a' := ?_) ?_ ?_
                                          rotate_left
                                          · show Act.put _ (some 25) _ = _
                                            simp only [Act.put, List.setIfInBounds_toArray, List.set_cons_zero, List.set_cons_succ, i64_w, i32_w]
                                            rfl
                                          refine pure_ (i := 24) (N := some 28) (v := ?_) (a' := ?_) #[true, true, true, true, true, true, true, true, true, true, true, true, true, true, true, true, true, true, true, true, true, true, true, true, true, false, false, false, false, true, true, false, false, false, false] rfl rfl (any_of HT_.out (by kernel_rfl)) (fun _ _ _ h => h) (Or.inl ⟨by rfl, ?_⟩) ?_ ?_
                                          rotate_left
                                          · intro w'
                                            go_simp
                                            with_reducible rfl
                                          rotate_left
                                          · simp only [Act.put, List.setIfInBounds_toArray, List.set_cons_zero, List.set_cons_succ, i64_w, i32_w]
                                            rfl
                                          refine take_ (i := 25) (N := some 29) (v := ?_) (a' := ?_) #[true, true, true, true, true, true, true, true, true, true, true, true, true, true, true, true, true, true, true, true, true, true, true, true, true, true, false, false, false, true, true, false, false, false, false] rfl rfl (take_ofW HT_.out HW_.out (by kernel_rfl)) (fun _ _ _ h => h) (Or.inl ⟨by rfl, ?_⟩) hHeld ?_ ?_
                                          rotate_left
                                          · rintro w' ⟨t3, t2, t1, t0, s0, s1, s2, s3, s4, s5⟩
                                            go_simp
                                            with_reducible rfl
                                          rotate_left
                                          · simp only [Act.put, List.setIfInBounds_toArray, List.set_cons_zero, List.set_cons_succ, i64_w, i32_w]
                                            rfl
                                          refine pure_ (i := 26) (N := some 30) (v := ?_) (a' := ?_) #[true, true, true, true, true, true, true, true, true, true, true, true, true, true, true, true, true, true, true, true, true, true, true, true, true, true, true, false, false, true, true, false, false, false, false] rfl rfl (any_of HT_.out (by kernel_rfl)) (fun _ _ _ h => h) (Or.inl ⟨by rfl, ?_⟩) ?_ ?_
                                          rotate_left
                                          · intro w'
                                            go_simp
                                            with_reducible rfl
                                          rotate_left
                                          · simp only [Act.put, List.setIfInBounds_toArray, List.set_cons_zero, List.set_cons_succ, i64_w, i32_w]
                                            rfl
                                          refine pure_ (i := 27) (N := some 31) (v := ?_) (a' := ?_) #[true, true, true, true, true, true, true, true, true, true, true, true, true, true, true, true, true, true, true, true, true, true, true, true, true, true, true, true, false, true, true, false, false, false, false] rfl rfl (any_of HT_.out (by kernel_rfl)) (fun _ _ _ h => h) (Or.inl ⟨by rfl, ?_⟩) ?_ ?_
                                          rotate_left
                                          · intro w'
                                            go_simp
                                            with_reducible rfl
                                          rotate_left
                                          · simp only [Act.put, List.setIfInBounds_toArray, List.set_cons_zero, List.set_cons_succ, i64_w, i32_w]
                                            rfl
                                          refine one_ (i := 28) (N := some 32) #[true, true, true, true, true, true, true, true, true, true, true, true, true, true, true, true, true, true, true, true, true, true, true, true, true, true, true, true, true, true, true, false, false, false, false] rfl rfl (one_of HT_.out (by kernel_rfl)) (by decide) (fun K hK => ?_)
                                          refine goes_ Tryd.func20 (by kernel_rfl) rfl #[.int .i64 4] (by rfl) rfl rfl (by (try simp only [List.map_toArray, List.map_cons, List.map_nil]); first | done | rfl | (simp only [List.length_drop, List.length_take]; rfl)) ?_
                                          with_reducible refine (headroomref24_May.calls 4 t224 _ A22.out).mono ?_
                                          rintro e w38 ⟨v225, rfl, ho0, hb⟩
                                          have HS0_ := (hb.cell (World.block_lt_of_cell? _ _ (hHeld.2.2.2.1))).trans (hHeld.2.2.2.1)
                                          have HS1_ := (hb.cell (World.block_lt_of_cell? _ _ (hHeld.2.2.1))).trans (hHeld.2.2.1)
                                          have HS2_ := (hb.cell (World.block_lt_of_cell? _ _ (hHeld.2.1))).trans (hHeld.2.1)
                                          have HS3_ := (hb.cell (World.block_lt_of_cell? _ _ (hHeld.1))).trans (hHeld.1)
                                          refine ⟨_, rfl, ?_⟩
                                          have n0_ := Aside0.mk (Kd.R_elder' (by (with_reducible repeat (first | apply Kd.R_alloc | apply Kd.R_drewN | apply Kd.R_drew)); exact HO210.out) (Kd.R_base ho0) hb)
                                          have n1_ := Aside0.mk (Kd.R_elder' (by (with_reducible repeat (first | apply Kd.R_alloc | apply Kd.R_drewN | apply Kd.R_drew)); exact HO214.out) (Kd.R_base ho0) hb)
                                          have n2_ := Aside0.mk (Kd.R_elder' (by (with_reducible repeat (first | apply Kd.R_alloc | apply Kd.R_drewN | apply Kd.R_drew)); exact HO218.out) (Kd.R_base ho0) hb)
                                          have n3_ := Aside0.mk (Kd.R_elder' (by (with_reducible repeat (first | apply Kd.R_alloc | apply Kd.R_drewN | apply Kd.R_drew)); exact HO222.out) (Kd.R_base ho0) hb)
                                          have n4_ := Aside0.mk (Kd.R_lower (Kd.R_new' (Kd.R_new' (Kd.R_new' (Kd.R_new' ho0 (Kd.R_lt (by (with_reducible repeat (first | apply Kd.R_alloc | apply Kd.R_drewN | apply Kd.R_drew)); exact HO210.out))) (Kd.R_lt (by (with_reducible repeat (first | apply Kd.R_alloc | apply Kd.R_drewN | apply Kd.R_drew)); exact HO214.out))) (Kd.R_lt (by (with_reducible repeat (first | apply Kd.R_alloc | apply Kd.R_drewN | apply Kd.R_drew)); exact HO218.out))) (Kd.R_lt (by (with_reducible repeat (first | apply Kd.R_alloc | apply Kd.R_drewN | apply Kd.R_drew)); exact HO222.out))) (below_size (by repeat (first | (with_reducible first | exact HB.out | apply below_alloc | apply pw_below_drewN | apply below_drew1 | refine below_set ?_ GE207.out) | exact HB.out))))
                                          have n5_ := Aside0.mk (blk_below (g := gb207) (o := .cells #[.int .i64 a0_0, .int .i64 a0_1, .int .i64 a0_2, .int .i64 a0_3, .int .i64 a0_4, .bool true] 23 (0, 0)) (by (with_reducible repeat (first | refine blk_drewN ?_ _ | refine blk_drew ?_ | refine blk_alloc ?_ _)); exact BK207.out) hb)
                                          have n6_ := Aside0.mk (below_step (by repeat (first | (with_reducible first | exact HB.out | apply below_alloc | apply pw_below_drewN | apply below_drew1 | refine below_set ?_ GE207.out) | exact HB.out)) hb)
                                          clear HO210
                                          clear HO214
                                          clear HO218
                                          clear HO222
                                          clear BK207
                                          clear HB
                                          have HO210 := n0_
                                          have HO214 := n1_
                                          have HO218 := n2_
                                          have HO222 := n3_
                                          have HO226 := n4_
                                          have BK207 := n5_
                                          have HB := n6_
                                          clear n0_ n1_ n2_ n3_ n4_ n5_ n6_
                                          (try clear hb)
                                          (try clear hb2)
                                          (try clear hk)
                                          (try clear hi)
                                          (try clear ho0)
                                          obtain ⟨Ao39, co39, eo39⟩ := Kd.R_slice HO226.out
                                          (first | subst eo39 | (injection eo39 with f1_ f2_ f3_; have f4_ := f1_.symm; have f5_ := f3_.symm; clear f1_ f2_ f3_; subst f4_; subst f5_))
                                          have p227 : 0 ≤ (a0_4 : Int) := of_decide_eq_true (by first | (with_reducible assumption) | assumption)
                                          have q227 : a0_4 < (t224.length : Int) := of_decide_eq_true (by first | (with_reducible assumption) | assumption)
                                          obtain ⟨ad227, e227, hx227_0⟩ := Kd.at_string (Kd.R_reads' HO226.out).2.2 a0_4 p227 q227
                                          cases e227
                                          replace p227 := eq_true p227
                                          replace q227 := eq_true q227
                                          refine hK.out _ _ ⟨HS3_, HS2_, HS1_, HS0_, (blk_cell BK207.out 0).trans rfl, (blk_cell BK207.out 1).trans rfl, (blk_cell BK207.out 2).trans rfl, (blk_cell BK207.out 3).trans rfl, (blk_cell BK207.out 4).trans rfl, (blk_cell BK207.out 5).trans rfl⟩ (fun hHeld => ?_)
                                          clear hK K
                                          refine strong_ (fun w' => w'.cell? (ad227.add (a0_4).toNat) = some (.string (rdOf ByteArray.empty t224 a0_4)) ∧ w'.cell? (ad223.add (a0_3).toNat) = some (.string (rdOf ByteArray.empty t220 a0_3)) ∧ w'.cell? (ad219.add (a0_2).toNat) = some (.string (rdOf ByteArray.empty t216 a0_2)) ∧ w'.cell? (ad215.add ((ji7)).toNat) = some (.string (rdOf ByteArray.empty t212 (ji7))) ∧ w'.cell? (ad211.add (a0_0).toNat) = some (.string (rdOf ByteArray.empty t208 a0_0)) ∧ w'.cell? ⟨gb207, 0, none⟩ = some (.int .i64 a0_0) ∧ w'.cell? ⟨gb207, 1, none⟩ = some (.int .i64 a0_1) ∧ w'.cell? ⟨gb207, 2, none⟩ = some (.int .i64 a0_2) ∧ w'.cell? ⟨gb207, 3, none⟩ = some (.int .i64 a0_3) ∧ w'.cell? ⟨gb207, 4, none⟩ = some (.int .i64 a0_4) ∧ w'.cell? ⟨gb207, 5, none⟩ = some (.bool true)) (fun _ h => h.2) ⟨hx227_0, hHeld⟩ (fun hHeld => ?_)
                                          refine norm_ (a' := ?_) ?_ ?_
                                          rotate_left
                                          · show Act.put _ (some 32) _ = _
                                            simp only [Act.put, List.setIfInBounds_toArray, List.set_cons_zero, List.set_cons_succ, i64_w, i32_w]
                                            rfl
                                          refine pure_ (i := 31) (N := some 35) (v := ?_) (a' := ?_) #[true, true, true, true, true, true, true, true, true, true, true, true, true, true, true, true, true, true, true, true, true, true, true, true, true, true, true, true, true, true, true, true, false, false, false] rfl rfl (any_of HT_.out (by kernel_rfl)) (fun _ _ _ h => h) (Or.inl ⟨by rfl, ?_⟩) ?_ ?_
                                          rotate_left
                                          · intro w'
                                            go_simp
                                            with_reducible rfl
                                          rotate_left
                                          · simp only [Act.put, List.setIfInBounds_toArray, List.set_cons_zero, List.set_cons_succ, i64_w, i32_w]
                                            rfl
                                          refine take_ (i := 32) (N := some 36) (v := ?_) (a' := ?_) #[true, true, true, true, true, true, true, true, true, true, true, true, true, true, true, true, true, true, true, true, true, true, true, true, true, true, true, true, true, true, true, true, true, false, false] rfl rfl (take_ofW HT_.out HW_.out (by kernel_rfl)) (fun _ _ _ h => h) (Or.inl ⟨by rfl, ?_⟩) hHeld ?_ ?_
                                          rotate_left
                                          · rintro w' ⟨t4, t3, t2, t1, t0, s0, s1, s2, s3, s4, s5⟩
                                            go_simp
                                            with_reducible rfl
                                          rotate_left
                                          · simp only [Act.put, List.setIfInBounds_toArray, List.set_cons_zero, List.set_cons_succ, i64_w, i32_w]
                                            rfl
                                          refine pure_ (i := 33) (N := some 37) (v := ?_) (a' := ?_) #[true, true, true, true, true, true, true, true, true, true, true, true, true, true, true, true, true, true, true, true, true, true, true, true, true, true, true, true, true, true, true, true, true, true, false] rfl rfl (any_of HT_.out (by kernel_rfl)) (fun _ _ _ h => h) (Or.inl ⟨by rfl, ?_⟩) ?_ ?_
                                          rotate_left
                                          · intro w'
                                            go_simp
                                            with_reducible rfl
                                          rotate_left
                                          · simp only [Act.put, List.setIfInBounds_toArray, List.set_cons_zero, List.set_cons_succ, i64_w, i32_w]
                                            rfl
                                          refine pure_ (i := 34) (N := some 3) (v := ?_) (a' := ?_) #[true, true, true, true, true, true, true, true, true, true, true, true, true, true, true, true, true, true, true, true, true, true, true, true, true, true, true, true, true, true, true, true, true, true, true] rfl rfl (any_of HT_.out (by kernel_rfl)) (fun _ _ _ h => h) (Or.inl ⟨by rfl, ?_⟩) ?_ ?_
                                          rotate_left
                                          · intro w'
                                            go_simp
                                            with_reducible rfl
                                          rotate_left
                                          · simp only [Act.put, List.setIfInBounds_toArray, List.set_cons_zero, List.set_cons_succ, i64_w, i32_w]
                                            rfl
                                          refine done_ (done_of HT_.out (by kernel_rfl)) ?_
                                          have hcz40_0 : w38.cell? ⟨gb207, 0, none⟩ = some (.int .i64 a0_0) := (blk_cell BK207.out 0).trans rfl
                                          have hcz40_1 : w38.cell? ⟨gb207, 1, none⟩ = some (.int .i64 a0_1) := (blk_cell BK207.out 1).trans rfl
                                          have hcz40_2 : w38.cell? ⟨gb207, 2, none⟩ = some (.int .i64 a0_2) := (blk_cell BK207.out 2).trans rfl
                                          have hcz40_3 : w38.cell? ⟨gb207, 3, none⟩ = some (.int .i64 a0_3) := (blk_cell BK207.out 3).trans rfl
                                          have hcz40_4 : w38.cell? ⟨gb207, 4, none⟩ = some (.int .i64 a0_4) := (blk_cell BK207.out 4).trans rfl
                                          have hcz40_5 : w38.cell? ⟨gb207, 5, none⟩ = some (.bool true) := (blk_cell BK207.out 5).trans rfl
                                          have hfz40_0 := blk_frozen BK207.out 0
                                          have hfz40_1 := blk_frozen BK207.out 1
                                          have hfz40_2 := blk_frozen BK207.out 2
                                          have hfz40_3 := blk_frozen BK207.out 3
                                          have hfz40_4 := blk_frozen BK207.out 4
                                          have hfz40_5 := blk_frozen BK207.out 5
                                          try go_wp2
                                          go_ret
                                          exact ⟨by first | rfl | (simp [errW_none, errW_some] <;> rfl) | (simp only [← hji7]; first | rfl | (simp [errW_none, errW_some] <;> rfl)) | (simp [*, errW_none, errW_some] <;> rfl), by repeat (first | (with_reducible first | exact HB.out | apply below_alloc | apply pw_below_drewN | apply below_drew1 | refine below_set ?_ GE207.out) | exact HB.out)⟩
                                        · rw [if_neg c27] at H
                                          exact absurd H (by simp)
                                      · replace c26 := Bool.eq_false_iff.mpr c26
                                        subst c26
                                        have H1 : (if (((((((((rdOf ByteArray.empty t208 a0_0) ++ (⟨#[32]⟩ : ByteArray)) ++ (rdOf ByteArray.empty t212 (ji7))) ++ (⟨#[32]⟩ : ByteArray)) ++ (rdOf ByteArray.empty t216 a0_2)) ++ (⟨#[32]⟩ : ByteArray)) ++ (rdOf ByteArray.empty t220 a0_3)) ++ (⟨#[32]⟩ : ByteArray)) ++ (rdOf ByteArray.empty t224 a0_4)).size + 8 ≤ 9223372036854775807 then (some ((((((((((rdOf ByteArray.empty t208 a0_0) ++ (⟨#[32]⟩ : ByteArray)) ++ (rdOf ByteArray.empty t212 (ji7))) ++ (⟨#[32]⟩ : ByteArray)) ++ (rdOf ByteArray.empty t216 a0_2)) ++ (⟨#[32]⟩ : ByteArray)) ++ (rdOf ByteArray.empty t220 a0_3)) ++ (⟨#[32]⟩ : ByteArray)) ++ (rdOf ByteArray.empty t224 a0_4)) ++ (⟨#[32, 102, 111, 114, 119, 97, 114, 100]⟩ : ByteArray))) else (none)) = some r := by rw [if_neg (show ¬ (false = true) by decide)] at H; exact H
                                        clear H
                                        have H := H1
                                        clear H1
                                        by_cases c41 : (((((((((rdOf ByteArray.empty t208 a0_0) ++ (⟨#[32]⟩ : ByteArray)) ++ (rdOf ByteArray.empty t212 (ji7))) ++ (⟨#[32]⟩ : ByteArray)) ++ (rdOf ByteArray.empty t216 a0_2)) ++ (⟨#[32]⟩ : ByteArray)) ++ (rdOf ByteArray.empty t220 a0_3)) ++ (⟨#[32]⟩ : ByteArray)) ++ (rdOf ByteArray.empty t224 a0_4)).size + 8 ≤ 9223372036854775807
                                        · rw [if_pos c41] at H
                                          have c41b0 := eq_true c41
                                          have c41b1 : decide ((((((((((rdOf ByteArray.empty t208 a0_0) ++ (⟨#[32]⟩ : ByteArray)) ++ (rdOf ByteArray.empty t212 (ji7))) ++ (⟨#[32]⟩ : ByteArray)) ++ (rdOf ByteArray.empty t216 a0_2)) ++ (⟨#[32]⟩ : ByteArray)) ++ (rdOf ByteArray.empty t220 a0_3)) ++ (⟨#[32]⟩ : ByteArray)) ++ (rdOf ByteArray.empty t224 a0_4)).size + 8 ≤ 9223372036854775807) = true := decide_eq_true c41
                                          try have c41b2 : (9223372036854775807 < (((((((((rdOf ByteArray.empty t208 a0_0) ++ (⟨#[32]⟩ : ByteArray)) ++ (rdOf ByteArray.empty t212 (ji7))) ++ (⟨#[32]⟩ : ByteArray)) ++ (rdOf ByteArray.empty t216 a0_2)) ++ (⟨#[32]⟩ : ByteArray)) ++ (rdOf ByteArray.empty t220 a0_3)) ++ (⟨#[32]⟩ : ByteArray)) ++ (rdOf ByteArray.empty t224 a0_4)).size + 8) = False := eq_false (Nat.not_lt.2 c41)
                                          have c41b4 : (9223372036854775807 < (rdOf ByteArray.empty t208 a0_0).size + 1 + (rdOf ByteArray.empty t212 (ji7)).size + 1 + (rdOf ByteArray.empty t216 a0_2).size + 1 + (rdOf ByteArray.empty t220 a0_3).size + 1 + (rdOf ByteArray.empty t224 a0_4).size + 8) = False := eq_false (Nat.not_lt.2 (by have h_ := c41; simp only [ByteArray.size_append] at h_; exact h_))
                                          obtain rfl := Option.some.inj H
                                          go_enter Tryd.func15, Tryd.ntmps15
                                          try go_wp2_with (first | ((with_reducible refine gate_dst (N := 1) rfl ?_); refine box_event ?hg (N := 1) ?hd (cs := #[.int .i64 a0_0, .int .i64 a0_1, .int .i64 a0_2, .int .i64 a0_3, .int .i64 a0_4, .bool false]) (t := 23) ?hr ?_; (case hd => rfl); (case hg => rfl); (case hr => first | (go_simp; done) | (go_simp; rfl)); intro gb207 hg w42 hbox hb; have n0_ := Aside0.mk (below_step (by repeat (first | (with_reducible first | exact HB.out | apply below_alloc | apply pw_below_drewN | apply below_drew1) | exact HB.out)) hb); have n1_ := Aside0.mk (hbox); have n2_ := Aside0.mk ((by rw [hg]; exact (below_size (by repeat (first | (with_reducible first | exact HB.out | apply below_alloc | apply pw_below_drewN | apply below_drew1) | exact HB.out))) : w.heap.size ≤ gb207)); have n3_ := Aside0.mk ((by rw [hg]; exact (below_size (by repeat (first | (with_reducible first | exact HB.out | apply below_alloc | apply pw_below_drewN | apply below_drew1) | exact HB.out))) : w.heap.size ≤ gb207)); clear HB; have HB := n0_; have BK207 := n1_; have GW207 := n2_; have GE207 := n3_; clear n0_ n1_ n2_ n3_; clear hb hbox hg))
                                          have n0_ := Aside0.mk (blk_drew BK207.out)
                                          have n1_ := Aside0.mk (below_drew1 HB.out)
                                          clear BK207
                                          clear HB
                                          have BK207 := n0_
                                          have HB := n1_
                                          clear n0_ n1_
                                          refine start_ (n := 35) (S := fun w' => w'.cell? ⟨gb207, 0, none⟩ = some (.int .i64 a0_0) ∧ w'.cell? ⟨gb207, 1, none⟩ = some (.int .i64 a0_1) ∧ w'.cell? ⟨gb207, 2, none⟩ = some (.int .i64 a0_2) ∧ w'.cell? ⟨gb207, 3, none⟩ = some (.int .i64 a0_3) ∧ w'.cell? ⟨gb207, 4, none⟩ = some (.int .i64 a0_4) ∧ w'.cell? ⟨gb207, 5, none⟩ = some (.bool false)) (ds := []) #[false, false, false, false, false, false, false, false, false, false, false, false, false, false, false, false, false, false, false, false, false, false, false, false, false, false, false, false, false, false, false, false, false, false, false] (by kernel_rfl) rfl rfl ⟨(blk_cell BK207.out 0).trans rfl, (blk_cell BK207.out 1).trans rfl, (blk_cell BK207.out 2).trans rfl, (blk_cell BK207.out 3).trans rfl, (blk_cell BK207.out 4).trans rfl, (blk_cell BK207.out 5).trans rfl⟩ (fun hHeld => ?_); refine with_tabW headroomref24_Print.tab1 headroomref24_Print.bits1 (fun HT_ HW_ => ?_)
                                          generalize w42.drew = w43 at BK207 HB hHeld ⊢
                                          refine pure_ (i := 1) (N := some 5) (v := ?_) (a' := ?_) #[false, true, false, false, false, false, false, false, false, false, false, false, false, false, false, false, false, false, false, false, false, false, false, false, false, false, false, false, false, false, false, false, false, false, false] rfl rfl (any_of HT_.out (by kernel_rfl)) (fun _ _ _ h => h) (Or.inl ⟨by rfl, ?_⟩) ?_ ?_
                                          rotate_left
                                          · intro w'
                                            go_simp
                                            with_reducible rfl
                                          rotate_left
                                          · simp only [Act.put, List.setIfInBounds_toArray, List.set_cons_zero, List.set_cons_succ, i64_w, i32_w]
                                            rfl
                                          refine pure_ (i := 7) (N := some 11) (v := ?_) (a' := ?_) #[false, true, false, false, false, false, false, true, false, false, false, false, false, false, false, false, false, false, false, false, false, false, false, false, false, false, false, false, false, false, false, false, false, false, false] rfl rfl (any_of HT_.out (by kernel_rfl)) (fun _ _ _ h => h) (Or.inl ⟨by rfl, ?_⟩) ?_ ?_
                                          rotate_left
                                          · intro w'
                                            go_simp
                                            with_reducible rfl
                                          rotate_left
                                          · simp only [Act.put, List.setIfInBounds_toArray, List.set_cons_zero, List.set_cons_succ, i64_w, i32_w]
                                            rfl
                                          refine pure_ (i := 15) (N := some 19) (v := ?_) (a' := ?_) #[false, true, false, false, false, false, false, true, false, false, false, false, false, false, false, true, false, false, false, false, false, false, false, false, false, false, false, false, false, false, false, false, false, false, false] rfl rfl (any_of HT_.out (by kernel_rfl)) (fun _ _ _ h => h) (Or.inl ⟨by rfl, ?_⟩) ?_ ?_
                                          rotate_left
                                          · intro w'
                                            go_simp
                                            with_reducible rfl
                                          rotate_left
                                          · simp only [Act.put, List.setIfInBounds_toArray, List.set_cons_zero, List.set_cons_succ, i64_w, i32_w]
                                            rfl
                                          refine pure_ (i := 22) (N := some 26) (v := ?_) (a' := ?_) #[false, true, false, false, false, false, false, true, false, false, false, false, false, false, false, true, false, false, false, false, false, false, true, false, false, false, false, false, false, false, false, false, false, false, false] rfl rfl (any_of HT_.out (by kernel_rfl)) (fun _ _ _ h => h) (Or.inl ⟨by rfl, ?_⟩) ?_ ?_
                                          rotate_left
                                          · intro w'
                                            go_simp
                                            with_reducible rfl
                                          rotate_left
                                          · simp only [Act.put, List.setIfInBounds_toArray, List.set_cons_zero, List.set_cons_succ, i64_w, i32_w]
                                            rfl
                                          refine pure_ (i := 29) (N := some 33) (v := ?_) (a' := ?_) #[false, true, false, false, false, false, false, true, false, false, false, false, false, false, false, true, false, false, false, false, false, false, true, false, false, false, false, false, false, true, false, false, false, false, false] rfl rfl (any_of HT_.out (by kernel_rfl)) (fun _ _ _ h => h) (Or.inl ⟨by rfl, ?_⟩) ?_ ?_
                                          rotate_left
                                          · intro w'
                                            go_simp
                                            with_reducible rfl
                                          rotate_left
                                          · simp only [Act.put, List.setIfInBounds_toArray, List.set_cons_zero, List.set_cons_succ, i64_w, i32_w]
                                            rfl
                                          refine take_ (i := 2) (N := some 6) (v := ?_) (a' := ?_) #[false, true, true, false, false, false, false, true, false, false, false, false, false, false, false, true, false, false, false, false, false, false, true, false, false, false, false, false, false, true, false, false, false, false, false] rfl rfl (take_ofW HT_.out HW_.out (by kernel_rfl)) (fun _ _ _ h => h) (Or.inl ⟨by rfl, ?_⟩) hHeld ?_ ?_
                                          rotate_left
                                          · rintro w' ⟨s0, s1, s2, s3, s4, s5⟩
                                            go_simp
                                            with_reducible rfl
                                          rotate_left
                                          · simp only [Act.put, List.setIfInBounds_toArray, List.set_cons_zero, List.set_cons_succ, i64_w, i32_w]
                                            rfl
                                          refine take_ (i := 8) (N := some 12) (v := ?_) (a' := ?_) #[false, true, true, false, false, false, false, true, true, false, false, false, false, false, false, true, false, false, false, false, false, false, true, false, false, false, false, false, false, true, false, false, false, false, false] rfl rfl (take_ofW HT_.out HW_.out (by kernel_rfl)) (fun _ _ _ h => h) (Or.inl ⟨by rfl, ?_⟩) hHeld ?_ ?_
                                          rotate_left
                                          · rintro w' ⟨s0, s1, s2, s3, s4, s5⟩
                                            go_simp
                                            with_reducible rfl
                                          rotate_left
                                          · simp only [Act.put, List.setIfInBounds_toArray, List.set_cons_zero, List.set_cons_succ, i64_w, i32_w]
                                            rfl
                                          refine pure_ (i := 9) (N := some 13) (v := ?_) (a' := ?_) #[false, true, true, false, false, false, false, true, true, true, false, false, false, false, false, true, false, false, false, false, false, false, true, false, false, false, false, false, false, true, false, false, false, false, false] rfl rfl (any_of HT_.out (by kernel_rfl)) (fun _ _ _ h => h) (Or.inl ⟨by rfl, ?_⟩) ?_ ?_
                                          rotate_left
                                          · intro w'
                                            go_simp
                                            with_reducible rfl
                                          rotate_left
                                          · simp only [Act.put, List.setIfInBounds_toArray, List.set_cons_zero, List.set_cons_succ, i64_w, i32_w]
                                            rfl
                                          refine take_ (i := 16) (N := some 20) (v := ?_) (a' := ?_) #[false, true, true, false, false, false, false, true, true, true, false, false, false, false, false, true, true, false, false, false, false, false, true, false, false, false, false, false, false, true, false, false, false, false, false] rfl rfl (take_ofW HT_.out HW_.out (by kernel_rfl)) (fun _ _ _ h => h) (Or.inl ⟨by rfl, ?_⟩) hHeld ?_ ?_
                                          rotate_left
                                          · rintro w' ⟨s0, s1, s2, s3, s4, s5⟩
                                            go_simp
                                            with_reducible rfl
                                          rotate_left
                                          · simp only [Act.put, List.setIfInBounds_toArray, List.set_cons_zero, List.set_cons_succ, i64_w, i32_w]
                                            rfl
                                          refine take_ (i := 23) (N := some 27) (v := ?_) (a' := ?_) #[false, true, true, false, false, false, false, true, true, true, false, false, false, false, false, true, true, false, false, false, false, false, true, true, false, false, false, false, false, true, false, false, false, false, false] rfl rfl (take_ofW HT_.out HW_.out (by kernel_rfl)) (fun _ _ _ h => h) (Or.inl ⟨by rfl, ?_⟩) hHeld ?_ ?_
                                          rotate_left
                                          · rintro w' ⟨s0, s1, s2, s3, s4, s5⟩
                                            go_simp
                                            with_reducible rfl
                                          rotate_left
                                          · simp only [Act.put, List.setIfInBounds_toArray, List.set_cons_zero, List.set_cons_succ, i64_w, i32_w]
                                            rfl
                                          refine take_ (i := 30) (N := some 34) (v := ?_) (a' := ?_) #[false, true, true, false, false, false, false, true, true, true, false, false, false, false, false, true, true, false, false, false, false, false, true, true, false, false, false, false, false, true, true, false, false, false, false] rfl rfl (take_ofW HT_.out HW_.out (by kernel_rfl)) (fun _ _ _ h => h) (Or.inl ⟨by rfl, ?_⟩) hHeld ?_ ?_
                                          rotate_left
                                          · rintro w' ⟨s0, s1, s2, s3, s4, s5⟩
                                            go_simp
                                            with_reducible rfl
                                          rotate_left
                                          · simp only [Act.put, List.setIfInBounds_toArray, List.set_cons_zero, List.set_cons_succ, i64_w, i32_w]
                                            rfl
                                          refine one_ (i := 0) (N := some 4) #[true, true, true, false, false, false, false, true, true, true, false, false, false, false, false, true, true, false, false, false, false, false, true, true, false, false, false, false, false, true, true, false, false, false, false] rfl rfl (one_of HT_.out (by kernel_rfl)) (by decide) (fun K hK => ?_)
                                          refine goes_ Tryd.func20 (by kernel_rfl) rfl #[.int .i64 0] (by rfl) rfl rfl (by (try simp only [List.map_toArray, List.map_cons, List.map_nil]); first | done | rfl | (simp only [List.length_drop, List.length_take]; rfl)) ?_
                                          with_reducible refine (headroomref24_May.calls 0 t208 _ A2.out).mono ?_
                                          rintro e w44 ⟨v209, rfl, ho0, hb⟩
                                          refine ⟨_, rfl, ?_⟩
                                          have n0_ := Aside0.mk (Kd.R_lower ho0 (below_size (by repeat (first | (with_reducible first | exact HB.out | apply below_alloc | apply pw_below_drewN | apply below_drew1 | refine below_set ?_ GE207.out) | exact HB.out))))
                                          have n1_ := Aside0.mk (blk_below (g := gb207) (o := .cells #[.int .i64 a0_0, .int .i64 a0_1, .int .i64 a0_2, .int .i64 a0_3, .int .i64 a0_4, .bool false] 23 (0, 0)) (by (with_reducible repeat (first | refine blk_drewN ?_ _ | refine blk_drew ?_ | refine blk_alloc ?_ _)); exact BK207.out) hb)
                                          have n2_ := Aside0.mk (below_step (by repeat (first | (with_reducible first | exact HB.out | apply below_alloc | apply pw_below_drewN | apply below_drew1 | refine below_set ?_ GE207.out) | exact HB.out)) hb)
                                          clear BK207
                                          clear HB
                                          have HO210 := n0_
                                          have BK207 := n1_
                                          have HB := n2_
                                          clear n0_ n1_ n2_
                                          (try clear hb)
                                          (try clear hb2)
                                          (try clear hk)
                                          (try clear hi)
                                          (try clear ho0)
                                          obtain ⟨Ao45, co45, eo45⟩ := Kd.R_slice HO210.out
                                          (first | subst eo45 | (injection eo45 with f1_ f2_ f3_; have f4_ := f1_.symm; have f5_ := f3_.symm; clear f1_ f2_ f3_; subst f4_; subst f5_))
                                          have p211 : 0 ≤ (a0_0 : Int) := of_decide_eq_true (by first | (with_reducible assumption) | assumption)
                                          have q211 : a0_0 < (t208.length : Int) := of_decide_eq_true (by first | (with_reducible assumption) | assumption)
                                          obtain ⟨ad211, e211, hx211_0⟩ := Kd.at_string (Kd.R_reads' HO210.out).2.2 a0_0 p211 q211
                                          cases e211
                                          replace p211 := eq_true p211
                                          replace q211 := eq_true q211
                                          refine hK.out _ _ ⟨(blk_cell BK207.out 0).trans rfl, (blk_cell BK207.out 1).trans rfl, (blk_cell BK207.out 2).trans rfl, (blk_cell BK207.out 3).trans rfl, (blk_cell BK207.out 4).trans rfl, (blk_cell BK207.out 5).trans rfl⟩ (fun hHeld => ?_)
                                          clear hK K
                                          refine strong_ (fun w' => w'.cell? (ad211.add (a0_0).toNat) = some (.string (rdOf ByteArray.empty t208 a0_0)) ∧ w'.cell? ⟨gb207, 0, none⟩ = some (.int .i64 a0_0) ∧ w'.cell? ⟨gb207, 1, none⟩ = some (.int .i64 a0_1) ∧ w'.cell? ⟨gb207, 2, none⟩ = some (.int .i64 a0_2) ∧ w'.cell? ⟨gb207, 3, none⟩ = some (.int .i64 a0_3) ∧ w'.cell? ⟨gb207, 4, none⟩ = some (.int .i64 a0_4) ∧ w'.cell? ⟨gb207, 5, none⟩ = some (.bool false)) (fun _ h => h.2) ⟨hx211_0, hHeld⟩ (fun hHeld => ?_)
                                          refine norm_ (a' := ?_) ?_ ?_
                                          rotate_left
                                          · show Act.put _ (some 4) _ = _
                                            simp only [Act.put, List.setIfInBounds_toArray, List.set_cons_zero, List.set_cons_succ, i64_w, i32_w]
                                            rfl
                                          refine pure_ (i := 3) (N := some 7) (v := ?_) (a' := ?_) #[true, true, true, true, false, false, false, true, true, true, false, false, false, false, false, true, true, false, false, false, false, false, true, true, false, false, false, false, false, true, true, false, false, false, false] rfl rfl (any_of HT_.out (by kernel_rfl)) (fun _ _ _ h => h) (Or.inl ⟨by rfl, ?_⟩) ?_ ?_
                                          rotate_left
                                          · intro w'
                                            go_simp
                                            with_reducible rfl
                                          rotate_left
                                          · simp only [Act.put, List.setIfInBounds_toArray, List.set_cons_zero, List.set_cons_succ, i64_w, i32_w]
                                            rfl
                                          refine take_ (i := 4) (N := some 8) (v := ?_) (a' := ?_) #[true, true, true, true, true, false, false, true, true, true, false, false, false, false, false, true, true, false, false, false, false, false, true, true, false, false, false, false, false, true, true, false, false, false, false] rfl rfl (take_ofW HT_.out HW_.out (by kernel_rfl)) (fun _ _ _ h => h) (Or.inl ⟨by rfl, ?_⟩) hHeld ?_ ?_
                                          rotate_left
                                          · rintro w' ⟨t0, s0, s1, s2, s3, s4, s5⟩
                                            go_simp
                                            with_reducible rfl
                                          rotate_left
                                          · simp only [Act.put, List.setIfInBounds_toArray, List.set_cons_zero, List.set_cons_succ, i64_w, i32_w]
                                            rfl
                                          refine pure_ (i := 5) (N := some 9) (v := ?_) (a' := ?_) #[true, true, true, true, true, true, false, true, true, true, false, false, false, false, false, true, true, false, false, false, false, false, true, true, false, false, false, false, false, true, true, false, false, false, false] rfl rfl (any_of HT_.out (by kernel_rfl)) (fun _ _ _ h => h) (Or.inl ⟨by rfl, ?_⟩) ?_ ?_
                                          rotate_left
                                          · intro w'
                                            go_simp
                                            with_reducible rfl
                                          rotate_left
                                          · simp only [Act.put, List.setIfInBounds_toArray, List.set_cons_zero, List.set_cons_succ, i64_w, i32_w]
                                            rfl
                                          refine one_ (i := 6) (N := some 10) #[true, true, true, true, true, true, true, true, true, true, false, false, false, false, false, true, true, false, false, false, false, false, true, true, false, false, false, false, false, true, true, false, false, false, false] rfl rfl (one_of HT_.out (by kernel_rfl)) (by decide) (fun K hK => ?_)
                                          refine goes_ Tryd.func20 (by kernel_rfl) rfl #[.int .i64 1] (by rfl) rfl rfl (by (try simp only [List.map_toArray, List.map_cons, List.map_nil]); first | done | rfl | (simp only [List.length_drop, List.length_take]; rfl)) ?_
                                          with_reducible refine (headroomref24_May.calls 1 t212 _ A6.out).mono ?_
                                          rintro e w46 ⟨v213, rfl, ho0, hb⟩
                                          have HS0_ := (hb.cell (World.block_lt_of_cell? _ _ (hHeld.1))).trans (hHeld.1)
                                          refine ⟨_, rfl, ?_⟩
                                          have n0_ := Aside0.mk (Kd.R_elder' (by (with_reducible repeat (first | apply Kd.R_alloc | apply Kd.R_drewN | apply Kd.R_drew)); exact HO210.out) (Kd.R_base ho0) hb)
                                          have n1_ := Aside0.mk (Kd.R_lower (Kd.R_new' ho0 (Kd.R_lt (by (with_reducible repeat (first | apply Kd.R_alloc | apply Kd.R_drewN | apply Kd.R_drew)); exact HO210.out))) (below_size (by repeat (first | (with_reducible first | exact HB.out | apply below_alloc | apply pw_below_drewN | apply below_drew1 | refine below_set ?_ GE207.out) | exact HB.out))))
                                          have n2_ := Aside0.mk (blk_below (g := gb207) (o := .cells #[.int .i64 a0_0, .int .i64 a0_1, .int .i64 a0_2, .int .i64 a0_3, .int .i64 a0_4, .bool false] 23 (0, 0)) (by (with_reducible repeat (first | refine blk_drewN ?_ _ | refine blk_drew ?_ | refine blk_alloc ?_ _)); exact BK207.out) hb)
                                          have n3_ := Aside0.mk (below_step (by repeat (first | (with_reducible first | exact HB.out | apply below_alloc | apply pw_below_drewN | apply below_drew1 | refine below_set ?_ GE207.out) | exact HB.out)) hb)
                                          clear HO210
                                          clear BK207
                                          clear HB
                                          have HO210 := n0_
                                          have HO214 := n1_
                                          have BK207 := n2_
                                          have HB := n3_
                                          clear n0_ n1_ n2_ n3_
                                          (try clear hb)
                                          (try clear hb2)
                                          (try clear hk)
                                          (try clear hi)
                                          (try clear ho0)
                                          obtain ⟨Ao47, co47, eo47⟩ := Kd.R_slice HO214.out
                                          (first | subst eo47 | (injection eo47 with f1_ f2_ f3_; have f4_ := f1_.symm; have f5_ := f3_.symm; clear f1_ f2_ f3_; subst f4_; subst f5_))
                                          have p215 : 0 ≤ ((ji7) : Int) := of_decide_eq_true (by first | (with_reducible assumption) | assumption)
                                          have q215 : (ji7) < (t212.length : Int) := of_decide_eq_true (by first | (with_reducible assumption) | assumption)
                                          obtain ⟨ad215, e215, hx215_0⟩ := Kd.at_string (Kd.R_reads' HO214.out).2.2 (ji7) p215 q215
                                          cases e215
                                          replace p215 := eq_true p215
                                          replace q215 := eq_true q215
                                          refine hK.out _ _ ⟨HS0_, (blk_cell BK207.out 0).trans rfl, (blk_cell BK207.out 1).trans rfl, (blk_cell BK207.out 2).trans rfl, (blk_cell BK207.out 3).trans rfl, (blk_cell BK207.out 4).trans rfl, (blk_cell BK207.out 5).trans rfl⟩ (fun hHeld => ?_)
                                          clear hK K
                                          refine strong_ (fun w' => w'.cell? (ad215.add ((ji7)).toNat) = some (.string (rdOf ByteArray.empty t212 (ji7))) ∧ w'.cell? (ad211.add (a0_0).toNat) = some (.string (rdOf ByteArray.empty t208 a0_0)) ∧ w'.cell? ⟨gb207, 0, none⟩ = some (.int .i64 a0_0) ∧ w'.cell? ⟨gb207, 1, none⟩ = some (.int .i64 a0_1) ∧ w'.cell? ⟨gb207, 2, none⟩ = some (.int .i64 a0_2) ∧ w'.cell? ⟨gb207, 3, none⟩ = some (.int .i64 a0_3) ∧ w'.cell? ⟨gb207, 4, none⟩ = some (.int .i64 a0_4) ∧ w'.cell? ⟨gb207, 5, none⟩ = some (.bool false)) (fun _ h => h.2) ⟨hx215_0, hHeld⟩ (fun hHeld => ?_)
                                          refine norm_ (a' := ?_) ?_ ?_
                                          rotate_left
                                          · show Act.put _ (some 10) _ = _
                                            simp only [Act.put, List.setIfInBounds_toArray, List.set_cons_zero, List.set_cons_succ, i64_w, i32_w]
                                            rfl
                                          refine pure_ (i := 10) (N := some 14) (v := ?_) (a' := ?_) #[true, true, true, true, true, true, true, true, true, true, true, false, false, false, false, true, true, false, false, false, false, false, true, true, false, false, false, false, false, true, true, false, false, false, false] rfl rfl (any_of HT_.out (by kernel_rfl)) (fun _ _ _ h => h) (Or.inl ⟨by rfl, ?_⟩) ?_ ?_
                                          rotate_left
                                          · intro w'
                                            go_simp
                                            with_reducible rfl
                                          rotate_left
                                          · simp only [Act.put, List.setIfInBounds_toArray, List.set_cons_zero, List.set_cons_succ, i64_w, i32_w]
                                            rfl
                                          refine take_ (i := 11) (N := some 15) (v := ?_) (a' := ?_) #[true, true, true, true, true, true, true, true, true, true, true, true, false, false, false, true, true, false, false, false, false, false, true, true, false, false, false, false, false, true, true, false, false, false, false] rfl rfl (take_ofW HT_.out HW_.out (by kernel_rfl)) (fun _ _ _ h => h) (Or.inl ⟨by rfl, ?_⟩) hHeld ?_ ?_
                                          rotate_left
                                          · rintro w' ⟨t1, t0, s0, s1, s2, s3, s4, s5⟩
                                            go_simp
                                            with_reducible rfl
                                          rotate_left
                                          · simp only [Act.put, List.setIfInBounds_toArray, List.set_cons_zero, List.set_cons_succ, i64_w, i32_w]
                                            rfl
                                          refine pure_ (i := 12) (N := some 16) (v := ?_) (a' := ?_) #[true, true, true, true, true, true, true, true, true, true, true, true, true, false, false, true, true, false, false, false, false, false, true, true, false, false, false, false, false, true, true, false, false, false, false] rfl rfl (any_of HT_.out (by kernel_rfl)) (fun _ _ _ h => h) (Or.inl ⟨by rfl, ?_⟩) ?_ ?_
                                          rotate_left
                                          · intro w'
                                            go_simp
                                            with_reducible rfl
                                          rotate_left
                                          · simp only [Act.put, List.setIfInBounds_toArray, List.set_cons_zero, List.set_cons_succ, i64_w, i32_w]
                                            rfl
                                          refine pure_ (i := 13) (N := some 17) (v := ?_) (a' := ?_) #[true, true, true, true, true, true, true, true, true, true, true, true, true, true, false, true, true, false, false, false, false, false, true, true, false, false, false, false, false, true, true, false, false, false, false] rfl rfl (any_of HT_.out (by kernel_rfl)) (fun _ _ _ h => h) (Or.inl ⟨by rfl, ?_⟩) ?_ ?_
                                          rotate_left
                                          · intro w'
                                            go_simp
                                            with_reducible rfl
                                          rotate_left
                                          · simp only [Act.put, List.setIfInBounds_toArray, List.set_cons_zero, List.set_cons_succ, i64_w, i32_w]
                                            rfl
                                          refine one_ (i := 14) (N := some 18) #[true, true, true, true, true, true, true, true, true, true, true, true, true, true, true, true, true, false, false, false, false, false, true, true, false, false, false, false, false, true, true, false, false, false, false] rfl rfl (one_of HT_.out (by kernel_rfl)) (by decide) (fun K hK => ?_)
                                          refine goes_ Tryd.func20 (by kernel_rfl) rfl #[.int .i64 2] (by rfl) rfl rfl (by (try simp only [List.map_toArray, List.map_cons, List.map_nil]); first | done | rfl | (simp only [List.length_drop, List.length_take]; rfl)) ?_
                                          with_reducible refine (headroomref24_May.calls 2 t216 _ A12.out).mono ?_
                                          rintro e w48 ⟨v217, rfl, ho0, hb⟩
                                          have HS0_ := (hb.cell (World.block_lt_of_cell? _ _ (hHeld.2.1))).trans (hHeld.2.1)
                                          have HS1_ := (hb.cell (World.block_lt_of_cell? _ _ (hHeld.1))).trans (hHeld.1)
                                          refine ⟨_, rfl, ?_⟩
                                          have n0_ := Aside0.mk (Kd.R_elder' (by (with_reducible repeat (first | apply Kd.R_alloc | apply Kd.R_drewN | apply Kd.R_drew)); exact HO210.out) (Kd.R_base ho0) hb)
                                          have n1_ := Aside0.mk (Kd.R_elder' (by (with_reducible repeat (first | apply Kd.R_alloc | apply Kd.R_drewN | apply Kd.R_drew)); exact HO214.out) (Kd.R_base ho0) hb)
                                          have n2_ := Aside0.mk (Kd.R_lower (Kd.R_new' (Kd.R_new' ho0 (Kd.R_lt (by (with_reducible repeat (first | apply Kd.R_alloc | apply Kd.R_drewN | apply Kd.R_drew)); exact HO210.out))) (Kd.R_lt (by (with_reducible repeat (first | apply Kd.R_alloc | apply Kd.R_drewN | apply Kd.R_drew)); exact HO214.out))) (below_size (by repeat (first | (with_reducible first | exact HB.out | apply below_alloc | apply pw_below_drewN | apply below_drew1 | refine below_set ?_ GE207.out) | exact HB.out))))
                                          have n3_ := Aside0.mk (blk_below (g := gb207) (o := .cells #[.int .i64 a0_0, .int .i64 a0_1, .int .i64 a0_2, .int .i64 a0_3, .int .i64 a0_4, .bool false] 23 (0, 0)) (by (with_reducible repeat (first | refine blk_drewN ?_ _ | refine blk_drew ?_ | refine blk_alloc ?_ _)); exact BK207.out) hb)
                                          have n4_ := Aside0.mk (below_step (by repeat (first | (with_reducible first | exact HB.out | apply below_alloc | apply pw_below_drewN | apply below_drew1 | refine below_set ?_ GE207.out) | exact HB.out)) hb)
                                          clear HO210
                                          clear HO214
                                          clear BK207
                                          clear HB
                                          have HO210 := n0_
                                          have HO214 := n1_
                                          have HO218 := n2_
                                          have BK207 := n3_
                                          have HB := n4_
                                          clear n0_ n1_ n2_ n3_ n4_
                                          (try clear hb)
                                          (try clear hb2)
                                          (try clear hk)
                                          (try clear hi)
                                          (try clear ho0)
                                          obtain ⟨Ao49, co49, eo49⟩ := Kd.R_slice HO218.out
                                          (first | subst eo49 | (injection eo49 with f1_ f2_ f3_; have f4_ := f1_.symm; have f5_ := f3_.symm; clear f1_ f2_ f3_; subst f4_; subst f5_))
                                          have p219 : 0 ≤ (a0_2 : Int) := of_decide_eq_true (by first | (with_reducible assumption) | assumption)
                                          have q219 : a0_2 < (t216.length : Int) := of_decide_eq_true (by first | (with_reducible assumption) | assumption)
                                          obtain ⟨ad219, e219, hx219_0⟩ := Kd.at_string (Kd.R_reads' HO218.out).2.2 a0_2 p219 q219
                                          cases e219
                                          replace p219 := eq_true p219
                                          replace q219 := eq_true q219
                                          refine hK.out _ _ ⟨HS1_, HS0_, (blk_cell BK207.out 0).trans rfl, (blk_cell BK207.out 1).trans rfl, (blk_cell BK207.out 2).trans rfl, (blk_cell BK207.out 3).trans rfl, (blk_cell BK207.out 4).trans rfl, (blk_cell BK207.out 5).trans rfl⟩ (fun hHeld => ?_)
                                          clear hK K
                                          refine strong_ (fun w' => w'.cell? (ad219.add (a0_2).toNat) = some (.string (rdOf ByteArray.empty t216 a0_2)) ∧ w'.cell? (ad215.add ((ji7)).toNat) = some (.string (rdOf ByteArray.empty t212 (ji7))) ∧ w'.cell? (ad211.add (a0_0).toNat) = some (.string (rdOf ByteArray.empty t208 a0_0)) ∧ w'.cell? ⟨gb207, 0, none⟩ = some (.int .i64 a0_0) ∧ w'.cell? ⟨gb207, 1, none⟩ = some (.int .i64 a0_1) ∧ w'.cell? ⟨gb207, 2, none⟩ = some (.int .i64 a0_2) ∧ w'.cell? ⟨gb207, 3, none⟩ = some (.int .i64 a0_3) ∧ w'.cell? ⟨gb207, 4, none⟩ = some (.int .i64 a0_4) ∧ w'.cell? ⟨gb207, 5, none⟩ = some (.bool false)) (fun _ h => h.2) ⟨hx219_0, hHeld⟩ (fun hHeld => ?_)
                                          refine norm_ (a' := ?_) ?_ ?_
                                          rotate_left
                                          · show Act.put _ (some 18) _ = _
                                            simp only [Act.put, List.setIfInBounds_toArray, List.set_cons_zero, List.set_cons_succ, i64_w, i32_w]
                                            rfl
                                          refine pure_ (i := 17) (N := some 21) (v := ?_) (a' := ?_) #[true, true, true, true, true, true, true, true, true, true, true, true, true, true, true, true, true, true, false, false, false, false, true, true, false, false, false, false, false, true, true, false, false, false, false] rfl rfl (any_of HT_.out (by kernel_rfl)) (fun _ _ _ h => h) (Or.inl ⟨by rfl, ?_⟩) ?_ ?_
                                          rotate_left
                                          · intro w'
                                            go_simp
                                            with_reducible rfl
                                          rotate_left
                                          · simp only [Act.put, List.setIfInBounds_toArray, List.set_cons_zero, List.set_cons_succ, i64_w, i32_w]
                                            rfl
                                          refine take_ (i := 18) (N := some 22) (v := ?_) (a' := ?_) #[true, true, true, true, true, true, true, true, true, true, true, true, true, true, true, true, true, true, true, false, false, false, true, true, false, false, false, false, false, true, true, false, false, false, false] rfl rfl (take_ofW HT_.out HW_.out (by kernel_rfl)) (fun _ _ _ h => h) (Or.inl ⟨by rfl, ?_⟩) hHeld ?_ ?_
                                          rotate_left
                                          · rintro w' ⟨t2, t1, t0, s0, s1, s2, s3, s4, s5⟩
                                            go_simp
                                            with_reducible rfl
                                          rotate_left
                                          · simp only [Act.put, List.setIfInBounds_toArray, List.set_cons_zero, List.set_cons_succ, i64_w, i32_w]
                                            rfl
                                          refine pure_ (i := 19) (N := some 23) (v := ?_) (a' := ?_) #[true, true, true, true, true, true, true, true, true, true, true, true, true, true, true, true, true, true, true, true, false, false, true, true, false, false, false, false, false, true, true, false, false, false, false] rfl rfl (any_of HT_.out (by kernel_rfl)) (fun _ _ _ h => h) (Or.inl ⟨by rfl, ?_⟩) ?_ ?_
                                          rotate_left
                                          · intro w'
                                            go_simp
                                            with_reducible rfl
                                          rotate_left
                                          · simp only [Act.put, List.setIfInBounds_toArray, List.set_cons_zero, List.set_cons_succ, i64_w, i32_w]
                                            rfl
                                          refine pure_ (i := 20) (N := some 24) (v := ?_) (a' := ?_) #[true, true, true, true, true, true, true, true, true, true, true, true, true, true, true, true, true, true, true, true, true, false, true, true, false, false, false, false, false, true, true, false, false, false, false] rfl rfl (any_of HT_.out (by kernel_rfl)) (fun _ _ _ h => h) (Or.inl ⟨by rfl, ?_⟩) ?_ ?_
                                          rotate_left
                                          · intro w'
                                            go_simp
                                            with_reducible rfl
                                          rotate_left
                                          · simp only [Act.put, List.setIfInBounds_toArray, List.set_cons_zero, List.set_cons_succ, i64_w, i32_w]
                                            rfl
                                          refine one_ (i := 21) (N := some 25) #[true, true, true, true, true, true, true, true, true, true, true, true, true, true, true, true, true, true, true, true, true, true, true, true, false, false, false, false, false, true, true, false, false, false, false] rfl rfl (one_of HT_.out (by kernel_rfl)) (by decide) (fun K hK => ?_)
                                          refine goes_ Tryd.func20 (by kernel_rfl) rfl #[.int .i64 3] (by rfl) rfl rfl (by (try simp only [List.map_toArray, List.map_cons, List.map_nil]); first | done | rfl | (simp only [List.length_drop, List.length_take]; rfl)) ?_
                                          with_reducible refine (headroomref24_May.calls 3 t220 _ A17.out).mono ?_
                                          rintro e w50 ⟨v221, rfl, ho0, hb⟩
                                          have HS0_ := (hb.cell (World.block_lt_of_cell? _ _ (hHeld.2.2.1))).trans (hHeld.2.2.1)
                                          have HS1_ := (hb.cell (World.block_lt_of_cell? _ _ (hHeld.2.1))).trans (hHeld.2.1)
                                          have HS2_ := (hb.cell (World.block_lt_of_cell? _ _ (hHeld.1))).trans (hHeld.1)
                                          refine ⟨_, rfl, ?_⟩
                                          have n0_ := Aside0.mk (Kd.R_elder' (by (with_reducible repeat (first | apply Kd.R_alloc | apply Kd.R_drewN | apply Kd.R_drew)); exact HO210.out) (Kd.R_base ho0) hb)
                                          have n1_ := Aside0.mk (Kd.R_elder' (by (with_reducible repeat (first | apply Kd.R_alloc | apply Kd.R_drewN | apply Kd.R_drew)); exact HO214.out) (Kd.R_base ho0) hb)
                                          have n2_ := Aside0.mk (Kd.R_elder' (by (with_reducible repeat (first | apply Kd.R_alloc | apply Kd.R_drewN | apply Kd.R_drew)); exact HO218.out) (Kd.R_base ho0) hb)
                                          have n3_ := Aside0.mk (Kd.R_lower (Kd.R_new' (Kd.R_new' (Kd.R_new' ho0 (Kd.R_lt (by (with_reducible repeat (first | apply Kd.R_alloc | apply Kd.R_drewN | apply Kd.R_drew)); exact HO210.out))) (Kd.R_lt (by (with_reducible repeat (first | apply Kd.R_alloc | apply Kd.R_drewN | apply Kd.R_drew)); exact HO214.out))) (Kd.R_lt (by (with_reducible repeat (first | apply Kd.R_alloc | apply Kd.R_drewN | apply Kd.R_drew)); exact HO218.out))) (below_size (by repeat (first | (with_reducible first | exact HB.out | apply below_alloc | apply pw_below_drewN | apply below_drew1 | refine below_set ?_ GE207.out) | exact HB.out))))
                                          have n4_ := Aside0.mk (blk_below (g := gb207) (o := .cells #[.int .i64 a0_0, .int .i64 a0_1, .int .i64 a0_2, .int .i64 a0_3, .int .i64 a0_4, .bool false] 23 (0, 0)) (by (with_reducible repeat (first | refine blk_drewN ?_ _ | refine blk_drew ?_ | refine blk_alloc ?_ _)); exact BK207.out) hb)
                                          have n5_ := Aside0.mk (below_step (by repeat (first | (with_reducible first | exact HB.out | apply below_alloc | apply pw_below_drewN | apply below_drew1 | refine below_set ?_ GE207.out) | exact HB.out)) hb)
                                          clear HO210
                                          clear HO214
                                          clear HO218
                                          clear BK207
                                          clear HB
                                          have HO210 := n0_
                                          have HO214 := n1_
                                          have HO218 := n2_
                                          have HO222 := n3_
                                          have BK207 := n4_
                                          have HB := n5_
                                          clear n0_ n1_ n2_ n3_ n4_ n5_
                                          (try clear hb)
                                          (try clear hb2)
                                          (try clear hk)
                                          (try clear hi)
                                          (try clear ho0)
                                          obtain ⟨Ao51, co51, eo51⟩ := Kd.R_slice HO222.out
                                          (first | subst eo51 | (injection eo51 with f1_ f2_ f3_; have f4_ := f1_.symm; have f5_ := f3_.symm; clear f1_ f2_ f3_; subst f4_; subst f5_))
                                          have p223 : 0 ≤ (a0_3 : Int) := of_decide_eq_true (by first | (with_reducible assumption) | assumption)
                                          have q223 : a0_3 < (t220.length : Int) := of_decide_eq_true (by first | (with_reducible assumption) | assumption)
                                          obtain ⟨ad223, e223, hx223_0⟩ := Kd.at_string (Kd.R_reads' HO222.out).2.2 a0_3 p223 q223
                                          cases e223
                                          replace p223 := eq_true p223
                                          replace q223 := eq_true q223
                                          refine hK.out _ _ ⟨HS2_, HS1_, HS0_, (blk_cell BK207.out 0).trans rfl, (blk_cell BK207.out 1).trans rfl, (blk_cell BK207.out 2).trans rfl, (blk_cell BK207.out 3).trans rfl, (blk_cell BK207.out 4).trans rfl, (blk_cell BK207.out 5).trans rfl⟩ (fun hHeld => ?_)
                                          clear hK K
                                          refine strong_ (fun w' => w'.cell? (ad223.add (a0_3).toNat) = some (.string (rdOf ByteArray.empty t220 a0_3)) ∧ w'.cell? (ad219.add (a0_2).toNat) = some (.string (rdOf ByteArray.empty t216 a0_2)) ∧ w'.cell? (ad215.add ((ji7)).toNat) = some (.string (rdOf ByteArray.empty t212 (ji7))) ∧ w'.cell? (ad211.add (a0_0).toNat) = some (.string (rdOf ByteArray.empty t208 a0_0)) ∧ w'.cell? ⟨gb207, 0, none⟩ = some (.int .i64 a0_0) ∧ w'.cell? ⟨gb207, 1, none⟩ = some (.int .i64 a0_1) ∧ w'.cell? ⟨gb207, 2, none⟩ = some (.int .i64 a0_2) ∧ w'.cell? ⟨gb207, 3, none⟩ = some (.int .i64 a0_3) ∧ w'.cell? ⟨gb207, 4, none⟩ = some (.int .i64 a0_4) ∧ w'.cell? ⟨gb207, 5, none⟩ = some (.bool false)) (fun _ h => h.2) ⟨hx223_0, hHeld⟩ (fun hHeld => ?_)
                                          refine norm_ (a' := ?_) ?_ ?_
                                          rotate_left
                                          · show Act.put _ (some 25) _ = _
                                            simp only [Act.put, List.setIfInBounds_toArray, List.set_cons_zero, List.set_cons_succ, i64_w, i32_w]
                                            rfl
                                          refine pure_ (i := 24) (N := some 28) (v := ?_) (a' := ?_) #[true, true, true, true, true, true, true, true, true, true, true, true, true, true, true, true, true, true, true, true, true, true, true, true, true, false, false, false, false, true, true, false, false, false, false] rfl rfl (any_of HT_.out (by kernel_rfl)) (fun _ _ _ h => h) (Or.inl ⟨by rfl, ?_⟩) ?_ ?_
                                          rotate_left
                                          · intro w'
                                            go_simp
                                            with_reducible rfl
                                          rotate_left
                                          · simp only [Act.put, List.setIfInBounds_toArray, List.set_cons_zero, List.set_cons_succ, i64_w, i32_w]
                                            rfl
                                          refine take_ (i := 25) (N := some 29) (v := ?_) (a' := ?_) #[true, true, true, true, true, true, true, true, true, true, true, true, true, true, true, true, true, true, true, true, true, true, true, true, true, true, false, false, false, true, true, false, false, false, false] rfl rfl (take_ofW HT_.out HW_.out (by kernel_rfl)) (fun _ _ _ h => h) (Or.inl ⟨by rfl, ?_⟩) hHeld ?_ ?_
                                          rotate_left
                                          · rintro w' ⟨t3, t2, t1, t0, s0, s1, s2, s3, s4, s5⟩
                                            go_simp
                                            with_reducible rfl
                                          rotate_left
                                          · simp only [Act.put, List.setIfInBounds_toArray, List.set_cons_zero, List.set_cons_succ, i64_w, i32_w]
                                            rfl
                                          refine pure_ (i := 26) (N := some 30) (v := ?_) (a' := ?_) #[true, true, true, true, true, true, true, true, true, true, true, true, true, true, true, true, true, true, true, true, true, true, true, true, true, true, true, false, false, true, true, false, false, false, false] rfl rfl (any_of HT_.out (by kernel_rfl)) (fun _ _ _ h => h) (Or.inl ⟨by rfl, ?_⟩) ?_ ?_
                                          rotate_left
                                          · intro w'
                                            go_simp
                                            with_reducible rfl
                                          rotate_left
                                          · simp only [Act.put, List.setIfInBounds_toArray, List.set_cons_zero, List.set_cons_succ, i64_w, i32_w]
                                            rfl
                                          refine pure_ (i := 27) (N := some 31) (v := ?_) (a' := ?_) #[true, true, true, true, true, true, true, true, true, true, true, true, true, true, true, true, true, true, true, true, true, true, true, true, true, true, true, true, false, true, true, false, false, false, false] rfl rfl (any_of HT_.out (by kernel_rfl)) (fun _ _ _ h => h) (Or.inl ⟨by rfl, ?_⟩) ?_ ?_
                                          rotate_left
                                          · intro w'
                                            go_simp
                                            with_reducible rfl
                                          rotate_left
                                          · simp only [Act.put, List.setIfInBounds_toArray, List.set_cons_zero, List.set_cons_succ, i64_w, i32_w]
                                            rfl
                                          refine one_ (i := 28) (N := some 32) #[true, true, true, true, true, true, true, true, true, true, true, true, true, true, true, true, true, true, true, true, true, true, true, true, true, true, true, true, true, true, true, false, false, false, false] rfl rfl (one_of HT_.out (by kernel_rfl)) (by decide) (fun K hK => ?_)
                                          refine goes_ Tryd.func20 (by kernel_rfl) rfl #[.int .i64 4] (by rfl) rfl rfl (by (try simp only [List.map_toArray, List.map_cons, List.map_nil]); first | done | rfl | (simp only [List.length_drop, List.length_take]; rfl)) ?_
                                          with_reducible refine (headroomref24_May.calls 4 t224 _ A22.out).mono ?_
                                          rintro e w52 ⟨v225, rfl, ho0, hb⟩
                                          have HS0_ := (hb.cell (World.block_lt_of_cell? _ _ (hHeld.2.2.2.1))).trans (hHeld.2.2.2.1)
                                          have HS1_ := (hb.cell (World.block_lt_of_cell? _ _ (hHeld.2.2.1))).trans (hHeld.2.2.1)
                                          have HS2_ := (hb.cell (World.block_lt_of_cell? _ _ (hHeld.2.1))).trans (hHeld.2.1)
                                          have HS3_ := (hb.cell (World.block_lt_of_cell? _ _ (hHeld.1))).trans (hHeld.1)
                                          refine ⟨_, rfl, ?_⟩
                                          have n0_ := Aside0.mk (Kd.R_elder' (by (with_reducible repeat (first | apply Kd.R_alloc | apply Kd.R_drewN | apply Kd.R_drew)); exact HO210.out) (Kd.R_base ho0) hb)
                                          have n1_ := Aside0.mk (Kd.R_elder' (by (with_reducible repeat (first | apply Kd.R_alloc | apply Kd.R_drewN | apply Kd.R_drew)); exact HO214.out) (Kd.R_base ho0) hb)
                                          have n2_ := Aside0.mk (Kd.R_elder' (by (with_reducible repeat (first | apply Kd.R_alloc | apply Kd.R_drewN | apply Kd.R_drew)); exact HO218.out) (Kd.R_base ho0) hb)
                                          have n3_ := Aside0.mk (Kd.R_elder' (by (with_reducible repeat (first | apply Kd.R_alloc | apply Kd.R_drewN | apply Kd.R_drew)); exact HO222.out) (Kd.R_base ho0) hb)
                                          have n4_ := Aside0.mk (Kd.R_lower (Kd.R_new' (Kd.R_new' (Kd.R_new' (Kd.R_new' ho0 (Kd.R_lt (by (with_reducible repeat (first | apply Kd.R_alloc | apply Kd.R_drewN | apply Kd.R_drew)); exact HO210.out))) (Kd.R_lt (by (with_reducible repeat (first | apply Kd.R_alloc | apply Kd.R_drewN | apply Kd.R_drew)); exact HO214.out))) (Kd.R_lt (by (with_reducible repeat (first | apply Kd.R_alloc | apply Kd.R_drewN | apply Kd.R_drew)); exact HO218.out))) (Kd.R_lt (by (with_reducible repeat (first | apply Kd.R_alloc | apply Kd.R_drewN | apply Kd.R_drew)); exact HO222.out))) (below_size (by repeat (first | (with_reducible first | exact HB.out | apply below_alloc | apply pw_below_drewN | apply below_drew1 | refine below_set ?_ GE207.out) | exact HB.out))))
                                          have n5_ := Aside0.mk (blk_below (g := gb207) (o := .cells #[.int .i64 a0_0, .int .i64 a0_1, .int .i64 a0_2, .int .i64 a0_3, .int .i64 a0_4, .bool false] 23 (0, 0)) (by (with_reducible repeat (first | refine blk_drewN ?_ _ | refine blk_drew ?_ | refine blk_alloc ?_ _)); exact BK207.out) hb)
                                          have n6_ := Aside0.mk (below_step (by repeat (first | (with_reducible first | exact HB.out | apply below_alloc | apply pw_below_drewN | apply below_drew1 | refine below_set ?_ GE207.out) | exact HB.out)) hb)
                                          clear HO210
                                          clear HO214
                                          clear HO218
                                          clear HO222
                                          clear BK207
                                          clear HB
                                          have HO210 := n0_
                                          have HO214 := n1_
                                          have HO218 := n2_
                                          have HO222 := n3_
                                          have HO226 := n4_
                                          have BK207 := n5_
                                          have HB := n6_
                                          clear n0_ n1_ n2_ n3_ n4_ n5_ n6_
                                          (try clear hb)
                                          (try clear hb2)
                                          (try clear hk)
                                          (try clear hi)
                                          (try clear ho0)
                                          obtain ⟨Ao53, co53, eo53⟩ := Kd.R_slice HO226.out
                                          (first | subst eo53 | (injection eo53 with f1_ f2_ f3_; have f4_ := f1_.symm; have f5_ := f3_.symm; clear f1_ f2_ f3_; subst f4_; subst f5_))
                                          have p227 : 0 ≤ (a0_4 : Int) := of_decide_eq_true (by first | (with_reducible assumption) | assumption)
                                          have q227 : a0_4 < (t224.length : Int) := of_decide_eq_true (by first | (with_reducible assumption) | assumption)
                                          obtain ⟨ad227, e227, hx227_0⟩ := Kd.at_string (Kd.R_reads' HO226.out).2.2 a0_4 p227 q227
                                          cases e227
                                          replace p227 := eq_true p227
                                          replace q227 := eq_true q227
                                          refine hK.out _ _ ⟨HS3_, HS2_, HS1_, HS0_, (blk_cell BK207.out 0).trans rfl, (blk_cell BK207.out 1).trans rfl, (blk_cell BK207.out 2).trans rfl, (blk_cell BK207.out 3).trans rfl, (blk_cell BK207.out 4).trans rfl, (blk_cell BK207.out 5).trans rfl⟩ (fun hHeld => ?_)
                                          clear hK K
                                          refine strong_ (fun w' => w'.cell? (ad227.add (a0_4).toNat) = some (.string (rdOf ByteArray.empty t224 a0_4)) ∧ w'.cell? (ad223.add (a0_3).toNat) = some (.string (rdOf ByteArray.empty t220 a0_3)) ∧ w'.cell? (ad219.add (a0_2).toNat) = some (.string (rdOf ByteArray.empty t216 a0_2)) ∧ w'.cell? (ad215.add ((ji7)).toNat) = some (.string (rdOf ByteArray.empty t212 (ji7))) ∧ w'.cell? (ad211.add (a0_0).toNat) = some (.string (rdOf ByteArray.empty t208 a0_0)) ∧ w'.cell? ⟨gb207, 0, none⟩ = some (.int .i64 a0_0) ∧ w'.cell? ⟨gb207, 1, none⟩ = some (.int .i64 a0_1) ∧ w'.cell? ⟨gb207, 2, none⟩ = some (.int .i64 a0_2) ∧ w'.cell? ⟨gb207, 3, none⟩ = some (.int .i64 a0_3) ∧ w'.cell? ⟨gb207, 4, none⟩ = some (.int .i64 a0_4) ∧ w'.cell? ⟨gb207, 5, none⟩ = some (.bool false)) (fun _ h => h.2) ⟨hx227_0, hHeld⟩ (fun hHeld => ?_)
                                          refine norm_ (a' := ?_) ?_ ?_
                                          rotate_left
                                          · show Act.put _ (some 32) _ = _
                                            simp only [Act.put, List.setIfInBounds_toArray, List.set_cons_zero, List.set_cons_succ, i64_w, i32_w]
                                            rfl
                                          refine pure_ (i := 31) (N := some 35) (v := ?_) (a' := ?_) #[true, true, true, true, true, true, true, true, true, true, true, true, true, true, true, true, true, true, true, true, true, true, true, true, true, true, true, true, true, true, true, true, false, false, false] rfl rfl (any_of HT_.out (by kernel_rfl)) (fun _ _ _ h => h) (Or.inl ⟨by rfl, ?_⟩) ?_ ?_
                                          rotate_left
                                          · intro w'
                                            go_simp
                                            with_reducible rfl
                                          rotate_left
                                          · simp only [Act.put, List.setIfInBounds_toArray, List.set_cons_zero, List.set_cons_succ, i64_w, i32_w]
                                            rfl
                                          refine take_ (i := 32) (N := some 36) (v := ?_) (a' := ?_) #[true, true, true, true, true, true, true, true, true, true, true, true, true, true, true, true, true, true, true, true, true, true, true, true, true, true, true, true, true, true, true, true, true, false, false] rfl rfl (take_ofW HT_.out HW_.out (by kernel_rfl)) (fun _ _ _ h => h) (Or.inl ⟨by rfl, ?_⟩) hHeld ?_ ?_
                                          rotate_left
                                          · rintro w' ⟨t4, t3, t2, t1, t0, s0, s1, s2, s3, s4, s5⟩
                                            go_simp
                                            with_reducible rfl
                                          rotate_left
                                          · simp only [Act.put, List.setIfInBounds_toArray, List.set_cons_zero, List.set_cons_succ, i64_w, i32_w]
                                            rfl
                                          refine pure_ (i := 33) (N := some 37) (v := ?_) (a' := ?_) #[true, true, true, true, true, true, true, true, true, true, true, true, true, true, true, true, true, true, true, true, true, true, true, true, true, true, true, true, true, true, true, true, true, true, false] rfl rfl (any_of HT_.out (by kernel_rfl)) (fun _ _ _ h => h) (Or.inl ⟨by rfl, ?_⟩) ?_ ?_
                                          rotate_left
                                          · intro w'
                                            go_simp
                                            with_reducible rfl
                                          rotate_left
                                          · simp only [Act.put, List.setIfInBounds_toArray, List.set_cons_zero, List.set_cons_succ, i64_w, i32_w]
                                            rfl
                                          refine pure_ (i := 34) (N := some 3) (v := ?_) (a' := ?_) #[true, true, true, true, true, true, true, true, true, true, true, true, true, true, true, true, true, true, true, true, true, true, true, true, true, true, true, true, true, true, true, true, true, true, true] rfl rfl (any_of HT_.out (by kernel_rfl)) (fun _ _ _ h => h) (Or.inl ⟨by rfl, ?_⟩) ?_ ?_
                                          rotate_left
                                          · intro w'
                                            go_simp
                                            with_reducible rfl
                                          rotate_left
                                          · simp only [Act.put, List.setIfInBounds_toArray, List.set_cons_zero, List.set_cons_succ, i64_w, i32_w]
                                            rfl
                                          refine done_ (done_of HT_.out (by kernel_rfl)) ?_
                                          have hcz54_0 : w52.cell? ⟨gb207, 0, none⟩ = some (.int .i64 a0_0) := (blk_cell BK207.out 0).trans rfl
                                          have hcz54_1 : w52.cell? ⟨gb207, 1, none⟩ = some (.int .i64 a0_1) := (blk_cell BK207.out 1).trans rfl
                                          have hcz54_2 : w52.cell? ⟨gb207, 2, none⟩ = some (.int .i64 a0_2) := (blk_cell BK207.out 2).trans rfl
                                          have hcz54_3 : w52.cell? ⟨gb207, 3, none⟩ = some (.int .i64 a0_3) := (blk_cell BK207.out 3).trans rfl
                                          have hcz54_4 : w52.cell? ⟨gb207, 4, none⟩ = some (.int .i64 a0_4) := (blk_cell BK207.out 4).trans rfl
                                          have hcz54_5 : w52.cell? ⟨gb207, 5, none⟩ = some (.bool false) := (blk_cell BK207.out 5).trans rfl
                                          have hfz54_0 := blk_frozen BK207.out 0
                                          have hfz54_1 := blk_frozen BK207.out 1
                                          have hfz54_2 := blk_frozen BK207.out 2
                                          have hfz54_3 := blk_frozen BK207.out 3
                                          have hfz54_4 := blk_frozen BK207.out 4
                                          have hfz54_5 := blk_frozen BK207.out 5
                                          try go_wp2
                                          go_ret
                                          exact ⟨by first | rfl | (simp [errW_none, errW_some] <;> rfl) | (simp only [← hji7]; first | rfl | (simp [errW_none, errW_some] <;> rfl)) | (simp [*, errW_none, errW_some] <;> rfl), by repeat (first | (with_reducible first | exact HB.out | apply below_alloc | apply pw_below_drewN | apply below_drew1 | refine below_set ?_ GE207.out) | exact HB.out)⟩
                                        · rw [if_neg c41] at H
                                          exact absurd H (by simp)
                                    · rw [if_neg c25] at H
                                      exact absurd H (by simp)
                                  · rw [if_neg c24] at H
                                    exact absurd H (by simp)
                                · rw [if_neg c23] at H
                                  exact absurd H (by simp)
                              · rw [if_neg c21] at H
                                exact absurd H (by simp)
                            · rw [if_neg c20] at H
                              exact absurd H (by simp)
                          · rw [if_neg c19] at H
                            exact absurd H (by simp)
                        · rw [if_neg c18] at H
                          exact absurd H (by simp)
                      · rw [if_neg c16] at H
                        exact absurd H (by simp)
                    · rw [if_neg c15] at H
                      exact absurd H (by simp)
                  · rw [if_neg c14] at H
                    exact absurd H (by simp)
                · rw [if_neg c13] at H
                  exact absurd H (by simp)
              · rw [if_neg c11] at H
                exact absurd H (by simp)
            · rw [if_neg c10] at H
              exact absurd H (by simp)
          · rw [if_neg c9] at H
            exact absurd H (by simp)
        · rw [if_neg c8] at H
          exact absurd H (by simp)
      · rw [if_neg c5] at H
        exact absurd H (by simp)
    · rw [if_neg c4] at H
      exact absurd H (by simp)
  · rw [if_neg c3] at H
    exact absurd H (by simp)

end Go.Proofs.YtajgpilcbaoneaaDoor.P
