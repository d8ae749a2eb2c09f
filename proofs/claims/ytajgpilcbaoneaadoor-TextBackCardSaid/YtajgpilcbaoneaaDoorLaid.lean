/- The listed table reads as it is laid: what that gives the walks (Places); and a world in which it does. -/
import Derived.Test.YtajgpilcbaoneaaDoorRows
import Derived.Test.YtajgpilcbaoneaaDoorLaws
import Derived.ProofKit
import Derived.LaidMore
import Derived.OpenShut
import Derived.SliceStrings
import Derived.Stop.Joined
namespace Go.Proofs.YtajgpilcbaoneaaDoor
open Go.ChangeShapes Go.WideShapes Go.ChangeAt Go.RowKit Go.Proofs.YtajgpilcbaoneaaDoorW.PrintWords
set_option linter.unusedVariables false
theorem own : ownKnob Tryd.prog.godebug = none := by kernel_rfl
theorem laidOut : laidOutB Tryd.prog = true := by kernel_rfl
theorem gPlaces : Tryd.prog.globalNamed "headroom/text.places" = some 0 := by kernel_rfl
theorem tPlaces : (Tryd.prog.globals[0]?).map (·.type) = some 49 := by kernel_rfl
abbrev laid1 : List (String × DataW Unit) := [("headroom/text.places", Rows.laid_headroom_text_places)]
/-- The door's own heap meets the condition: closed facts. -/
theorem door_met (os : Os) (args : Array Value) : laidMetH Tryd.prog laid1 ((World.doorLaid Tryd.prog 400 os).forCall (fun _ _ => 0) ⟨#[], args, []⟩).memory :=
  laidMetH_of_parts3 (fuel := 8) (laidMet_of_run' 8 (by kernel_rfl) (by kernel_rfl)) (by kernel_rfl) (by kernel_rfl)
def rowD (i : Nat) : DataW Unit := .slice ((P.row i).map fun s => .lit (.string s.data.toList)) []
theorem places_rows : Rows.laid_headroom_text_places = (.agg [rowD 0, rowD 1, rowD 2, rowD 3, rowD 4, rowD 5] : DataW Unit) := rfl
theorem row_of {W : World} {fuel : Nat} {v : Value} {i : Nat} {q : List MemPlace} (hpos : 0 < (P.row i).length) (h : DataW.trod (fun _ => ()) Tryd.prog W 0 (fun _ => true) false fuel 34 [v] = some (rowD i, q)) :
    ∃ (a : Addr) (c : Nat), v = .slice (some a) (P.row i).length c ∧ (P.row i).length ≤ c ∧ Kd.C Kd.string W (some a) (P.row i).length (P.row i) := by
  rcases open_strings Tryd.underlying34 Tryd.underlying9 (by kernel_rfl) h with ⟨_, hx⟩ | ⟨a, len, cap, ss, hcs, _, hl, hm, hss, hx, hcell, _⟩
  · have := (Prod.mk.inj hx).1
    exact absurd this (by intro e; cases e)
  · have hx1 := (Prod.mk.inj hx).1
    unfold rowD at hx1
    injection hx1 with e1 e2
    have hsl : ss.length = cap := by simpa using hss
    have hd : ss.drop len = [] := by
      have := congrArg List.length e2
      simp [strs] at this
      exact List.drop_of_length_le (by omega)
    have hlc : cap ≤ len := by
      have := congrArg List.length hd
      simp at this
      omega
    have htk : ss.take len = ss := List.take_of_length_le (by omega)
    rw [htk] at e1
    unfold strs at e1
    have hmap : (P.row i) = ss := by
      apply List.ext_getElem
      · simpa using congrArg List.length e1
      · intro j h1 h2
        have e3 := congrArg (fun l => l[j]?) e1
        simp [h1, h2] at e3
        exact WideShapes.bytes_inj (by rw [e3])
    subst hmap
    have hv : v = .slice (some a) len cap := by simpa using hcs
    have hlen : (P.row i).length = len := by omega
    refine ⟨a, cap, by rw [hv, hlen], by omega, rfl, ?_, fun _ => ?_⟩
    · unfold maxLen at hm
      omega
    · refine ⟨a, rfl, fun j p hp => ?_⟩
      have hj : j < (P.row i).length := (List.getElem?_eq_some_iff.1 hp).1
      refine ⟨[.string p], rfl, rfl, fun k u hu => ?_⟩
      have hk : k = 0 := by
        have := (List.getElem?_eq_some_iff.1 hu).1
        simp at this
        exact this
      subst hk
      have hu' : u = .string p := by simpa using hu.symm
      subst hu'
      have hc := hcell j hj
      rw [List.getD_eq_getElem?_getD, hp] at hc
      have e1 : j * Kd.string.sz + 0 = j := by simp [Kd.string, Kd.scalar]
      rw [e1]
      exact hc
theorem row_at (i : Nat) (y : DataW Unit) (hi : i < 6) (h : [rowD 0, rowD 1, rowD 2, rowD 3, rowD 4, rowD 5][i]? = some y) : y = rowD i := by
  match i, hi, h with
  | 0, _, h => exact (Option.some.inj h).symm
  | 1, _, h => exact (Option.some.inj h).symm
  | 2, _, h => exact (Option.some.inj h).symm
  | 3, _, h => exact (Option.some.inj h).symm
  | 4, _, h => exact (Option.some.inj h).symm
  | 5, _, h => exact (Option.some.inj h).symm
/-- WHAT THE CONDITION GIVES THE WALKS. -/
theorem places_of_laid {W : World} (h : laidMetH Tryd.prog laid1 W) : ∃ A c, P.Places A c W := by
  rw [MakeChecks.laidMetH_plain _ _ _ (by kernel_rfl)] at h
  obtain ⟨ps, ⟨g0, t0, cs0, f0, p0, q0, hg0, ht0, hv0, hd0, _, _⟩, _, _⟩ := h
  obtain rfl := Option.some.inj (gPlaces.symm.trans hg0)
  obtain rfl := Option.some.inj (tPlaces.symm.trans ht0)
  obtain ⟨xs, m1, _, hx1, hlen, hn6, hel⟩ := DataW.trod_array Tryd.underlying49 hd0
  have c34 : Tryd.prog.cellsOf 34 = 1 := by kernel_rfl
  have c49 : Tryd.prog.cellsOf 49 = 6 := by kernel_rfl
  rw [c49] at hlen
  have hxs := (Prod.mk.inj hx1).1
  rw [places_rows] at hxs
  injection hxs with hxs
  have hrow : ∀ i, i < 6 → ∃ (a : Addr) (c : Nat), W.cell? ⟨0, i, none⟩ = some (.slice (some a) (P.row i).length c) ∧ (P.row i).length ≤ c ∧ Kd.C Kd.string W (some a) (P.row i).length (P.row i) := by
    intro i hi
    have h0 := hel i hi
    rw [c34] at h0
    have hic : i < cs0.toList.length := by omega
    have hcell : (cs0.toList.drop (i * 1)).take 1 = [cs0.toList[i]] := by
      rw [Nat.mul_one, List.drop_eq_getElem_cons hic]
      rfl
    rw [hcell] at h0
    have hxi : i < xs.length := by omega
    rw [List.getElem?_eq_getElem hxi] at h0
    have hdi : (xs[i]).1 = rowD i := by
      have := congrArg (fun l => l[i]?) hxs
      simp only [List.getElem?_map, List.getElem?_eq_getElem hxi, Option.map_some] at this
      exact row_at i _ hi this
    obtain ⟨a, c, hv, hc1, hC⟩ := row_of (i := i) (q := (xs[i]).2) (by have := P.row_len i hi; omega) (by rw [← hdi]; exact h0)
    refine ⟨a, c, ?_, hc1, hC⟩
    rw [World.var?_cell hg0 hv0 i, ← hv]
    simp at hic
    simp [hic]
  have hA : ∃ A : Nat → Addr, ∃ c : Nat → Nat, ∀ i, i < 6 → W.cell? ⟨0, i, none⟩ = some (.slice (some (A i)) (P.row i).length (c i)) ∧ (P.row i).length ≤ c i ∧ Kd.C Kd.string W (some (A i)) (P.row i).length (P.row i) :=
    ⟨fun i => if h : i < 6 then (hrow i h).choose else ⟨0, 0, none⟩, fun i => if h : i < 6 then (hrow i h).choose_spec.choose else 0, fun i hi => by simp only [hi, dif_pos]; exact (hrow i hi).choose_spec.choose_spec⟩
  obtain ⟨A, c, hAc⟩ := hA
  exact ⟨A, c, World.block_lt_of_cell? _ _ (hAc 0 (by decide)).1, hAc⟩
end Go.Proofs.YtajgpilcbaoneaaDoor
