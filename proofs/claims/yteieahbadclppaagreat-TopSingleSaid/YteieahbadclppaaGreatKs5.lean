/- Part 5 of 10 of the proof: the texts that it reaches, one behind the other. No condition. -/
import Derived.Test.YteieahbadclppaaGreatKs4
import Derived.WalkSpells
import Derived.RangeFuncNested
import Derived.RangeFuncBound
import Derived.RangeFuncCalls
import Derived.RangeFuncLeaves
import Derived.RangeFuncBox
import Derived.Shelf.Abstract
import Derived.WalkKit
import Derived.OwnWalkIn
import Derived.TacticsInMore
import Derived.LoopNIn
import Derived.LoopIn
import Derived.RegionIn
import Derived.Outline
import Derived.Lib.Hide
import Derived.Maps.AppendAt
import Derived.OrdersIn
import Derived.OrdersHeld
namespace Go.Proofs.YteieahbadclppaaGreat.P
open Go.RowKit Go.Proofs.YteieahbadclppaaGreatW.PrintWords Go.Proofs.YteieahbadclppaaGreatW.PrintLast Go.Proofs.YteieahbadclppaaGreatW.PrintMore
attribute [local go_sem] max2_int min2_int max_two min_two max_three min_three max_four min_four   -- for this text's walks alone
set_option linter.unusedVariables false
set_option linter.unusedSimpArgs false

def api_Cx_79a.f (l0 : List (S38)) : Option ((List (S38))) := (some (([] : List (S38)) : List (S38))).bind fun y215 => (if y215.length + l0.length < 8796093022208 then (some (y215 ++ l0)) else (none))
set_option maxHeartbeats 8000000 in
set_option maxRecDepth 100000 in
theorem api_Cx_79a.calls (A0 : Option Addr) (c0 : Nat) (l0 : List (S38)) (r : List (S38)) (w : World) (hr0 : Kd.C k38 w A0 l0.length l0) (hc0 : l0.length ≤ c0) (hA : A0.isNone = false) (h : api_Cx_79a.f l0 = some r) :
  Calls Tryz.prog 79 #[.slice A0 l0.length c0] w fun e w' => ∃ v0_ : Value, e = .returned (v0_) ∧ Kd.R k38 38 w' w.heap.size (fun _ => True) v0_ r ∧ Below w.heap.size w w' := by
 have HR0 := Aside0.mk hr0
 have HC0 := Aside0.mk hc0
 clear hr0 hc0
 have HB := Aside0.mk (Below.refl w.heap.size w)
 have H : ((some (([] : List (S38)) : List (S38))).bind fun y215 => (if y215.length + l0.length < 8796093022208 then (some (y215 ++ l0)) else (none))) = some r := h
 clear h
 obtain ⟨y215, hy215⟩ : ∃ y_ : List (S38), y_ = (([] : List (S38))) := ⟨_, rfl⟩
 replace H : (if y215.length + l0.length < 8796093022208 then (some (y215 ++ l0)) else (none)) = some r := by first | (rw [hy215]; with_reducible exact H) | (have H2_ := (Option.bind_some _ _).symm.trans H; rw [hy215]; with_reducible exact H2_) | (have H2_ := (Option.bind_some _ _).symm.trans H; with_reducible exact H2_) | with_reducible exact H | (rw [hy215]; exact H) | exact H
 have Ny215 := Aside0.mk hy215
 clear hy215
 by_cases c2 : y215.length + l0.length < 8796093022208
 ·rw [if_pos c2] at H
  have LMc2 := Aside0.mk c2
  clear c2
  obtain ⟨y218, hy218⟩ : ∃ y_ : List (S38), y_ = (y215 ++ l0) := ⟨_, rfl⟩
  replace H : (some y218) = some r := by first | (rw [hy218]; with_reducible exact H) | (have H2_ := (Option.bind_some _ _).symm.trans H; rw [hy218]; with_reducible exact H2_) | (have H2_ := (Option.bind_some _ _).symm.trans H; with_reducible exact H2_) | with_reducible exact H | (rw [hy218]; exact H) | exact H
  have Ny218 := Aside0.mk hy218
  clear hy218
  obtain rfl := Option.some.inj H
  have hsn := fun W : World => Lib.run_eql_slice_nil (P := Tryz.prog) W 22 38 A0 l0.length c0 0 0 Tryz.underlying22
  go_enter Tryz.func79, Tryz.ntmps79
  go_wp2_with (first | ((with_reducible refine gate_dst (N := 5) rfl ?_); refine Kd.R_lit k38 _ 38 ?hg (N := 5) ?hd (xs := ([] : List (S38))) (inner := []) (ok := fun _ => True) (okp := fun _ => True) ?hr ?hp (fun _ hk => hk) trivial (Below.refl _ _) (Nat.le_refl _) (by simp) ?_; (case hd => rfl); (case hg => rfl); (case hr => first | (go_simp; done) | (go_simp; rfl)); (case hp => exact (Reps.none _ _)); intro v216 w3 ho4 hb hg_ hnew_; clear hg_ hnew_; (first | rw [← Ny215.out] at ho4 | (simp only [Int.reduceToNat] at ho4; rw [← Ny215.out] at ho4)); have n0_ := Aside0.mk (Kd.R_lower ho4 (below_size (by repeat (first | (with_reducible first | exact HB.out | apply below_alloc | apply pw_below_drewN | apply below_drew1) | exact HB.out)))); have n1_ := Aside0.mk (below_step (by repeat (first | (with_reducible first | exact HB.out | apply below_alloc | apply pw_below_drewN | apply below_drew1) | exact HB.out)) hb); clear HB; have HO217 := n0_; have HB := n1_; clear n0_ n1_; clear hb ho4) | ((with_reducible refine gate_builtin (b := .append) (xs := #[.tmp 5, .tmp 6]) rfl ?_); at_builtin; refine Kd.R_append_rows k38 (w0 := w) w.heap.size rfl (.tmp 5) (.tmp 6) 22 38 (.agg #[(.int .i64 0), (.int .i64 0)]) 16 rfl Tryz.underlying22 info38 rfl (by decide) (by omega) v216 y215 l0 _ _ _ (fun _ => True) (fun _ => False) rfl rfl ?aO ?aR (fun _ _ h => h) (fun _ h => h.elim) ?aF ?aB ?aS ?aL ?_; (case aR => repeat (first | exact (Kd.C_below HR0.out HB.out) | (with_reducible refine Kd.C_alloc ?_ _) | (with_reducible refine Kd.C_drewN ?_ _) | (with_reducible refine Kd.C_drew ?_))); (case aB => exact (by repeat (first | (with_reducible first | exact HB.out | apply below_alloc | apply pw_below_drewN | apply below_drew1) | exact HB.out))); (case aF => exact (fun _ _ => trivial)); (case aO => exact (by (with_reducible repeat (first | apply Kd.R_alloc | apply Kd.R_drewN | apply Kd.R_drew)); exact HO217.out)); (case aS => exact (below_size (by repeat (first | (with_reducible first | exact HB.out | apply below_alloc | apply pw_below_drewN | apply below_drew1) | exact HB.out)))); (case aL => have := LMc2.out; omega); intro v219 w5 ho hb hg hat; rw [← Ny218.out] at ho; have n0_ := Aside0.mk (hb); have n1_ := Aside0.mk (ho); clear HB; clear HO217; have HB := n0_; have HO220 := n1_; clear n0_ n1_; clear ho hb hg hat))
  go_ret
  exact ⟨_, by first | rfl | (simp [errW_none, errW_some] <;> rfl) | (simp [*, errW_none, errW_some] <;> rfl), by (with_reducible repeat (first | apply Kd.R_alloc | apply Kd.R_drewN | apply Kd.R_drew)); exact HO220.out, by repeat (first | (with_reducible first | exact HB.out | apply below_alloc | apply pw_below_drewN | apply below_drew1) | exact HB.out)⟩
 ·rw [if_neg c2] at H
  exact absurd H (by simp)
set_option maxHeartbeats 8000000 in
set_option maxRecDepth 100000 in
theorem api_Cx_79_nil (c0 : Nat) (w : World) :
  Calls Tryz.prog 79 #[.slice none 0 c0] w fun e w' => ∃ v0_ : Value, e = .returned (v0_) ∧ Kd.R k38 38 w' w.heap.size (fun _ => True) v0_ [] ∧ Below w.heap.size w w' := by
 have hsn := fun W : World => Lib.run_eql_slice_nil (P := Tryz.prog) W 22 38 none 0 c0 0 0 Tryz.underlying22
 go_enter Tryz.func79, Tryz.ntmps79
 go_wp2
 go_ret
 exact ⟨_, rfl, Kd.R_nil _ _ _ _ _, Below.refl _ _⟩
def api_Cx_79.f (l0 : List (S38)) : Option (List (S38)) := api_Cx_79a.f l0
theorem api_Cx_79.calls (A0 : Option Addr) (c0 : Nat) (l0 : List (S38)) (r : List (S38)) (w : World) (hr0 : Kd.C k38 w A0 l0.length l0) (hc0 : l0.length ≤ c0) (h : api_Cx_79.f l0 = some r) :
  Calls Tryz.prog 79 #[.slice A0 l0.length c0] w fun e w' => ∃ v0_ : Value, e = .returned (v0_) ∧ Kd.R k38 38 w' w.heap.size (fun _ => True) v0_ r ∧ Below w.heap.size w w' := by
 cases A0 with
 | some ad => exact api_Cx_79a.calls (some ad) c0 l0 r w hr0 hc0 rfl h
 | none =>
  have hl : l0 = [] := by
   cases l0 with
   | nil => rfl
   | cons x xs => obtain ⟨ad, e, _⟩ := hr0.2.2 (by simp); cases e
  subst hl
  have hr : r = [] := by
   unfold api_Cx_79.f api_Cx_79a.f at h
   simpa using h.symm
  subst hr
  exact api_Cx_79_nil c0 w

end Go.Proofs.YteieahbadclppaaGreat.P

namespace Go.Proofs.YteieahbadclppaaGreat.P
open Go.RowKit Go.Proofs.YteieahbadclppaaGreatW.PrintWords Go.Proofs.YteieahbadclppaaGreatW.PrintLast Go.Proofs.YteieahbadclppaaGreatW.PrintMore
attribute [local go_sem] max2_int min2_int max_two min_two
set_option linter.unusedVariables false
set_option linter.unusedSimpArgs false
set_option maxRecDepth 100000 in
set_option maxHeartbeats 4000000 in
def in15 (x : S38) : Bool := decide (-32768 ≤ x.f0 ∧ x.f0 ≤ 32767 ∧ -32768 ≤ x.f1 ∧ x.f1 ≤ 32767)
theorem clampV_id {x : Int} (h0 : -32768 ≤ x) (h1 : x ≤ 32767) : clampV x 0 = x := by
 unfold clampV
 rw [if_pos rfl, if_neg (by omega), if_neg (by omega)]
theorem Clamp_id {x : Int} (h0 : -32768 ≤ x) (h1 : x ≤ 32767) (w : World) : Calls Tryz.prog 87 #[.int .i64 x, .int .i64 0] w fun e w' => e = .returned (.tuple #[.int .i64 x, .bool false, .int .i64 0]) ∧ ∃ n, w' = w.drewN n := by
 have h := Clamp_0 x w
 rw [clampV_id h0 h1] at h
 have e : (x != x) = false := by simp
 rw [e] at h
 exact h.mono fun e w' hh => ⟨hh.1, hh.2.out⟩
theorem in15_of {x : S38} (h : in15 x = true) : -32768 ≤ x.f0 ∧ x.f0 ≤ 32767 ∧ -32768 ≤ x.f1 ∧ x.f1 ≤ 32767 := of_decide_eq_true h
theorem rd_mem (l : List S38) (k : Nat) (h : k < l.length) : rd_T38 l k ∈ l := by
 unfold rd_T38
 rw [Int.toNat_natCast, List.getD_eq_getElem?_getD, List.getElem?_eq_getElem h]
 exact List.getElem_mem h
theorem add_head (g n : Nat) : (⟨g, 0, none⟩ : Addr).add n = ⟨g, n, none⟩ := by
 unfold Addr.add
 split
 ·next h => rw [h]
 ·rw [Nat.zero_add]
theorem R_cells {e base : Nat} {ok : Nat → Prop} {w : World} {g n cap : Nat} {xs : List S38} (h : Kd.R k38 e w base ok (.slice (some ⟨g, 0, none⟩) n cap) xs) (k : Nat) (hk : k < xs.length) :
  w.cell? ⟨g, k * 2, none⟩ = some (.int .i64 (rd_T38 xs k).f0) ∧ w.cell? ⟨g, k * 2 + 1, none⟩ = some (.int .i64 (rd_T38 xs k).f1) := by
 obtain ⟨ad, had, h0, h1⟩ := at_T38 (R_C h).2 (k : Int) (by omega) (by omega)
 cases had
 rw [Int.toNat_natCast, add_head] at h0 h1
 exact ⟨h0, h1⟩
section
variable {P : Program} {ops : Array Oper} {rest : List Oper} {o : Oper} {a : Act} {Q : Exit → Act → World → Prop}
theorem cx_field0 {w0 W : World} (base : Nat) (hN : o.dst = none) (hgd : o.guard = none) (p x : Operand) (ho : o.op = .store 3 p x) {g n cap : Nat} (i : Nat) (xs : List S38) (y : S38) (u : Int)
  (haddr : a.eval p = .pointer (some ⟨g, i * 2, none⟩)) (hx : a.eval x = .int .i64 u) (ht : (P.info? 3).map (·.size) = some 1)
  (HO : Kd.R k38 38 W base (fun _ => True) (.slice (some ⟨g, 0, none⟩) n cap) xs) (hi : i < n) (hy : y = ⟨u, (xs.getD i z38).f1⟩) (HB : Below base w0 W)
  (h : ∀ w1, Kd.R k38 38 w1 base (fun _ => True) (.slice (some ⟨g, 0, none⟩) n cap) (xs.set i y) → Below base w0 w1 → W.grownBy w1 (some g) → wpList P ops Q rest (a.put o.dst undef) w1) : wpList P ops Q (o :: rest) a W := by
 rw [hN] at h
 obtain ⟨c, hcl, hM, hcc, hfr⟩ := Kd.R_elem HO z38 (i : Int) (by omega) (by omega)
 obtain rfl := k38_openM hM
 subst hy
 refine Kd.R_store k38 base hN hgd 3 p x ho 38 (i : Int) 0 xs ⟨u, (xs.getD i z38).f1⟩ (.int .i64 u) [.int .i64 u] _ (fun _ => True) (fun _ => False) haddr (by rw [Int.toNat_natCast]; rfl) hx rfl ht (by simp [Value.oneCell']) HO (by omega) (by omega) hcl hcc (Nat.le_of_ble_eq_true rfl) ?_ (fun _ h => h.elim) HB ?_
 ·rw [Int.toNat_natCast]
  exact k38_mkM W base _ ⟨u, (xs.getD i z38).f1⟩
 intro w1 h1 h2 h3
 rw [Int.toNat_natCast] at h1
 exact h w1 h1 h2 h3
theorem cx_field1 {w0 W : World} (base : Nat) (hN : o.dst = none) (hgd : o.guard = none) (p x : Operand) (ho : o.op = .store 3 p x) {g n cap : Nat} (i : Nat) (xs : List S38) (y : S38) (u : Int)
  (haddr : a.eval p = .pointer (some ⟨g, i * 2 + 1, none⟩)) (hx : a.eval x = .int .i64 u) (ht : (P.info? 3).map (·.size) = some 1)
  (HO : Kd.R k38 38 W base (fun _ => True) (.slice (some ⟨g, 0, none⟩) n cap) xs) (hi : i < n) (hy : y = ⟨(xs.getD i z38).f0, u⟩) (HB : Below base w0 W)
  (h : ∀ w1, Kd.R k38 38 w1 base (fun _ => True) (.slice (some ⟨g, 0, none⟩) n cap) (xs.set i y) → Below base w0 w1 → W.grownBy w1 (some g) → wpList P ops Q rest (a.put o.dst undef) w1) : wpList P ops Q (o :: rest) a W := by
 rw [hN] at h
 obtain ⟨c, hcl, hM, hcc, hfr⟩ := Kd.R_elem HO z38 (i : Int) (by omega) (by omega)
 obtain rfl := k38_openM hM
 subst hy
 refine Kd.R_store k38 base hN hgd 3 p x ho 38 (i : Int) 1 xs ⟨(xs.getD i z38).f0, u⟩ (.int .i64 u) [.int .i64 u] _ (fun _ => True) (fun _ => False) haddr (by rw [Int.toNat_natCast]; rfl) hx rfl ht (by simp [Value.oneCell']) HO (by omega) (by omega) hcl hcc (Nat.le_of_ble_eq_true rfl) ?_ (fun _ h => h.elim) HB ?_
 ·rw [Int.toNat_natCast]
  exact k38_mkM W base _ ⟨(xs.getD i z38).f0, u⟩
 intro w1 h1 h2 h3
 rw [Int.toNat_natCast] at h1
 exact h w1 h1 h2 h3
end
theorem size3 : (Tryz.prog.info? 3).map (·.size) = some 1 := by kernel_rfl
theorem set_self (l : List S38) (k : Nat) (h : k < l.length) : l.set k (rd_T38 l k) = l := by
 unfold rd_T38
 rw [Int.toNat_natCast, List.getD_eq_getElem?_getD, List.getElem?_eq_getElem h]
 simp
set_option maxRecDepth 100000 in
set_option maxHeartbeats 4000000 in
theorem clamped_ok (p1 p2 p4 b : Int) (p5 : Bool) (Aw : Option Addr) (wn cw : Nat) (A : Option Addr) (c : Nat) (l : List S38) (w : World) (hr : Kd.C k38 w A l.length l) (hc : l.length ≤ c) (hn0 : 0 < l.length) (hl : l.length ≤ 64) (hx : ∀ x, x ∈ l → in15 x = true) :
  Calls Tryz.prog 52 #[.agg #[.int .i64 0, .int .i64 p1, .int .i64 p2, .int .i64 2, .int .i64 p4, .bool p5, .iface 100 (.agg #[]), .int .i64 b, .slice Aw wn cw], .slice A l.length c] w fun e w' => ∃ A' c', e = .returned (.tuple #[.slice A' l.length c', .bool false]) ∧ Kd.R k38 38 w' w.heap.size (fun _ => True) (.slice A' l.length c') l ∧ Below w.heap.size w w' := by
 have HCL := Lib.hid (show api_Cx_79.f l = some l by unfold api_Cx_79.f api_Cx_79a.f; rw [Option.bind_some, if_pos (by simp; omega)]; rfl)
 have HR := Lib.hid hr
 have HC := Lib.hid hc
 have HX := Lib.hid hx
 have HNE := Lib.hid hn0
 have HB0 := Lib.hid (Below.refl w.heap.size w)
 clear hr hc hx
 go_enter Tryz.func52, Tryz.ntmps52
 go_wp2_with (first
  | ((with_reducible refine gate_dst (N := 2) rfl ?_); refine box_event ?hg (N := 2) ?hd (cs := #[.int .i64 0, .int .i64 p1, .int .i64 p2, .int .i64 2, .int .i64 p4, .bool p5, .iface 100 (.agg #[]), .int .i64 b, .slice Aw wn cw]) (t := 56) ?hr ?_; (case hd => rfl); (case hg => rfl); (case hr => first | (go_simp; done) | (go_simp; rfl)); intro g2 hg W1 hbox hbl; have L2 : w.heap.size ≤ g2 := (by rw [hg]; exact below_size HB0.out); have B2_1 := Lib.hid hbox; have HB_1 := Lib.hid (below_step HB0.out hbl); have Cx_1 := Lib.hid (Kd.C_below HR.out HB_1.out); have k2_0_1 : W1.cell? ⟨g2, 0, none⟩ = some (.int .i64 0) := (blk_cell B2_1.out 0).trans rfl; have k2_1_1 : W1.cell? ⟨g2, 1, none⟩ = some (.int .i64 p1) := (blk_cell B2_1.out 1).trans rfl; have k2_2_1 : W1.cell? ⟨g2, 2, none⟩ = some (.int .i64 p2) := (blk_cell B2_1.out 2).trans rfl; have k2_3_1 : W1.cell? ⟨g2, 3, none⟩ = some (.int .i64 2) := (blk_cell B2_1.out 3).trans rfl; have k2_4_1 : W1.cell? ⟨g2, 4, none⟩ = some (.int .i64 p4) := (blk_cell B2_1.out 4).trans rfl; have k2_5_1 : W1.cell? ⟨g2, 5, none⟩ = some (.bool p5) := (blk_cell B2_1.out 5).trans rfl; have k2_6_1 : W1.cell? ⟨g2, 6, none⟩ = some (.iface 100 (.agg #[])) := (blk_cell B2_1.out 6).trans rfl; have k2_7_1 : W1.cell? ⟨g2, 7, none⟩ = some (.int .i64 b) := (blk_cell B2_1.out 7).trans rfl; have k2_8_1 : W1.cell? ⟨g2, 8, none⟩ = some (.slice Aw wn cw) := (blk_cell B2_1.out 8).trans rfl; clear hbox hbl hg)
  | (go_at_call 79; (with_reducible refine (api_Cx_79.calls A c l l _ Cx_1.out HC.out HCL.out).mono ?_); rintro e W2 ⟨v20, rfl, ho, hb⟩; obtain ⟨g, cap, hv, hg1, hg2, _⟩ := Kd.R_form ho HNE.out; subst hv; have Rout := Lib.hid (Kd.R_lower ho (below_size HB_1.out)); have HB_2 := Lib.hid (below_step HB_1.out hb); have B2_2 := Lib.hid (blk_below B2_1.out hb); have Cx_2 := Lib.hid (Kd.C_below HR.out HB_2.out); have k2_0_2 : W2.cell? ⟨g2, 0, none⟩ = some (.int .i64 0) := (blk_cell B2_2.out 0).trans rfl; have k2_1_2 : W2.cell? ⟨g2, 1, none⟩ = some (.int .i64 p1) := (blk_cell B2_2.out 1).trans rfl; have k2_2_2 : W2.cell? ⟨g2, 2, none⟩ = some (.int .i64 p2) := (blk_cell B2_2.out 2).trans rfl; have k2_3_2 : W2.cell? ⟨g2, 3, none⟩ = some (.int .i64 2) := (blk_cell B2_2.out 3).trans rfl; have k2_4_2 : W2.cell? ⟨g2, 4, none⟩ = some (.int .i64 p4) := (blk_cell B2_2.out 4).trans rfl; have k2_5_2 : W2.cell? ⟨g2, 5, none⟩ = some (.bool p5) := (blk_cell B2_2.out 5).trans rfl; have k2_6_2 : W2.cell? ⟨g2, 6, none⟩ = some (.iface 100 (.agg #[])) := (blk_cell B2_2.out 6).trans rfl; have k2_7_2 : W2.cell? ⟨g2, 7, none⟩ = some (.int .i64 b) := (blk_cell B2_2.out 7).trans rfl; have k2_8_2 : W2.cell? ⟨g2, 8, none⟩ = some (.slice Aw wn cw) := (blk_cell B2_2.out 8).trans rfl; clear k2_0_1 k2_1_1 k2_2_1 k2_3_1 k2_4_1 k2_5_1 k2_6_1 k2_7_1 k2_8_1; clear hb ho hg1 hg2))
 go_loopw [7, 20] (fun s7 s20 wr => ∃ k : Nat, k ≤ l.length ∧ s20 = .int .i64 k ∧ s7 = .bool false ∧ wr.heap[g2]? = some (.cells #[.int .i64 0, .int .i64 p1, .int .i64 p2, .int .i64 2, .int .i64 p4, .bool p5, .iface 100 (.agg #[]), .int .i64 b, .slice Aw wn cw] 56 (0, 0)) ∧ Kd.R k38 38 wr w.heap.size (fun _ => True) (.slice (some ⟨g, 0, none⟩) l.length cap) l ∧ Below w.heap.size w wr) (fun _ i _ => l.length - (intOf i).toNat)
 case atStart => exact ⟨0, by omega, rfl, rfl, B2_2.out, Rout.out, HB_2.out⟩
 case round =>
  obtain ⟨k, hk, rfl, rfl, hb2, ho, hb⟩ := hrel
  have B2r := Lib.hid hb2
  have HOr := Lib.hid ho
  have HBr := Lib.hid hb
  clear ho hb hb2 Rout HB_2 k2_0_2 k2_1_2 k2_2_2 k2_3_2 k2_4_2 k2_5_2 k2_6_2 k2_7_2 k2_8_2
  by_cases hlt : k < l.length
  ·obtain ⟨h0, h1⟩ := R_cells HOr.out k hlt
   have k2 := (blk_cell B2r.out 0).trans rfl
   obtain ⟨q0, q1, q2, q3⟩ := in15_of (HX.out (rd_T38 l k) (rd_mem l k hlt))
   have HS := Lib.hid (set_self l k hlt)
   have HY := Lib.hid (show rd_T38 l k = ⟨(rd_T38 l k).f0, (l.getD k z38).f1⟩ from rfl)
   have HY1 := Lib.hid (show rd_T38 l k = ⟨(l.getD k z38).f0, (rd_T38 l k).f1⟩ from rfl)
   generalize rd_T38 l k = y at *
   go_wp2
   go_quiet ((go_at_call 87; exact Calls.quiet_of (Clamp_id q0 q1 _)))
   generalize hW : wr.drewN _ = W5
   have hb5 : Below wr.heap.size wr W5 := by rw [← hW]; exact pw_below_drewN (Below.refl _ _) _
   have B5 := Lib.hid (blk_below B2r.out hb5)
   have HO5 := Lib.hid (Kd.R_below HOr.out hb5)
   have HB5 := Lib.hid (below_step HBr.out hb5)
   have h05 := (hb5.cell (World.block_lt_of_cell? _ _ h0)).trans h0
   have h15 := (hb5.cell (World.block_lt_of_cell? _ _ h1)).trans h1
   have k25 := (blk_cell B5.out 0).trans rfl
   clear hb5 hW h0 h1 k2
   go_wp2
   go_quiet ((go_at_call 87; exact Calls.quiet_of (Clamp_id q2 q3 _)))
   generalize hW : W5.drewN _ = W6
   have hb6 : Below W5.heap.size W5 W6 := by rw [← hW]; exact pw_below_drewN (Below.refl _ _) _
   have B6 := Lib.hid (blk_below B5.out hb6)
   have HO6 := Lib.hid (Kd.R_below HO5.out hb6)
   have HB6 := Lib.hid (below_step HB5.out hb6)
   have h06 := (hb6.cell (World.block_lt_of_cell? _ _ h05)).trans h05
   have h16 := (hb6.cell (World.block_lt_of_cell? _ _ h15)).trans h15
   have k26 := (blk_cell B6.out 0).trans rfl
   clear hb6 hW h05 h15 k25
   go_wp2_with (first
    | ((with_reducible refine gate_store (t := 3) (p := 62) rfl ?_); refine cx_field0 (w0 := w) w.heap.size rfl rfl _ _ rfl k l y y.f0 ?ha rfl size3 HO6.out hlt HY.out HB6.out ?_; (case ha => first | rfl | go_simp); intro W7 ho hb hg; rw [HS.out] at ho; have HO7 := Lib.hid ho; have HB7 := Lib.hid hb; have B7 := Lib.hid ((hg.block g2 (blk_lt B6.out) (Kd.R_ne HO6.out B6.out (by decide))).trans B6.out); clear ho hb hg)
    | ((with_reducible refine gate_store (t := 3) (p := 64) rfl ?_); refine cx_field1 (w0 := w) w.heap.size rfl rfl _ _ rfl k l y y.f1 ?ha rfl size3 HO7.out hlt HY1.out HB7.out ?_; (case ha => first | rfl | go_simp); intro W8 ho hb hg; rw [HS.out] at ho; have HO8 := Lib.hid ho; have HB8 := Lib.hid hb; have B8 := Lib.hid ((hg.block g2 (blk_lt B7.out) (Kd.R_ne HO7.out B7.out (by decide))).trans B7.out); clear ho hb hg))
   go_roundw
   case rel => exact ⟨k + 1, by omega, by go_num, rfl, B8.out, HO8.out, HB8.out⟩
   case measure => simp [intOf]; omega
  ·obtain rfl : k = l.length := by omega
   go_wp2
   go_ret2
   exact ⟨_, _, rfl, HOr.out, HBr.out⟩
end Go.Proofs.YteieahbadclppaaGreat.P

namespace Go.Proofs.YteieahbadclppaaGreat.P
open Go.RowKit Go.Proofs.YteieahbadclppaaGreatW.PrintWords Go.Proofs.YteieahbadclppaaGreatW.PrintLast Go.Proofs.YteieahbadclppaaGreatW.PrintMore
set_option linter.unusedVariables false
set_option linter.unusedSimpArgs false
section
variable {P : Program} {ops : Array Oper} {Q : Exit → Act → World → Prop} {md : Region.Mode}
theorem callsRound_of {l n : Nat} {f : FuncId} {args : Array Value} {w : World} {R : Ending → World → Prop} (h : Calls P f args w R) : CallsIn (Fence.wide.inRound l) n P f args w R :=
 let g : CallsIn Fence.wide n P f args w R := callsIn_wide.2 h
 ⟨trivial, fun cs hr => g.2 cs (room_wide _)⟩
theorem rowsRound_of {l n : Nat} {row : String} {args : Array Value} {w : World} {R : Value → World → Prop} (h : Rows P row args w R) : RowsIn (Fence.wide.inRound l) n P row args w R :=
 fun c cs _ => let ⟨v, w', r, s⟩ := h c cs; ⟨v, w', r, (stepsIn_wide (P := P)).2 s⟩
theorem operRound_of {l n : Nat} {o : Oper} {a : Act} {w : World} {K : Act → World → Prop} (hd : ∀ c, o.op ≠ .defer c) (h : o.wp P a w K Q) : o.wpIn (Fence.wide.inRound l) n P a w K Q := by
 refine ⟨fun _ _ => trivial, ?_⟩
 rw [show (Fence.wide.inRound l).round = some l from rfl, Oper.semAt_some l _ o hd]
 unfold Oper.wp at h
 generalize (execOp a.eval o).run P w = r at *
 cases r with
 | ok x w' =>
  cases x <;> simp only [Oper.upon, Oper.uponIn] at h ⊢ <;>
   first
    | exact h
    | exact ⟨fun h0 => absurd h0 (by simp [Fence.inRound, Fence.wide]), (callsRound_of h).mono (fun e w2 he => by cases e <;> exact he)⟩
    | exact ⟨fun h0 => absurd h0 (by simp [Fence.inRound, Fence.wide]), rowsRound_of h⟩
    | exact h.elim
 | halt x w' => cases x <;> simp only [Oper.upon, Oper.uponIn] at h ⊢ <;> exact h
theorem anyRound_of {l n : Nat} (hd : ∀ (i : Nat) (o : Oper) c, ops[i]? = some o → o.op ≠ .defer c) (hL : ¬ LetsOut Q) : ∀ (fuel : Nat) (listed : Array Bool) (a : Act) (w : World), wpAny P md ops Q fuel listed a w → wpAnyIn (Fence.wide.inRound l) n P md ops Q fuel listed a w
 | 0, _, _, _, h => h
 | fuel + 1, listed, a, w, h => by
  refine ⟨h.1, fun i hi => ?_⟩
  have h2 := h.2 i hi
  unfold wpOp at h2
  unfold wpOpIn
  cases ho : ops[i]? with
  | none => rw [ho] at h2; exact anyRound_of hd hL fuel _ _ _ h2
  | some o =>
   rw [ho] at h2
   dsimp only at h2 ⊢
   by_cases hw : Region.wanted o (yielded ops a.tmps) = true
   ·rw [if_pos hw] at h2 ⊢
    rcases h2 with h3 | h3
    ·exact operRound_of (fun c => hd i o c ho) (Oper.wp_mono (fun a' w' => anyRound_of hd hL fuel _ a' w') h3)
    ·exact absurd h3.2 hL
   ·rw [if_neg hw] at h2 ⊢
    exact ⟨fun _ _ => trivial, anyRound_of hd hL fuel _ _ _ h2⟩
def noDefer (o : Oper) : Bool := match o.op with | .defer _ => false | _ => true
theorem startR_ {S : World → Prop} {ds : List Nat} {id n l m : Nat} {a : Act} {w : World} (fl : Array Bool) (hm : P.follows .mixedOrders = true) (hn : ops.size = m) (hl : Array.replicate m false = fl) (hd : ops.all noDefer = true) (hL : ¬ LetsOut Q) (hS : S w.drew)
  (h : S w.drew → wpAnyLast P .any ops Q S ds m fl a w.drew) : (Code.region id ops true).wpIn (Fence.wide.inRound l) n P Q a w := by
 subst hn
 subst hl
 refine wpIn_region_draw fun t => ?_
 simp only [Region.schedule, hm, Bool.true_or, if_true]
 refine wpAnyIn_sound ops.size t _ a _ (anyRound_of (fun i o c ho hc => ?_) hL _ _ _ _ (wpAny_of_last _ _ _ _ (h hS)))
 have h1 := (Array.all_eq_true.1 hd) i (Array.getElem?_eq_some_iff.1 ho).1
 rw [(Array.getElem?_eq_some_iff.1 ho).2] at h1
 unfold noDefer at h1
 rw [hc] at h1
 cases h1
end
end Go.Proofs.YteieahbadclppaaGreat.P

namespace Go.Proofs.YteieahbadclppaaGreat.P
open Go.RowKit Go.Proofs.YteieahbadclppaaGreatW.PrintWords Go.Proofs.YteieahbadclppaaGreatW.PrintLast Go.Proofs.YteieahbadclppaaGreatW.PrintMore
open Go.Proofs.YteieahbadclppaaGreatW.PrintLast.Region
set_option linter.unusedVariables false
set_option linter.unusedSimpArgs false
section
variable {n0 : Nat} {P : Program} {ops : Array Oper} {Q : Exit → Act → World → Prop} {md : Go.Region.Mode} {S : World → Prop} {ds : List Nat}
theorem yieldsIf_wpOpIn {i : Nat} {o : Oper} {v : Value} {a : Act} (hi : ops[i]? = some o) (hy : YieldsIf P ops S o v a) {K : Act → World → Prop} {w : World} (hS : S w) (h : K (a.put o.dst v) w) : wpOpIn Fence.wide n0 P ops Q i K a w := by
 unfold wpOpIn
 simp only [hi]
 rcases hy with ⟨hw, hv⟩ | ⟨hw, rfl⟩
 ·rw [if_pos hw]
  refine ⟨fun _ _ => trivial, ?_⟩
  rw [show Fence.wide.round = none from rfl, Oper.semAt_none, hv w hS]
  exact h
 ·rw [if_neg (by rw [hw]; decide)]
  exact ⟨fun _ _ => trivial, h⟩
theorem yields_of_if {o : Oper} {v : Value} {a : Act} (h : YieldsIf P ops (fun _ => True) o v a) : Yields P ops o v a := h.imp (fun ⟨hw, hv⟩ => ⟨hw, fun w => hv w trivial⟩) id
theorem wpOpIn_frame {j : Nat} {oj : Oper} (hj : ops[j]? = some oj) {K : Act → World → Prop} {a : Act} {w : World} (h : wpOpIn Fence.wide n0 P ops Q j K a w) :
  wpOpIn Fence.wide n0 P ops Q j (fun a' w' => (∃ u, a' = a.put oj.dst u ∨ ∃ d : Deferred, a' = ({ a with defers := d :: a.defers } : Act).put oj.dst u) ∧ K a' w') a w := by
 unfold wpOpIn at *
 simp only [hj] at *
 by_cases hw : Region.wanted oj (yielded ops a.tmps) = true
 ·rw [if_pos hw] at h ⊢
  refine ⟨h.1, ?_⟩
  have h2 := h.2
  generalize (oj.semAt Fence.wide.round a.eval).run P w = r at *
  cases r with
  | ok x w' =>
   cases x <;> simp only [Oper.uponIn] at h2 ⊢
   case value u => exact ⟨⟨u, .inl rfl⟩, h2⟩
   case skip => exact ⟨⟨undef, .inl rfl⟩, h2⟩
   case defer d => exact ⟨⟨undef, .inr ⟨d, rfl⟩⟩, h2⟩
   case enter f args => exact ⟨h2.1, CallsIn.mono h2.2 fun e w2 he => by cases e <;> first | exact ⟨⟨_, .inl rfl⟩, he⟩ | exact he⟩
   case row row args => exact ⟨h2.1, RowsIn.mono h2.2 fun u w2 he => ⟨⟨u, .inl rfl⟩, he⟩⟩
   case round l f tmps assign body => exact ⟨h2.1, RoundIn.mono h2.2 fun e w2 he => by cases e <;> first | exact ⟨⟨_, .inl rfl⟩, he⟩ | exact he⟩
  | halt x w' => cases x <;> simp only [Oper.uponIn] at h2 ⊢ <;> exact h2
 ·rw [if_neg hw] at h ⊢
  exact ⟨h.1, ⟨undef, .inl rfl⟩, h.2⟩
theorem wpOpIn_putIf {j : Nat} {oi oj : Oper} {v : Value} (hj : ops[j]? = some oj) (hap : oi.apart ops oj = true)
  (hsi : ∀ cs b, oi.op ≠ .select cs b) (hsj : ∀ cs b, oj.op ≠ .select cs b)
  (hQ : ∀ c a w, Q (.panic c) (a.put oi.dst v) w → Q (.panic c) a w) {K : Act → World → Prop} {a : Act} {w : World}
  (hy : YieldsIf P ops S oi v a) (h : wpOpIn Fence.wide n0 P ops Q j K (a.put oi.dst v) w) :
  wpOpIn Fence.wide n0 P ops Q j (fun a' w' => YieldsIf P ops S oi v a' ∧ K (a'.put oi.dst v) w') a w := by
 obtain ⟨h1, h2, h3⟩ := Oper.apart_spec hap
 have hap2 : ({ oi with op := .move (.const v), guard := none } : Oper).apart ops oj = true := by
  have hl : ({ oi with op := .move (.const v), guard := none } : Oper).looksAt ops = [] := rfl
  unfold Oper.apart at hap ⊢
  rw [hl]
  revert hap
  cases oi.dst <;> cases oj.dst <;> simp <;> (intro q1 q2 q3; exact ⟨q1, q2⟩)
 have h4 := wpOpIn_put (oi := { oi with op := .move (.const v), guard := none }) (v := v) rfl hj hap2 (fun cs b => by simp) hsj hQ ⟨.inl ⟨rfl, fun W => rfl⟩, fun W => rfl⟩ h
 refine wpOpIn_mono (fun a' w' h5 => ⟨?_, h5.2.2⟩) (wpOpIn_frame hj h4)
 obtain ⟨u, rfl | ⟨d, rfl⟩⟩ := h5.1
 ·exact hy.of_same (execOp_put oi hsi a oj.dst u h3) (wanted_put oi a oj.dst u h3)
 ·exact (hy.of_same (a' := { a with defers := d :: a.defers }) rfl rfl).of_same (execOp_put oi hsi _ oj.dst u h3) (wanted_put oi _ oj.dst u h3)
def wpAnyLastI (n0 : Nat) (P : Program) (md : Go.Region.Mode) (ops : Array Oper) (Q : Exit → Act → World → Prop) (S : World → Prop) (ds : List Nat) : Nat → Array Bool → Act → World → Prop
 | 0, listed, a, w => Region.ready md ops listed = [] ∧ Q .normal a w
 | fuel + 1, listed, a, w =>
  (Region.ready md ops listed = [] → Q .normal a w) ∧
  ∀ i ∈ Region.ready md ops listed, wpOpIn Fence.wide n0 P ops Q i (fun a' w' => (i ∉ ds → S w → S w') ∧ wpAnyLastI n0 P md ops Q S ds fuel (listed.setIfInBounds i true) a' w') a w

theorem wpAnyLastI_first {i : Nat} {oi : Oper} {v : Value} (hi : ops[i]? = some oi) (hsel : ∀ (j : Nat) (o : Oper) cs b, ops[j]? = some o → o.op ≠ .select cs b)
  (hQ : ∀ c a w, Q (.panic c) (a.put oi.dst v) w → Q (.panic c) a w) (n : Nat) :
  ∀ (fuel : Nat) (listed : Array Bool) (a : Act) (w : World),
   (∀ j oj, ops[j]? = some oj → j ≠ i → listed.getD j true = false → (∀ e ∈ oj.after, Region.binds md e = true → e.on ≠ i) → oi.apart ops oj = true) →
   ListedClosed md ops listed → (∀ d ∈ ds, listed.getD d true = false → Region.reachB md ops i n d = true) →
   i ∈ Region.ready md ops listed → YieldsIf P ops S oi v a → S w →
   wpAnyLastI n0 P md ops Q S ds fuel (listed.setIfInBounds i true) (a.put oi.dst v) w → wpAnyLastI n0 P md ops Q S ds (fuel + 1) listed a w := by
 intro fuel
 induction fuel with
 | zero =>
  intro listed a w _ _ _ hr hy hS H
  refine ⟨fun h => (by rw [h] at hr; cases hr), fun j hj => ?_⟩
  by_cases hji : j = i
  ·subst hji; exact yieldsIf_wpOpIn hi hy hS ⟨fun _ h => h, H⟩
  ·have := ready_mono hj hji
   rw [H.1] at this
   cases this
 | succ fuel ih =>
  intro listed a w hfree hc hd hr hy hS H
  refine ⟨fun h => (by rw [h] at hr; cases hr), fun j hj => ?_⟩
  by_cases hji : j = i
  ·subst hji; exact yieldsIf_wpOpIn hi hy hS ⟨fun _ h => h, H⟩
  ·have h1 := H.2 j (ready_mono hj hji)
   obtain ⟨hjun, oj, hoj, hall⟩ := mem_ready.1 hj
   have hiun := (mem_ready.1 hr).1
   have hnot : ∀ e ∈ oj.after, Region.binds md e = true → e.on ≠ i := fun e he hb heq => by
    have h1 := hall e he hb
    rw [heq] at h1
    rcases Nat.lt_or_ge i listed.size with h' | h'
    ·simp [h'] at hiun h1; rw [hiun] at h1; cases h1
    ·simp [Array.getElem?_eq_none h'] at h1
   have hjd : j ∉ ds := fun hm => Region.reach_not_ready hc (hd j hm hjun) hiun hj
   have h2 := wpOpIn_putIf hoj (hfree j oj hoj hji hjun hnot) (fun cs b => hsel i oi cs b hi) (fun cs b => hsel j oj cs b hoj) hQ hy h1
   have hfree' : ∀ k ok, ops[k]? = some ok → k ≠ i → (listed.setIfInBounds j true).getD k true = false →
     (∀ e ∈ ok.after, Region.binds md e = true → e.on ≠ i) → oi.apart ops ok = true := fun k ok hk hki hun hno => by
    refine hfree k ok hk hki ?_ hno
    by_cases hjk : j = k
    ·subst hjk; exact hjun
    ·rw [getD_set_ne true hjk] at hun; exact hun
   have hd' : ∀ d ∈ ds, (listed.setIfInBounds j true).getD d true = false → Region.reachB md ops i n d = true := fun d hm hun => by
    refine hd d hm ?_
    by_cases hjk : j = d
    ·subst hjk; exact hjun
    ·rw [getD_set_ne true hjk] at hun; exact hun
   refine wpOpIn_mono (fun a' w' h3 => ⟨h3.2.1, ih (listed.setIfInBounds j true) a' w' hfree' (hc.set hj) hd' (ready_mono hr (Ne.symm hji)) h3.1 (h3.2.1 hjd hS) ?_⟩) h2
   rw [Array.setIfInBounds_comm _ _ hji]
   exact h3.2.2

theorem wpAnyLastI_any {i : Nat} {oi : Oper} {v : Value} (hi : ops[i]? = some oi) (hsel : ∀ (j : Nat) (o : Oper) cs b, ops[j]? = some o → o.op ≠ .select cs b)
  (hQ : ∀ c a w, Q (.panic c) (a.put oi.dst v) w → Q (.panic c) a w) :
  ∀ (fuel : Nat) (listed : Array Bool) (a : Act) (w : World),
   (∀ j oj, ops[j]? = some oj → j ≠ i → listed.getD j true = false → (∀ e ∈ oj.after, Region.binds md e = true → e.on ≠ i) → oi.apart ops oj = true) →
   i ∈ Region.ready md ops listed → Yields P ops oi v a →
   wpAnyLastI n0 P md ops Q S ds fuel (listed.setIfInBounds i true) (a.put oi.dst v) w → wpAnyLastI n0 P md ops Q S ds (fuel + 1) listed a w := by
 intro fuel
 induction fuel with
 | zero =>
  intro listed a w _ hr hy H
  refine ⟨fun h => (by rw [h] at hr; cases hr), fun j hj => ?_⟩
  by_cases hji : j = i
  ·subst hji; exact yieldsIf_wpOpIn hi (hy.yieldsIf (S := fun _ => True)) trivial ⟨fun _ h => h, H⟩
  ·have := ready_mono hj hji
   rw [H.1] at this
   cases this
 | succ fuel ih =>
  intro listed a w hfree hr hy H
  refine ⟨fun h => (by rw [h] at hr; cases hr), fun j hj => ?_⟩
  by_cases hji : j = i
  ·subst hji; exact yieldsIf_wpOpIn hi (hy.yieldsIf (S := fun _ => True)) trivial ⟨fun _ h => h, H⟩
  ·have h1 := H.2 j (ready_mono hj hji)
   obtain ⟨hjun, oj, hoj, hall⟩ := mem_ready.1 hj
   have hiun := (mem_ready.1 hr).1
   have hnot : ∀ e ∈ oj.after, Region.binds md e = true → e.on ≠ i := fun e he hb heq => by
    have h1 := hall e he hb
    rw [heq] at h1
    rcases Nat.lt_or_ge i listed.size with h' | h'
    ·simp [h'] at hiun h1; rw [hiun] at h1; cases h1
    ·simp [Array.getElem?_eq_none h'] at h1
   have h2 := wpOpIn_putIf hoj (hfree j oj hoj hji hjun hnot) (fun cs b => hsel i oi cs b hi) (fun cs b => hsel j oj cs b hoj) hQ (hy.yieldsIf (S := fun _ => True)) h1
   have hfree' : ∀ k ok, ops[k]? = some ok → k ≠ i → (listed.setIfInBounds j true).getD k true = false →
     (∀ e ∈ ok.after, Region.binds md e = true → e.on ≠ i) → oi.apart ops ok = true := fun k ok hk hki hun hno => by
    refine hfree k ok hk hki ?_ hno
    by_cases hjk : j = k
    ·subst hjk; exact hjun
    ·rw [getD_set_ne true hjk] at hun; exact hun
   refine wpOpIn_mono (fun a' w' h3 => ⟨h3.2.1, ih (listed.setIfInBounds j true) a' w' hfree' (ready_mono hr (Ne.symm hji)) (yields_of_if h3.1) ?_⟩) h2
   rw [Array.setIfInBounds_comm _ _ hji]
   exact h3.2.2

theorem wpAnyLastI_take {i : Nat} {oi : Oper} {v : Value} {fuel : Nat} {listed : Array Bool} {a : Act} {w : World} (hi : ops[i]? = some oi)
  (hs : Region.noSelect ops = true) (hf : Region.free md ops listed i = true) (hr : (Region.ready md ops listed).contains i = true)
  (hc : Region.closedB md ops listed = true) (hl : Region.lastB md ops listed ds i = true)
  (hQ : ∀ c a w, Q (.panic c) (a.put oi.dst v) w → Q (.panic c) a w) (hy : YieldsIf P ops S oi v a) (hS : S w)
  (h : wpAnyLastI n0 P md ops Q S ds fuel (listed.setIfInBounds i true) (a.put oi.dst v) w) : wpAnyLastI n0 P md ops Q S ds (fuel + 1) listed a w :=
 wpAnyLastI_first hi (Region.noSelect_spec hs) hQ ops.size fuel listed a w (Region.free_spec hi hf) (Region.closedB_spec hc)
  (fun d hm hun => by have := List.all_eq_true.1 hl d hm; rw [hun] at this; simpa using this) (by simpa using hr) hy hS h

theorem wpAnyLastI_all {rs : List Nat} {fuel : Nat} {listed : Array Bool} {a : Act} {w : World} (hr : Region.ready md ops listed = rs) (hne : rs ≠ [])
  (h : ∀ i ∈ rs, wpOpIn Fence.wide n0 P ops Q i (fun a' w' => (i ∉ ds → S w → S w') ∧ wpAnyLastI n0 P md ops Q S ds fuel (listed.setIfInBounds i true) a' w') a w) : wpAnyLastI n0 P md ops Q S ds (fuel + 1) listed a w :=
 ⟨fun h0 => absurd (hr ▸ h0) hne, hr ▸ h⟩

theorem wpAnyLastI_done {listed : Array Bool} {a : Act} {w : World} (hr : Region.ready md ops listed = []) (h : Q .normal a w) :
  ∀ fuel, wpAnyLastI n0 P md ops Q S ds fuel listed a w
 | 0 => ⟨hr, h⟩
 | _ + 1 => ⟨fun _ => h, by rw [hr]; simp⟩

def AllReadyLI (n0 : Nat) (P : Program) (md : Go.Region.Mode) (ops : Array Oper) (Q : Exit → Act → World → Prop) (S : World → Prop) (ds : List Nat) (fuel : Nat) (listed : Array Bool) (a : Act) (w : World) (rs : List Nat) : Prop :=
 ∀ i ∈ rs, wpOpIn Fence.wide n0 P ops Q i (fun a' w' => (i ∉ ds → S w → S w') ∧ wpAnyLastI n0 P md ops Q S ds fuel (listed.setIfInBounds i true) a' w') a w
theorem AllReadyLI.nil {fuel : Nat} {listed : Array Bool} {a : Act} {w : World} : AllReadyLI n0 P md ops Q S ds fuel listed a w [] := fun _ h => by cases h
theorem AllReadyLI.cons_last {fuel : Nat} {listed : Array Bool} {a : Act} {w : World} {i : Nat} {o : Oper} {rs : List Nat} (ho : ops[i]? = some o) (hd : i ∈ ds)
  (h : ∀ K' : Act → World → Prop, Shut (∀ a w, wpAnyLastI n0 P md ops Q S ds fuel (listed.setIfInBounds i true) a w → K' a w) → if Region.wanted o (yielded ops a.tmps) = true then Oper.wpIn Fence.wide n0 P o a w K' Q else (∀ f, o.about P w a.eval = some f → Fence.wide.fn f) ∧ K' (a.put o.dst undef) w)
  (hs : AllReadyLI n0 P md ops Q S ds fuel listed a w rs) : AllReadyLI n0 P md ops Q S ds fuel listed a w (i :: rs) := fun j hj => by
 rcases List.mem_cons.1 hj with rfl | hj
 ·exact wpOpIn_step ho (fun K' hK => h K' (fun a w hW => hK a w ⟨fun hn => absurd hd hn, hW⟩))
 ·exact hs j hj
theorem wpAnyLastI_ready {rs : List Nat} {fuel : Nat} {listed : Array Bool} {a : Act} {w : World} (hr : Region.ready md ops listed = rs) (hne : rs ≠ [])
  (h : AllReadyLI n0 P md ops Q S ds fuel listed a w rs) : wpAnyLastI n0 P md ops Q S ds (fuel + 1) listed a w := wpAnyLastI_all hr hne h
theorem takeI_ {i : Nat} {N : Option Tmp} {oi : Oper} {v : Value} {fuel : Nat} {l : Array Bool} {a : Act} {w : World} (l' : Array Bool) (hi : ops[i]? = some oi) (hN : oi.dst = N) (hc : takeB md ops ds l l' i = true)
  (hQ : ∀ c a w, Q (.panic c) (a.put oi.dst v) w → Q (.panic c) a w) (hy : YieldsIf P ops S oi v a) (hS : S w) {a' : Act} (ha : a.put N v = a')
  (h : wpAnyLastI n0 P md ops Q S ds fuel l' a' w) : wpAnyLastI n0 P md ops Q S ds (fuel + 1) l a w := by
 subst ha
 subst hN
 simp only [takeB, Bool.and_eq_true, beq_iff_eq] at hc
 obtain ⟨⟨⟨⟨⟨h1, h2⟩, h3⟩, h4⟩, h5⟩, h6⟩ := hc
 subst h6
 exact wpAnyLastI_take hi h1 h2 h3 h4 h5 hQ hy hS h
theorem pureI_ {i : Nat} {N : Option Tmp} {oi : Oper} {v : Value} {fuel : Nat} {l : Array Bool} {a : Act} {w : World} (l' : Array Bool) (hi : ops[i]? = some oi) (hN : oi.dst = N) (hc : anyB md ops l l' i = true)
  (hQ : ∀ c a w, Q (.panic c) (a.put oi.dst v) w → Q (.panic c) a w) (hy : Yields P ops oi v a) {a' : Act} (ha : a.put N v = a')
  (h : wpAnyLastI n0 P md ops Q S ds fuel l' a' w) : wpAnyLastI n0 P md ops Q S ds (fuel + 1) l a w := by
 subst ha
 subst hN
 simp only [anyB, Bool.and_eq_true, beq_iff_eq] at hc
 obtain ⟨⟨⟨h1, h2⟩, h3⟩, h6⟩ := hc
 subst h6
 exact wpAnyLastI_any hi (Region.noSelect_spec h1) hQ fuel l a w (Region.free_spec hi h2) (by simpa using h3) hy h
theorem lastI_ {i : Nat} {N : Option Tmp} {oi : Oper} {fuel : Nat} {l : Array Bool} {a : Act} {w : World} (l' : Array Bool) (hi : ops[i]? = some oi) (hN : oi.dst = N) (hc : readyB md ops l l' i = true) (hd : i ∈ ds)
  (h : ∀ K : Act → World → Prop, Shut (∀ a' w', wpAnyLastI n0 P md ops Q S ds fuel l' a' w' → K a' w') → if Region.wanted oi (yielded ops a.tmps) = true then Oper.wpIn Fence.wide n0 P oi a w K Q else (∀ f, oi.about P w a.eval = some f → Fence.wide.fn f) ∧ K (a.put N undef) w) :
  wpAnyLastI n0 P md ops Q S ds (fuel + 1) l a w := by
 subst hN
 simp only [readyB, Bool.and_eq_true, beq_iff_eq] at hc
 obtain ⟨h1, h2⟩ := hc
 subst h2
 exact wpAnyLastI_ready h1 (by simp) (AllReadyLI.cons_last hi hd (fun K hK => h K hK) AllReadyLI.nil)
theorem doneI_ {l : Array Bool} {a : Act} {w : World} {n : Nat} (hr : (Region.ready md ops l == []) = true) (h : Q .normal a w) : wpAnyLastI n0 P md ops Q S ds n l a w := wpAnyLastI_done (by simpa using hr) h n

theorem wpAnyIn_of_lastI : ∀ (fuel : Nat) (listed : Array Bool) (a : Act) (w : World), wpAnyLastI n0 P md ops Q S ds fuel listed a w → wpAnyIn Fence.wide n0 P md ops Q fuel listed a w
 | 0, _, _, _, h => h
 | fuel + 1, _, _, _, h => ⟨h.1, fun i hi => wpOpIn_mono (fun a' w' h' => wpAnyIn_of_lastI fuel _ a' w' h'.2) (h.2 i hi)⟩
theorem startI_ {id n : Nat} {a : Act} {w : World} (l : Array Bool) (hm : P.follows .mixedOrders = true) (hn : ops.size = n) (hl : Array.replicate n false = l) (hS : S w.drew)
  (h : S w.drew → wpAnyLastI n0 P .any ops Q S ds n l a w.drew) : (Code.region id ops true).wpIn Fence.wide n0 P Q a w := by
 subst hn
 subst hl
 exact wpIn_region_any hm (wpAnyIn_of_lastI _ _ _ _ (h hS))
end
end Go.Proofs.YteieahbadclppaaGreat.P

namespace Go.Proofs.YteieahbadclppaaGreat.P
open Go.RowKit Go.Shelf Go.Proofs.YteieahbadclppaaGreatW.PrintWords Go.Proofs.YteieahbadclppaaGreatW.PrintLast Go.Proofs.YteieahbadclppaaGreatW.PrintMore
set_option linter.unusedVariables false
set_option linter.unusedSimpArgs false
attribute [local go_sem] Oper.semAt_some
def rootAt (h m : Int) (k : Int) : Int := wrap64 (Go.bits .and .i64 k (wrap64 (h - 1)) * m)
def pairsTo (h m : Int) : Nat → List (Int × Int)
 | 0 => []
 | k + 1 => if Go.bits .and .i64 k h = 0 then pairsTo h m k ++ [((k : Int), rootAt h m k)] else pairsTo h m k
def KeepTwo (A B : Nat) (W W' : World) : Prop := W'.heap[A]? = W.heap[A]? ∧ W'.heap[B]? = W.heap[B]?
theorem keepTwo_t {A B : Nat} {X Y Z : World} (h : KeepTwo A B X Y) (k : KeepTwo A B Y Z) : KeepTwo A B X Z := ⟨k.1.trans h.1, k.2.trans h.2⟩
theorem keepTwo_b {A B : Nat} {w : World} (hA : A < w.heap.size) (hB : B < w.heap.size) (W : World) (l : Nat) (o o' : Obj) (hl : w.heap.size ≤ l) (h1 : W.heap[l]? = some o) (h2 : o.isCells = false) (h3 : o.isWalk = false) : KeepTwo A B W (W.putObj l o') :=
 ⟨World.putObj_heap_other (by omega), World.putObj_heap_other (by omega)⟩
theorem pairs_pre (h m : Int) : ∀ (k n : Nat), k ≤ n → pairsTo h m k <+: pairsTo h m n := by
 intro k n hk
 induction n with
 | zero => rw [Nat.le_zero.1 hk]; exact List.prefix_refl _
 | succ n ih =>
  by_cases e : k = n + 1
  ·rw [e]; exact List.prefix_refl _
  ·have h1 := ih (by omega)
   rw [show pairsTo h m (n + 1) = if Go.bits .and .i64 n h = 0 then pairsTo h m n ++ [((n : Int), rootAt h m n)] else pairsTo h m n from rfl]
   split
   ·exact h1.trans (List.prefix_append _ _)
   ·exact h1
theorem pairs_len (h m : Int) : ∀ n : Nat, (pairsTo h m n).length ≤ n := by
 intro n
 induction n with
 | zero => exact Nat.le_refl _
 | succ n ih =>
  unfold pairsTo
  split
  ·simp; exact ih
  ·omega
set_option maxRecDepth 100000 in
set_option maxHeartbeats 4000000 in
theorem pairs1_in (n : Nat) (hn : 1 ≤ n) (lY Bn Bh : Nat) (nn : Nat) (h m : Int) (hnn : nn ≤ 1000) (hh : 0 < h) (hh2 : h ≤ 1000) (hm : m = nn / (2 * h)) (J Jx : List {p : Int × Int // p ∈ pairsTo h m nn} → World → Prop)
  (hJb : ∀ pre W W', J pre W → Below W.heap.size W W' → J pre W')
  (hY : ∀ pre x W, J pre W → pre.length < nn → YieldAt Fence.wide (n - 1) Tryz.prog lY #[.int .i64 x.1.1, .int .i64 x.1.2] W fun e W' =>
   (e = .returned (.bool true) ∧ J (pre ++ [x]) W' ∧ KeepTwo Bn Bh W W') ∨ (e = .returned (.bool false) ∧ Jx (pre ++ [x]) W'))
  (W : World) (hb1 : W.heap[Bn]? = some (.cells #[.int .i64 nn] 3 (0, 0))) (hb2 : W.heap[Bh]? = some (.cells #[.int .i64 h] 3 (0, 0))) (h0 : J [] W) :
  CallsIn Fence.wide n Tryz.prog 106 #[.func (.yield lY) #[] #[], .pointer (some ⟨Bn, 0, none⟩), .pointer (some ⟨Bh, 0, none⟩)] W fun e W' => (∃ v, e = .returned v) ∧
   ((∃ ys, ys.map Subtype.val = pairsTo h m nn ∧ J ys W') ∨ (∃ pre, pre.map Subtype.val <+: pairsTo h m nn ∧ Jx pre W')) := by
 have k1 : W.cell? ⟨Bn, 0, none⟩ = some (.int .i64 nn) := (blk_cell hb1 0).trans rfl
 have hmx : Tryz.prog.follows .mixedOrders = true := by kernel_rfl
 have e1 : wrap64 (2 * h) = 2 * h := by unfold wrap64; omega
 have e2 : (nn : Int).tdiv (2 * h) = m := by rw [hm, Int.tdiv_eq_ediv_of_nonneg (by omega)]
 have m0 : 0 ≤ m := by rw [hm]; exact Int.ediv_nonneg (by omega) (by omega)
 have m1 : m ≤ 1000 := by rw [hm]; exact Int.le_trans (Int.ediv_le_self _ (by omega)) (by omega)
 have e3 : wrap64 m = m := by unfold wrap64; omega
 have e4 : (2 * h = 0) = False := eq_false (by omega)
 have e5 : (h = 0) = False := eq_false (by omega)
 clear hm m0 m1
 refine callsIn_of_wp Tryz.func106 rfl trivial ?_ rfl
 simp only [Tryz.ntmps106, List.size_toArray, List.length_cons, List.length_nil, Nat.reduceAdd, Nat.reduceSub, Array.replicate_succ, Array.replicate_zero, List.push_toArray, List.append_toArray, List.nil_append, List.cons_append]
 gi_wp2
 gi_loopw [6] (fun v6 wr => ∃ (k : Nat), k ≤ nn ∧ v6 = .int .i64 k ∧ (∃ pre : List {p : Int × Int // p ∈ pairsTo h m nn}, pre.map Subtype.val = pairsTo h m k ∧ J pre wr) ∧ wr.heap[Bn]? = some (.cells #[.int .i64 nn] 3 (0, 0)) ∧ wr.heap[Bh]? = some (.cells #[.int .i64 h] 3 (0, 0))) (fun v6 _ => nn - (intOf v6).toNat)
 case atStart => exact ⟨0, by omega, rfl, ⟨[], rfl, h0⟩, hb1, hb2⟩
 case round =>
  obtain ⟨k, hk, rfl, ⟨pre, hpre, hJk⟩, hc1, hc2⟩ := hrel
  have HP := Lib.hid hpre
  have HJ := Lib.hid hJk
  have C1 := Lib.hid hc1
  have C2 := Lib.hid hc2
  have k1 : wr.cell? ⟨Bn, 0, none⟩ = some (.int .i64 nn) := (blk_cell hc1 0).trans rfl
  have k2 : wr.cell? ⟨Bh, 0, none⟩ = some (.int .i64 h) := (blk_cell hc2 0).trans rfl
  clear hJk hc1 hc2 h0 hb1 hb2 hpre
  by_cases hlt : k < nn
  ·by_cases c : Go.bits .and .i64 k h = 0
   ·have HS := Lib.hid (show pairsTo h m (k + 1) = pairsTo h m k ++ [((k : Int), rootAt h m k)] by rw [pairsTo, if_pos c])
    have hx : wrap64 (Go.bits .and .i64 k (wrap64 (h - 1)) * m) = rootAt h m k := rfl
    have hlen : pre.length < nn := by
     have e := congrArg List.length HP.out
     rw [List.length_map] at e
     rw [e]
     exact Nat.lt_of_le_of_lt (pairs_len h m k) hlt
    have hmem : ((k : Int), rootAt h m k) ∈ pairsTo h m nn := (pairs_pre h m (k + 1) nn hlt).subset (by rw [HS.out]; simp)
    have HM := Lib.hid (show (pre ++ [(⟨_, hmem⟩ : {p : Int × Int // p ∈ pairsTo h m nn})]).map Subtype.val = pairsTo h m (k + 1) by rw [List.map_append, HP.out, HS.out]; rfl)
    gi_wp2
    refine startI_ (S := fun w' => w'.cell? ⟨Bn, 0, none⟩ = some (.int .i64 nn) ∧ w'.cell? ⟨Bh, 0, none⟩ = some (.int .i64 h)) (ds := [16]) (fl 19 0) hmx rfl rfl ⟨k1, k2⟩ (fun hHeld => ?_)
    refine pureI_ (i := 0) (N := some 9) (v := ?_) (a' := ?_) (fl 19 1) rfl rfl (by kernel_rfl) (fun _ _ _ h => h) (Or.inl ⟨by rfl, ?_⟩) ?_ ?_
    rotate_left
    ·intro w'
     go_simp
     with_reducible rfl
    rotate_left
    ·simp only [Act.put, List.setIfInBounds_toArray, List.set_cons_zero, List.set_cons_succ, i64_w, i32_w]
     rfl
    refine takeI_ (i := 1) (N := some 10) (v := ?_) (a' := ?_) (fl 19 3) rfl rfl (by kernel_rfl) (fun _ _ _ h => h) (Or.inl ⟨by rfl, ?_⟩) hHeld ?_ ?_
    rotate_left
    ·rintro w' ⟨s0, s1⟩
     go_simp
     with_reducible rfl
    rotate_left
    ·simp only [Act.put, List.setIfInBounds_toArray, List.set_cons_zero, List.set_cons_succ, i64_w, i32_w]
     rfl
    refine pureI_ (i := 2) (N := some 11) (v := ?_) (a' := ?_) (fl 19 7) rfl rfl (by kernel_rfl) (fun _ _ _ h => h) (Or.inl ⟨by rfl, ?_⟩) ?_ ?_
    rotate_left
    ·intro w'
     go_simp
     with_reducible rfl
    rotate_left
    ·simp only [Act.put, List.setIfInBounds_toArray, List.set_cons_zero, List.set_cons_succ, i64_w, i32_w]
     rfl
    refine pureI_ (i := 3) (N := some 12) (v := ?_) (a' := ?_) (fl 19 15) rfl rfl (by kernel_rfl) (fun _ _ _ h => h) (Or.inl ⟨by rfl, ?_⟩) ?_ ?_
    rotate_left
    ·intro w'
     go_simp
     with_reducible rfl
    rotate_left
    ·simp only [Act.put, List.setIfInBounds_toArray, List.set_cons_zero, List.set_cons_succ, i64_w, i32_w]
     rfl
    refine pureI_ (i := 4) (N := some 13) (v := ?_) (a' := ?_) (fl 19 31) rfl rfl (by kernel_rfl) (fun _ _ _ h => h) (Or.inl ⟨by rfl, ?_⟩) ?_ ?_
    rotate_left
    ·intro w'
     go_simp
     with_reducible rfl
    rotate_left
    ·simp only [Act.put, List.setIfInBounds_toArray, List.set_cons_zero, List.set_cons_succ, i64_w, i32_w]
     rfl
    refine pureI_ (i := 5) (N := some 14) (v := ?_) (a' := ?_) (fl 19 63) rfl rfl (by kernel_rfl) (fun _ _ _ h => h) (Or.inl ⟨by rfl, ?_⟩) ?_ ?_
    rotate_left
    ·intro w'
     go_simp
     with_reducible rfl
    rotate_left
    ·simp only [Act.put, List.setIfInBounds_toArray, List.set_cons_zero, List.set_cons_succ, i64_w, i32_w]
     rfl
    refine pureI_ (i := 6) (N := some 15) (v := ?_) (a' := ?_) (fl 19 127) rfl rfl (by kernel_rfl) (fun _ _ _ h => h) (Or.inl ⟨by rfl, ?_⟩) ?_ ?_
    rotate_left
    ·intro w'
     go_simp
     with_reducible rfl
    rotate_left
    ·simp only [Act.put, List.setIfInBounds_toArray, List.set_cons_zero, List.set_cons_succ, i64_w, i32_w]
     rfl
    refine pureI_ (i := 7) (N := some 16) (v := ?_) (a' := ?_) (fl 19 255) rfl rfl (by kernel_rfl) (fun _ _ _ h => h) (Or.inl ⟨by rfl, ?_⟩) ?_ ?_
    rotate_left
    ·intro w'
     go_simp
     with_reducible rfl
    rotate_left
    ·simp only [Act.put, List.setIfInBounds_toArray, List.set_cons_zero, List.set_cons_succ, i64_w, i32_w]
     rfl
    refine takeI_ (i := 8) (N := some 17) (v := ?_) (a' := ?_) (fl 19 511) rfl rfl (by kernel_rfl) (fun _ _ _ h => h) (Or.inl ⟨by rfl, ?_⟩) hHeld ?_ ?_
    rotate_left
    ·rintro w' ⟨s0, s1⟩
     go_simp
     with_reducible rfl
    rotate_left
    ·simp only [Act.put, List.setIfInBounds_toArray, List.set_cons_zero, List.set_cons_succ, i64_w, i32_w]
     rfl
    refine pureI_ (i := 9) (N := some 18) (v := ?_) (a' := ?_) (fl 19 1023) rfl rfl (by kernel_rfl) (fun _ _ _ h => h) (Or.inl ⟨by rfl, ?_⟩) ?_ ?_
    rotate_left
    ·intro w'
     go_simp
     with_reducible rfl
    rotate_left
    ·simp only [Act.put, List.setIfInBounds_toArray, List.set_cons_zero, List.set_cons_succ, i64_w, i32_w]
     rfl
    refine pureI_ (i := 10) (N := some 19) (v := ?_) (a' := ?_) (fl 19 2047) rfl rfl (by kernel_rfl) (fun _ _ _ h => h) (Or.inl ⟨by rfl, ?_⟩) ?_ ?_
    rotate_left
    ·intro w'
     go_simp
     with_reducible rfl
    rotate_left
    ·simp only [Act.put, List.setIfInBounds_toArray, List.set_cons_zero, List.set_cons_succ, i64_w, i32_w]
     rfl
    refine takeI_ (i := 11) (N := some 20) (v := ?_) (a' := ?_) (fl 19 4095) rfl rfl (by kernel_rfl) (fun _ _ _ h => h) (Or.inl ⟨by rfl, ?_⟩) hHeld ?_ ?_
    rotate_left
    ·rintro w' ⟨s0, s1⟩
     go_simp
     with_reducible rfl
    rotate_left
    ·simp only [Act.put, List.setIfInBounds_toArray, List.set_cons_zero, List.set_cons_succ, i64_w, i32_w]
     rfl
    refine takeI_ (i := 12) (N := some 21) (v := ?_) (a' := ?_) (fl 19 8191) rfl rfl (by kernel_rfl) (fun _ _ _ h => h) (Or.inl ⟨by rfl, ?_⟩) hHeld ?_ ?_
    rotate_left
    ·rintro w' ⟨s0, s1⟩
     go_simp
     with_reducible rfl
    rotate_left
    ·simp only [Act.put, List.setIfInBounds_toArray, List.set_cons_zero, List.set_cons_succ, i64_w, i32_w]
     rfl
    refine pureI_ (i := 13) (N := some 22) (v := ?_) (a' := ?_) (fl 19 16383) rfl rfl (by kernel_rfl) (fun _ _ _ h => h) (Or.inl ⟨by rfl, ?_⟩) ?_ ?_
    rotate_left
    ·intro w'
     go_simp
     with_reducible rfl
    rotate_left
    ·simp only [Act.put, List.setIfInBounds_toArray, List.set_cons_zero, List.set_cons_succ, i64_w, i32_w]
     rfl
    refine pureI_ (i := 14) (N := some 23) (v := ?_) (a' := ?_) (fl 19 32767) rfl rfl (by kernel_rfl) (fun _ _ _ h => h) (Or.inl ⟨by rfl, ?_⟩) ?_ ?_
    rotate_left
    ·intro w'
     go_simp
     with_reducible rfl
    rotate_left
    ·simp only [Act.put, List.setIfInBounds_toArray, List.set_cons_zero, List.set_cons_succ, i64_w, i32_w]
     rfl
    refine pureI_ (i := 15) (N := some 24) (v := ?_) (a' := ?_) (fl 19 65535) rfl rfl (by kernel_rfl) (fun _ _ _ h => h) (Or.inl ⟨by rfl, ?_⟩) ?_ ?_
    rotate_left
    ·intro w'
     go_simp
     with_reducible rfl
    rotate_left
    ·simp only [Act.put, List.setIfInBounds_toArray, List.set_cons_zero, List.set_cons_succ, i64_w, i32_w]
     rfl
    refine lastI_ (i := 16) (N := some 25) (fl 19 131071) rfl rfl (by kernel_rfl) (by decide) (fun K hK => ?_)
    rw [if_pos (by kernel_rfl)]
    obtain ⟨fn, tmps, assign, body, hy, hR⟩ := hY pre ⟨((k : Int), rootAt h m k), hmem⟩ wr.drew (hJb _ _ _ HJ.out (Below.refl _ _).drew) hlen
    go_simp
    refine hR.mono ?_
    rintro e W3 (⟨rfl, hJ3, hk3⟩ | ⟨rfl, hJx3⟩)
    ·have HJ3 := Lib.hid hJ3
     have D1 := Lib.hid (hk3.1.trans C1.out)
     have D2 := Lib.hid (hk3.2.trans C2.out)
     clear hR hy hJ3 hk3
     refine hK.out _ _ ?_
     clear hK K
     refine pureI_ (i := 17) (N := some 26) (v := ?_) (a' := ?_) (fl 19 262143) rfl rfl (by kernel_rfl) (fun _ _ _ h => h) (Or.inl ⟨by rfl, ?_⟩) ?_ ?_
     rotate_left
     ·intro w'
      go_simp
      with_reducible rfl
     rotate_left
     ·simp only [Act.put, List.setIfInBounds_toArray, List.set_cons_zero, List.set_cons_succ, i64_w, i32_w]
      rfl
     refine pureI_ (i := 18) (N := some 27) (v := ?_) (a' := ?_) (fl 19 524287) rfl rfl (by kernel_rfl) (fun _ _ _ h => h) (Or.inl ⟨by rfl, ?_⟩) ?_ ?_
     rotate_left
     ·intro w'
      go_simp
      with_reducible rfl
     rotate_left
     ·simp only [Act.put, List.setIfInBounds_toArray, List.set_cons_zero, List.set_cons_succ, i64_w, i32_w]
      rfl
     refine doneI_ (by kernel_rfl) ?_
     gi_wp2
     go_roundw
     case rel => exact ⟨k + 1, by omega, by go_num, ⟨_, HM.out, HJ3.out⟩, D1.out, D2.out⟩
     case measure => simp [intOf]; omega
    ·clear hR hy
     refine hK.out _ _ ?_
     clear hK K
     refine pureI_ (i := 17) (N := some 26) (v := ?_) (a' := ?_) (fl 19 262143) rfl rfl (by kernel_rfl) (fun _ _ _ h => h) (Or.inl ⟨by rfl, ?_⟩) ?_ ?_
     rotate_left
     ·intro w'
      go_simp
      with_reducible rfl
     rotate_left
     ·simp only [Act.put, List.setIfInBounds_toArray, List.set_cons_zero, List.set_cons_succ, i64_w, i32_w]
      rfl
     refine pureI_ (i := 18) (N := some 27) (v := ?_) (a' := ?_) (fl 19 524287) rfl rfl (by kernel_rfl) (fun _ _ _ h => h) (Or.inl ⟨by rfl, ?_⟩) ?_ ?_
     rotate_left
     ·intro w'
      go_simp
      with_reducible rfl
     rotate_left
     ·simp only [Act.put, List.setIfInBounds_toArray, List.set_cons_zero, List.set_cons_succ, i64_w, i32_w]
      rfl
     refine doneI_ (by kernel_rfl) ?_
     gi_wp2
     refine bodyPost_ret (results_none rfl _ _ _) rfl ?_
     refine ⟨⟨_, rfl⟩, .inr ⟨_, ?_, hJx3⟩⟩
     rw [HM.out]
     exact pairs_pre h m (k + 1) nn hlt
   ·have HS := Lib.hid (show pairsTo h m (k + 1) = pairsTo h m k by rw [pairsTo, if_neg c])
    have c2 : (Go.bits .and .i64 k h == 0) = false := by simpa using c
    gi_wp2
    refine startI_ (S := fun w' => w'.cell? ⟨Bn, 0, none⟩ = some (.int .i64 nn) ∧ w'.cell? ⟨Bh, 0, none⟩ = some (.int .i64 h)) (ds := []) (fl 19 0) hmx rfl rfl ⟨k1, k2⟩ (fun hHeld => ?_)
    refine pureI_ (i := 0) (N := some 9) (v := ?_) (a' := ?_) (fl 19 1) rfl rfl (by kernel_rfl) (fun _ _ _ h => h) (Or.inl ⟨by rfl, ?_⟩) ?_ ?_
    rotate_left
    ·intro w'
     go_simp
     with_reducible rfl
    rotate_left
    ·simp only [Act.put, List.setIfInBounds_toArray, List.set_cons_zero, List.set_cons_succ, i64_w, i32_w]
     rfl
    refine takeI_ (i := 1) (N := some 10) (v := ?_) (a' := ?_) (fl 19 3) rfl rfl (by kernel_rfl) (fun _ _ _ h => h) (Or.inl ⟨by rfl, ?_⟩) hHeld ?_ ?_
    rotate_left
    ·rintro w' ⟨s0, s1⟩
     go_simp
     with_reducible rfl
    rotate_left
    ·simp only [Act.put, List.setIfInBounds_toArray, List.set_cons_zero, List.set_cons_succ, i64_w, i32_w]
     rfl
    refine pureI_ (i := 2) (N := some 11) (v := ?_) (a' := ?_) (fl 19 7) rfl rfl (by kernel_rfl) (fun _ _ _ h => h) (Or.inl ⟨by rfl, ?_⟩) ?_ ?_
    rotate_left
    ·intro w'
     go_simp
     with_reducible rfl
    rotate_left
    ·simp only [Act.put, List.setIfInBounds_toArray, List.set_cons_zero, List.set_cons_succ, i64_w, i32_w]
     rfl
    refine pureI_ (i := 3) (N := some 12) (v := ?_) (a' := ?_) (fl 19 15) rfl rfl (by kernel_rfl) (fun _ _ _ h => h) (Or.inl ⟨by rfl, ?_⟩) ?_ ?_
    rotate_left
    ·intro w'
     go_simp
     with_reducible rfl
    rotate_left
    ·simp only [Act.put, List.setIfInBounds_toArray, List.set_cons_zero, List.set_cons_succ, i64_w, i32_w]
     rfl
    refine pureI_ (i := 4) (N := some 13) (v := ?_) (a' := ?_) (fl 19 31) rfl rfl (by kernel_rfl) (fun _ _ _ h => h) (Or.inl ⟨by rfl, ?_⟩) ?_ ?_
    rotate_left
    ·intro w'
     go_simp
     with_reducible rfl
    rotate_left
    ·simp only [Act.put, List.setIfInBounds_toArray, List.set_cons_zero, List.set_cons_succ, i64_w, i32_w]
     rfl
    refine pureI_ (i := 5) (N := some 14) (v := undef) (a' := ?_) (fl 19 63) rfl rfl (by kernel_rfl) (fun _ _ _ h => h) (Or.inr ⟨by rfl, rfl⟩) ?_ ?_
    rotate_left
    ·simp only [Act.put, List.setIfInBounds_toArray, List.set_cons_zero, List.set_cons_succ, i64_w, i32_w]
     rfl
    refine pureI_ (i := 6) (N := some 15) (v := undef) (a' := ?_) (fl 19 127) rfl rfl (by kernel_rfl) (fun _ _ _ h => h) (Or.inr ⟨by rfl, rfl⟩) ?_ ?_
    rotate_left
    ·simp only [Act.put, List.setIfInBounds_toArray, List.set_cons_zero, List.set_cons_succ, i64_w, i32_w]
     rfl
    refine pureI_ (i := 7) (N := some 16) (v := undef) (a' := ?_) (fl 19 255) rfl rfl (by kernel_rfl) (fun _ _ _ h => h) (Or.inr ⟨by rfl, rfl⟩) ?_ ?_
    rotate_left
    ·simp only [Act.put, List.setIfInBounds_toArray, List.set_cons_zero, List.set_cons_succ, i64_w, i32_w]
     rfl
    refine pureI_ (i := 8) (N := some 17) (v := undef) (a' := ?_) (fl 19 511) rfl rfl (by kernel_rfl) (fun _ _ _ h => h) (Or.inr ⟨by rfl, rfl⟩) ?_ ?_
    rotate_left
    ·simp only [Act.put, List.setIfInBounds_toArray, List.set_cons_zero, List.set_cons_succ, i64_w, i32_w]
     rfl
    refine pureI_ (i := 9) (N := some 18) (v := undef) (a' := ?_) (fl 19 1023) rfl rfl (by kernel_rfl) (fun _ _ _ h => h) (Or.inr ⟨by rfl, rfl⟩) ?_ ?_
    rotate_left
    ·simp only [Act.put, List.setIfInBounds_toArray, List.set_cons_zero, List.set_cons_succ, i64_w, i32_w]
     rfl
    refine pureI_ (i := 10) (N := some 19) (v := undef) (a' := ?_) (fl 19 2047) rfl rfl (by kernel_rfl) (fun _ _ _ h => h) (Or.inr ⟨by rfl, rfl⟩) ?_ ?_
    rotate_left
    ·simp only [Act.put, List.setIfInBounds_toArray, List.set_cons_zero, List.set_cons_succ, i64_w, i32_w]
     rfl
    refine pureI_ (i := 11) (N := some 20) (v := undef) (a' := ?_) (fl 19 4095) rfl rfl (by kernel_rfl) (fun _ _ _ h => h) (Or.inr ⟨by rfl, rfl⟩) ?_ ?_
    rotate_left
    ·simp only [Act.put, List.setIfInBounds_toArray, List.set_cons_zero, List.set_cons_succ, i64_w, i32_w]
     rfl
    refine pureI_ (i := 12) (N := some 21) (v := undef) (a' := ?_) (fl 19 8191) rfl rfl (by kernel_rfl) (fun _ _ _ h => h) (Or.inr ⟨by rfl, rfl⟩) ?_ ?_
    rotate_left
    ·simp only [Act.put, List.setIfInBounds_toArray, List.set_cons_zero, List.set_cons_succ, i64_w, i32_w]
     rfl
    refine pureI_ (i := 13) (N := some 22) (v := undef) (a' := ?_) (fl 19 16383) rfl rfl (by kernel_rfl) (fun _ _ _ h => h) (Or.inr ⟨by rfl, rfl⟩) ?_ ?_
    rotate_left
    ·simp only [Act.put, List.setIfInBounds_toArray, List.set_cons_zero, List.set_cons_succ, i64_w, i32_w]
     rfl
    refine pureI_ (i := 14) (N := some 23) (v := undef) (a' := ?_) (fl 19 32767) rfl rfl (by kernel_rfl) (fun _ _ _ h => h) (Or.inr ⟨by rfl, rfl⟩) ?_ ?_
    rotate_left
    ·simp only [Act.put, List.setIfInBounds_toArray, List.set_cons_zero, List.set_cons_succ, i64_w, i32_w]
     rfl
    refine pureI_ (i := 15) (N := some 24) (v := undef) (a' := ?_) (fl 19 65535) rfl rfl (by kernel_rfl) (fun _ _ _ h => h) (Or.inr ⟨by rfl, rfl⟩) ?_ ?_
    rotate_left
    ·simp only [Act.put, List.setIfInBounds_toArray, List.set_cons_zero, List.set_cons_succ, i64_w, i32_w]
     rfl
    refine pureI_ (i := 16) (N := some 25) (v := undef) (a' := ?_) (fl 19 131071) rfl rfl (by kernel_rfl) (fun _ _ _ h => h) (Or.inr ⟨by rfl, rfl⟩) ?_ ?_
    rotate_left
    ·simp only [Act.put, List.setIfInBounds_toArray, List.set_cons_zero, List.set_cons_succ, i64_w, i32_w]
     rfl
    refine pureI_ (i := 17) (N := some 26) (v := undef) (a' := ?_) (fl 19 262143) rfl rfl (by kernel_rfl) (fun _ _ _ h => h) (Or.inr ⟨by rfl, rfl⟩) ?_ ?_
    rotate_left
    ·simp only [Act.put, List.setIfInBounds_toArray, List.set_cons_zero, List.set_cons_succ, i64_w, i32_w]
     rfl
    refine pureI_ (i := 18) (N := some 27) (v := ?_) (a' := ?_) (fl 19 524287) rfl rfl (by kernel_rfl) (fun _ _ _ h => h) (Or.inl ⟨by rfl, ?_⟩) ?_ ?_
    rotate_left
    ·intro w'
     go_simp
     with_reducible rfl
    rotate_left
    ·simp only [Act.put, List.setIfInBounds_toArray, List.set_cons_zero, List.set_cons_succ, i64_w, i32_w]
     rfl
    refine doneI_ (by kernel_rfl) ?_
    gi_wp2
    go_roundw
    case rel => exact ⟨k + 1, by omega, by go_num, ⟨pre, by rw [HS.out]; exact HP.out, hJb _ _ _ HJ.out (Below.refl _ _).drew⟩, C1.out, C2.out⟩
    case measure => simp [intOf]; omega
  ·obtain rfl : k = nn := by omega
   gi_wp2
   go_end0
   exact ⟨⟨_, rfl⟩, .inl ⟨pre, HP.out, HJ.out⟩⟩
set_option maxRecDepth 100000 in
set_option maxHeartbeats 4000000 in
theorem pairs_stops (n : Nat) (hn : 1 ≤ n) (Bn Bh : Nat) (nn : Nat) (h m : Int) (hnn : nn ≤ 1000) (hh : 0 < h) (hh2 : h ≤ 1000) (hm : m = nn / (2 * h)) (w : World)
  (hb1 : w.heap[Bn]? = some (.cells #[.int .i64 nn] 3 (0, 0))) (hb2 : w.heap[Bh]? = some (.cells #[.int .i64 h] 3 (0, 0))) :
  SeqStopsK Fence.wide n Tryz.prog 106 #[.pointer (some ⟨Bn, 0, none⟩), .pointer (some ⟨Bh, 0, none⟩)] (fun x : {p : Int × Int // p ∈ pairsTo h m nn} => #[Value.int .i64 x.1.1, Value.int .i64 x.1.2]) (KeepTwo Bn Bh) (fun ys => ys.map Subtype.val = pairsTo h m nn) (fun pre => pre.map Subtype.val <+: pairsTo h m nn) nn w := fun lY J Jx W hW hJ _ hY h0 =>
 pairs1_in n hn lY Bn Bh nn h m hnn hh hh2 hm J Jx (fun pre X Y h hXY => hJ _ _ _ none h (grown_of_below hXY none) (fun r e => by cases e)) hY W (blk_below hb1 hW) (blk_below hb2 hW) h0
set_option maxRecDepth 100000 in
set_option maxHeartbeats 4000000 in
theorem pairs_any (a b : Int) (w : World) :
  Calls Tryz.prog 80 #[.int .i64 a, .int .i64 b] w fun e w' => ∃ g1 g2, e = .returned (.func (.func 106) #[] #[.pointer (some ⟨g1, 0, none⟩), .pointer (some ⟨g2, 0, none⟩)]) ∧ w'.heap[g1]? = some (.cells #[.int .i64 a] 3 (0, 0)) ∧ w'.heap[g2]? = some (.cells #[.int .i64 b] 3 (0, 0)) ∧ w.heap.size ≤ g1 ∧ w.heap.size ≤ g2 ∧ Below w.heap.size w w' := by
 go_enter Tryz.func80, Tryz.ntmps80
 go_wp2_with (first
  | ((with_reducible refine gate_dst (N := 2) rfl ?_); refine box_event ?hg (N := 2) ?hd (cs := #[.int .i64 a]) (t := 3) ?hr ?_; (case hd => rfl); (case hg => rfl); (case hr => first | (go_simp; done) | (go_simp; rfl)); intro g2 hg W2 hbox hbl; have L2 : w.heap.size ≤ g2 := (by rw [hg]; exact Nat.le_refl _); have B2 := Lib.hid hbox; have HB2 := Lib.hid hbl; clear hbox hbl hg)
  | ((with_reducible refine gate_dst (N := 3) rfl ?_); refine box_event ?hg (N := 3) ?hd (cs := #[.int .i64 b]) (t := 3) ?hr ?_; (case hd => rfl); (case hg => rfl); (case hr => first | (go_simp; done) | (go_simp; rfl)); intro g3 hg W3 hbox hbl; have L3 : w.heap.size ≤ g3 := (by rw [hg]; exact below_size HB2.out); have B3 := Lib.hid hbox; have B23 := Lib.hid (blk_below B2.out hbl); have HB3 := Lib.hid (below_step HB2.out hbl); clear hbox hbl hg))
 go_ret
 exact ⟨g2, g3, rfl, B23.out, B3.out, L2, L3, HB3.out⟩
end Go.Proofs.YteieahbadclppaaGreat.P

namespace Go.Proofs.YteieahbadclppaaGreat.P
open Go.RowKit Go.Proofs.YteieahbadclppaaGreatW.PrintWords Go.Proofs.YteieahbadclppaaGreatW.PrintLast Go.Proofs.YteieahbadclppaaGreatW.PrintMore
attribute [local go_sem] max2_int min2_int max_two min_two max_three min_three max_four min_four   -- for this text's walks alone
set_option linter.unusedVariables false
set_option linter.unusedSimpArgs false

def cx_Times.f (a0 : Int) (a1 : Int) (b0 : Int) (b1 : Int) : Option (Int × Int × Int) :=
 if inB 2147483648 ⟨a0, a1⟩ = true then (if inB 1073741824 ⟨b0, b1⟩ = true then some (mulRe ⟨a0, a1⟩ ⟨b0, b1⟩, mulIm ⟨a0, a1⟩ ⟨b0, b1⟩, 0) else none) else none
theorem cx_Times.calls (a0_0 : Int) (a0_1 : Int) (a1_0 : Int) (a1_1 : Int) (r1 : Int) (r2 : Int) (r3 : Int) (w : World) (h : cx_Times.f a0_0 a0_1 a1_0 a1_1 = some (r1, r2, r3)) :
  Calls Tryz.prog 104 #[.agg #[.int .i64 a0_0, .int .i64 a0_1], .agg #[.int .i64 a1_0, .int .i64 a1_1]] w fun e w' => e = .returned (.tuple #[.agg #[.int .i64 r1, .int .i64 r2], .int .i64 r3]) ∧ Below w.heap.size w w' := by
 unfold cx_Times.f at h
 by_cases hm : inB 2147483648 ⟨a0_0, a0_1⟩ = true
 ·rw [if_pos hm] at h
  by_cases hn : inB 1073741824 ⟨a1_0, a1_1⟩ = true
  ·rw [if_pos hn] at h
   simp only [Option.some.injEq, Prod.mk.injEq] at h
   obtain ⟨rfl, rfl, rfl⟩ := h
   exact Times_yes ⟨a0_0, a0_1⟩ ⟨a1_0, a1_1⟩ hm hn w
  ·rw [if_neg hn] at h
   cases h
 ·rw [if_neg hm] at h
  cases h

end Go.Proofs.YteieahbadclppaaGreat.P

namespace Go.Proofs.YteieahbadclppaaGreat.P
open Go.RowKit Go.Proofs.YteieahbadclppaaGreatW.PrintWords Go.Proofs.YteieahbadclppaaGreatW.PrintLast Go.Proofs.YteieahbadclppaaGreatW.PrintMore
attribute [local go_sem] max2_int min2_int max_two min_two max_three min_three max_four min_four   -- for this text's walks alone
set_option linter.unusedVariables false
set_option linter.unusedSimpArgs false

def two_pair.f (a0_0 : Int) (a0_1 : Int) (a1_0 : Int) (a1_1 : Int) (a2_0 : Int) (a2_1 : Int) (a3 : Int) (a4 : Int) (a5 : Int) : Option (Int × Int × Int × Int) := (cx_Times.f a1_0 a1_1 a2_0 a2_1).bind fun bt236 => (if 0 ≤ a3 then ((cx_Shift.f (wrap64 ((shl .i64 a0_0 a3) + bt236.1)) (wrap64 ((shl .i64 a0_1 a3) + bt236.2.1)) (wrap64 (a3 + a4)) a5).bind fun bt240 => ((cx_Shift.f (wrap64 ((shl .i64 a0_0 a3) - bt236.1)) (wrap64 ((shl .i64 a0_1 a3) - bt236.2.1)) (wrap64 (a3 + a4)) a5).bind fun bt244 => (some (bt240.1, bt240.2.1, bt244.1, bt244.2.1)))) else (none))
def two_pair.T2 : Bool × List (List Nat × List Nat) := (true, [([], []), ([0], [0]), ([], []), ([1, 2], [1, 2]), ([], []), ([4], [4]), ([3, 5], [3, 5]), ([], []), ([7], [7]), ([], []), ([8, 9], [8, 9]), ([], []), ([11], [11]), ([10, 12], [10, 12]), ([6, 13], [6, 13]), ([], []), ([], []), ([15, 16], [15, 16]), ([], []), ([14, 17, 18], [14, 17, 18]), ([19], [19]), ([20], [20]), ([20], [20]), ([], []), ([23, 21, 19, 0, 1, 2, 3, 4, 5, 6, 7, 8, 9, 10, 11, 12, 13, 14, 15, 16, 17, 18, 19, 20, 21, 23], [21, 23]), ([22, 24, 0, 1, 2, 3, 4, 5, 6, 7, 8, 9, 10, 11, 12, 13, 14, 15, 16, 17, 18, 19, 20, 21, 22, 23, 24], [22])])
def two_pair.B2 : List Nat := [0, 1, 0, 7, 0, 16, 63, 0, 128, 0, 896, 0, 2048, 8064, 16383, 0, 0, 98304, 0, 524287, 1048575, 2097151, 2097151, 0, 12582911, 33554431]
theorem two_pair.tab2 : rtab .any (opsOf Tryz.f81 2) = two_pair.T2 := by kernel_rfl
theorem two_pair.bits2 : waitsOk two_pair.T2.2 two_pair.B2 = true := by kernel_rfl
def two_pair.T3 : Bool × List (List Nat × List Nat) := (true, [([], []), ([0], [0]), ([], []), ([1, 2], [1, 2]), ([], []), ([4], [4]), ([3, 5], [3, 5]), ([], []), ([7], [7]), ([], []), ([8, 9], [8, 9]), ([], []), ([11], [11]), ([10, 12], [10, 12]), ([6, 13], [6, 13]), ([], []), ([], []), ([15, 16], [15, 16]), ([], []), ([14, 17, 18], [14, 17, 18]), ([19], [19]), ([20], [20]), ([20], [20]), ([], []), ([23, 21, 19, 0, 1, 2, 3, 4, 5, 6, 7, 8, 9, 10, 11, 12, 13, 14, 15, 16, 17, 18, 19, 20, 21, 23], [21, 23]), ([22, 24, 0, 1, 2, 3, 4, 5, 6, 7, 8, 9, 10, 11, 12, 13, 14, 15, 16, 17, 18, 19, 20, 21, 22, 23, 24], [22])])
def two_pair.B3 : List Nat := [0, 1, 0, 7, 0, 16, 63, 0, 128, 0, 896, 0, 2048, 8064, 16383, 0, 0, 98304, 0, 524287, 1048575, 2097151, 2097151, 0, 12582911, 33554431]
theorem two_pair.tab3 : rtab .any (opsOf Tryz.f81 3) = two_pair.T3 := by kernel_rfl
theorem two_pair.bits3 : waitsOk two_pair.T3.2 two_pair.B3 = true := by kernel_rfl
set_option maxHeartbeats 8000000 in
set_option maxRecDepth 100000 in
theorem two_pair.calls (a0_0 : Int) (a0_1 : Int) (a1_0 : Int) (a1_1 : Int) (a2_0 : Int) (a2_1 : Int) (a3 : Int) (a4 : Int) (a5 : Int) (r1 : Int) (r2 : Int) (r3 : Int) (r4 : Int) (w : World) (h : two_pair.f a0_0 a0_1 a1_0 a1_1 a2_0 a2_1 a3 a4 a5 = some (r1, r2, r3, r4)) :
  Calls Tryz.prog 81 #[.agg #[.int .i64 a0_0, .int .i64 a0_1], .agg #[.int .i64 a1_0, .int .i64 a1_1], .agg #[.int .i64 a2_0, .int .i64 a2_1], .int .i64 a3, .int .i64 a4, .int .i64 a5] w fun e w' => e = .returned (.tuple #[.agg #[.int .i64 r1, .int .i64 r2], .agg #[.int .i64 r3, .int .i64 r4]]) ∧ Below w.heap.size w w' := by
 have hu38 := Tryz.underlying38
 have HB := Aside0.mk (Below.refl w.heap.size w)
 have H : ((cx_Times.f a1_0 a1_1 a2_0 a2_1).bind fun bt236 => (if 0 ≤ a3 then ((cx_Shift.f (wrap64 ((shl .i64 a0_0 a3) + bt236.1)) (wrap64 ((shl .i64 a0_1 a3) + bt236.2.1)) (wrap64 (a3 + a4)) a5).bind fun bt240 => ((cx_Shift.f (wrap64 ((shl .i64 a0_0 a3) - bt236.1)) (wrap64 ((shl .i64 a0_1 a3) - bt236.2.1)) (wrap64 (a3 + a4)) a5).bind fun bt244 => (some (bt240.1, bt240.2.1, bt244.1, bt244.2.1)))) else (none))) = some (r1, r2, r3, r4) := h
 clear h
 replace H := Option.bind_eq_some_iff.mp H
 obtain ⟨⟨t236, t237, t238⟩, A70, H⟩ := H
 replace H : (if 0 ≤ a3 then ((cx_Shift.f (wrap64 ((shl .i64 a0_0 a3) + t236)) (wrap64 ((shl .i64 a0_1 a3) + t237)) (wrap64 (a3 + a4)) a5).bind fun bt240 => ((cx_Shift.f (wrap64 ((shl .i64 a0_0 a3) - t236)) (wrap64 ((shl .i64 a0_1 a3) - t237)) (wrap64 (a3 + a4)) a5).bind fun bt244 => (some (bt240.1, bt240.2.1, bt244.1, bt244.2.1)))) else (none)) = some (r1, r2, r3, r4) := H
 have A7 := Aside0.mk A70
 clear A70
 by_cases c8 : 0 ≤ a3
 ·rw [if_pos c8] at H
  have c8b0 := eq_true c8
  have c8b1 : decide (0 ≤ a3) = true := decide_eq_true c8
  clear c8
  obtain ⟨ji9, hji9⟩ : ∃ j_ : Int, (shl .i64 a0_0 a3) = j_ := ⟨_, rfl⟩
  replace H : ((cx_Shift.f (wrap64 ((ji9) + t236)) (wrap64 ((shl .i64 a0_1 a3) + t237)) (wrap64 (a3 + a4)) a5).bind fun bt240 => ((cx_Shift.f (wrap64 ((ji9) - t236)) (wrap64 ((shl .i64 a0_1 a3) - t237)) (wrap64 (a3 + a4)) a5).bind fun bt244 => (some (bt240.1, bt240.2.1, bt244.1, bt244.2.1)))) = some (r1, r2, r3, r4) := by first | (rw [hji9] at H; exact H) | (simp only [hji9] at H ⊢; exact H)
  (try rw [hji9] at A7)
  have hji9_ : (IntKind.i64.wrap (a0_0 * 2 ^ min a3.toNat 64)) = ji9 := hji9
  have hji9z : a3 ≤ 64 → (IntKind.i64.wrap (a0_0 * 2 ^ a3.toNat)) = ji9 := shl_small hji9
  have hji9y : (wrap64 (a0_0 * 2 ^ min a3.toNat 64)) = ji9 := (i64_w _).symm.trans hji9_
  have hji9x : a3 ≤ 64 → (wrap64 (a0_0 * 2 ^ a3.toNat)) = ji9 := fun h_ => (i64_w _).symm.trans (hji9z h_)
  have c10b0 := eq_true (of_decide_eq_true (by first | (with_reducible assumption) | assumption) : 0 ≤ a3)
  obtain ⟨ji11, hji11⟩ : ∃ j_ : Int, (shl .i64 a0_1 a3) = j_ := ⟨_, rfl⟩
  replace H : ((cx_Shift.f (wrap64 ((ji9) + t236)) (wrap64 ((ji11) + t237)) (wrap64 (a3 + a4)) a5).bind fun bt240 => ((cx_Shift.f (wrap64 ((ji9) - t236)) (wrap64 ((ji11) - t237)) (wrap64 (a3 + a4)) a5).bind fun bt244 => (some (bt240.1, bt240.2.1, bt244.1, bt244.2.1)))) = some (r1, r2, r3, r4) := by first | (rw [hji11] at H; exact H) | (simp only [hji11] at H ⊢; exact H)
  (try rw [hji11] at A7)
  have hji11_ : (IntKind.i64.wrap (a0_1 * 2 ^ min a3.toNat 64)) = ji11 := hji11
  have hji11z : a3 ≤ 64 → (IntKind.i64.wrap (a0_1 * 2 ^ a3.toNat)) = ji11 := shl_small hji11
  have hji11y : (wrap64 (a0_1 * 2 ^ min a3.toNat 64)) = ji11 := (i64_w _).symm.trans hji11_
  have hji11x : a3 ≤ 64 → (wrap64 (a0_1 * 2 ^ a3.toNat)) = ji11 := fun h_ => (i64_w _).symm.trans (hji11z h_)
  replace H := Option.bind_eq_some_iff.mp H
  obtain ⟨⟨t240, t241, t242⟩, A120, H⟩ := H
  replace H : ((cx_Shift.f (wrap64 ((ji9) - t236)) (wrap64 ((ji11) - t237)) (wrap64 (a3 + a4)) a5).bind fun bt244 => (some (t240, t241, bt244.1, bt244.2.1))) = some (r1, r2, r3, r4) := H
  have A12 := Aside0.mk A120
  clear A120
  have c13b0 := eq_true (of_decide_eq_true (by first | (with_reducible assumption) | assumption) : 0 ≤ a3)
  have c15b0 := eq_true (of_decide_eq_true (by first | (with_reducible assumption) | assumption) : 0 ≤ a3)
  replace H := Option.bind_eq_some_iff.mp H
  obtain ⟨⟨t244, t245, t246⟩, A170, H⟩ := H
  replace H : (some (t240, t241, t244, t245)) = some (r1, r2, r3, r4) := H
  have A17 := Aside0.mk A170
  clear A170
  simp only [Option.some.injEq, Prod.mk.injEq] at H
  obtain ⟨rfl, rfl, rfl, rfl⟩ := H
  go_enter Tryz.func81, Tryz.ntmps81
  try go_wp2_with (first | ((with_reducible refine gate_dst (N := 6) rfl ?_); refine box_event ?hg (N := 6) ?hd (cs := #[.int .i64 a0_0, .int .i64 a0_1]) (t := 38) ?hr ?_; (case hd => rfl); (case hg => rfl); (case hr => first | (go_simp; done) | (go_simp; rfl)); intro gb231 hg w18 hbox hb; have n0_ := Aside0.mk (below_step (by repeat (first | (with_reducible first | exact HB.out | apply below_alloc | apply pw_below_drewN | apply below_drew1) | exact HB.out)) hb); have n1_ := Aside0.mk (hbox); have n2_ := Aside0.mk ((by rw [hg]; exact (below_size (by repeat (first | (with_reducible first | exact HB.out | apply below_alloc | apply pw_below_drewN | apply below_drew1) | exact HB.out))) : w.heap.size ≤ gb231)); have n3_ := Aside0.mk ((by rw [hg]; exact (below_size (by repeat (first | (with_reducible first | exact HB.out | apply below_alloc | apply pw_below_drewN | apply below_drew1) | exact HB.out))) : w.heap.size ≤ gb231)); clear HB; have HB := n0_; have BK231 := n1_; have GW231 := n2_; have GE231 := n3_; clear n0_ n1_ n2_ n3_; clear hb hbox hg) | ((with_reducible refine gate_dst (N := 7) rfl ?_); refine box_event ?hg (N := 7) ?hd (cs := #[.int .i64 a1_0, .int .i64 a1_1]) (t := 38) ?hr ?_; (case hd => rfl); (case hg => rfl); (case hr => first | (go_simp; done) | (go_simp; rfl)); intro gb232 hg w19 hbox hb; have n0_ := Aside0.mk (blk_below (g := gb231) (o := .cells #[.int .i64 a0_0, .int .i64 a0_1] 38 (0, 0)) (by (with_reducible repeat (first | refine blk_drewN ?_ _ | refine blk_drew ?_ | refine blk_alloc ?_ _)); exact BK231.out) hb); have n1_ := Aside0.mk (below_step (by repeat (first | (with_reducible first | exact HB.out | apply below_alloc | apply pw_below_drewN | apply below_drew1 | refine below_set ?_ GE231.out) | exact HB.out)) hb); have n2_ := Aside0.mk (hbox); have n3_ := Aside0.mk ((by rw [hg]; exact (below_size (by repeat (first | (with_reducible first | exact HB.out | apply below_alloc | apply pw_below_drewN | apply below_drew1 | refine below_set ?_ GE231.out) | exact HB.out))) : w.heap.size ≤ gb232)); have n4_ := Aside0.mk ((by rw [hg]; exact (below_size (by repeat (first | (with_reducible first | exact HB.out | apply below_alloc | apply pw_below_drewN | apply below_drew1 | refine below_set ?_ GE231.out) | exact HB.out))) : w.heap.size ≤ gb232)); have n5_ := Aside0.mk ((by rw [hg]; exact Nat.ne_of_lt (blk_lt (g := gb231) (o := .cells #[.int .i64 a0_0, .int .i64 a0_1] 38 (0, 0)) (by (with_reducible repeat (first | refine blk_drewN ?_ _ | refine blk_drew ?_ | refine blk_alloc ?_ _)); exact BK231.out)) : gb231 ≠ gb232)); have n6_ := Aside0.mk ((by rw [hg]; exact Nat.ne_of_gt (blk_lt (g := gb231) (o := .cells #[.int .i64 a0_0, .int .i64 a0_1] 38 (0, 0)) (by (with_reducible repeat (first | refine blk_drewN ?_ _ | refine blk_drew ?_ | refine blk_alloc ?_ _)); exact BK231.out)) : gb232 ≠ gb231)); clear BK231; clear HB; have BK231 := n0_; have HB := n1_; have BK232 := n2_; have GW232 := n3_; have GE232 := n4_; have NB231_232 := n5_; have NB232_231 := n6_; clear n0_ n1_ n2_ n3_ n4_ n5_ n6_; clear hb hbox hg) | ((with_reducible refine gate_dst (N := 8) rfl ?_); refine box_event ?hg (N := 8) ?hd (cs := #[.int .i64 a2_0, .int .i64 a2_1]) (t := 38) ?hr ?_; (case hd => rfl); (case hg => rfl); (case hr => first | (go_simp; done) | (go_simp; rfl)); intro gb233 hg w20 hbox hb; have n0_ := Aside0.mk (blk_below (g := gb231) (o := .cells #[.int .i64 a0_0, .int .i64 a0_1] 38 (0, 0)) (by (with_reducible repeat (first | refine blk_drewN ?_ _ | refine blk_drew ?_ | refine blk_alloc ?_ _)); exact BK231.out) hb); have n1_ := Aside0.mk (blk_below (g := gb232) (o := .cells #[.int .i64 a1_0, .int .i64 a1_1] 38 (0, 0)) (by (with_reducible repeat (first | refine blk_drewN ?_ _ | refine blk_drew ?_ | refine blk_alloc ?_ _)); exact BK232.out) hb); have n2_ := Aside0.mk (below_step (by repeat (first | (with_reducible first | exact HB.out | apply below_alloc | apply pw_below_drewN | apply below_drew1 | refine below_set ?_ GE231.out | refine below_set ?_ GE232.out) | exact HB.out)) hb); have n3_ := Aside0.mk (hbox); have n4_ := Aside0.mk ((by rw [hg]; exact (below_size (by repeat (first | (with_reducible first | exact HB.out | apply below_alloc | apply pw_below_drewN | apply below_drew1 | refine below_set ?_ GE231.out | refine below_set ?_ GE232.out) | exact HB.out))) : w.heap.size ≤ gb233)); have n5_ := Aside0.mk ((by rw [hg]; exact (below_size (by repeat (first | (with_reducible first | exact HB.out | apply below_alloc | apply pw_below_drewN | apply below_drew1 | refine below_set ?_ GE231.out | refine below_set ?_ GE232.out) | exact HB.out))) : w.heap.size ≤ gb233)); have n6_ := Aside0.mk ((by rw [hg]; exact Nat.ne_of_lt (blk_lt (g := gb231) (o := .cells #[.int .i64 a0_0, .int .i64 a0_1] 38 (0, 0)) (by (with_reducible repeat (first | refine blk_drewN ?_ _ | refine blk_drew ?_ | refine blk_alloc ?_ _)); exact BK231.out)) : gb231 ≠ gb233)); have n7_ := Aside0.mk ((by rw [hg]; exact Nat.ne_of_gt (blk_lt (g := gb231) (o := .cells #[.int .i64 a0_0, .int .i64 a0_1] 38 (0, 0)) (by (with_reducible repeat (first | refine blk_drewN ?_ _ | refine blk_drew ?_ | refine blk_alloc ?_ _)); exact BK231.out)) : gb233 ≠ gb231)); have n8_ := Aside0.mk ((by rw [hg]; exact Nat.ne_of_lt (blk_lt (g := gb232) (o := .cells #[.int .i64 a1_0, .int .i64 a1_1] 38 (0, 0)) (by (with_reducible repeat (first | refine blk_drewN ?_ _ | refine blk_drew ?_ | refine blk_alloc ?_ _)); exact BK232.out)) : gb232 ≠ gb233)); have n9_ := Aside0.mk ((by rw [hg]; exact Nat.ne_of_gt (blk_lt (g := gb232) (o := .cells #[.int .i64 a1_0, .int .i64 a1_1] 38 (0, 0)) (by (with_reducible repeat (first | refine blk_drewN ?_ _ | refine blk_drew ?_ | refine blk_alloc ?_ _)); exact BK232.out)) : gb233 ≠ gb232)); clear BK231; clear BK232; clear HB; have BK231 := n0_; have BK232 := n1_; have HB := n2_; have BK233 := n3_; have GW233 := n4_; have GE233 := n5_; have NB231_233 := n6_; have NB233_231 := n7_; have NB232_233 := n8_; have NB233_232 := n9_; clear n0_ n1_ n2_ n3_ n4_ n5_ n6_ n7_ n8_ n9_; clear hb hbox hg) | ((with_reducible refine gate_dst (N := 12) rfl ?_); refine box_event ?hg (N := 12) ?hd (cs := #[.int .i64 0, .int .i64 0]) (t := 38) ?hr ?_; (case hd => rfl); (case hg => rfl); (case hr => first | (go_simp; done) | (go_simp; rfl)); intro gb234 hg w21 hbox hb; have n0_ := Aside0.mk (blk_below (g := gb231) (o := .cells #[.int .i64 a0_0, .int .i64 a0_1] 38 (0, 0)) (by (with_reducible repeat (first | refine blk_drewN ?_ _ | refine blk_drew ?_ | refine blk_alloc ?_ _)); exact BK231.out) hb); have n1_ := Aside0.mk (blk_below (g := gb232) (o := .cells #[.int .i64 a1_0, .int .i64 a1_1] 38 (0, 0)) (by (with_reducible repeat (first | refine blk_drewN ?_ _ | refine blk_drew ?_ | refine blk_alloc ?_ _)); exact BK232.out) hb); have n2_ := Aside0.mk (blk_below (g := gb233) (o := .cells #[.int .i64 a2_0, .int .i64 a2_1] 38 (0, 0)) (by (with_reducible repeat (first | refine blk_drewN ?_ _ | refine blk_drew ?_ | refine blk_alloc ?_ _)); exact BK233.out) hb); have n3_ := Aside0.mk (below_step (by repeat (first | (with_reducible first | exact HB.out | apply below_alloc | apply pw_below_drewN | apply below_drew1 | refine below_set ?_ GE231.out | refine below_set ?_ GE232.out | refine below_set ?_ GE233.out) | exact HB.out)) hb); have n4_ := Aside0.mk (hbox); have n5_ := Aside0.mk ((by rw [hg]; exact (below_size (by repeat (first | (with_reducible first | exact HB.out | apply below_alloc | apply pw_below_drewN | apply below_drew1 | refine below_set ?_ GE231.out | refine below_set ?_ GE232.out | refine below_set ?_ GE233.out) | exact HB.out))) : w.heap.size ≤ gb234)); have n6_ := Aside0.mk ((by rw [hg]; exact (below_size (by repeat (first | (with_reducible first | exact HB.out | apply below_alloc | apply pw_below_drewN | apply below_drew1 | refine below_set ?_ GE231.out | refine below_set ?_ GE232.out | refine below_set ?_ GE233.out) | exact HB.out))) : w.heap.size ≤ gb234)); have n7_ := Aside0.mk ((by rw [hg]; exact Nat.ne_of_lt (blk_lt (g := gb231) (o := .cells #[.int .i64 a0_0, .int .i64 a0_1] 38 (0, 0)) (by (with_reducible repeat (first | refine blk_drewN ?_ _ | refine blk_drew ?_ | refine blk_alloc ?_ _)); exact BK231.out)) : gb231 ≠ gb234)); have n8_ := Aside0.mk ((by rw [hg]; exact Nat.ne_of_gt (blk_lt (g := gb231) (o := .cells #[.int .i64 a0_0, .int .i64 a0_1] 38 (0, 0)) (by (with_reducible repeat (first | refine blk_drewN ?_ _ | refine blk_drew ?_ | refine blk_alloc ?_ _)); exact BK231.out)) : gb234 ≠ gb231)); have n9_ := Aside0.mk ((by rw [hg]; exact Nat.ne_of_lt (blk_lt (g := gb232) (o := .cells #[.int .i64 a1_0, .int .i64 a1_1] 38 (0, 0)) (by (with_reducible repeat (first | refine blk_drewN ?_ _ | refine blk_drew ?_ | refine blk_alloc ?_ _)); exact BK232.out)) : gb232 ≠ gb234)); have n10_ := Aside0.mk ((by rw [hg]; exact Nat.ne_of_gt (blk_lt (g := gb232) (o := .cells #[.int .i64 a1_0, .int .i64 a1_1] 38 (0, 0)) (by (with_reducible repeat (first | refine blk_drewN ?_ _ | refine blk_drew ?_ | refine blk_alloc ?_ _)); exact BK232.out)) : gb234 ≠ gb232)); have n11_ := Aside0.mk ((by rw [hg]; exact Nat.ne_of_lt (blk_lt (g := gb233) (o := .cells #[.int .i64 a2_0, .int .i64 a2_1] 38 (0, 0)) (by (with_reducible repeat (first | refine blk_drewN ?_ _ | refine blk_drew ?_ | refine blk_alloc ?_ _)); exact BK233.out)) : gb233 ≠ gb234)); have n12_ := Aside0.mk ((by rw [hg]; exact Nat.ne_of_gt (blk_lt (g := gb233) (o := .cells #[.int .i64 a2_0, .int .i64 a2_1] 38 (0, 0)) (by (with_reducible repeat (first | refine blk_drewN ?_ _ | refine blk_drew ?_ | refine blk_alloc ?_ _)); exact BK233.out)) : gb234 ≠ gb233)); clear BK231; clear BK232; clear BK233; clear HB; have BK231 := n0_; have BK232 := n1_; have BK233 := n2_; have HB := n3_; have BK234 := n4_; have GW234 := n5_; have GE234 := n6_; have NB231_234 := n7_; have NB234_231 := n8_; have NB232_234 := n9_; have NB234_232 := n10_; have NB233_234 := n11_; have NB234_233 := n12_; clear n0_ n1_ n2_ n3_ n4_ n5_ n6_ n7_ n8_ n9_ n10_ n11_ n12_; clear hb hbox hg) | ((with_reducible refine gate_dst (N := 13) rfl ?_); refine box_event ?hg (N := 13) ?hd (cs := #[.int .i64 0, .int .i64 0]) (t := 38) ?hr ?_; (case hd => rfl); (case hg => rfl); (case hr => first | (go_simp; done) | (go_simp; rfl)); intro gb235 hg w22 hbox hb; have n0_ := Aside0.mk (blk_below (g := gb231) (o := .cells #[.int .i64 a0_0, .int .i64 a0_1] 38 (0, 0)) (by (with_reducible repeat (first | refine blk_drewN ?_ _ | refine blk_drew ?_ | refine blk_alloc ?_ _)); exact BK231.out) hb); have n1_ := Aside0.mk (blk_below (g := gb232) (o := .cells #[.int .i64 a1_0, .int .i64 a1_1] 38 (0, 0)) (by (with_reducible repeat (first | refine blk_drewN ?_ _ | refine blk_drew ?_ | refine blk_alloc ?_ _)); exact BK232.out) hb); have n2_ := Aside0.mk (blk_below (g := gb233) (o := .cells #[.int .i64 a2_0, .int .i64 a2_1] 38 (0, 0)) (by (with_reducible repeat (first | refine blk_drewN ?_ _ | refine blk_drew ?_ | refine blk_alloc ?_ _)); exact BK233.out) hb); have n3_ := Aside0.mk (blk_below (g := gb234) (o := .cells #[.int .i64 0, .int .i64 0] 38 (0, 0)) (by (with_reducible repeat (first | refine blk_drewN ?_ _ | refine blk_drew ?_ | refine blk_alloc ?_ _)); exact BK234.out) hb); have n4_ := Aside0.mk (below_step (by repeat (first | (with_reducible first | exact HB.out | apply below_alloc | apply pw_below_drewN | apply below_drew1 | refine below_set ?_ GE231.out | refine below_set ?_ GE232.out | refine below_set ?_ GE233.out | refine below_set ?_ GE234.out) | exact HB.out)) hb); have n5_ := Aside0.mk (hbox); have n6_ := Aside0.mk ((by rw [hg]; exact (below_size (by repeat (first | (with_reducible first | exact HB.out | apply below_alloc | apply pw_below_drewN | apply below_drew1 | refine below_set ?_ GE231.out | refine below_set ?_ GE232.out | refine below_set ?_ GE233.out | refine below_set ?_ GE234.out) | exact HB.out))) : w.heap.size ≤ gb235)); have n7_ := Aside0.mk ((by rw [hg]; exact (below_size (by repeat (first | (with_reducible first | exact HB.out | apply below_alloc | apply pw_below_drewN | apply below_drew1 | refine below_set ?_ GE231.out | refine below_set ?_ GE232.out | refine below_set ?_ GE233.out | refine below_set ?_ GE234.out) | exact HB.out))) : w.heap.size ≤ gb235)); have n8_ := Aside0.mk ((by rw [hg]; exact Nat.ne_of_lt (blk_lt (g := gb231) (o := .cells #[.int .i64 a0_0, .int .i64 a0_1] 38 (0, 0)) (by (with_reducible repeat (first | refine blk_drewN ?_ _ | refine blk_drew ?_ | refine blk_alloc ?_ _)); exact BK231.out)) : gb231 ≠ gb235)); have n9_ := Aside0.mk ((by rw [hg]; exact Nat.ne_of_gt (blk_lt (g := gb231) (o := .cells #[.int .i64 a0_0, .int .i64 a0_1] 38 (0, 0)) (by (with_reducible repeat (first | refine blk_drewN ?_ _ | refine blk_drew ?_ | refine blk_alloc ?_ _)); exact BK231.out)) : gb235 ≠ gb231)); have n10_ := Aside0.mk ((by rw [hg]; exact Nat.ne_of_lt (blk_lt (g := gb232) (o := .cells #[.int .i64 a1_0, .int .i64 a1_1] 38 (0, 0)) (by (with_reducible repeat (first | refine blk_drewN ?_ _ | refine blk_drew ?_ | refine blk_alloc ?_ _)); exact BK232.out)) : gb232 ≠ gb235)); have n11_ := Aside0.mk ((by rw [hg]; exact Nat.ne_of_gt (blk_lt (g := gb232) (o := .cells #[.int .i64 a1_0, .int .i64 a1_1] 38 (0, 0)) (by (with_reducible repeat (first | refine blk_drewN ?_ _ | refine blk_drew ?_ | refine blk_alloc ?_ _)); exact BK232.out)) : gb235 ≠ gb232)); have n12_ := Aside0.mk ((by rw [hg]; exact Nat.ne_of_lt (blk_lt (g := gb233) (o := .cells #[.int .i64 a2_0, .int .i64 a2_1] 38 (0, 0)) (by (with_reducible repeat (first | refine blk_drewN ?_ _ | refine blk_drew ?_ | refine blk_alloc ?_ _)); exact BK233.out)) : gb233 ≠ gb235)); have n13_ := Aside0.mk ((by rw [hg]; exact Nat.ne_of_gt (blk_lt (g := gb233) (o := .cells #[.int .i64 a2_0, .int .i64 a2_1] 38 (0, 0)) (by (with_reducible repeat (first | refine blk_drewN ?_ _ | refine blk_drew ?_ | refine blk_alloc ?_ _)); exact BK233.out)) : gb235 ≠ gb233)); have n14_ := Aside0.mk ((by rw [hg]; exact Nat.ne_of_lt (blk_lt (g := gb234) (o := .cells #[.int .i64 0, .int .i64 0] 38 (0, 0)) (by (with_reducible repeat (first | refine blk_drewN ?_ _ | refine blk_drew ?_ | refine blk_alloc ?_ _)); exact BK234.out)) : gb234 ≠ gb235)); have n15_ := Aside0.mk ((by rw [hg]; exact Nat.ne_of_gt (blk_lt (g := gb234) (o := .cells #[.int .i64 0, .int .i64 0] 38 (0, 0)) (by (with_reducible repeat (first | refine blk_drewN ?_ _ | refine blk_drew ?_ | refine blk_alloc ?_ _)); exact BK234.out)) : gb235 ≠ gb234)); clear BK231; clear BK232; clear BK233; clear BK234; clear HB; have BK231 := n0_; have BK232 := n1_; have BK233 := n2_; have BK234 := n3_; have HB := n4_; have BK235 := n5_; have GW235 := n6_; have GE235 := n7_; have NB231_235 := n8_; have NB235_231 := n9_; have NB232_235 := n10_; have NB235_232 := n11_; have NB233_235 := n12_; have NB235_233 := n13_; have NB234_235 := n14_; have NB235_234 := n15_; clear n0_ n1_ n2_ n3_ n4_ n5_ n6_ n7_ n8_ n9_ n10_ n11_ n12_ n13_ n14_ n15_; clear hb hbox hg; have hnb23 := NB232_231.out; have hnc23 := NB231_232.out; have hnb24 := NB232_233.out; have hnc24 := NB233_232.out; have hnb25 := NB232_234.out; have hnc25 := NB234_232.out; have hnb26 := NB232_235.out; have hnc26 := NB235_232.out; have hcz27_0 : w22.cell? ⟨gb232, 0, none⟩ = some (.int .i64 a1_0) := (blk_cell BK232.out 0).trans rfl; have hcz27_1 : w22.cell? ⟨gb232, 1, none⟩ = some (.int .i64 a1_1) := (blk_cell BK232.out 1).trans rfl; have hfz27_0 := blk_frozen BK232.out 0; have hfz27_1 := blk_frozen BK232.out 1; have hnb28 := NB233_231.out; have hnc28 := NB231_233.out; have hnb29 := NB233_234.out; have hnc29 := NB234_233.out; have hnb30 := NB233_235.out; have hnc30 := NB235_233.out; have hcz31_0 : w22.cell? ⟨gb233, 0, none⟩ = some (.int .i64 a2_0) := (blk_cell BK233.out 0).trans rfl; have hcz31_1 : w22.cell? ⟨gb233, 1, none⟩ = some (.int .i64 a2_1) := (blk_cell BK233.out 1).trans rfl; have hfz31_0 := blk_frozen BK233.out 0; have hfz31_1 := blk_frozen BK233.out 1) | ((with_reducible refine gate_callee (f := 104) rfl ?_); refine goesL_ (some 23) rfl rfl Tryz.func104 (by kernel_rfl) rfl #[.agg #[.int .i64 a1_0, .int .i64 a1_1], .agg #[.int .i64 a2_0, .int .i64 a2_1]] rfl (by (try simp only [List.map_toArray, List.map_cons, List.map_nil]); first | done | rfl | (simp only [List.length_drop, List.length_take]; rfl)) ?_; (with_reducible refine (cx_Times.calls a1_0 a1_1 a2_0 a2_1 t236 t237 t238 _ A7.out).mono ?_); rintro e w32 ⟨rfl, hb⟩; refine ⟨_, rfl, ?_⟩; have n0_ := Aside0.mk (blk_below (g := gb231) (o := .cells #[.int .i64 a0_0, .int .i64 a0_1] 38 (0, 0)) (by (with_reducible repeat (first | refine blk_drewN ?_ _ | refine blk_drew ?_ | refine blk_alloc ?_ _)); exact BK231.out) hb); have n1_ := Aside0.mk (blk_below (g := gb232) (o := .cells #[.int .i64 a1_0, .int .i64 a1_1] 38 (0, 0)) (by (with_reducible repeat (first | refine blk_drewN ?_ _ | refine blk_drew ?_ | refine blk_alloc ?_ _)); exact BK232.out) hb); have n2_ := Aside0.mk (blk_below (g := gb233) (o := .cells #[.int .i64 a2_0, .int .i64 a2_1] 38 (0, 0)) (by (with_reducible repeat (first | refine blk_drewN ?_ _ | refine blk_drew ?_ | refine blk_alloc ?_ _)); exact BK233.out) hb); have n3_ := Aside0.mk (blk_below (g := gb234) (o := .cells #[.int .i64 0, .int .i64 0] 38 (0, 0)) (by (with_reducible repeat (first | refine blk_drewN ?_ _ | refine blk_drew ?_ | refine blk_alloc ?_ _)); exact BK234.out) hb); have n4_ := Aside0.mk (blk_below (g := gb235) (o := .cells #[.int .i64 0, .int .i64 0] 38 (0, 0)) (by (with_reducible repeat (first | refine blk_drewN ?_ _ | refine blk_drew ?_ | refine blk_alloc ?_ _)); exact BK235.out) hb); have n5_ := Aside0.mk (below_step (by repeat (first | (with_reducible first | exact HB.out | apply below_alloc | apply pw_below_drewN | apply below_drew1 | refine below_set ?_ GE231.out | refine below_set ?_ GE232.out | refine below_set ?_ GE233.out | refine below_set ?_ GE234.out | refine below_set ?_ GE235.out) | exact HB.out)) hb); clear BK231; clear BK232; clear BK233; clear BK234; clear BK235; clear HB; have BK231 := n0_; have BK232 := n1_; have BK233 := n2_; have BK234 := n3_; have BK235 := n4_; have HB := n5_; clear n0_ n1_ n2_ n3_ n4_ n5_; (try clear hb); (try clear hb2); (try clear hk); (try clear hi)) | ((with_reducible refine gate_dst (N := 14) rfl ?_); refine box_event ?hg (N := 14) ?hd (cs := #[.int .i64 0, .int .i64 0]) (t := 38) ?hr ?_; (case hd => rfl); (case hg => rfl); (case hr => first | (go_simp; done) | (go_simp; rfl)); intro gb239 hg w33 hbox hb; have n0_ := Aside0.mk (blk_below (g := gb231) (o := .cells #[.int .i64 a0_0, .int .i64 a0_1] 38 (0, 0)) (by (with_reducible repeat (first | refine blk_drewN ?_ _ | refine blk_drew ?_ | refine blk_alloc ?_ _)); exact BK231.out) hb); have n1_ := Aside0.mk (blk_below (g := gb232) (o := .cells #[.int .i64 a1_0, .int .i64 a1_1] 38 (0, 0)) (by (with_reducible repeat (first | refine blk_drewN ?_ _ | refine blk_drew ?_ | refine blk_alloc ?_ _)); exact BK232.out) hb); have n2_ := Aside0.mk (blk_below (g := gb233) (o := .cells #[.int .i64 a2_0, .int .i64 a2_1] 38 (0, 0)) (by (with_reducible repeat (first | refine blk_drewN ?_ _ | refine blk_drew ?_ | refine blk_alloc ?_ _)); exact BK233.out) hb); have n3_ := Aside0.mk (blk_below (g := gb234) (o := .cells #[.int .i64 0, .int .i64 0] 38 (0, 0)) (by (with_reducible repeat (first | refine blk_drewN ?_ _ | refine blk_drew ?_ | refine blk_alloc ?_ _)); exact BK234.out) hb); have n4_ := Aside0.mk (blk_below (g := gb235) (o := .cells #[.int .i64 0, .int .i64 0] 38 (0, 0)) (by (with_reducible repeat (first | refine blk_drewN ?_ _ | refine blk_drew ?_ | refine blk_alloc ?_ _)); exact BK235.out) hb); have n5_ := Aside0.mk (below_step (by repeat (first | (with_reducible first | exact HB.out | apply below_alloc | apply pw_below_drewN | apply below_drew1 | refine below_set ?_ GE231.out | refine below_set ?_ GE232.out | refine below_set ?_ GE233.out | refine below_set ?_ GE234.out | refine below_set ?_ GE235.out) | exact HB.out)) hb); have n6_ := Aside0.mk (hbox); have n7_ := Aside0.mk ((by rw [hg]; exact (below_size (by repeat (first | (with_reducible first | exact HB.out | apply below_alloc | apply pw_below_drewN | apply below_drew1 | refine below_set ?_ GE231.out | refine below_set ?_ GE232.out | refine below_set ?_ GE233.out | refine below_set ?_ GE234.out | refine below_set ?_ GE235.out) | exact HB.out))) : w.heap.size ≤ gb239)); have n8_ := Aside0.mk ((by rw [hg]; exact (below_size (by repeat (first | (with_reducible first | exact HB.out | apply below_alloc | apply pw_below_drewN | apply below_drew1 | refine below_set ?_ GE231.out | refine below_set ?_ GE232.out | refine below_set ?_ GE233.out | refine below_set ?_ GE234.out | refine below_set ?_ GE235.out) | exact HB.out))) : w.heap.size ≤ gb239)); have n9_ := Aside0.mk ((by rw [hg]; exact Nat.ne_of_lt (blk_lt (g := gb231) (o := .cells #[.int .i64 a0_0, .int .i64 a0_1] 38 (0, 0)) (by (with_reducible repeat (first | refine blk_drewN ?_ _ | refine blk_drew ?_ | refine blk_alloc ?_ _)); exact BK231.out)) : gb231 ≠ gb239)); have n10_ := Aside0.mk ((by rw [hg]; exact Nat.ne_of_gt (blk_lt (g := gb231) (o := .cells #[.int .i64 a0_0, .int .i64 a0_1] 38 (0, 0)) (by (with_reducible repeat (first | refine blk_drewN ?_ _ | refine blk_drew ?_ | refine blk_alloc ?_ _)); exact BK231.out)) : gb239 ≠ gb231)); have n11_ := Aside0.mk ((by rw [hg]; exact Nat.ne_of_lt (blk_lt (g := gb232) (o := .cells #[.int .i64 a1_0, .int .i64 a1_1] 38 (0, 0)) (by (with_reducible repeat (first | refine blk_drewN ?_ _ | refine blk_drew ?_ | refine blk_alloc ?_ _)); exact BK232.out)) : gb232 ≠ gb239)); have n12_ := Aside0.mk ((by rw [hg]; exact Nat.ne_of_gt (blk_lt (g := gb232) (o := .cells #[.int .i64 a1_0, .int .i64 a1_1] 38 (0, 0)) (by (with_reducible repeat (first | refine blk_drewN ?_ _ | refine blk_drew ?_ | refine blk_alloc ?_ _)); exact BK232.out)) : gb239 ≠ gb232)); have n13_ := Aside0.mk ((by rw [hg]; exact Nat.ne_of_lt (blk_lt (g := gb233) (o := .cells #[.int .i64 a2_0, .int .i64 a2_1] 38 (0, 0)) (by (with_reducible repeat (first | refine blk_drewN ?_ _ | refine blk_drew ?_ | refine blk_alloc ?_ _)); exact BK233.out)) : gb233 ≠ gb239)); have n14_ := Aside0.mk ((by rw [hg]; exact Nat.ne_of_gt (blk_lt (g := gb233) (o := .cells #[.int .i64 a2_0, .int .i64 a2_1] 38 (0, 0)) (by (with_reducible repeat (first | refine blk_drewN ?_ _ | refine blk_drew ?_ | refine blk_alloc ?_ _)); exact BK233.out)) : gb239 ≠ gb233)); have n15_ := Aside0.mk ((by rw [hg]; exact Nat.ne_of_lt (blk_lt (g := gb234) (o := .cells #[.int .i64 0, .int .i64 0] 38 (0, 0)) (by (with_reducible repeat (first | refine blk_drewN ?_ _ | refine blk_drew ?_ | refine blk_alloc ?_ _)); exact BK234.out)) : gb234 ≠ gb239)); have n16_ := Aside0.mk ((by rw [hg]; exact Nat.ne_of_gt (blk_lt (g := gb234) (o := .cells #[.int .i64 0, .int .i64 0] 38 (0, 0)) (by (with_reducible repeat (first | refine blk_drewN ?_ _ | refine blk_drew ?_ | refine blk_alloc ?_ _)); exact BK234.out)) : gb239 ≠ gb234)); have n17_ := Aside0.mk ((by rw [hg]; exact Nat.ne_of_lt (blk_lt (g := gb235) (o := .cells #[.int .i64 0, .int .i64 0] 38 (0, 0)) (by (with_reducible repeat (first | refine blk_drewN ?_ _ | refine blk_drew ?_ | refine blk_alloc ?_ _)); exact BK235.out)) : gb235 ≠ gb239)); have n18_ := Aside0.mk ((by rw [hg]; exact Nat.ne_of_gt (blk_lt (g := gb235) (o := .cells #[.int .i64 0, .int .i64 0] 38 (0, 0)) (by (with_reducible repeat (first | refine blk_drewN ?_ _ | refine blk_drew ?_ | refine blk_alloc ?_ _)); exact BK235.out)) : gb239 ≠ gb235)); clear BK231; clear BK232; clear BK233; clear BK234; clear BK235; clear HB; have BK231 := n0_; have BK232 := n1_; have BK233 := n2_; have BK234 := n3_; have BK235 := n4_; have HB := n5_; have BK239 := n6_; have GW239 := n7_; have GE239 := n8_; have NB231_239 := n9_; have NB239_231 := n10_; have NB232_239 := n11_; have NB239_232 := n12_; have NB233_239 := n13_; have NB239_233 := n14_; have NB234_239 := n15_; have NB239_234 := n16_; have NB235_239 := n17_; have NB239_235 := n18_; clear n0_ n1_ n2_ n3_ n4_ n5_ n6_ n7_ n8_ n9_ n10_ n11_ n12_ n13_ n14_ n15_ n16_ n17_ n18_; clear hb hbox hg; have hnb34 := NB239_231.out; have hnc34 := NB231_239.out; have hnb35 := NB239_232.out; have hnc35 := NB232_239.out; have hnb36 := NB239_233.out; have hnc36 := NB233_239.out; have hnb37 := NB239_234.out; have hnc37 := NB234_239.out; have hnb38 := NB239_235.out; have hnc38 := NB235_239.out; have hcz39_0 : w33.cell? ⟨gb239, 0, none⟩ = some (.int .i64 0) := (blk_cell BK239.out 0).trans rfl; have hcz39_1 : w33.cell? ⟨gb239, 1, none⟩ = some (.int .i64 0) := (blk_cell BK239.out 1).trans rfl; have hfz39_0 := blk_frozen BK239.out 0; have hfz39_1 := blk_frozen BK239.out 1))
  have n0_ : Aside0 (((w33.setCell ⟨gb239, 0, none⟩ (.int .i64 t236)).setCell ⟨gb239, 1, none⟩ (.int .i64 t237)).heap[gb231]? = some (.cells #[.int .i64 a0_0, .int .i64 a0_1] 38 (0, 0))) := ⟨by (with_reducible repeat (first | refine blk_drewN ?_ _ | refine blk_drew ?_ | refine blk_alloc ?_ _)); refine blk_far ?_ NB231_239.out _; (with_reducible repeat (first | refine blk_drewN ?_ _ | refine blk_drew ?_ | refine blk_alloc ?_ _)); refine blk_far ?_ NB231_239.out _; (with_reducible repeat (first | refine blk_drewN ?_ _ | refine blk_drew ?_ | refine blk_alloc ?_ _)); exact BK231.out⟩
  have n1_ : Aside0 (((w33.setCell ⟨gb239, 0, none⟩ (.int .i64 t236)).setCell ⟨gb239, 1, none⟩ (.int .i64 t237)).heap[gb232]? = some (.cells #[.int .i64 a1_0, .int .i64 a1_1] 38 (0, 0))) := ⟨by (with_reducible repeat (first | refine blk_drewN ?_ _ | refine blk_drew ?_ | refine blk_alloc ?_ _)); refine blk_far ?_ NB232_239.out _; (with_reducible repeat (first | refine blk_drewN ?_ _ | refine blk_drew ?_ | refine blk_alloc ?_ _)); refine blk_far ?_ NB232_239.out _; (with_reducible repeat (first | refine blk_drewN ?_ _ | refine blk_drew ?_ | refine blk_alloc ?_ _)); exact BK232.out⟩
  have n2_ : Aside0 (((w33.setCell ⟨gb239, 0, none⟩ (.int .i64 t236)).setCell ⟨gb239, 1, none⟩ (.int .i64 t237)).heap[gb233]? = some (.cells #[.int .i64 a2_0, .int .i64 a2_1] 38 (0, 0))) := ⟨by (with_reducible repeat (first | refine blk_drewN ?_ _ | refine blk_drew ?_ | refine blk_alloc ?_ _)); refine blk_far ?_ NB233_239.out _; (with_reducible repeat (first | refine blk_drewN ?_ _ | refine blk_drew ?_ | refine blk_alloc ?_ _)); refine blk_far ?_ NB233_239.out _; (with_reducible repeat (first | refine blk_drewN ?_ _ | refine blk_drew ?_ | refine blk_alloc ?_ _)); exact BK233.out⟩
  have n3_ : Aside0 (((w33.setCell ⟨gb239, 0, none⟩ (.int .i64 t236)).setCell ⟨gb239, 1, none⟩ (.int .i64 t237)).heap[gb234]? = some (.cells #[.int .i64 0, .int .i64 0] 38 (0, 0))) := ⟨by (with_reducible repeat (first | refine blk_drewN ?_ _ | refine blk_drew ?_ | refine blk_alloc ?_ _)); refine blk_far ?_ NB234_239.out _; (with_reducible repeat (first | refine blk_drewN ?_ _ | refine blk_drew ?_ | refine blk_alloc ?_ _)); refine blk_far ?_ NB234_239.out _; (with_reducible repeat (first | refine blk_drewN ?_ _ | refine blk_drew ?_ | refine blk_alloc ?_ _)); exact BK234.out⟩
  have n4_ : Aside0 (((w33.setCell ⟨gb239, 0, none⟩ (.int .i64 t236)).setCell ⟨gb239, 1, none⟩ (.int .i64 t237)).heap[gb235]? = some (.cells #[.int .i64 0, .int .i64 0] 38 (0, 0))) := ⟨by (with_reducible repeat (first | refine blk_drewN ?_ _ | refine blk_drew ?_ | refine blk_alloc ?_ _)); refine blk_far ?_ NB235_239.out _; (with_reducible repeat (first | refine blk_drewN ?_ _ | refine blk_drew ?_ | refine blk_alloc ?_ _)); refine blk_far ?_ NB235_239.out _; (with_reducible repeat (first | refine blk_drewN ?_ _ | refine blk_drew ?_ | refine blk_alloc ?_ _)); exact BK235.out⟩
  have n5_ : Aside0 (((w33.setCell ⟨gb239, 0, none⟩ (.int .i64 t236)).setCell ⟨gb239, 1, none⟩ (.int .i64 t237)).heap[gb239]? = some (.cells #[.int .i64 t236, .int .i64 t237] 38 (0, 0))) := ⟨by (with_reducible repeat (first | refine blk_drewN ?_ _ | refine blk_drew ?_ | refine blk_alloc ?_ _)); refine blk_put (cs := #[.int .i64 t236, .int .i64 0]) ?_ 1 _ rfl; (with_reducible repeat (first | refine blk_drewN ?_ _ | refine blk_drew ?_ | refine blk_alloc ?_ _)); refine blk_put (cs := #[.int .i64 0, .int .i64 0]) ?_ 0 _ rfl; (with_reducible repeat (first | refine blk_drewN ?_ _ | refine blk_drew ?_ | refine blk_alloc ?_ _)); exact BK239.out⟩
  have n6_ : Aside0 (Below w.heap.size w ((w33.setCell ⟨gb239, 0, none⟩ (.int .i64 t236)).setCell ⟨gb239, 1, none⟩ (.int .i64 t237))) := ⟨by repeat (first | (with_reducible first | exact HB.out | apply below_alloc | apply pw_below_drewN | apply below_drew1 | refine below_set ?_ GE231.out | refine below_set ?_ GE232.out | refine below_set ?_ GE233.out | refine below_set ?_ GE234.out | refine below_set ?_ GE235.out | refine below_set ?_ GE239.out) | exact HB.out)⟩
  (try clear BK231)
  (try clear BK232)
  (try clear BK233)
  (try clear BK234)
  (try clear BK235)
  (try clear BK239)
  (try clear HB)
  generalize ((w33.setCell ⟨gb239, 0, none⟩ (.int .i64 t236)).setCell ⟨gb239, 1, none⟩ (.int .i64 t237)) = w40 at n0_ n1_ n2_ n3_ n4_ n5_ n6_ ⊢
  have BK231 := n0_
  have BK232 := n1_
  have BK233 := n2_
  have BK234 := n3_
  have BK235 := n4_
  have BK239 := n5_
  have HB := n6_
  clear n0_ n1_ n2_ n3_ n4_ n5_ n6_
  have n0_ := Aside0.mk (blk_drew BK231.out)
  have n1_ := Aside0.mk (blk_drew BK232.out)
  have n2_ := Aside0.mk (blk_drew BK233.out)
  have n3_ := Aside0.mk (blk_drew BK234.out)
  have n4_ := Aside0.mk (blk_drew BK235.out)
  have n5_ := Aside0.mk (blk_drew BK239.out)
  have n6_ := Aside0.mk (below_drew1 HB.out)
  clear BK231
  clear BK232
  clear BK233
  clear BK234
  clear BK235
  clear BK239
  clear HB
  have BK231 := n0_
  have BK232 := n1_
  have BK233 := n2_
  have BK234 := n3_
  have BK235 := n4_
  have BK239 := n5_
  have HB := n6_
  clear n0_ n1_ n2_ n3_ n4_ n5_ n6_
  refine start_ (n := 26) (S := fun w' => w'.cell? ⟨gb231, 0, none⟩ = some (.int .i64 a0_0) ∧ w'.cell? ⟨gb231, 1, none⟩ = some (.int .i64 a0_1) ∧ w'.cell? ⟨gb239, 0, none⟩ = some (.int .i64 t236) ∧ w'.cell? ⟨gb239, 1, none⟩ = some (.int .i64 t237)) (ds := []) (fl 26 0) (by kernel_rfl) rfl rfl ⟨(blk_cell BK231.out 0).trans rfl, (blk_cell BK231.out 1).trans rfl, (blk_cell BK239.out 0).trans rfl, (blk_cell BK239.out 1).trans rfl⟩ (fun hHeld => ?_); refine with_tabW two_pair.tab2 two_pair.bits2 (fun HT_ HW_ => ?_)
  generalize w40.drew = w41 at BK231 BK232 BK233 BK234 BK235 BK239 HB hHeld ⊢
  refine pure_ (i := 0) (N := some 27) (v := ?_) (a' := ?_) (fl 26 1) rfl rfl (any_of HT_.out (by kernel_rfl)) (fun _ _ _ h => h) (Or.inl ⟨by rfl, ?_⟩) ?_ ?_
  rotate_left
  ·intro w'
   go_simp
   with_reducible rfl
  rotate_left
  ·simp only [Act.put, List.setIfInBounds_toArray, List.set_cons_zero, List.set_cons_succ, i64_w, i32_w]
   rfl
  refine pure_ (i := 2) (N := some 29) (v := ?_) (a' := ?_) (fl 26 5) rfl rfl (any_of HT_.out (by kernel_rfl)) (fun _ _ _ h => h) (Or.inl ⟨by rfl, ?_⟩) ?_ ?_
  rotate_left
  ·intro w'
   go_simp
   with_reducible rfl
  rotate_left
  ·simp only [Act.put, List.setIfInBounds_toArray, List.set_cons_zero, List.set_cons_succ, i64_w, i32_w]
   rfl
  refine pure_ (i := 4) (N := some 31) (v := ?_) (a' := ?_) (fl 26 21) rfl rfl (any_of HT_.out (by kernel_rfl)) (fun _ _ _ h => h) (Or.inl ⟨by rfl, ?_⟩) ?_ ?_
  rotate_left
  ·intro w'
   go_simp
   with_reducible rfl
  rotate_left
  ·simp only [Act.put, List.setIfInBounds_toArray, List.set_cons_zero, List.set_cons_succ, i64_w, i32_w]
   rfl
  refine pure_ (i := 7) (N := some 34) (v := ?_) (a' := ?_) (fl 26 149) rfl rfl (any_of HT_.out (by kernel_rfl)) (fun _ _ _ h => h) (Or.inl ⟨by rfl, ?_⟩) ?_ ?_
  rotate_left
  ·intro w'
   go_simp
   with_reducible rfl
  rotate_left
  ·simp only [Act.put, List.setIfInBounds_toArray, List.set_cons_zero, List.set_cons_succ, i64_w, i32_w]
   rfl
  refine pure_ (i := 9) (N := some 36) (v := ?_) (a' := ?_) (fl 26 661) rfl rfl (any_of HT_.out (by kernel_rfl)) (fun _ _ _ h => h) (Or.inl ⟨by rfl, ?_⟩) ?_ ?_
  rotate_left
  ·intro w'
   go_simp
   with_reducible rfl
  rotate_left
  ·simp only [Act.put, List.setIfInBounds_toArray, List.set_cons_zero, List.set_cons_succ, i64_w, i32_w]
   rfl
  refine pure_ (i := 11) (N := some 38) (v := ?_) (a' := ?_) (fl 26 2709) rfl rfl (any_of HT_.out (by kernel_rfl)) (fun _ _ _ h => h) (Or.inl ⟨by rfl, ?_⟩) ?_ ?_
  rotate_left
  ·intro w'
   go_simp
   with_reducible rfl
  rotate_left
  ·simp only [Act.put, List.setIfInBounds_toArray, List.set_cons_zero, List.set_cons_succ, i64_w, i32_w]
   rfl
  refine pure_ (i := 15) (N := some 42) (v := ?_) (a' := ?_) (fl 26 35477) rfl rfl (any_of HT_.out (by kernel_rfl)) (fun _ _ _ h => h) (Or.inl ⟨by rfl, ?_⟩) ?_ ?_
  rotate_left
  ·intro w'
   go_simp
   with_reducible rfl
  rotate_left
  ·simp only [Act.put, List.setIfInBounds_toArray, List.set_cons_zero, List.set_cons_succ, i64_w, i32_w]
   rfl
  refine pure_ (i := 16) (N := some 43) (v := ?_) (a' := ?_) (fl 26 101013) rfl rfl (any_of HT_.out (by kernel_rfl)) (fun _ _ _ h => h) (Or.inl ⟨by rfl, ?_⟩) ?_ ?_
  rotate_left
  ·intro w'
   go_simp
   with_reducible rfl
  rotate_left
  ·simp only [Act.put, List.setIfInBounds_toArray, List.set_cons_zero, List.set_cons_succ, i64_w, i32_w]
   rfl
  refine pure_ (i := 17) (N := some 44) (v := ?_) (a' := ?_) (fl 26 232085) rfl rfl (any_of HT_.out (by kernel_rfl)) (fun _ _ _ h => h) (Or.inl ⟨by rfl, ?_⟩) ?_ ?_
  rotate_left
  ·intro w'
   go_simp
   with_reducible rfl
  rotate_left
  ·simp only [Act.put, List.setIfInBounds_toArray, List.set_cons_zero, List.set_cons_succ, i64_w, i32_w]
   rfl
  refine pure_ (i := 18) (N := some 45) (v := ?_) (a' := ?_) (fl 26 494229) rfl rfl (any_of HT_.out (by kernel_rfl)) (fun _ _ _ h => h) (Or.inl ⟨by rfl, ?_⟩) ?_ ?_
  rotate_left
  ·intro w'
   go_simp
   with_reducible rfl
  rotate_left
  ·simp only [Act.put, List.setIfInBounds_toArray, List.set_cons_zero, List.set_cons_succ, i64_w, i32_w]
   rfl
  refine take_ (i := 1) (N := some 28) (v := ?_) (a' := ?_) (fl 26 494231) rfl rfl (take_ofW HT_.out HW_.out (by kernel_rfl)) (fun _ _ _ h => h) (Or.inl ⟨by rfl, ?_⟩) hHeld ?_ ?_
  rotate_left
  ·rintro w' ⟨s0, s1, s2, s3⟩
   go_simp
   with_reducible rfl
  rotate_left
  ·simp only [Act.put, List.setIfInBounds_toArray, List.set_cons_zero, List.set_cons_succ, i64_w, i32_w]
   rfl
  refine pure_ (i := 3) (N := some 30) (v := ?_) (a' := ?_) (fl 26 494239) rfl rfl (any_of HT_.out (by kernel_rfl)) (fun _ _ _ h => h) (Or.inl ⟨by rfl, ?_⟩) ?_ ?_
  rotate_left
  ·intro w'
   go_simp
   with_reducible rfl
  rotate_left
  ·simp only [Act.put, List.setIfInBounds_toArray, List.set_cons_zero, List.set_cons_succ, i64_w, i32_w]
   rfl
  refine take_ (i := 5) (N := some 32) (v := ?_) (a' := ?_) (fl 26 494271) rfl rfl (take_ofW HT_.out HW_.out (by kernel_rfl)) (fun _ _ _ h => h) (Or.inl ⟨by rfl, ?_⟩) hHeld ?_ ?_
  rotate_left
  ·rintro w' ⟨s0, s1, s2, s3⟩
   go_simp
   with_reducible rfl
  rotate_left
  ·simp only [Act.put, List.setIfInBounds_toArray, List.set_cons_zero, List.set_cons_succ, i64_w, i32_w]
   rfl
  refine pure_ (i := 6) (N := some 33) (v := ?_) (a' := ?_) (fl 26 494335) rfl rfl (any_of HT_.out (by kernel_rfl)) (fun _ _ _ h => h) (Or.inl ⟨by rfl, ?_⟩) ?_ ?_
  rotate_left
  ·intro w'
   go_simp
   with_reducible rfl
  rotate_left
  ·simp only [Act.put, List.setIfInBounds_toArray, List.set_cons_zero, List.set_cons_succ, i64_w, i32_w]
   rfl
  refine take_ (i := 8) (N := some 35) (v := ?_) (a' := ?_) (fl 26 494591) rfl rfl (take_ofW HT_.out HW_.out (by kernel_rfl)) (fun _ _ _ h => h) (Or.inl ⟨by rfl, ?_⟩) hHeld ?_ ?_
  rotate_left
  ·rintro w' ⟨s0, s1, s2, s3⟩
   go_simp
   with_reducible rfl
  rotate_left
  ·simp only [Act.put, List.setIfInBounds_toArray, List.set_cons_zero, List.set_cons_succ, i64_w, i32_w]
   rfl
  refine pure_ (i := 10) (N := some 37) (v := ?_) (a' := ?_) (fl 26 495615) rfl rfl (any_of HT_.out (by kernel_rfl)) (fun _ _ _ h => h) (Or.inl ⟨by rfl, ?_⟩) ?_ ?_
  rotate_left
  ·intro w'
   go_simp
   with_reducible rfl
  rotate_left
  ·simp only [Act.put, List.setIfInBounds_toArray, List.set_cons_zero, List.set_cons_succ, i64_w, i32_w]
   rfl
  refine take_ (i := 12) (N := some 39) (v := ?_) (a' := ?_) (fl 26 499711) rfl rfl (take_ofW HT_.out HW_.out (by kernel_rfl)) (fun _ _ _ h => h) (Or.inl ⟨by rfl, ?_⟩) hHeld ?_ ?_
  rotate_left
  ·rintro w' ⟨s0, s1, s2, s3⟩
   go_simp
   with_reducible rfl
  rotate_left
  ·simp only [Act.put, List.setIfInBounds_toArray, List.set_cons_zero, List.set_cons_succ, i64_w, i32_w]
   rfl
  refine pure_ (i := 13) (N := some 40) (v := ?_) (a' := ?_) (fl 26 507903) rfl rfl (any_of HT_.out (by kernel_rfl)) (fun _ _ _ h => h) (Or.inl ⟨by rfl, ?_⟩) ?_ ?_
  rotate_left
  ·intro w'
   go_simp
   with_reducible rfl
  rotate_left
  ·simp only [Act.put, List.setIfInBounds_toArray, List.set_cons_zero, List.set_cons_succ, i64_w, i32_w]
   rfl
  refine pure_ (i := 14) (N := some 41) (v := ?_) (a' := ?_) (fl 26 524287) rfl rfl (any_of HT_.out (by kernel_rfl)) (fun _ _ _ h => h) (Or.inl ⟨by rfl, ?_⟩) ?_ ?_
  rotate_left
  ·intro w'
   go_simp
   with_reducible rfl
  rotate_left
  ·simp only [Act.put, List.setIfInBounds_toArray, List.set_cons_zero, List.set_cons_succ, i64_w, i32_w]
   rfl
  refine join_ (σ := Nat) 2 (fl 26 16777215) (fun s_ => [(46, .tuple #[.agg #[.int .i64 t240, .int .i64 t241], .int .i64 t242]), (16, .pointer (some ⟨s_, 0, none⟩)), (26, .tuple #[.agg #[.int .i64 t240, .int .i64 t241], .int .i64 t242]), (47, .agg #[.int .i64 t240, .int .i64 t241]), (48, .int .i64 t242)]) (fun s_ w' => (w'.cell? ⟨gb231, 0, none⟩ = some (.int .i64 a0_0) ∧ w'.cell? ⟨gb231, 1, none⟩ = some (.int .i64 a0_1) ∧ w'.cell? ⟨gb239, 0, none⟩ = some (.int .i64 t236) ∧ w'.cell? ⟨gb239, 1, none⟩ = some (.int .i64 t237)) ∧ (w'.heap[gb231]? = some (.cells #[.int .i64 a0_0, .int .i64 a0_1] 38 (0, 0))) ∧ (w'.heap[gb232]? = some (.cells #[.int .i64 a1_0, .int .i64 a1_1] 38 (0, 0))) ∧ (w'.heap[gb233]? = some (.cells #[.int .i64 a2_0, .int .i64 a2_1] 38 (0, 0))) ∧ (w'.heap[gb234]? = some (.cells #[.int .i64 0, .int .i64 0] 38 (0, 0))) ∧ (w'.heap[gb235]? = some (.cells #[.int .i64 0, .int .i64 0] 38 (0, 0))) ∧ (w'.heap[gb239]? = some (.cells #[.int .i64 t236, .int .i64 t237] 38 (0, 0))) ∧ (w'.heap[s_]? = some (.cells #[.int .i64 0, .int .i64 0] 38 (0, 0))) ∧ (w.heap.size ≤ s_) ∧ (w.heap.size ≤ s_) ∧ (gb231 ≠ s_) ∧ (s_ ≠ gb231) ∧ (gb232 ≠ s_) ∧ (s_ ≠ gb232) ∧ (gb233 ≠ s_) ∧ (s_ ≠ gb233) ∧ (gb234 ≠ s_) ∧ (s_ ≠ gb234) ∧ (gb235 ≠ s_) ∧ (s_ ≠ gb235) ∧ (gb239 ≠ s_) ∧ (s_ ≠ gb239) ∧ (Below w.heap.size w w')) ?_ ?_
  rotate_left
  ·intro hCont
   refine two_ (i := 19) (j := 23) (Ni := some 46) (Nj := some 16) (fl 26 1048575) (fl 26 8912895) rfl rfl rfl rfl (two_of HT_.out (by kernel_rfl)) (by decide) (by decide) (fun K hK => ?_) (fun K hK => ?_)
   ·skip
    refine goes_ Tryz.func70 (by kernel_rfl) rfl #[.agg #[.int .i64 (wrap64 ((ji9) + t236)), .int .i64 (wrap64 ((ji11) + t237))], .int .i64 (wrap64 (a3 + a4)), .int .i64 a5] (by rfl) rfl rfl (by (try simp only [List.map_toArray, List.map_cons, List.map_nil]); first | done | (simp only [hji11, hji9]; rfl) | rfl | (simp only [List.length_drop, List.length_take]; rfl)) ?_
    with_reducible refine (cx_Shift.calls (wrap64 ((ji9) + t236)) (wrap64 ((ji11) + t237)) (wrap64 (a3 + a4)) a5 t240 t241 t242 _ A12.out).mono ?_
    rintro e w42 ⟨rfl, hb⟩
    refine ⟨_, rfl, ?_⟩
    have n0_ := Aside0.mk (blk_below (g := gb231) (o := .cells #[.int .i64 a0_0, .int .i64 a0_1] 38 (0, 0)) (by (with_reducible repeat (first | refine blk_drewN ?_ _ | refine blk_drew ?_ | refine blk_alloc ?_ _)); exact BK231.out) hb)
    have n1_ := Aside0.mk (blk_below (g := gb232) (o := .cells #[.int .i64 a1_0, .int .i64 a1_1] 38 (0, 0)) (by (with_reducible repeat (first | refine blk_drewN ?_ _ | refine blk_drew ?_ | refine blk_alloc ?_ _)); exact BK232.out) hb)
    have n2_ := Aside0.mk (blk_below (g := gb233) (o := .cells #[.int .i64 a2_0, .int .i64 a2_1] 38 (0, 0)) (by (with_reducible repeat (first | refine blk_drewN ?_ _ | refine blk_drew ?_ | refine blk_alloc ?_ _)); exact BK233.out) hb)
    have n3_ := Aside0.mk (blk_below (g := gb234) (o := .cells #[.int .i64 0, .int .i64 0] 38 (0, 0)) (by (with_reducible repeat (first | refine blk_drewN ?_ _ | refine blk_drew ?_ | refine blk_alloc ?_ _)); exact BK234.out) hb)
    have n4_ := Aside0.mk (blk_below (g := gb235) (o := .cells #[.int .i64 0, .int .i64 0] 38 (0, 0)) (by (with_reducible repeat (first | refine blk_drewN ?_ _ | refine blk_drew ?_ | refine blk_alloc ?_ _)); exact BK235.out) hb)
    have n5_ := Aside0.mk (blk_below (g := gb239) (o := .cells #[.int .i64 t236, .int .i64 t237] 38 (0, 0)) (by (with_reducible repeat (first | refine blk_drewN ?_ _ | refine blk_drew ?_ | refine blk_alloc ?_ _)); exact BK239.out) hb)
    have n6_ := Aside0.mk (below_step (by repeat (first | (with_reducible first | exact HB.out | apply below_alloc | apply pw_below_drewN | apply below_drew1 | refine below_set ?_ GE231.out | refine below_set ?_ GE232.out | refine below_set ?_ GE233.out | refine below_set ?_ GE234.out | refine below_set ?_ GE235.out | refine below_set ?_ GE239.out) | exact HB.out)) hb)
    clear BK231
    clear BK232
    clear BK233
    clear BK234
    clear BK235
    clear BK239
    clear HB
    have BK231 := n0_
    have BK232 := n1_
    have BK233 := n2_
    have BK234 := n3_
    have BK235 := n4_
    have BK239 := n5_
    have HB := n6_
    clear n0_ n1_ n2_ n3_ n4_ n5_ n6_
    (try clear hb)
    (try clear hb2)
    (try clear hk)
    (try clear hi)
    refine hK.out _ _ ⟨(blk_cell BK231.out 0).trans rfl, (blk_cell BK231.out 1).trans rfl, (blk_cell BK239.out 0).trans rfl, (blk_cell BK239.out 1).trans rfl⟩ (fun hHeld => ?_)
    clear hK K
    refine norm_ (a' := ?_) ?_ ?_
    rotate_left
    ·show Act.put _ (some 46) _ = _
     simp only [Act.put, List.setIfInBounds_toArray, List.set_cons_zero, List.set_cons_succ, i64_w, i32_w]
     rfl
    refine pure_ (i := 20) (N := some 26) (v := ?_) (a' := ?_) (fl 26 2097151) rfl rfl (any_of HT_.out (by kernel_rfl)) (fun _ _ _ h => h) (Or.inl ⟨by rfl, ?_⟩) ?_ ?_
    rotate_left
    ·intro w'
     go_simp
     with_reducible rfl
    rotate_left
    ·simp only [Act.put, List.setIfInBounds_toArray, List.set_cons_zero, List.set_cons_succ, i64_w, i32_w]
     rfl
    refine pure_ (i := 21) (N := some 47) (v := ?_) (a' := ?_) (fl 26 4194303) rfl rfl (any_of HT_.out (by kernel_rfl)) (fun _ _ _ h => h) (Or.inl ⟨by rfl, ?_⟩) ?_ ?_
    rotate_left
    ·intro w'
     go_simp
     with_reducible rfl
    rotate_left
    ·simp only [Act.put, List.setIfInBounds_toArray, List.set_cons_zero, List.set_cons_succ, i64_w, i32_w]
     rfl
    refine pure_ (i := 22) (N := some 48) (v := ?_) (a' := ?_) (fl 26 8388607) rfl rfl (any_of HT_.out (by kernel_rfl)) (fun _ _ _ h => h) (Or.inl ⟨by rfl, ?_⟩) ?_ ?_
    rotate_left
    ·intro w'
     go_simp
     with_reducible rfl
    rotate_left
    ·simp only [Act.put, List.setIfInBounds_toArray, List.set_cons_zero, List.set_cons_succ, i64_w, i32_w]
     rfl
    refine one_ (i := 23) (N := some 16) (fl 26 16777215) rfl rfl (one_of HT_.out (by kernel_rfl)) (by decide) (fun K hK => ?_)
    refine box_step ?hg (N := 16) ?hd (cs := #[.int .i64 0, .int .i64 0]) (t := 38) ?hr ?_; (case hd => rfl); (case hg => rfl); (case hr => first | (go_simp; done) | (go_simp; rfl))
    intro gb243 hg w43 hbox hb
    have n0_ := Aside0.mk (blk_below (g := gb231) (o := .cells #[.int .i64 a0_0, .int .i64 a0_1] 38 (0, 0)) (by (with_reducible repeat (first | refine blk_drewN ?_ _ | refine blk_drew ?_ | refine blk_alloc ?_ _)); exact BK231.out) hb)
    have n1_ := Aside0.mk (blk_below (g := gb232) (o := .cells #[.int .i64 a1_0, .int .i64 a1_1] 38 (0, 0)) (by (with_reducible repeat (first | refine blk_drewN ?_ _ | refine blk_drew ?_ | refine blk_alloc ?_ _)); exact BK232.out) hb)
    have n2_ := Aside0.mk (blk_below (g := gb233) (o := .cells #[.int .i64 a2_0, .int .i64 a2_1] 38 (0, 0)) (by (with_reducible repeat (first | refine blk_drewN ?_ _ | refine blk_drew ?_ | refine blk_alloc ?_ _)); exact BK233.out) hb)
    have n3_ := Aside0.mk (blk_below (g := gb234) (o := .cells #[.int .i64 0, .int .i64 0] 38 (0, 0)) (by (with_reducible repeat (first | refine blk_drewN ?_ _ | refine blk_drew ?_ | refine blk_alloc ?_ _)); exact BK234.out) hb)
    have n4_ := Aside0.mk (blk_below (g := gb235) (o := .cells #[.int .i64 0, .int .i64 0] 38 (0, 0)) (by (with_reducible repeat (first | refine blk_drewN ?_ _ | refine blk_drew ?_ | refine blk_alloc ?_ _)); exact BK235.out) hb)
    have n5_ := Aside0.mk (blk_below (g := gb239) (o := .cells #[.int .i64 t236, .int .i64 t237] 38 (0, 0)) (by (with_reducible repeat (first | refine blk_drewN ?_ _ | refine blk_drew ?_ | refine blk_alloc ?_ _)); exact BK239.out) hb)
    have n6_ := Aside0.mk (below_step (by repeat (first | (with_reducible first | exact HB.out | apply below_alloc | apply pw_below_drewN | apply below_drew1 | refine below_set ?_ GE231.out | refine below_set ?_ GE232.out | refine below_set ?_ GE233.out | refine below_set ?_ GE234.out | refine below_set ?_ GE235.out | refine below_set ?_ GE239.out) | exact HB.out)) hb)
    have n7_ := Aside0.mk (hbox)
    have n8_ := Aside0.mk ((by rw [hg]; exact (below_size (by repeat (first | (with_reducible first | exact HB.out | apply below_alloc | apply pw_below_drewN | apply below_drew1 | refine below_set ?_ GE231.out | refine below_set ?_ GE232.out | refine below_set ?_ GE233.out | refine below_set ?_ GE234.out | refine below_set ?_ GE235.out | refine below_set ?_ GE239.out) | exact HB.out))) : w.heap.size ≤ gb243))
    have n9_ := Aside0.mk ((by rw [hg]; exact (below_size (by repeat (first | (with_reducible first | exact HB.out | apply below_alloc | apply pw_below_drewN | apply below_drew1 | refine below_set ?_ GE231.out | refine below_set ?_ GE232.out | refine below_set ?_ GE233.out | refine below_set ?_ GE234.out | refine below_set ?_ GE235.out | refine below_set ?_ GE239.out) | exact HB.out))) : w.heap.size ≤ gb243))
    have n10_ := Aside0.mk ((by rw [hg]; exact Nat.ne_of_lt (blk_lt (g := gb231) (o := .cells #[.int .i64 a0_0, .int .i64 a0_1] 38 (0, 0)) (by (with_reducible repeat (first | refine blk_drewN ?_ _ | refine blk_drew ?_ | refine blk_alloc ?_ _)); exact BK231.out)) : gb231 ≠ gb243))
    have n11_ := Aside0.mk ((by rw [hg]; exact Nat.ne_of_gt (blk_lt (g := gb231) (o := .cells #[.int .i64 a0_0, .int .i64 a0_1] 38 (0, 0)) (by (with_reducible repeat (first | refine blk_drewN ?_ _ | refine blk_drew ?_ | refine blk_alloc ?_ _)); exact BK231.out)) : gb243 ≠ gb231))
    have n12_ := Aside0.mk ((by rw [hg]; exact Nat.ne_of_lt (blk_lt (g := gb232) (o := .cells #[.int .i64 a1_0, .int .i64 a1_1] 38 (0, 0)) (by (with_reducible repeat (first | refine blk_drewN ?_ _ | refine blk_drew ?_ | refine blk_alloc ?_ _)); exact BK232.out)) : gb232 ≠ gb243))
    have n13_ := Aside0.mk ((by rw [hg]; exact Nat.ne_of_gt (blk_lt (g := gb232) (o := .cells #[.int .i64 a1_0, .int .i64 a1_1] 38 (0, 0)) (by (with_reducible repeat (first | refine blk_drewN ?_ _ | refine blk_drew ?_ | refine blk_alloc ?_ _)); exact BK232.out)) : gb243 ≠ gb232))
    have n14_ := Aside0.mk ((by rw [hg]; exact Nat.ne_of_lt (blk_lt (g := gb233) (o := .cells #[.int .i64 a2_0, .int .i64 a2_1] 38 (0, 0)) (by (with_reducible repeat (first | refine blk_drewN ?_ _ | refine blk_drew ?_ | refine blk_alloc ?_ _)); exact BK233.out)) : gb233 ≠ gb243))
    have n15_ := Aside0.mk ((by rw [hg]; exact Nat.ne_of_gt (blk_lt (g := gb233) (o := .cells #[.int .i64 a2_0, .int .i64 a2_1] 38 (0, 0)) (by (with_reducible repeat (first | refine blk_drewN ?_ _ | refine blk_drew ?_ | refine blk_alloc ?_ _)); exact BK233.out)) : gb243 ≠ gb233))
    have n16_ := Aside0.mk ((by rw [hg]; exact Nat.ne_of_lt (blk_lt (g := gb234) (o := .cells #[.int .i64 0, .int .i64 0] 38 (0, 0)) (by (with_reducible repeat (first | refine blk_drewN ?_ _ | refine blk_drew ?_ | refine blk_alloc ?_ _)); exact BK234.out)) : gb234 ≠ gb243))
    have n17_ := Aside0.mk ((by rw [hg]; exact Nat.ne_of_gt (blk_lt (g := gb234) (o := .cells #[.int .i64 0, .int .i64 0] 38 (0, 0)) (by (with_reducible repeat (first | refine blk_drewN ?_ _ | refine blk_drew ?_ | refine blk_alloc ?_ _)); exact BK234.out)) : gb243 ≠ gb234))
    have n18_ := Aside0.mk ((by rw [hg]; exact Nat.ne_of_lt (blk_lt (g := gb235) (o := .cells #[.int .i64 0, .int .i64 0] 38 (0, 0)) (by (with_reducible repeat (first | refine blk_drewN ?_ _ | refine blk_drew ?_ | refine blk_alloc ?_ _)); exact BK235.out)) : gb235 ≠ gb243))
    have n19_ := Aside0.mk ((by rw [hg]; exact Nat.ne_of_gt (blk_lt (g := gb235) (o := .cells #[.int .i64 0, .int .i64 0] 38 (0, 0)) (by (with_reducible repeat (first | refine blk_drewN ?_ _ | refine blk_drew ?_ | refine blk_alloc ?_ _)); exact BK235.out)) : gb243 ≠ gb235))
    have n20_ := Aside0.mk ((by rw [hg]; exact Nat.ne_of_lt (blk_lt (g := gb239) (o := .cells #[.int .i64 t236, .int .i64 t237] 38 (0, 0)) (by (with_reducible repeat (first | refine blk_drewN ?_ _ | refine blk_drew ?_ | refine blk_alloc ?_ _)); exact BK239.out)) : gb239 ≠ gb243))
    have n21_ := Aside0.mk ((by rw [hg]; exact Nat.ne_of_gt (blk_lt (g := gb239) (o := .cells #[.int .i64 t236, .int .i64 t237] 38 (0, 0)) (by (with_reducible repeat (first | refine blk_drewN ?_ _ | refine blk_drew ?_ | refine blk_alloc ?_ _)); exact BK239.out)) : gb243 ≠ gb239))
    clear BK231
    clear BK232
    clear BK233
    clear BK234
    clear BK235
    clear BK239
    clear HB
    have BK231 := n0_
    have BK232 := n1_
    have BK233 := n2_
    have BK234 := n3_
    have BK235 := n4_
    have BK239 := n5_
    have HB := n6_
    have BK243 := n7_
    have GW243 := n8_
    have GE243 := n9_
    have NB231_243 := n10_
    have NB243_231 := n11_
    have NB232_243 := n12_
    have NB243_232 := n13_
    have NB233_243 := n14_
    have NB243_233 := n15_
    have NB234_243 := n16_
    have NB243_234 := n17_
    have NB235_243 := n18_
    have NB243_235 := n19_
    have NB239_243 := n20_
    have NB243_239 := n21_
    clear n0_ n1_ n2_ n3_ n4_ n5_ n6_ n7_ n8_ n9_ n10_ n11_ n12_ n13_ n14_ n15_ n16_ n17_ n18_ n19_ n20_ n21_
    clear hb hbox hg
    refine hK.out _ _ ⟨(blk_cell BK231.out 0).trans rfl, (blk_cell BK231.out 1).trans rfl, (blk_cell BK239.out 0).trans rfl, (blk_cell BK239.out 1).trans rfl⟩ (fun hHeld => ?_)
    clear hK K
    refine norm_ (a' := ?_) ?_ ?_
    rotate_left
    ·show Act.put _ (some 16) _ = _
     simp only [Act.put, List.setIfInBounds_toArray, List.set_cons_zero, List.set_cons_succ, i64_w, i32_w]
     rfl
    exact norm_ (by simp only [putAll, Act.put, List.setIfInBounds_toArray, List.set_cons_zero, List.set_cons_succ]) (hCont (gb243) _ ⟨hHeld, (by (with_reducible repeat (first | refine blk_drewN ?_ _ | refine blk_drew ?_ | refine blk_alloc ?_ _)); exact BK231.out), (by (with_reducible repeat (first | refine blk_drewN ?_ _ | refine blk_drew ?_ | refine blk_alloc ?_ _)); exact BK232.out), (by (with_reducible repeat (first | refine blk_drewN ?_ _ | refine blk_drew ?_ | refine blk_alloc ?_ _)); exact BK233.out), (by (with_reducible repeat (first | refine blk_drewN ?_ _ | refine blk_drew ?_ | refine blk_alloc ?_ _)); exact BK234.out), (by (with_reducible repeat (first | refine blk_drewN ?_ _ | refine blk_drew ?_ | refine blk_alloc ?_ _)); exact BK235.out), (by (with_reducible repeat (first | refine blk_drewN ?_ _ | refine blk_drew ?_ | refine blk_alloc ?_ _)); exact BK239.out), (by (with_reducible repeat (first | refine blk_drewN ?_ _ | refine blk_drew ?_ | refine blk_alloc ?_ _)); exact BK243.out), GW243.out, GE243.out, NB231_243.out, NB243_231.out, NB232_243.out, NB243_232.out, NB233_243.out, NB243_233.out, NB234_243.out, NB243_234.out, NB235_243.out, NB243_235.out, NB239_243.out, NB243_239.out, (by repeat (first | (with_reducible first | exact HB.out | apply below_alloc | apply pw_below_drewN | apply below_drew1 | refine below_set ?_ GE231.out | refine below_set ?_ GE232.out | refine below_set ?_ GE233.out | refine below_set ?_ GE234.out | refine below_set ?_ GE235.out | refine below_set ?_ GE239.out | refine below_set ?_ GE243.out) | exact HB.out))⟩)
   ·skip
    refine box_step ?hg (N := 16) ?hd (cs := #[.int .i64 0, .int .i64 0]) (t := 38) ?hr ?_; (case hd => rfl); (case hg => rfl); (case hr => first | (go_simp; done) | (go_simp; rfl))
    intro gb243 hg w42 hbox hb
    have n0_ := Aside0.mk (blk_below (g := gb231) (o := .cells #[.int .i64 a0_0, .int .i64 a0_1] 38 (0, 0)) (by (with_reducible repeat (first | refine blk_drewN ?_ _ | refine blk_drew ?_ | refine blk_alloc ?_ _)); exact BK231.out) hb)
    have n1_ := Aside0.mk (blk_below (g := gb232) (o := .cells #[.int .i64 a1_0, .int .i64 a1_1] 38 (0, 0)) (by (with_reducible repeat (first | refine blk_drewN ?_ _ | refine blk_drew ?_ | refine blk_alloc ?_ _)); exact BK232.out) hb)
    have n2_ := Aside0.mk (blk_below (g := gb233) (o := .cells #[.int .i64 a2_0, .int .i64 a2_1] 38 (0, 0)) (by (with_reducible repeat (first | refine blk_drewN ?_ _ | refine blk_drew ?_ | refine blk_alloc ?_ _)); exact BK233.out) hb)
    have n3_ := Aside0.mk (blk_below (g := gb234) (o := .cells #[.int .i64 0, .int .i64 0] 38 (0, 0)) (by (with_reducible repeat (first | refine blk_drewN ?_ _ | refine blk_drew ?_ | refine blk_alloc ?_ _)); exact BK234.out) hb)
    have n4_ := Aside0.mk (blk_below (g := gb235) (o := .cells #[.int .i64 0, .int .i64 0] 38 (0, 0)) (by (with_reducible repeat (first | refine blk_drewN ?_ _ | refine blk_drew ?_ | refine blk_alloc ?_ _)); exact BK235.out) hb)
    have n5_ := Aside0.mk (blk_below (g := gb239) (o := .cells #[.int .i64 t236, .int .i64 t237] 38 (0, 0)) (by (with_reducible repeat (first | refine blk_drewN ?_ _ | refine blk_drew ?_ | refine blk_alloc ?_ _)); exact BK239.out) hb)
    have n6_ := Aside0.mk (below_step (by repeat (first | (with_reducible first | exact HB.out | apply below_alloc | apply pw_below_drewN | apply below_drew1 | refine below_set ?_ GE231.out | refine below_set ?_ GE232.out | refine below_set ?_ GE233.out | refine below_set ?_ GE234.out | refine below_set ?_ GE235.out | refine below_set ?_ GE239.out) | exact HB.out)) hb)
    have n7_ := Aside0.mk (hbox)
    have n8_ := Aside0.mk ((by rw [hg]; exact (below_size (by repeat (first | (with_reducible first | exact HB.out | apply below_alloc | apply pw_below_drewN | apply below_drew1 | refine below_set ?_ GE231.out | refine below_set ?_ GE232.out | refine below_set ?_ GE233.out | refine below_set ?_ GE234.out | refine below_set ?_ GE235.out | refine below_set ?_ GE239.out) | exact HB.out))) : w.heap.size ≤ gb243))
    have n9_ := Aside0.mk ((by rw [hg]; exact (below_size (by repeat (first | (with_reducible first | exact HB.out | apply below_alloc | apply pw_below_drewN | apply below_drew1 | refine below_set ?_ GE231.out | refine below_set ?_ GE232.out | refine below_set ?_ GE233.out | refine below_set ?_ GE234.out | refine below_set ?_ GE235.out | refine below_set ?_ GE239.out) | exact HB.out))) : w.heap.size ≤ gb243))
    have n10_ := Aside0.mk ((by rw [hg]; exact Nat.ne_of_lt (blk_lt (g := gb231) (o := .cells #[.int .i64 a0_0, .int .i64 a0_1] 38 (0, 0)) (by (with_reducible repeat (first | refine blk_drewN ?_ _ | refine blk_drew ?_ | refine blk_alloc ?_ _)); exact BK231.out)) : gb231 ≠ gb243))
    have n11_ := Aside0.mk ((by rw [hg]; exact Nat.ne_of_gt (blk_lt (g := gb231) (o := .cells #[.int .i64 a0_0, .int .i64 a0_1] 38 (0, 0)) (by (with_reducible repeat (first | refine blk_drewN ?_ _ | refine blk_drew ?_ | refine blk_alloc ?_ _)); exact BK231.out)) : gb243 ≠ gb231))
    have n12_ := Aside0.mk ((by rw [hg]; exact Nat.ne_of_lt (blk_lt (g := gb232) (o := .cells #[.int .i64 a1_0, .int .i64 a1_1] 38 (0, 0)) (by (with_reducible repeat (first | refine blk_drewN ?_ _ | refine blk_drew ?_ | refine blk_alloc ?_ _)); exact BK232.out)) : gb232 ≠ gb243))
    have n13_ := Aside0.mk ((by rw [hg]; exact Nat.ne_of_gt (blk_lt (g := gb232) (o := .cells #[.int .i64 a1_0, .int .i64 a1_1] 38 (0, 0)) (by (with_reducible repeat (first | refine blk_drewN ?_ _ | refine blk_drew ?_ | refine blk_alloc ?_ _)); exact BK232.out)) : gb243 ≠ gb232))
    have n14_ := Aside0.mk ((by rw [hg]; exact Nat.ne_of_lt (blk_lt (g := gb233) (o := .cells #[.int .i64 a2_0, .int .i64 a2_1] 38 (0, 0)) (by (with_reducible repeat (first | refine blk_drewN ?_ _ | refine blk_drew ?_ | refine blk_alloc ?_ _)); exact BK233.out)) : gb233 ≠ gb243))
    have n15_ := Aside0.mk ((by rw [hg]; exact Nat.ne_of_gt (blk_lt (g := gb233) (o := .cells #[.int .i64 a2_0, .int .i64 a2_1] 38 (0, 0)) (by (with_reducible repeat (first | refine blk_drewN ?_ _ | refine blk_drew ?_ | refine blk_alloc ?_ _)); exact BK233.out)) : gb243 ≠ gb233))
    have n16_ := Aside0.mk ((by rw [hg]; exact Nat.ne_of_lt (blk_lt (g := gb234) (o := .cells #[.int .i64 0, .int .i64 0] 38 (0, 0)) (by (with_reducible repeat (first | refine blk_drewN ?_ _ | refine blk_drew ?_ | refine blk_alloc ?_ _)); exact BK234.out)) : gb234 ≠ gb243))
    have n17_ := Aside0.mk ((by rw [hg]; exact Nat.ne_of_gt (blk_lt (g := gb234) (o := .cells #[.int .i64 0, .int .i64 0] 38 (0, 0)) (by (with_reducible repeat (first | refine blk_drewN ?_ _ | refine blk_drew ?_ | refine blk_alloc ?_ _)); exact BK234.out)) : gb243 ≠ gb234))
    have n18_ := Aside0.mk ((by rw [hg]; exact Nat.ne_of_lt (blk_lt (g := gb235) (o := .cells #[.int .i64 0, .int .i64 0] 38 (0, 0)) (by (with_reducible repeat (first | refine blk_drewN ?_ _ | refine blk_drew ?_ | refine blk_alloc ?_ _)); exact BK235.out)) : gb235 ≠ gb243))
    have n19_ := Aside0.mk ((by rw [hg]; exact Nat.ne_of_gt (blk_lt (g := gb235) (o := .cells #[.int .i64 0, .int .i64 0] 38 (0, 0)) (by (with_reducible repeat (first | refine blk_drewN ?_ _ | refine blk_drew ?_ | refine blk_alloc ?_ _)); exact BK235.out)) : gb243 ≠ gb235))
    have n20_ := Aside0.mk ((by rw [hg]; exact Nat.ne_of_lt (blk_lt (g := gb239) (o := .cells #[.int .i64 t236, .int .i64 t237] 38 (0, 0)) (by (with_reducible repeat (first | refine blk_drewN ?_ _ | refine blk_drew ?_ | refine blk_alloc ?_ _)); exact BK239.out)) : gb239 ≠ gb243))
    have n21_ := Aside0.mk ((by rw [hg]; exact Nat.ne_of_gt (blk_lt (g := gb239) (o := .cells #[.int .i64 t236, .int .i64 t237] 38 (0, 0)) (by (with_reducible repeat (first | refine blk_drewN ?_ _ | refine blk_drew ?_ | refine blk_alloc ?_ _)); exact BK239.out)) : gb243 ≠ gb239))
    clear BK231
    clear BK232
    clear BK233
    clear BK234
    clear BK235
    clear BK239
    clear HB
    have BK231 := n0_
    have BK232 := n1_
    have BK233 := n2_
    have BK234 := n3_
    have BK235 := n4_
    have BK239 := n5_
    have HB := n6_
    have BK243 := n7_
    have GW243 := n8_
    have GE243 := n9_
    have NB231_243 := n10_
    have NB243_231 := n11_
    have NB232_243 := n12_
    have NB243_232 := n13_
    have NB233_243 := n14_
    have NB243_233 := n15_
    have NB234_243 := n16_
    have NB243_234 := n17_
    have NB235_243 := n18_
    have NB243_235 := n19_
    have NB239_243 := n20_
    have NB243_239 := n21_
    clear n0_ n1_ n2_ n3_ n4_ n5_ n6_ n7_ n8_ n9_ n10_ n11_ n12_ n13_ n14_ n15_ n16_ n17_ n18_ n19_ n20_ n21_
    clear hb hbox hg
    refine hK.out _ _ ⟨(blk_cell BK231.out 0).trans rfl, (blk_cell BK231.out 1).trans rfl, (blk_cell BK239.out 0).trans rfl, (blk_cell BK239.out 1).trans rfl⟩ (fun hHeld => ?_)
    clear hK K
    refine norm_ (a' := ?_) ?_ ?_
    rotate_left
    ·show Act.put _ (some 16) _ = _
     simp only [Act.put, List.setIfInBounds_toArray, List.set_cons_zero, List.set_cons_succ, i64_w, i32_w]
     rfl
    refine one_ (i := 19) (N := some 46) (fl 26 9437183) rfl rfl (one_of HT_.out (by kernel_rfl)) (by decide) (fun K hK => ?_)
    refine goes_ Tryz.func70 (by kernel_rfl) rfl #[.agg #[.int .i64 (wrap64 ((ji9) + t236)), .int .i64 (wrap64 ((ji11) + t237))], .int .i64 (wrap64 (a3 + a4)), .int .i64 a5] (by rfl) rfl rfl (by (try simp only [List.map_toArray, List.map_cons, List.map_nil]); first | done | (simp only [hji11, hji9]; rfl) | rfl | (simp only [List.length_drop, List.length_take]; rfl)) ?_
    with_reducible refine (cx_Shift.calls (wrap64 ((ji9) + t236)) (wrap64 ((ji11) + t237)) (wrap64 (a3 + a4)) a5 t240 t241 t242 _ A12.out).mono ?_
    rintro e w43 ⟨rfl, hb⟩
    refine ⟨_, rfl, ?_⟩
    have n0_ := Aside0.mk (blk_below (g := gb231) (o := .cells #[.int .i64 a0_0, .int .i64 a0_1] 38 (0, 0)) (by (with_reducible repeat (first | refine blk_drewN ?_ _ | refine blk_drew ?_ | refine blk_alloc ?_ _)); exact BK231.out) hb)
    have n1_ := Aside0.mk (blk_below (g := gb232) (o := .cells #[.int .i64 a1_0, .int .i64 a1_1] 38 (0, 0)) (by (with_reducible repeat (first | refine blk_drewN ?_ _ | refine blk_drew ?_ | refine blk_alloc ?_ _)); exact BK232.out) hb)
    have n2_ := Aside0.mk (blk_below (g := gb233) (o := .cells #[.int .i64 a2_0, .int .i64 a2_1] 38 (0, 0)) (by (with_reducible repeat (first | refine blk_drewN ?_ _ | refine blk_drew ?_ | refine blk_alloc ?_ _)); exact BK233.out) hb)
    have n3_ := Aside0.mk (blk_below (g := gb234) (o := .cells #[.int .i64 0, .int .i64 0] 38 (0, 0)) (by (with_reducible repeat (first | refine blk_drewN ?_ _ | refine blk_drew ?_ | refine blk_alloc ?_ _)); exact BK234.out) hb)
    have n4_ := Aside0.mk (blk_below (g := gb235) (o := .cells #[.int .i64 0, .int .i64 0] 38 (0, 0)) (by (with_reducible repeat (first | refine blk_drewN ?_ _ | refine blk_drew ?_ | refine blk_alloc ?_ _)); exact BK235.out) hb)
    have n5_ := Aside0.mk (blk_below (g := gb239) (o := .cells #[.int .i64 t236, .int .i64 t237] 38 (0, 0)) (by (with_reducible repeat (first | refine blk_drewN ?_ _ | refine blk_drew ?_ | refine blk_alloc ?_ _)); exact BK239.out) hb)
    have n6_ := Aside0.mk (blk_below (g := gb243) (o := .cells #[.int .i64 0, .int .i64 0] 38 (0, 0)) (by (with_reducible repeat (first | refine blk_drewN ?_ _ | refine blk_drew ?_ | refine blk_alloc ?_ _)); exact BK243.out) hb)
    have n7_ := Aside0.mk (below_step (by repeat (first | (with_reducible first | exact HB.out | apply below_alloc | apply pw_below_drewN | apply below_drew1 | refine below_set ?_ GE231.out | refine below_set ?_ GE232.out | refine below_set ?_ GE233.out | refine below_set ?_ GE234.out | refine below_set ?_ GE235.out | refine below_set ?_ GE239.out | refine below_set ?_ GE243.out) | exact HB.out)) hb)
    clear BK231
    clear BK232
    clear BK233
    clear BK234
    clear BK235
    clear BK239
    clear BK243
    clear HB
    have BK231 := n0_
    have BK232 := n1_
    have BK233 := n2_
    have BK234 := n3_
    have BK235 := n4_
    have BK239 := n5_
    have BK243 := n6_
    have HB := n7_
    clear n0_ n1_ n2_ n3_ n4_ n5_ n6_ n7_
    (try clear hb)
    (try clear hb2)
    (try clear hk)
    (try clear hi)
    refine hK.out _ _ ⟨(blk_cell BK231.out 0).trans rfl, (blk_cell BK231.out 1).trans rfl, (blk_cell BK239.out 0).trans rfl, (blk_cell BK239.out 1).trans rfl⟩ (fun hHeld => ?_)
    clear hK K
    refine norm_ (a' := ?_) ?_ ?_
    rotate_left
    ·show Act.put _ (some 46) _ = _
     simp only [Act.put, List.setIfInBounds_toArray, List.set_cons_zero, List.set_cons_succ, i64_w, i32_w]
     rfl
    refine pure_ (i := 20) (N := some 26) (v := ?_) (a' := ?_) (fl 26 10485759) rfl rfl (any_of HT_.out (by kernel_rfl)) (fun _ _ _ h => h) (Or.inl ⟨by rfl, ?_⟩) ?_ ?_
    rotate_left
    ·intro w'
     go_simp
     with_reducible rfl
    rotate_left
    ·simp only [Act.put, List.setIfInBounds_toArray, List.set_cons_zero, List.set_cons_succ, i64_w, i32_w]
     rfl
    refine pure_ (i := 21) (N := some 47) (v := ?_) (a' := ?_) (fl 26 12582911) rfl rfl (any_of HT_.out (by kernel_rfl)) (fun _ _ _ h => h) (Or.inl ⟨by rfl, ?_⟩) ?_ ?_
    rotate_left
    ·intro w'
     go_simp
     with_reducible rfl
    rotate_left
    ·simp only [Act.put, List.setIfInBounds_toArray, List.set_cons_zero, List.set_cons_succ, i64_w, i32_w]
     rfl
    refine pure_ (i := 22) (N := some 48) (v := ?_) (a' := ?_) (fl 26 16777215) rfl rfl (any_of HT_.out (by kernel_rfl)) (fun _ _ _ h => h) (Or.inl ⟨by rfl, ?_⟩) ?_ ?_
    rotate_left
    ·intro w'
     go_simp
     with_reducible rfl
    rotate_left
    ·simp only [Act.put, List.setIfInBounds_toArray, List.set_cons_zero, List.set_cons_succ, i64_w, i32_w]
     rfl
    exact norm_ (by simp only [putAll, Act.put, List.setIfInBounds_toArray, List.set_cons_zero, List.set_cons_succ]) (hCont (gb243) _ ⟨hHeld, (by (with_reducible repeat (first | refine blk_drewN ?_ _ | refine blk_drew ?_ | refine blk_alloc ?_ _)); exact BK231.out), (by (with_reducible repeat (first | refine blk_drewN ?_ _ | refine blk_drew ?_ | refine blk_alloc ?_ _)); exact BK232.out), (by (with_reducible repeat (first | refine blk_drewN ?_ _ | refine blk_drew ?_ | refine blk_alloc ?_ _)); exact BK233.out), (by (with_reducible repeat (first | refine blk_drewN ?_ _ | refine blk_drew ?_ | refine blk_alloc ?_ _)); exact BK234.out), (by (with_reducible repeat (first | refine blk_drewN ?_ _ | refine blk_drew ?_ | refine blk_alloc ?_ _)); exact BK235.out), (by (with_reducible repeat (first | refine blk_drewN ?_ _ | refine blk_drew ?_ | refine blk_alloc ?_ _)); exact BK239.out), (by (with_reducible repeat (first | refine blk_drewN ?_ _ | refine blk_drew ?_ | refine blk_alloc ?_ _)); exact BK243.out), GW243.out, GE243.out, NB231_243.out, NB243_231.out, NB232_243.out, NB243_232.out, NB233_243.out, NB243_233.out, NB234_243.out, NB243_234.out, NB235_243.out, NB243_235.out, NB239_243.out, NB243_239.out, (by repeat (first | (with_reducible first | exact HB.out | apply below_alloc | apply pw_below_drewN | apply below_drew1 | refine below_set ?_ GE231.out | refine below_set ?_ GE232.out | refine below_set ?_ GE233.out | refine below_set ?_ GE234.out | refine below_set ?_ GE235.out | refine below_set ?_ GE239.out | refine below_set ?_ GE243.out) | exact HB.out))⟩)
  rintro gb243 w44 ⟨hS_, h0_, h1_, h2_, h3_, h4_, h5_, h6_, h7_, h8_, h9_, h10_, h11_, h12_, h13_, h14_, h15_, h16_, h17_, h18_, h19_, h20_, h21_⟩
  have n0_ : Aside0 (w44.heap[gb231]? = some (.cells #[.int .i64 a0_0, .int .i64 a0_1] 38 (0, 0))) := ⟨h0_⟩
  have n1_ : Aside0 (w44.heap[gb232]? = some (.cells #[.int .i64 a1_0, .int .i64 a1_1] 38 (0, 0))) := ⟨h1_⟩
  have n2_ : Aside0 (w44.heap[gb233]? = some (.cells #[.int .i64 a2_0, .int .i64 a2_1] 38 (0, 0))) := ⟨h2_⟩
  have n3_ : Aside0 (w44.heap[gb234]? = some (.cells #[.int .i64 0, .int .i64 0] 38 (0, 0))) := ⟨h3_⟩
  have n4_ : Aside0 (w44.heap[gb235]? = some (.cells #[.int .i64 0, .int .i64 0] 38 (0, 0))) := ⟨h4_⟩
  have n5_ : Aside0 (w44.heap[gb239]? = some (.cells #[.int .i64 t236, .int .i64 t237] 38 (0, 0))) := ⟨h5_⟩
  have n6_ : Aside0 (w44.heap[gb243]? = some (.cells #[.int .i64 0, .int .i64 0] 38 (0, 0))) := ⟨h6_⟩
  have n7_ : Aside0 (w.heap.size ≤ gb243) := ⟨h7_⟩
  have n8_ : Aside0 (w.heap.size ≤ gb243) := ⟨h8_⟩
  have n9_ : Aside0 (gb231 ≠ gb243) := ⟨h9_⟩
  have n10_ : Aside0 (gb243 ≠ gb231) := ⟨h10_⟩
  have n11_ : Aside0 (gb232 ≠ gb243) := ⟨h11_⟩
  have n12_ : Aside0 (gb243 ≠ gb232) := ⟨h12_⟩
  have n13_ : Aside0 (gb233 ≠ gb243) := ⟨h13_⟩
  have n14_ : Aside0 (gb243 ≠ gb233) := ⟨h14_⟩
  have n15_ : Aside0 (gb234 ≠ gb243) := ⟨h15_⟩
  have n16_ : Aside0 (gb243 ≠ gb234) := ⟨h16_⟩
  have n17_ : Aside0 (gb235 ≠ gb243) := ⟨h17_⟩
  have n18_ : Aside0 (gb243 ≠ gb235) := ⟨h18_⟩
  have n19_ : Aside0 (gb239 ≠ gb243) := ⟨h19_⟩
  have n20_ : Aside0 (gb243 ≠ gb239) := ⟨h20_⟩
  have n21_ : Aside0 (Below w.heap.size w w44) := ⟨h21_⟩
  clear BK231
  clear BK232
  clear BK233
  clear BK234
  clear BK235
  clear BK239
  clear HB
  clear h0_ h1_ h2_ h3_ h4_ h5_ h6_ h7_ h8_ h9_ h10_ h11_ h12_ h13_ h14_ h15_ h16_ h17_ h18_ h19_ h20_ h21_
  have BK231 := n0_
  have BK232 := n1_
  have BK233 := n2_
  have BK234 := n3_
  have BK235 := n4_
  have BK239 := n5_
  have BK243 := n6_
  have GW243 := n7_
  have GE243 := n8_
  have NB231_243 := n9_
  have NB243_231 := n10_
  have NB232_243 := n11_
  have NB243_232 := n12_
  have NB233_243 := n13_
  have NB243_233 := n14_
  have NB234_243 := n15_
  have NB243_234 := n16_
  have NB235_243 := n17_
  have NB243_235 := n18_
  have NB239_243 := n19_
  have NB243_239 := n20_
  have HB := n21_
  clear n0_ n1_ n2_ n3_ n4_ n5_ n6_ n7_ n8_ n9_ n10_ n11_ n12_ n13_ n14_ n15_ n16_ n17_ n18_ n19_ n20_ n21_
  have hHeld : w44.cell? ⟨gb231, 0, none⟩ = some (.int .i64 a0_0) ∧ w44.cell? ⟨gb231, 1, none⟩ = some (.int .i64 a0_1) ∧ w44.cell? ⟨gb239, 0, none⟩ = some (.int .i64 t236) ∧ w44.cell? ⟨gb239, 1, none⟩ = some (.int .i64 t237) := hS_
  refine norm_ (a' := ?_) ?_ ?_
  rotate_left
  ·simp only [putAll, Act.put, List.setIfInBounds_toArray, List.set_cons_zero, List.set_cons_succ]
   rfl
  refine one_ (i := 24) (N := none) (fl 26 33554431) rfl rfl (one_of HT_.out (by kernel_rfl)) (by decide) (fun K hK => ?_)
  have hs45 : w44.cell? ⟨gb243, 0, none⟩ = some (.int .i64 0) := (blk_cell BK243.out 0).trans rfl
  have hfs45 := blk_frozen BK243.out 0
  have hns45_0 := NB231_243.out
  have hns45_1 := NB232_243.out
  have hns45_2 := NB233_243.out
  have hns45_3 := NB234_243.out
  have hns45_4 := NB235_243.out
  have hns45_5 := NB239_243.out
  have hms45_0 := NB243_231.out
  have hms45_1 := NB243_232.out
  have hms45_2 := NB243_233.out
  have hms45_3 := NB243_234.out
  have hms45_4 := NB243_235.out
  have hms45_5 := NB243_239.out
  have hs46 : w44.cell? ⟨gb243, 1, none⟩ = some (.int .i64 0) := (blk_cell BK243.out 1).trans rfl
  have hfs46 := blk_frozen BK243.out 1
  have hns46_0 := NB231_243.out
  have hns46_1 := NB232_243.out
  have hns46_2 := NB233_243.out
  have hns46_3 := NB234_243.out
  have hns46_4 := NB235_243.out
  have hns46_5 := NB239_243.out
  have hms46_0 := NB243_231.out
  have hms46_1 := NB243_232.out
  have hms46_2 := NB243_233.out
  have hms46_3 := NB243_234.out
  have hms46_4 := NB243_235.out
  have hms46_5 := NB243_239.out
  refine skip_ (w1 := ?_) (by rfl) rfl ?_ ?_
  rotate_left
  ·go_simp
   rfl
  refine hK.out _ _ ⟨((cell_far (p := ⟨gb243, _, none⟩) NB231_243.out _).trans (((cell_far (p := ⟨gb243, _, none⟩) NB231_243.out _).trans (hHeld.1)))), ((cell_far (p := ⟨gb243, _, none⟩) NB231_243.out _).trans (((cell_far (p := ⟨gb243, _, none⟩) NB231_243.out _).trans (hHeld.2.1)))), ((cell_far (p := ⟨gb243, _, none⟩) NB239_243.out _).trans (((cell_far (p := ⟨gb243, _, none⟩) NB239_243.out _).trans (hHeld.2.2.1)))), ((cell_far (p := ⟨gb243, _, none⟩) NB239_243.out _).trans (((cell_far (p := ⟨gb243, _, none⟩) NB239_243.out _).trans (hHeld.2.2.2))))⟩ (fun hHeld => ?_)
  clear hK K
  refine pure_ (i := 25) (N := some 17) (v := ?_) (a' := ?_) (fl 26 67108863) rfl rfl (any_of HT_.out (by kernel_rfl)) (fun _ _ _ h => h) (Or.inl ⟨by rfl, ?_⟩) ?_ ?_
  rotate_left
  ·intro w'
   go_simp
   with_reducible rfl
  rotate_left
  ·simp only [Act.put, List.setIfInBounds_toArray, List.set_cons_zero, List.set_cons_succ, i64_w, i32_w]
   rfl
  refine done_ (done_of HT_.out (by kernel_rfl)) ?_
  try go_wp2
  have n0_ : Aside0 (((w44.setCell ⟨gb243, 0, none⟩ (.int .i64 t240)).setCell ⟨gb243, 1, none⟩ (.int .i64 t241)).heap[gb231]? = some (.cells #[.int .i64 a0_0, .int .i64 a0_1] 38 (0, 0))) := ⟨by (with_reducible repeat (first | refine blk_drewN ?_ _ | refine blk_drew ?_ | refine blk_alloc ?_ _)); refine blk_far ?_ NB231_243.out _; (with_reducible repeat (first | refine blk_drewN ?_ _ | refine blk_drew ?_ | refine blk_alloc ?_ _)); refine blk_far ?_ NB231_243.out _; (with_reducible repeat (first | refine blk_drewN ?_ _ | refine blk_drew ?_ | refine blk_alloc ?_ _)); exact BK231.out⟩
  have n1_ : Aside0 (((w44.setCell ⟨gb243, 0, none⟩ (.int .i64 t240)).setCell ⟨gb243, 1, none⟩ (.int .i64 t241)).heap[gb232]? = some (.cells #[.int .i64 a1_0, .int .i64 a1_1] 38 (0, 0))) := ⟨by (with_reducible repeat (first | refine blk_drewN ?_ _ | refine blk_drew ?_ | refine blk_alloc ?_ _)); refine blk_far ?_ NB232_243.out _; (with_reducible repeat (first | refine blk_drewN ?_ _ | refine blk_drew ?_ | refine blk_alloc ?_ _)); refine blk_far ?_ NB232_243.out _; (with_reducible repeat (first | refine blk_drewN ?_ _ | refine blk_drew ?_ | refine blk_alloc ?_ _)); exact BK232.out⟩
  have n2_ : Aside0 (((w44.setCell ⟨gb243, 0, none⟩ (.int .i64 t240)).setCell ⟨gb243, 1, none⟩ (.int .i64 t241)).heap[gb233]? = some (.cells #[.int .i64 a2_0, .int .i64 a2_1] 38 (0, 0))) := ⟨by (with_reducible repeat (first | refine blk_drewN ?_ _ | refine blk_drew ?_ | refine blk_alloc ?_ _)); refine blk_far ?_ NB233_243.out _; (with_reducible repeat (first | refine blk_drewN ?_ _ | refine blk_drew ?_ | refine blk_alloc ?_ _)); refine blk_far ?_ NB233_243.out _; (with_reducible repeat (first | refine blk_drewN ?_ _ | refine blk_drew ?_ | refine blk_alloc ?_ _)); exact BK233.out⟩
  have n3_ : Aside0 (((w44.setCell ⟨gb243, 0, none⟩ (.int .i64 t240)).setCell ⟨gb243, 1, none⟩ (.int .i64 t241)).heap[gb234]? = some (.cells #[.int .i64 0, .int .i64 0] 38 (0, 0))) := ⟨by (with_reducible repeat (first | refine blk_drewN ?_ _ | refine blk_drew ?_ | refine blk_alloc ?_ _)); refine blk_far ?_ NB234_243.out _; (with_reducible repeat (first | refine blk_drewN ?_ _ | refine blk_drew ?_ | refine blk_alloc ?_ _)); refine blk_far ?_ NB234_243.out _; (with_reducible repeat (first | refine blk_drewN ?_ _ | refine blk_drew ?_ | refine blk_alloc ?_ _)); exact BK234.out⟩
  have n4_ : Aside0 (((w44.setCell ⟨gb243, 0, none⟩ (.int .i64 t240)).setCell ⟨gb243, 1, none⟩ (.int .i64 t241)).heap[gb235]? = some (.cells #[.int .i64 0, .int .i64 0] 38 (0, 0))) := ⟨by (with_reducible repeat (first | refine blk_drewN ?_ _ | refine blk_drew ?_ | refine blk_alloc ?_ _)); refine blk_far ?_ NB235_243.out _; (with_reducible repeat (first | refine blk_drewN ?_ _ | refine blk_drew ?_ | refine blk_alloc ?_ _)); refine blk_far ?_ NB235_243.out _; (with_reducible repeat (first | refine blk_drewN ?_ _ | refine blk_drew ?_ | refine blk_alloc ?_ _)); exact BK235.out⟩
  have n5_ : Aside0 (((w44.setCell ⟨gb243, 0, none⟩ (.int .i64 t240)).setCell ⟨gb243, 1, none⟩ (.int .i64 t241)).heap[gb239]? = some (.cells #[.int .i64 t236, .int .i64 t237] 38 (0, 0))) := ⟨by (with_reducible repeat (first | refine blk_drewN ?_ _ | refine blk_drew ?_ | refine blk_alloc ?_ _)); refine blk_far ?_ NB239_243.out _; (with_reducible repeat (first | refine blk_drewN ?_ _ | refine blk_drew ?_ | refine blk_alloc ?_ _)); refine blk_far ?_ NB239_243.out _; (with_reducible repeat (first | refine blk_drewN ?_ _ | refine blk_drew ?_ | refine blk_alloc ?_ _)); exact BK239.out⟩
  have n6_ : Aside0 (((w44.setCell ⟨gb243, 0, none⟩ (.int .i64 t240)).setCell ⟨gb243, 1, none⟩ (.int .i64 t241)).heap[gb243]? = some (.cells #[.int .i64 t240, .int .i64 t241] 38 (0, 0))) := ⟨by (with_reducible repeat (first | refine blk_drewN ?_ _ | refine blk_drew ?_ | refine blk_alloc ?_ _)); refine blk_put (cs := #[.int .i64 t240, .int .i64 0]) ?_ 1 _ rfl; (with_reducible repeat (first | refine blk_drewN ?_ _ | refine blk_drew ?_ | refine blk_alloc ?_ _)); refine blk_put (cs := #[.int .i64 0, .int .i64 0]) ?_ 0 _ rfl; (with_reducible repeat (first | refine blk_drewN ?_ _ | refine blk_drew ?_ | refine blk_alloc ?_ _)); exact BK243.out⟩
  have n7_ : Aside0 (Below w.heap.size w ((w44.setCell ⟨gb243, 0, none⟩ (.int .i64 t240)).setCell ⟨gb243, 1, none⟩ (.int .i64 t241))) := ⟨by repeat (first | (with_reducible first | exact HB.out | apply below_alloc | apply pw_below_drewN | apply below_drew1 | refine below_set ?_ GE231.out | refine below_set ?_ GE232.out | refine below_set ?_ GE233.out | refine below_set ?_ GE234.out | refine below_set ?_ GE235.out | refine below_set ?_ GE239.out | refine below_set ?_ GE243.out) | exact HB.out)⟩
  (try clear BK231)
  (try clear BK232)
  (try clear BK233)
  (try clear BK234)
  (try clear BK235)
  (try clear BK239)
  (try clear BK243)
  (try clear HB)
  generalize ((w44.setCell ⟨gb243, 0, none⟩ (.int .i64 t240)).setCell ⟨gb243, 1, none⟩ (.int .i64 t241)) = w47 at n0_ n1_ n2_ n3_ n4_ n5_ n6_ n7_ ⊢
  have BK231 := n0_
  have BK232 := n1_
  have BK233 := n2_
  have BK234 := n3_
  have BK235 := n4_
  have BK239 := n5_
  have BK243 := n6_
  have HB := n7_
  clear n0_ n1_ n2_ n3_ n4_ n5_ n6_ n7_
  have n0_ := Aside0.mk (blk_drew BK231.out)
  have n1_ := Aside0.mk (blk_drew BK232.out)
  have n2_ := Aside0.mk (blk_drew BK233.out)
  have n3_ := Aside0.mk (blk_drew BK234.out)
  have n4_ := Aside0.mk (blk_drew BK235.out)
  have n5_ := Aside0.mk (blk_drew BK239.out)
  have n6_ := Aside0.mk (blk_drew BK243.out)
  have n7_ := Aside0.mk (below_drew1 HB.out)
  clear BK231
  clear BK232
  clear BK233
  clear BK234
  clear BK235
  clear BK239
  clear BK243
  clear HB
  have BK231 := n0_
  have BK232 := n1_
  have BK233 := n2_
  have BK234 := n3_
  have BK235 := n4_
  have BK239 := n5_
  have BK243 := n6_
  have HB := n7_
  clear n0_ n1_ n2_ n3_ n4_ n5_ n6_ n7_
  refine start_ (n := 26) (S := fun w' => w'.cell? ⟨gb231, 0, none⟩ = some (.int .i64 a0_0) ∧ w'.cell? ⟨gb231, 1, none⟩ = some (.int .i64 a0_1) ∧ w'.cell? ⟨gb239, 0, none⟩ = some (.int .i64 t236) ∧ w'.cell? ⟨gb239, 1, none⟩ = some (.int .i64 t237)) (ds := []) (fl 26 0) (by kernel_rfl) rfl rfl ⟨(blk_cell BK231.out 0).trans rfl, (blk_cell BK231.out 1).trans rfl, (blk_cell BK239.out 0).trans rfl, (blk_cell BK239.out 1).trans rfl⟩ (fun hHeld => ?_); refine with_tabW two_pair.tab3 two_pair.bits3 (fun HT_ HW_ => ?_)
  generalize w47.drew = w48 at BK231 BK232 BK233 BK234 BK235 BK239 BK243 HB hHeld ⊢
  refine pure_ (i := 0) (N := some 50) (v := ?_) (a' := ?_) (fl 26 1) rfl rfl (any_of HT_.out (by kernel_rfl)) (fun _ _ _ h => h) (Or.inl ⟨by rfl, ?_⟩) ?_ ?_
  rotate_left
  ·intro w'
   go_simp
   with_reducible rfl
  rotate_left
  ·simp only [Act.put, List.setIfInBounds_toArray, List.set_cons_zero, List.set_cons_succ, i64_w, i32_w]
   rfl
  refine pure_ (i := 2) (N := some 52) (v := ?_) (a' := ?_) (fl 26 5) rfl rfl (any_of HT_.out (by kernel_rfl)) (fun _ _ _ h => h) (Or.inl ⟨by rfl, ?_⟩) ?_ ?_
  rotate_left
  ·intro w'
   go_simp
   with_reducible rfl
  rotate_left
  ·simp only [Act.put, List.setIfInBounds_toArray, List.set_cons_zero, List.set_cons_succ, i64_w, i32_w]
   rfl
  refine pure_ (i := 4) (N := some 54) (v := ?_) (a' := ?_) (fl 26 21) rfl rfl (any_of HT_.out (by kernel_rfl)) (fun _ _ _ h => h) (Or.inl ⟨by rfl, ?_⟩) ?_ ?_
  rotate_left
  ·intro w'
   go_simp
   with_reducible rfl
  rotate_left
  ·simp only [Act.put, List.setIfInBounds_toArray, List.set_cons_zero, List.set_cons_succ, i64_w, i32_w]
   rfl
  refine pure_ (i := 7) (N := some 57) (v := ?_) (a' := ?_) (fl 26 149) rfl rfl (any_of HT_.out (by kernel_rfl)) (fun _ _ _ h => h) (Or.inl ⟨by rfl, ?_⟩) ?_ ?_
  rotate_left
  ·intro w'
   go_simp
   with_reducible rfl
  rotate_left
  ·simp only [Act.put, List.setIfInBounds_toArray, List.set_cons_zero, List.set_cons_succ, i64_w, i32_w]
   rfl
  refine pure_ (i := 9) (N := some 59) (v := ?_) (a' := ?_) (fl 26 661) rfl rfl (any_of HT_.out (by kernel_rfl)) (fun _ _ _ h => h) (Or.inl ⟨by rfl, ?_⟩) ?_ ?_
  rotate_left
  ·intro w'
   go_simp
   with_reducible rfl
  rotate_left
  ·simp only [Act.put, List.setIfInBounds_toArray, List.set_cons_zero, List.set_cons_succ, i64_w, i32_w]
   rfl
  refine pure_ (i := 11) (N := some 61) (v := ?_) (a' := ?_) (fl 26 2709) rfl rfl (any_of HT_.out (by kernel_rfl)) (fun _ _ _ h => h) (Or.inl ⟨by rfl, ?_⟩) ?_ ?_
  rotate_left
  ·intro w'
   go_simp
   with_reducible rfl
  rotate_left
  ·simp only [Act.put, List.setIfInBounds_toArray, List.set_cons_zero, List.set_cons_succ, i64_w, i32_w]
   rfl
  refine pure_ (i := 15) (N := some 65) (v := ?_) (a' := ?_) (fl 26 35477) rfl rfl (any_of HT_.out (by kernel_rfl)) (fun _ _ _ h => h) (Or.inl ⟨by rfl, ?_⟩) ?_ ?_
  rotate_left
  ·intro w'
   go_simp
   with_reducible rfl
  rotate_left
  ·simp only [Act.put, List.setIfInBounds_toArray, List.set_cons_zero, List.set_cons_succ, i64_w, i32_w]
   rfl
  refine pure_ (i := 16) (N := some 66) (v := ?_) (a' := ?_) (fl 26 101013) rfl rfl (any_of HT_.out (by kernel_rfl)) (fun _ _ _ h => h) (Or.inl ⟨by rfl, ?_⟩) ?_ ?_
  rotate_left
  ·intro w'
   go_simp
   with_reducible rfl
  rotate_left
  ·simp only [Act.put, List.setIfInBounds_toArray, List.set_cons_zero, List.set_cons_succ, i64_w, i32_w]
   rfl
  refine pure_ (i := 17) (N := some 67) (v := ?_) (a' := ?_) (fl 26 232085) rfl rfl (any_of HT_.out (by kernel_rfl)) (fun _ _ _ h => h) (Or.inl ⟨by rfl, ?_⟩) ?_ ?_
  rotate_left
  ·intro w'
   go_simp
   with_reducible rfl
  rotate_left
  ·simp only [Act.put, List.setIfInBounds_toArray, List.set_cons_zero, List.set_cons_succ, i64_w, i32_w]
   rfl
  refine pure_ (i := 18) (N := some 68) (v := ?_) (a' := ?_) (fl 26 494229) rfl rfl (any_of HT_.out (by kernel_rfl)) (fun _ _ _ h => h) (Or.inl ⟨by rfl, ?_⟩) ?_ ?_
  rotate_left
  ·intro w'
   go_simp
   with_reducible rfl
  rotate_left
  ·simp only [Act.put, List.setIfInBounds_toArray, List.set_cons_zero, List.set_cons_succ, i64_w, i32_w]
   rfl
  refine take_ (i := 1) (N := some 51) (v := ?_) (a' := ?_) (fl 26 494231) rfl rfl (take_ofW HT_.out HW_.out (by kernel_rfl)) (fun _ _ _ h => h) (Or.inl ⟨by rfl, ?_⟩) hHeld ?_ ?_
  rotate_left
  ·rintro w' ⟨s0, s1, s2, s3⟩
   go_simp
   with_reducible rfl
  rotate_left
  ·simp only [Act.put, List.setIfInBounds_toArray, List.set_cons_zero, List.set_cons_succ, i64_w, i32_w]
   rfl
  refine pure_ (i := 3) (N := some 53) (v := ?_) (a' := ?_) (fl 26 494239) rfl rfl (any_of HT_.out (by kernel_rfl)) (fun _ _ _ h => h) (Or.inl ⟨by rfl, ?_⟩) ?_ ?_
  rotate_left
  ·intro w'
   go_simp
   with_reducible rfl
  rotate_left
  ·simp only [Act.put, List.setIfInBounds_toArray, List.set_cons_zero, List.set_cons_succ, i64_w, i32_w]
   rfl
  refine take_ (i := 5) (N := some 55) (v := ?_) (a' := ?_) (fl 26 494271) rfl rfl (take_ofW HT_.out HW_.out (by kernel_rfl)) (fun _ _ _ h => h) (Or.inl ⟨by rfl, ?_⟩) hHeld ?_ ?_
  rotate_left
  ·rintro w' ⟨s0, s1, s2, s3⟩
   go_simp
   with_reducible rfl
  rotate_left
  ·simp only [Act.put, List.setIfInBounds_toArray, List.set_cons_zero, List.set_cons_succ, i64_w, i32_w]
   rfl
  refine pure_ (i := 6) (N := some 56) (v := ?_) (a' := ?_) (fl 26 494335) rfl rfl (any_of HT_.out (by kernel_rfl)) (fun _ _ _ h => h) (Or.inl ⟨by rfl, ?_⟩) ?_ ?_
  rotate_left
  ·intro w'
   go_simp
   with_reducible rfl
  rotate_left
  ·simp only [Act.put, List.setIfInBounds_toArray, List.set_cons_zero, List.set_cons_succ, i64_w, i32_w]
   rfl
  refine take_ (i := 8) (N := some 58) (v := ?_) (a' := ?_) (fl 26 494591) rfl rfl (take_ofW HT_.out HW_.out (by kernel_rfl)) (fun _ _ _ h => h) (Or.inl ⟨by rfl, ?_⟩) hHeld ?_ ?_
  rotate_left
  ·rintro w' ⟨s0, s1, s2, s3⟩
   go_simp
   with_reducible rfl
  rotate_left
  ·simp only [Act.put, List.setIfInBounds_toArray, List.set_cons_zero, List.set_cons_succ, i64_w, i32_w]
   rfl
  refine pure_ (i := 10) (N := some 60) (v := ?_) (a' := ?_) (fl 26 495615) rfl rfl (any_of HT_.out (by kernel_rfl)) (fun _ _ _ h => h) (Or.inl ⟨by rfl, ?_⟩) ?_ ?_
  rotate_left
  ·intro w'
   go_simp
   with_reducible rfl
  rotate_left
  ·simp only [Act.put, List.setIfInBounds_toArray, List.set_cons_zero, List.set_cons_succ, i64_w, i32_w]
   rfl
  refine take_ (i := 12) (N := some 62) (v := ?_) (a' := ?_) (fl 26 499711) rfl rfl (take_ofW HT_.out HW_.out (by kernel_rfl)) (fun _ _ _ h => h) (Or.inl ⟨by rfl, ?_⟩) hHeld ?_ ?_
  rotate_left
  ·rintro w' ⟨s0, s1, s2, s3⟩
   go_simp
   with_reducible rfl
  rotate_left
  ·simp only [Act.put, List.setIfInBounds_toArray, List.set_cons_zero, List.set_cons_succ, i64_w, i32_w]
   rfl
  refine pure_ (i := 13) (N := some 63) (v := ?_) (a' := ?_) (fl 26 507903) rfl rfl (any_of HT_.out (by kernel_rfl)) (fun _ _ _ h => h) (Or.inl ⟨by rfl, ?_⟩) ?_ ?_
  rotate_left
  ·intro w'
   go_simp
   with_reducible rfl
  rotate_left
  ·simp only [Act.put, List.setIfInBounds_toArray, List.set_cons_zero, List.set_cons_succ, i64_w, i32_w]
   rfl
  refine pure_ (i := 14) (N := some 64) (v := ?_) (a' := ?_) (fl 26 524287) rfl rfl (any_of HT_.out (by kernel_rfl)) (fun _ _ _ h => h) (Or.inl ⟨by rfl, ?_⟩) ?_ ?_
  rotate_left
  ·intro w'
   go_simp
   with_reducible rfl
  rotate_left
  ·simp only [Act.put, List.setIfInBounds_toArray, List.set_cons_zero, List.set_cons_succ, i64_w, i32_w]
   rfl
  refine join_ (σ := Nat) 2 (fl 26 16777215) (fun s_ => [(69, .tuple #[.agg #[.int .i64 t244, .int .i64 t245], .int .i64 t246]), (18, .pointer (some ⟨s_, 0, none⟩)), (49, .tuple #[.agg #[.int .i64 t244, .int .i64 t245], .int .i64 t246]), (70, .agg #[.int .i64 t244, .int .i64 t245]), (71, .int .i64 t246)]) (fun s_ w' => (w'.cell? ⟨gb231, 0, none⟩ = some (.int .i64 a0_0) ∧ w'.cell? ⟨gb231, 1, none⟩ = some (.int .i64 a0_1) ∧ w'.cell? ⟨gb239, 0, none⟩ = some (.int .i64 t236) ∧ w'.cell? ⟨gb239, 1, none⟩ = some (.int .i64 t237)) ∧ (w'.heap[gb231]? = some (.cells #[.int .i64 a0_0, .int .i64 a0_1] 38 (0, 0))) ∧ (w'.heap[gb232]? = some (.cells #[.int .i64 a1_0, .int .i64 a1_1] 38 (0, 0))) ∧ (w'.heap[gb233]? = some (.cells #[.int .i64 a2_0, .int .i64 a2_1] 38 (0, 0))) ∧ (w'.heap[gb234]? = some (.cells #[.int .i64 0, .int .i64 0] 38 (0, 0))) ∧ (w'.heap[gb235]? = some (.cells #[.int .i64 0, .int .i64 0] 38 (0, 0))) ∧ (w'.heap[gb239]? = some (.cells #[.int .i64 t236, .int .i64 t237] 38 (0, 0))) ∧ (w'.heap[gb243]? = some (.cells #[.int .i64 t240, .int .i64 t241] 38 (0, 0))) ∧ (w'.heap[s_]? = some (.cells #[.int .i64 0, .int .i64 0] 38 (0, 0))) ∧ (w.heap.size ≤ s_) ∧ (w.heap.size ≤ s_) ∧ (gb231 ≠ s_) ∧ (s_ ≠ gb231) ∧ (gb232 ≠ s_) ∧ (s_ ≠ gb232) ∧ (gb233 ≠ s_) ∧ (s_ ≠ gb233) ∧ (gb234 ≠ s_) ∧ (s_ ≠ gb234) ∧ (gb235 ≠ s_) ∧ (s_ ≠ gb235) ∧ (gb239 ≠ s_) ∧ (s_ ≠ gb239) ∧ (gb243 ≠ s_) ∧ (s_ ≠ gb243) ∧ (Below w.heap.size w w')) ?_ ?_
  rotate_left
  ·intro hCont
   refine two_ (i := 19) (j := 23) (Ni := some 69) (Nj := some 18) (fl 26 1048575) (fl 26 8912895) rfl rfl rfl rfl (two_of HT_.out (by kernel_rfl)) (by decide) (by decide) (fun K hK => ?_) (fun K hK => ?_)
   ·skip
    refine goes_ Tryz.func70 (by kernel_rfl) rfl #[.agg #[.int .i64 (wrap64 ((ji9) - t236)), .int .i64 (wrap64 ((ji11) - t237))], .int .i64 (wrap64 (a3 + a4)), .int .i64 a5] (by rfl) rfl rfl (by (try simp only [List.map_toArray, List.map_cons, List.map_nil]); first | done | (simp only [hji11, hji9]; rfl) | rfl | (simp only [List.length_drop, List.length_take]; rfl)) ?_
    with_reducible refine (cx_Shift.calls (wrap64 ((ji9) - t236)) (wrap64 ((ji11) - t237)) (wrap64 (a3 + a4)) a5 t244 t245 t246 _ A17.out).mono ?_
    rintro e w49 ⟨rfl, hb⟩
    refine ⟨_, rfl, ?_⟩
    have n0_ := Aside0.mk (blk_below (g := gb231) (o := .cells #[.int .i64 a0_0, .int .i64 a0_1] 38 (0, 0)) (by (with_reducible repeat (first | refine blk_drewN ?_ _ | refine blk_drew ?_ | refine blk_alloc ?_ _)); exact BK231.out) hb)
    have n1_ := Aside0.mk (blk_below (g := gb232) (o := .cells #[.int .i64 a1_0, .int .i64 a1_1] 38 (0, 0)) (by (with_reducible repeat (first | refine blk_drewN ?_ _ | refine blk_drew ?_ | refine blk_alloc ?_ _)); exact BK232.out) hb)
    have n2_ := Aside0.mk (blk_below (g := gb233) (o := .cells #[.int .i64 a2_0, .int .i64 a2_1] 38 (0, 0)) (by (with_reducible repeat (first | refine blk_drewN ?_ _ | refine blk_drew ?_ | refine blk_alloc ?_ _)); exact BK233.out) hb)
    have n3_ := Aside0.mk (blk_below (g := gb234) (o := .cells #[.int .i64 0, .int .i64 0] 38 (0, 0)) (by (with_reducible repeat (first | refine blk_drewN ?_ _ | refine blk_drew ?_ | refine blk_alloc ?_ _)); exact BK234.out) hb)
    have n4_ := Aside0.mk (blk_below (g := gb235) (o := .cells #[.int .i64 0, .int .i64 0] 38 (0, 0)) (by (with_reducible repeat (first | refine blk_drewN ?_ _ | refine blk_drew ?_ | refine blk_alloc ?_ _)); exact BK235.out) hb)
    have n5_ := Aside0.mk (blk_below (g := gb239) (o := .cells #[.int .i64 t236, .int .i64 t237] 38 (0, 0)) (by (with_reducible repeat (first | refine blk_drewN ?_ _ | refine blk_drew ?_ | refine blk_alloc ?_ _)); exact BK239.out) hb)
    have n6_ := Aside0.mk (blk_below (g := gb243) (o := .cells #[.int .i64 t240, .int .i64 t241] 38 (0, 0)) (by (with_reducible repeat (first | refine blk_drewN ?_ _ | refine blk_drew ?_ | refine blk_alloc ?_ _)); exact BK243.out) hb)
    have n7_ := Aside0.mk (below_step (by repeat (first | (with_reducible first | exact HB.out | apply below_alloc | apply pw_below_drewN | apply below_drew1 | refine below_set ?_ GE231.out | refine below_set ?_ GE232.out | refine below_set ?_ GE233.out | refine below_set ?_ GE234.out | refine below_set ?_ GE235.out | refine below_set ?_ GE239.out | refine below_set ?_ GE243.out) | exact HB.out)) hb)
    clear BK231
    clear BK232
    clear BK233
    clear BK234
    clear BK235
    clear BK239
    clear BK243
    clear HB
    have BK231 := n0_
    have BK232 := n1_
    have BK233 := n2_
    have BK234 := n3_
    have BK235 := n4_
    have BK239 := n5_
    have BK243 := n6_
    have HB := n7_
    clear n0_ n1_ n2_ n3_ n4_ n5_ n6_ n7_
    (try clear hb)
    (try clear hb2)
    (try clear hk)
    (try clear hi)
    refine hK.out _ _ ⟨(blk_cell BK231.out 0).trans rfl, (blk_cell BK231.out 1).trans rfl, (blk_cell BK239.out 0).trans rfl, (blk_cell BK239.out 1).trans rfl⟩ (fun hHeld => ?_)
    clear hK K
    refine norm_ (a' := ?_) ?_ ?_
    rotate_left
    ·show Act.put _ (some 69) _ = _
     simp only [Act.put, List.setIfInBounds_toArray, List.set_cons_zero, List.set_cons_succ, i64_w, i32_w]
     rfl
    refine pure_ (i := 20) (N := some 49) (v := ?_) (a' := ?_) (fl 26 2097151) rfl rfl (any_of HT_.out (by kernel_rfl)) (fun _ _ _ h => h) (Or.inl ⟨by rfl, ?_⟩) ?_ ?_
    rotate_left
    ·intro w'
     go_simp
     with_reducible rfl
    rotate_left
    ·simp only [Act.put, List.setIfInBounds_toArray, List.set_cons_zero, List.set_cons_succ, i64_w, i32_w]
     rfl
    refine pure_ (i := 21) (N := some 70) (v := ?_) (a' := ?_) (fl 26 4194303) rfl rfl (any_of HT_.out (by kernel_rfl)) (fun _ _ _ h => h) (Or.inl ⟨by rfl, ?_⟩) ?_ ?_
    rotate_left
    ·intro w'
     go_simp
     with_reducible rfl
    rotate_left
    ·simp only [Act.put, List.setIfInBounds_toArray, List.set_cons_zero, List.set_cons_succ, i64_w, i32_w]
     rfl
    refine pure_ (i := 22) (N := some 71) (v := ?_) (a' := ?_) (fl 26 8388607) rfl rfl (any_of HT_.out (by kernel_rfl)) (fun _ _ _ h => h) (Or.inl ⟨by rfl, ?_⟩) ?_ ?_
    rotate_left
    ·intro w'
     go_simp
     with_reducible rfl
    rotate_left
    ·simp only [Act.put, List.setIfInBounds_toArray, List.set_cons_zero, List.set_cons_succ, i64_w, i32_w]
     rfl
    refine one_ (i := 23) (N := some 18) (fl 26 16777215) rfl rfl (one_of HT_.out (by kernel_rfl)) (by decide) (fun K hK => ?_)
    refine box_step ?hg (N := 18) ?hd (cs := #[.int .i64 0, .int .i64 0]) (t := 38) ?hr ?_; (case hd => rfl); (case hg => rfl); (case hr => first | (go_simp; done) | (go_simp; rfl))
    intro gb247 hg w50 hbox hb
    have n0_ := Aside0.mk (blk_below (g := gb231) (o := .cells #[.int .i64 a0_0, .int .i64 a0_1] 38 (0, 0)) (by (with_reducible repeat (first | refine blk_drewN ?_ _ | refine blk_drew ?_ | refine blk_alloc ?_ _)); exact BK231.out) hb)
    have n1_ := Aside0.mk (blk_below (g := gb232) (o := .cells #[.int .i64 a1_0, .int .i64 a1_1] 38 (0, 0)) (by (with_reducible repeat (first | refine blk_drewN ?_ _ | refine blk_drew ?_ | refine blk_alloc ?_ _)); exact BK232.out) hb)
    have n2_ := Aside0.mk (blk_below (g := gb233) (o := .cells #[.int .i64 a2_0, .int .i64 a2_1] 38 (0, 0)) (by (with_reducible repeat (first | refine blk_drewN ?_ _ | refine blk_drew ?_ | refine blk_alloc ?_ _)); exact BK233.out) hb)
    have n3_ := Aside0.mk (blk_below (g := gb234) (o := .cells #[.int .i64 0, .int .i64 0] 38 (0, 0)) (by (with_reducible repeat (first | refine blk_drewN ?_ _ | refine blk_drew ?_ | refine blk_alloc ?_ _)); exact BK234.out) hb)
    have n4_ := Aside0.mk (blk_below (g := gb235) (o := .cells #[.int .i64 0, .int .i64 0] 38 (0, 0)) (by (with_reducible repeat (first | refine blk_drewN ?_ _ | refine blk_drew ?_ | refine blk_alloc ?_ _)); exact BK235.out) hb)
    have n5_ := Aside0.mk (blk_below (g := gb239) (o := .cells #[.int .i64 t236, .int .i64 t237] 38 (0, 0)) (by (with_reducible repeat (first | refine blk_drewN ?_ _ | refine blk_drew ?_ | refine blk_alloc ?_ _)); exact BK239.out) hb)
    have n6_ := Aside0.mk (blk_below (g := gb243) (o := .cells #[.int .i64 t240, .int .i64 t241] 38 (0, 0)) (by (with_reducible repeat (first | refine blk_drewN ?_ _ | refine blk_drew ?_ | refine blk_alloc ?_ _)); exact BK243.out) hb)
    have n7_ := Aside0.mk (below_step (by repeat (first | (with_reducible first | exact HB.out | apply below_alloc | apply pw_below_drewN | apply below_drew1 | refine below_set ?_ GE231.out | refine below_set ?_ GE232.out | refine below_set ?_ GE233.out | refine below_set ?_ GE234.out | refine below_set ?_ GE235.out | refine below_set ?_ GE239.out | refine below_set ?_ GE243.out) | exact HB.out)) hb)
    have n8_ := Aside0.mk (hbox)
    have n9_ := Aside0.mk ((by rw [hg]; exact (below_size (by repeat (first | (with_reducible first | exact HB.out | apply below_alloc | apply pw_below_drewN | apply below_drew1 | refine below_set ?_ GE231.out | refine below_set ?_ GE232.out | refine below_set ?_ GE233.out | refine below_set ?_ GE234.out | refine below_set ?_ GE235.out | refine below_set ?_ GE239.out | refine below_set ?_ GE243.out) | exact HB.out))) : w.heap.size ≤ gb247))
    have n10_ := Aside0.mk ((by rw [hg]; exact (below_size (by repeat (first | (with_reducible first | exact HB.out | apply below_alloc | apply pw_below_drewN | apply below_drew1 | refine below_set ?_ GE231.out | refine below_set ?_ GE232.out | refine below_set ?_ GE233.out | refine below_set ?_ GE234.out | refine below_set ?_ GE235.out | refine below_set ?_ GE239.out | refine below_set ?_ GE243.out) | exact HB.out))) : w.heap.size ≤ gb247))
    have n11_ := Aside0.mk ((by rw [hg]; exact Nat.ne_of_lt (blk_lt (g := gb231) (o := .cells #[.int .i64 a0_0, .int .i64 a0_1] 38 (0, 0)) (by (with_reducible repeat (first | refine blk_drewN ?_ _ | refine blk_drew ?_ | refine blk_alloc ?_ _)); exact BK231.out)) : gb231 ≠ gb247))
    have n12_ := Aside0.mk ((by rw [hg]; exact Nat.ne_of_gt (blk_lt (g := gb231) (o := .cells #[.int .i64 a0_0, .int .i64 a0_1] 38 (0, 0)) (by (with_reducible repeat (first | refine blk_drewN ?_ _ | refine blk_drew ?_ | refine blk_alloc ?_ _)); exact BK231.out)) : gb247 ≠ gb231))
    have n13_ := Aside0.mk ((by rw [hg]; exact Nat.ne_of_lt (blk_lt (g := gb232) (o := .cells #[.int .i64 a1_0, .int .i64 a1_1] 38 (0, 0)) (by (with_reducible repeat (first | refine blk_drewN ?_ _ | refine blk_drew ?_ | refine blk_alloc ?_ _)); exact BK232.out)) : gb232 ≠ gb247))
    have n14_ := Aside0.mk ((by rw [hg]; exact Nat.ne_of_gt (blk_lt (g := gb232) (o := .cells #[.int .i64 a1_0, .int .i64 a1_1] 38 (0, 0)) (by (with_reducible repeat (first | refine blk_drewN ?_ _ | refine blk_drew ?_ | refine blk_alloc ?_ _)); exact BK232.out)) : gb247 ≠ gb232))
    have n15_ := Aside0.mk ((by rw [hg]; exact Nat.ne_of_lt (blk_lt (g := gb233) (o := .cells #[.int .i64 a2_0, .int .i64 a2_1] 38 (0, 0)) (by (with_reducible repeat (first | refine blk_drewN ?_ _ | refine blk_drew ?_ | refine blk_alloc ?_ _)); exact BK233.out)) : gb233 ≠ gb247))
    have n16_ := Aside0.mk ((by rw [hg]; exact Nat.ne_of_gt (blk_lt (g := gb233) (o := .cells #[.int .i64 a2_0, .int .i64 a2_1] 38 (0, 0)) (by (with_reducible repeat (first | refine blk_drewN ?_ _ | refine blk_drew ?_ | refine blk_alloc ?_ _)); exact BK233.out)) : gb247 ≠ gb233))
    have n17_ := Aside0.mk ((by rw [hg]; exact Nat.ne_of_lt (blk_lt (g := gb234) (o := .cells #[.int .i64 0, .int .i64 0] 38 (0, 0)) (by (with_reducible repeat (first | refine blk_drewN ?_ _ | refine blk_drew ?_ | refine blk_alloc ?_ _)); exact BK234.out)) : gb234 ≠ gb247))
    have n18_ := Aside0.mk ((by rw [hg]; exact Nat.ne_of_gt (blk_lt (g := gb234) (o := .cells #[.int .i64 0, .int .i64 0] 38 (0, 0)) (by (with_reducible repeat (first | refine blk_drewN ?_ _ | refine blk_drew ?_ | refine blk_alloc ?_ _)); exact BK234.out)) : gb247 ≠ gb234))
    have n19_ := Aside0.mk ((by rw [hg]; exact Nat.ne_of_lt (blk_lt (g := gb235) (o := .cells #[.int .i64 0, .int .i64 0] 38 (0, 0)) (by (with_reducible repeat (first | refine blk_drewN ?_ _ | refine blk_drew ?_ | refine blk_alloc ?_ _)); exact BK235.out)) : gb235 ≠ gb247))
    have n20_ := Aside0.mk ((by rw [hg]; exact Nat.ne_of_gt (blk_lt (g := gb235) (o := .cells #[.int .i64 0, .int .i64 0] 38 (0, 0)) (by (with_reducible repeat (first | refine blk_drewN ?_ _ | refine blk_drew ?_ | refine blk_alloc ?_ _)); exact BK235.out)) : gb247 ≠ gb235))
    have n21_ := Aside0.mk ((by rw [hg]; exact Nat.ne_of_lt (blk_lt (g := gb239) (o := .cells #[.int .i64 t236, .int .i64 t237] 38 (0, 0)) (by (with_reducible repeat (first | refine blk_drewN ?_ _ | refine blk_drew ?_ | refine blk_alloc ?_ _)); exact BK239.out)) : gb239 ≠ gb247))
    have n22_ := Aside0.mk ((by rw [hg]; exact Nat.ne_of_gt (blk_lt (g := gb239) (o := .cells #[.int .i64 t236, .int .i64 t237] 38 (0, 0)) (by (with_reducible repeat (first | refine blk_drewN ?_ _ | refine blk_drew ?_ | refine blk_alloc ?_ _)); exact BK239.out)) : gb247 ≠ gb239))
    have n23_ := Aside0.mk ((by rw [hg]; exact Nat.ne_of_lt (blk_lt (g := gb243) (o := .cells #[.int .i64 t240, .int .i64 t241] 38 (0, 0)) (by (with_reducible repeat (first | refine blk_drewN ?_ _ | refine blk_drew ?_ | refine blk_alloc ?_ _)); exact BK243.out)) : gb243 ≠ gb247))
    have n24_ := Aside0.mk ((by rw [hg]; exact Nat.ne_of_gt (blk_lt (g := gb243) (o := .cells #[.int .i64 t240, .int .i64 t241] 38 (0, 0)) (by (with_reducible repeat (first | refine blk_drewN ?_ _ | refine blk_drew ?_ | refine blk_alloc ?_ _)); exact BK243.out)) : gb247 ≠ gb243))
    clear BK231
    clear BK232
    clear BK233
    clear BK234
    clear BK235
    clear BK239
    clear BK243
    clear HB
    have BK231 := n0_
    have BK232 := n1_
    have BK233 := n2_
    have BK234 := n3_
    have BK235 := n4_
    have BK239 := n5_
    have BK243 := n6_
    have HB := n7_
    have BK247 := n8_
    have GW247 := n9_
    have GE247 := n10_
    have NB231_247 := n11_
    have NB247_231 := n12_
    have NB232_247 := n13_
    have NB247_232 := n14_
    have NB233_247 := n15_
    have NB247_233 := n16_
    have NB234_247 := n17_
    have NB247_234 := n18_
    have NB235_247 := n19_
    have NB247_235 := n20_
    have NB239_247 := n21_
    have NB247_239 := n22_
    have NB243_247 := n23_
    have NB247_243 := n24_
    clear n0_ n1_ n2_ n3_ n4_ n5_ n6_ n7_ n8_ n9_ n10_ n11_ n12_ n13_ n14_ n15_ n16_ n17_ n18_ n19_ n20_ n21_ n22_ n23_ n24_
    clear hb hbox hg
    refine hK.out _ _ ⟨(blk_cell BK231.out 0).trans rfl, (blk_cell BK231.out 1).trans rfl, (blk_cell BK239.out 0).trans rfl, (blk_cell BK239.out 1).trans rfl⟩ (fun hHeld => ?_)
    clear hK K
    refine norm_ (a' := ?_) ?_ ?_
    rotate_left
    ·show Act.put _ (some 18) _ = _
     simp only [Act.put, List.setIfInBounds_toArray, List.set_cons_zero, List.set_cons_succ, i64_w, i32_w]
     rfl
    exact norm_ (by simp only [putAll, Act.put, List.setIfInBounds_toArray, List.set_cons_zero, List.set_cons_succ]) (hCont (gb247) _ ⟨hHeld, (by (with_reducible repeat (first | refine blk_drewN ?_ _ | refine blk_drew ?_ | refine blk_alloc ?_ _)); exact BK231.out), (by (with_reducible repeat (first | refine blk_drewN ?_ _ | refine blk_drew ?_ | refine blk_alloc ?_ _)); exact BK232.out), (by (with_reducible repeat (first | refine blk_drewN ?_ _ | refine blk_drew ?_ | refine blk_alloc ?_ _)); exact BK233.out), (by (with_reducible repeat (first | refine blk_drewN ?_ _ | refine blk_drew ?_ | refine blk_alloc ?_ _)); exact BK234.out), (by (with_reducible repeat (first | refine blk_drewN ?_ _ | refine blk_drew ?_ | refine blk_alloc ?_ _)); exact BK235.out), (by (with_reducible repeat (first | refine blk_drewN ?_ _ | refine blk_drew ?_ | refine blk_alloc ?_ _)); exact BK239.out), (by (with_reducible repeat (first | refine blk_drewN ?_ _ | refine blk_drew ?_ | refine blk_alloc ?_ _)); exact BK243.out), (by (with_reducible repeat (first | refine blk_drewN ?_ _ | refine blk_drew ?_ | refine blk_alloc ?_ _)); exact BK247.out), GW247.out, GE247.out, NB231_247.out, NB247_231.out, NB232_247.out, NB247_232.out, NB233_247.out, NB247_233.out, NB234_247.out, NB247_234.out, NB235_247.out, NB247_235.out, NB239_247.out, NB247_239.out, NB243_247.out, NB247_243.out, (by repeat (first | (with_reducible first | exact HB.out | apply below_alloc | apply pw_below_drewN | apply below_drew1 | refine below_set ?_ GE231.out | refine below_set ?_ GE232.out | refine below_set ?_ GE233.out | refine below_set ?_ GE234.out | refine below_set ?_ GE235.out | refine below_set ?_ GE239.out | refine below_set ?_ GE243.out | refine below_set ?_ GE247.out) | exact HB.out))⟩)
   ·skip
    refine box_step ?hg (N := 18) ?hd (cs := #[.int .i64 0, .int .i64 0]) (t := 38) ?hr ?_; (case hd => rfl); (case hg => rfl); (case hr => first | (go_simp; done) | (go_simp; rfl))
    intro gb247 hg w49 hbox hb
    have n0_ := Aside0.mk (blk_below (g := gb231) (o := .cells #[.int .i64 a0_0, .int .i64 a0_1] 38 (0, 0)) (by (with_reducible repeat (first | refine blk_drewN ?_ _ | refine blk_drew ?_ | refine blk_alloc ?_ _)); exact BK231.out) hb)
    have n1_ := Aside0.mk (blk_below (g := gb232) (o := .cells #[.int .i64 a1_0, .int .i64 a1_1] 38 (0, 0)) (by (with_reducible repeat (first | refine blk_drewN ?_ _ | refine blk_drew ?_ | refine blk_alloc ?_ _)); exact BK232.out) hb)
    have n2_ := Aside0.mk (blk_below (g := gb233) (o := .cells #[.int .i64 a2_0, .int .i64 a2_1] 38 (0, 0)) (by (with_reducible repeat (first | refine blk_drewN ?_ _ | refine blk_drew ?_ | refine blk_alloc ?_ _)); exact BK233.out) hb)
    have n3_ := Aside0.mk (blk_below (g := gb234) (o := .cells #[.int .i64 0, .int .i64 0] 38 (0, 0)) (by (with_reducible repeat (first | refine blk_drewN ?_ _ | refine blk_drew ?_ | refine blk_alloc ?_ _)); exact BK234.out) hb)
    have n4_ := Aside0.mk (blk_below (g := gb235) (o := .cells #[.int .i64 0, .int .i64 0] 38 (0, 0)) (by (with_reducible repeat (first | refine blk_drewN ?_ _ | refine blk_drew ?_ | refine blk_alloc ?_ _)); exact BK235.out) hb)
    have n5_ := Aside0.mk (blk_below (g := gb239) (o := .cells #[.int .i64 t236, .int .i64 t237] 38 (0, 0)) (by (with_reducible repeat (first | refine blk_drewN ?_ _ | refine blk_drew ?_ | refine blk_alloc ?_ _)); exact BK239.out) hb)
    have n6_ := Aside0.mk (blk_below (g := gb243) (o := .cells #[.int .i64 t240, .int .i64 t241] 38 (0, 0)) (by (with_reducible repeat (first | refine blk_drewN ?_ _ | refine blk_drew ?_ | refine blk_alloc ?_ _)); exact BK243.out) hb)
    have n7_ := Aside0.mk (below_step (by repeat (first | (with_reducible first | exact HB.out | apply below_alloc | apply pw_below_drewN | apply below_drew1 | refine below_set ?_ GE231.out | refine below_set ?_ GE232.out | refine below_set ?_ GE233.out | refine below_set ?_ GE234.out | refine below_set ?_ GE235.out | refine below_set ?_ GE239.out | refine below_set ?_ GE243.out) | exact HB.out)) hb)
    have n8_ := Aside0.mk (hbox)
    have n9_ := Aside0.mk ((by rw [hg]; exact (below_size (by repeat (first | (with_reducible first | exact HB.out | apply below_alloc | apply pw_below_drewN | apply below_drew1 | refine below_set ?_ GE231.out | refine below_set ?_ GE232.out | refine below_set ?_ GE233.out | refine below_set ?_ GE234.out | refine below_set ?_ GE235.out | refine below_set ?_ GE239.out | refine below_set ?_ GE243.out) | exact HB.out))) : w.heap.size ≤ gb247))
    have n10_ := Aside0.mk ((by rw [hg]; exact (below_size (by repeat (first | (with_reducible first | exact HB.out | apply below_alloc | apply pw_below_drewN | apply below_drew1 | refine below_set ?_ GE231.out | refine below_set ?_ GE232.out | refine below_set ?_ GE233.out | refine below_set ?_ GE234.out | refine below_set ?_ GE235.out | refine below_set ?_ GE239.out | refine below_set ?_ GE243.out) | exact HB.out))) : w.heap.size ≤ gb247))
    have n11_ := Aside0.mk ((by rw [hg]; exact Nat.ne_of_lt (blk_lt (g := gb231) (o := .cells #[.int .i64 a0_0, .int .i64 a0_1] 38 (0, 0)) (by (with_reducible repeat (first | refine blk_drewN ?_ _ | refine blk_drew ?_ | refine blk_alloc ?_ _)); exact BK231.out)) : gb231 ≠ gb247))
    have n12_ := Aside0.mk ((by rw [hg]; exact Nat.ne_of_gt (blk_lt (g := gb231) (o := .cells #[.int .i64 a0_0, .int .i64 a0_1] 38 (0, 0)) (by (with_reducible repeat (first | refine blk_drewN ?_ _ | refine blk_drew ?_ | refine blk_alloc ?_ _)); exact BK231.out)) : gb247 ≠ gb231))
    have n13_ := Aside0.mk ((by rw [hg]; exact Nat.ne_of_lt (blk_lt (g := gb232) (o := .cells #[.int .i64 a1_0, .int .i64 a1_1] 38 (0, 0)) (by (with_reducible repeat (first | refine blk_drewN ?_ _ | refine blk_drew ?_ | refine blk_alloc ?_ _)); exact BK232.out)) : gb232 ≠ gb247))
    have n14_ := Aside0.mk ((by rw [hg]; exact Nat.ne_of_gt (blk_lt (g := gb232) (o := .cells #[.int .i64 a1_0, .int .i64 a1_1] 38 (0, 0)) (by (with_reducible repeat (first | refine blk_drewN ?_ _ | refine blk_drew ?_ | refine blk_alloc ?_ _)); exact BK232.out)) : gb247 ≠ gb232))
    have n15_ := Aside0.mk ((by rw [hg]; exact Nat.ne_of_lt (blk_lt (g := gb233) (o := .cells #[.int .i64 a2_0, .int .i64 a2_1] 38 (0, 0)) (by (with_reducible repeat (first | refine blk_drewN ?_ _ | refine blk_drew ?_ | refine blk_alloc ?_ _)); exact BK233.out)) : gb233 ≠ gb247))
    have n16_ := Aside0.mk ((by rw [hg]; exact Nat.ne_of_gt (blk_lt (g := gb233) (o := .cells #[.int .i64 a2_0, .int .i64 a2_1] 38 (0, 0)) (by (with_reducible repeat (first | refine blk_drewN ?_ _ | refine blk_drew ?_ | refine blk_alloc ?_ _)); exact BK233.out)) : gb247 ≠ gb233))
    have n17_ := Aside0.mk ((by rw [hg]; exact Nat.ne_of_lt (blk_lt (g := gb234) (o := .cells #[.int .i64 0, .int .i64 0] 38 (0, 0)) (by (with_reducible repeat (first | refine blk_drewN ?_ _ | refine blk_drew ?_ | refine blk_alloc ?_ _)); exact BK234.out)) : gb234 ≠ gb247))
    have n18_ := Aside0.mk ((by rw [hg]; exact Nat.ne_of_gt (blk_lt (g := gb234) (o := .cells #[.int .i64 0, .int .i64 0] 38 (0, 0)) (by (with_reducible repeat (first | refine blk_drewN ?_ _ | refine blk_drew ?_ | refine blk_alloc ?_ _)); exact BK234.out)) : gb247 ≠ gb234))
    have n19_ := Aside0.mk ((by rw [hg]; exact Nat.ne_of_lt (blk_lt (g := gb235) (o := .cells #[.int .i64 0, .int .i64 0] 38 (0, 0)) (by (with_reducible repeat (first | refine blk_drewN ?_ _ | refine blk_drew ?_ | refine blk_alloc ?_ _)); exact BK235.out)) : gb235 ≠ gb247))
    have n20_ := Aside0.mk ((by rw [hg]; exact Nat.ne_of_gt (blk_lt (g := gb235) (o := .cells #[.int .i64 0, .int .i64 0] 38 (0, 0)) (by (with_reducible repeat (first | refine blk_drewN ?_ _ | refine blk_drew ?_ | refine blk_alloc ?_ _)); exact BK235.out)) : gb247 ≠ gb235))
    have n21_ := Aside0.mk ((by rw [hg]; exact Nat.ne_of_lt (blk_lt (g := gb239) (o := .cells #[.int .i64 t236, .int .i64 t237] 38 (0, 0)) (by (with_reducible repeat (first | refine blk_drewN ?_ _ | refine blk_drew ?_ | refine blk_alloc ?_ _)); exact BK239.out)) : gb239 ≠ gb247))
    have n22_ := Aside0.mk ((by rw [hg]; exact Nat.ne_of_gt (blk_lt (g := gb239) (o := .cells #[.int .i64 t236, .int .i64 t237] 38 (0, 0)) (by (with_reducible repeat (first | refine blk_drewN ?_ _ | refine blk_drew ?_ | refine blk_alloc ?_ _)); exact BK239.out)) : gb247 ≠ gb239))
    have n23_ := Aside0.mk ((by rw [hg]; exact Nat.ne_of_lt (blk_lt (g := gb243) (o := .cells #[.int .i64 t240, .int .i64 t241] 38 (0, 0)) (by (with_reducible repeat (first | refine blk_drewN ?_ _ | refine blk_drew ?_ | refine blk_alloc ?_ _)); exact BK243.out)) : gb243 ≠ gb247))
    have n24_ := Aside0.mk ((by rw [hg]; exact Nat.ne_of_gt (blk_lt (g := gb243) (o := .cells #[.int .i64 t240, .int .i64 t241] 38 (0, 0)) (by (with_reducible repeat (first | refine blk_drewN ?_ _ | refine blk_drew ?_ | refine blk_alloc ?_ _)); exact BK243.out)) : gb247 ≠ gb243))
    clear BK231
    clear BK232
    clear BK233
    clear BK234
    clear BK235
    clear BK239
    clear BK243
    clear HB
    have BK231 := n0_
    have BK232 := n1_
    have BK233 := n2_
    have BK234 := n3_
    have BK235 := n4_
    have BK239 := n5_
    have BK243 := n6_
    have HB := n7_
    have BK247 := n8_
    have GW247 := n9_
    have GE247 := n10_
    have NB231_247 := n11_
    have NB247_231 := n12_
    have NB232_247 := n13_
    have NB247_232 := n14_
    have NB233_247 := n15_
    have NB247_233 := n16_
    have NB234_247 := n17_
    have NB247_234 := n18_
    have NB235_247 := n19_
    have NB247_235 := n20_
    have NB239_247 := n21_
    have NB247_239 := n22_
    have NB243_247 := n23_
    have NB247_243 := n24_
    clear n0_ n1_ n2_ n3_ n4_ n5_ n6_ n7_ n8_ n9_ n10_ n11_ n12_ n13_ n14_ n15_ n16_ n17_ n18_ n19_ n20_ n21_ n22_ n23_ n24_
    clear hb hbox hg
    refine hK.out _ _ ⟨(blk_cell BK231.out 0).trans rfl, (blk_cell BK231.out 1).trans rfl, (blk_cell BK239.out 0).trans rfl, (blk_cell BK239.out 1).trans rfl⟩ (fun hHeld => ?_)
    clear hK K
    refine norm_ (a' := ?_) ?_ ?_
    rotate_left
    ·show Act.put _ (some 18) _ = _
     simp only [Act.put, List.setIfInBounds_toArray, List.set_cons_zero, List.set_cons_succ, i64_w, i32_w]
     rfl
    refine one_ (i := 19) (N := some 69) (fl 26 9437183) rfl rfl (one_of HT_.out (by kernel_rfl)) (by decide) (fun K hK => ?_)
    refine goes_ Tryz.func70 (by kernel_rfl) rfl #[.agg #[.int .i64 (wrap64 ((ji9) - t236)), .int .i64 (wrap64 ((ji11) - t237))], .int .i64 (wrap64 (a3 + a4)), .int .i64 a5] (by rfl) rfl rfl (by (try simp only [List.map_toArray, List.map_cons, List.map_nil]); first | done | (simp only [hji11, hji9]; rfl) | rfl | (simp only [List.length_drop, List.length_take]; rfl)) ?_
    with_reducible refine (cx_Shift.calls (wrap64 ((ji9) - t236)) (wrap64 ((ji11) - t237)) (wrap64 (a3 + a4)) a5 t244 t245 t246 _ A17.out).mono ?_
    rintro e w50 ⟨rfl, hb⟩
    refine ⟨_, rfl, ?_⟩
    have n0_ := Aside0.mk (blk_below (g := gb231) (o := .cells #[.int .i64 a0_0, .int .i64 a0_1] 38 (0, 0)) (by (with_reducible repeat (first | refine blk_drewN ?_ _ | refine blk_drew ?_ | refine blk_alloc ?_ _)); exact BK231.out) hb)
    have n1_ := Aside0.mk (blk_below (g := gb232) (o := .cells #[.int .i64 a1_0, .int .i64 a1_1] 38 (0, 0)) (by (with_reducible repeat (first | refine blk_drewN ?_ _ | refine blk_drew ?_ | refine blk_alloc ?_ _)); exact BK232.out) hb)
    have n2_ := Aside0.mk (blk_below (g := gb233) (o := .cells #[.int .i64 a2_0, .int .i64 a2_1] 38 (0, 0)) (by (with_reducible repeat (first | refine blk_drewN ?_ _ | refine blk_drew ?_ | refine blk_alloc ?_ _)); exact BK233.out) hb)
    have n3_ := Aside0.mk (blk_below (g := gb234) (o := .cells #[.int .i64 0, .int .i64 0] 38 (0, 0)) (by (with_reducible repeat (first | refine blk_drewN ?_ _ | refine blk_drew ?_ | refine blk_alloc ?_ _)); exact BK234.out) hb)
    have n4_ := Aside0.mk (blk_below (g := gb235) (o := .cells #[.int .i64 0, .int .i64 0] 38 (0, 0)) (by (with_reducible repeat (first | refine blk_drewN ?_ _ | refine blk_drew ?_ | refine blk_alloc ?_ _)); exact BK235.out) hb)
    have n5_ := Aside0.mk (blk_below (g := gb239) (o := .cells #[.int .i64 t236, .int .i64 t237] 38 (0, 0)) (by (with_reducible repeat (first | refine blk_drewN ?_ _ | refine blk_drew ?_ | refine blk_alloc ?_ _)); exact BK239.out) hb)
    have n6_ := Aside0.mk (blk_below (g := gb243) (o := .cells #[.int .i64 t240, .int .i64 t241] 38 (0, 0)) (by (with_reducible repeat (first | refine blk_drewN ?_ _ | refine blk_drew ?_ | refine blk_alloc ?_ _)); exact BK243.out) hb)
    have n7_ := Aside0.mk (blk_below (g := gb247) (o := .cells #[.int .i64 0, .int .i64 0] 38 (0, 0)) (by (with_reducible repeat (first | refine blk_drewN ?_ _ | refine blk_drew ?_ | refine blk_alloc ?_ _)); exact BK247.out) hb)
    have n8_ := Aside0.mk (below_step (by repeat (first | (with_reducible first | exact HB.out | apply below_alloc | apply pw_below_drewN | apply below_drew1 | refine below_set ?_ GE231.out | refine below_set ?_ GE232.out | refine below_set ?_ GE233.out | refine below_set ?_ GE234.out | refine below_set ?_ GE235.out | refine below_set ?_ GE239.out | refine below_set ?_ GE243.out | refine below_set ?_ GE247.out) | exact HB.out)) hb)
    clear BK231
    clear BK232
    clear BK233
    clear BK234
    clear BK235
    clear BK239
    clear BK243
    clear BK247
    clear HB
    have BK231 := n0_
    have BK232 := n1_
    have BK233 := n2_
    have BK234 := n3_
    have BK235 := n4_
    have BK239 := n5_
    have BK243 := n6_
    have BK247 := n7_
    have HB := n8_
    clear n0_ n1_ n2_ n3_ n4_ n5_ n6_ n7_ n8_
    (try clear hb)
    (try clear hb2)
    (try clear hk)
    (try clear hi)
    refine hK.out _ _ ⟨(blk_cell BK231.out 0).trans rfl, (blk_cell BK231.out 1).trans rfl, (blk_cell BK239.out 0).trans rfl, (blk_cell BK239.out 1).trans rfl⟩ (fun hHeld => ?_)
    clear hK K
    refine norm_ (a' := ?_) ?_ ?_
    rotate_left
    ·show Act.put _ (some 69) _ = _
     simp only [Act.put, List.setIfInBounds_toArray, List.set_cons_zero, List.set_cons_succ, i64_w, i32_w]
     rfl
    refine pure_ (i := 20) (N := some 49) (v := ?_) (a' := ?_) (fl 26 10485759) rfl rfl (any_of HT_.out (by kernel_rfl)) (fun _ _ _ h => h) (Or.inl ⟨by rfl, ?_⟩) ?_ ?_
    rotate_left
    ·intro w'
     go_simp
     with_reducible rfl
    rotate_left
    ·simp only [Act.put, List.setIfInBounds_toArray, List.set_cons_zero, List.set_cons_succ, i64_w, i32_w]
     rfl
    refine pure_ (i := 21) (N := some 70) (v := ?_) (a' := ?_) (fl 26 12582911) rfl rfl (any_of HT_.out (by kernel_rfl)) (fun _ _ _ h => h) (Or.inl ⟨by rfl, ?_⟩) ?_ ?_
    rotate_left
    ·intro w'
     go_simp
     with_reducible rfl
    rotate_left
    ·simp only [Act.put, List.setIfInBounds_toArray, List.set_cons_zero, List.set_cons_succ, i64_w, i32_w]
     rfl
    refine pure_ (i := 22) (N := some 71) (v := ?_) (a' := ?_) (fl 26 16777215) rfl rfl (any_of HT_.out (by kernel_rfl)) (fun _ _ _ h => h) (Or.inl ⟨by rfl, ?_⟩) ?_ ?_
    rotate_left
    ·intro w'
     go_simp
     with_reducible rfl
    rotate_left
    ·simp only [Act.put, List.setIfInBounds_toArray, List.set_cons_zero, List.set_cons_succ, i64_w, i32_w]
     rfl
    exact norm_ (by simp only [putAll, Act.put, List.setIfInBounds_toArray, List.set_cons_zero, List.set_cons_succ]) (hCont (gb247) _ ⟨hHeld, (by (with_reducible repeat (first | refine blk_drewN ?_ _ | refine blk_drew ?_ | refine blk_alloc ?_ _)); exact BK231.out), (by (with_reducible repeat (first | refine blk_drewN ?_ _ | refine blk_drew ?_ | refine blk_alloc ?_ _)); exact BK232.out), (by (with_reducible repeat (first | refine blk_drewN ?_ _ | refine blk_drew ?_ | refine blk_alloc ?_ _)); exact BK233.out), (by (with_reducible repeat (first | refine blk_drewN ?_ _ | refine blk_drew ?_ | refine blk_alloc ?_ _)); exact BK234.out), (by (with_reducible repeat (first | refine blk_drewN ?_ _ | refine blk_drew ?_ | refine blk_alloc ?_ _)); exact BK235.out), (by (with_reducible repeat (first | refine blk_drewN ?_ _ | refine blk_drew ?_ | refine blk_alloc ?_ _)); exact BK239.out), (by (with_reducible repeat (first | refine blk_drewN ?_ _ | refine blk_drew ?_ | refine blk_alloc ?_ _)); exact BK243.out), (by (with_reducible repeat (first | refine blk_drewN ?_ _ | refine blk_drew ?_ | refine blk_alloc ?_ _)); exact BK247.out), GW247.out, GE247.out, NB231_247.out, NB247_231.out, NB232_247.out, NB247_232.out, NB233_247.out, NB247_233.out, NB234_247.out, NB247_234.out, NB235_247.out, NB247_235.out, NB239_247.out, NB247_239.out, NB243_247.out, NB247_243.out, (by repeat (first | (with_reducible first | exact HB.out | apply below_alloc | apply pw_below_drewN | apply below_drew1 | refine below_set ?_ GE231.out | refine below_set ?_ GE232.out | refine below_set ?_ GE233.out | refine below_set ?_ GE234.out | refine below_set ?_ GE235.out | refine below_set ?_ GE239.out | refine below_set ?_ GE243.out | refine below_set ?_ GE247.out) | exact HB.out))⟩)
  rintro gb247 w51 ⟨hS_, h0_, h1_, h2_, h3_, h4_, h5_, h6_, h7_, h8_, h9_, h10_, h11_, h12_, h13_, h14_, h15_, h16_, h17_, h18_, h19_, h20_, h21_, h22_, h23_, h24_⟩
  have n0_ : Aside0 (w51.heap[gb231]? = some (.cells #[.int .i64 a0_0, .int .i64 a0_1] 38 (0, 0))) := ⟨h0_⟩
  have n1_ : Aside0 (w51.heap[gb232]? = some (.cells #[.int .i64 a1_0, .int .i64 a1_1] 38 (0, 0))) := ⟨h1_⟩
  have n2_ : Aside0 (w51.heap[gb233]? = some (.cells #[.int .i64 a2_0, .int .i64 a2_1] 38 (0, 0))) := ⟨h2_⟩
  have n3_ : Aside0 (w51.heap[gb234]? = some (.cells #[.int .i64 0, .int .i64 0] 38 (0, 0))) := ⟨h3_⟩
  have n4_ : Aside0 (w51.heap[gb235]? = some (.cells #[.int .i64 0, .int .i64 0] 38 (0, 0))) := ⟨h4_⟩
  have n5_ : Aside0 (w51.heap[gb239]? = some (.cells #[.int .i64 t236, .int .i64 t237] 38 (0, 0))) := ⟨h5_⟩
  have n6_ : Aside0 (w51.heap[gb243]? = some (.cells #[.int .i64 t240, .int .i64 t241] 38 (0, 0))) := ⟨h6_⟩
  have n7_ : Aside0 (w51.heap[gb247]? = some (.cells #[.int .i64 0, .int .i64 0] 38 (0, 0))) := ⟨h7_⟩
  have n8_ : Aside0 (w.heap.size ≤ gb247) := ⟨h8_⟩
  have n9_ : Aside0 (w.heap.size ≤ gb247) := ⟨h9_⟩
  have n10_ : Aside0 (gb231 ≠ gb247) := ⟨h10_⟩
  have n11_ : Aside0 (gb247 ≠ gb231) := ⟨h11_⟩
  have n12_ : Aside0 (gb232 ≠ gb247) := ⟨h12_⟩
  have n13_ : Aside0 (gb247 ≠ gb232) := ⟨h13_⟩
  have n14_ : Aside0 (gb233 ≠ gb247) := ⟨h14_⟩
  have n15_ : Aside0 (gb247 ≠ gb233) := ⟨h15_⟩
  have n16_ : Aside0 (gb234 ≠ gb247) := ⟨h16_⟩
  have n17_ : Aside0 (gb247 ≠ gb234) := ⟨h17_⟩
  have n18_ : Aside0 (gb235 ≠ gb247) := ⟨h18_⟩
  have n19_ : Aside0 (gb247 ≠ gb235) := ⟨h19_⟩
  have n20_ : Aside0 (gb239 ≠ gb247) := ⟨h20_⟩
  have n21_ : Aside0 (gb247 ≠ gb239) := ⟨h21_⟩
  have n22_ : Aside0 (gb243 ≠ gb247) := ⟨h22_⟩
  have n23_ : Aside0 (gb247 ≠ gb243) := ⟨h23_⟩
  have n24_ : Aside0 (Below w.heap.size w w51) := ⟨h24_⟩
  clear BK231
  clear BK232
  clear BK233
  clear BK234
  clear BK235
  clear BK239
  clear BK243
  clear HB
  clear h0_ h1_ h2_ h3_ h4_ h5_ h6_ h7_ h8_ h9_ h10_ h11_ h12_ h13_ h14_ h15_ h16_ h17_ h18_ h19_ h20_ h21_ h22_ h23_ h24_
  have BK231 := n0_
  have BK232 := n1_
  have BK233 := n2_
  have BK234 := n3_
  have BK235 := n4_
  have BK239 := n5_
  have BK243 := n6_
  have BK247 := n7_
  have GW247 := n8_
  have GE247 := n9_
  have NB231_247 := n10_
  have NB247_231 := n11_
  have NB232_247 := n12_
  have NB247_232 := n13_
  have NB233_247 := n14_
  have NB247_233 := n15_
  have NB234_247 := n16_
  have NB247_234 := n17_
  have NB235_247 := n18_
  have NB247_235 := n19_
  have NB239_247 := n20_
  have NB247_239 := n21_
  have NB243_247 := n22_
  have NB247_243 := n23_
  have HB := n24_
  clear n0_ n1_ n2_ n3_ n4_ n5_ n6_ n7_ n8_ n9_ n10_ n11_ n12_ n13_ n14_ n15_ n16_ n17_ n18_ n19_ n20_ n21_ n22_ n23_ n24_
  have hHeld : w51.cell? ⟨gb231, 0, none⟩ = some (.int .i64 a0_0) ∧ w51.cell? ⟨gb231, 1, none⟩ = some (.int .i64 a0_1) ∧ w51.cell? ⟨gb239, 0, none⟩ = some (.int .i64 t236) ∧ w51.cell? ⟨gb239, 1, none⟩ = some (.int .i64 t237) := hS_
  refine norm_ (a' := ?_) ?_ ?_
  rotate_left
  ·simp only [putAll, Act.put, List.setIfInBounds_toArray, List.set_cons_zero, List.set_cons_succ]
   rfl
  refine one_ (i := 24) (N := none) (fl 26 33554431) rfl rfl (one_of HT_.out (by kernel_rfl)) (by decide) (fun K hK => ?_)
  have hs52 : w51.cell? ⟨gb247, 0, none⟩ = some (.int .i64 0) := (blk_cell BK247.out 0).trans rfl
  have hfs52 := blk_frozen BK247.out 0
  have hns52_0 := NB231_247.out
  have hns52_1 := NB232_247.out
  have hns52_2 := NB233_247.out
  have hns52_3 := NB234_247.out
  have hns52_4 := NB235_247.out
  have hns52_5 := NB239_247.out
  have hns52_6 := NB243_247.out
  have hms52_0 := NB247_231.out
  have hms52_1 := NB247_232.out
  have hms52_2 := NB247_233.out
  have hms52_3 := NB247_234.out
  have hms52_4 := NB247_235.out
  have hms52_5 := NB247_239.out
  have hms52_6 := NB247_243.out
  have hs53 : w51.cell? ⟨gb247, 1, none⟩ = some (.int .i64 0) := (blk_cell BK247.out 1).trans rfl
  have hfs53 := blk_frozen BK247.out 1
  have hns53_0 := NB231_247.out
  have hns53_1 := NB232_247.out
  have hns53_2 := NB233_247.out
  have hns53_3 := NB234_247.out
  have hns53_4 := NB235_247.out
  have hns53_5 := NB239_247.out
  have hns53_6 := NB243_247.out
  have hms53_0 := NB247_231.out
  have hms53_1 := NB247_232.out
  have hms53_2 := NB247_233.out
  have hms53_3 := NB247_234.out
  have hms53_4 := NB247_235.out
  have hms53_5 := NB247_239.out
  have hms53_6 := NB247_243.out
  refine skip_ (w1 := ?_) (by rfl) rfl ?_ ?_
  rotate_left
  ·go_simp
   rfl
  refine hK.out _ _ ⟨((cell_far (p := ⟨gb247, _, none⟩) NB231_247.out _).trans (((cell_far (p := ⟨gb247, _, none⟩) NB231_247.out _).trans (hHeld.1)))), ((cell_far (p := ⟨gb247, _, none⟩) NB231_247.out _).trans (((cell_far (p := ⟨gb247, _, none⟩) NB231_247.out _).trans (hHeld.2.1)))), ((cell_far (p := ⟨gb247, _, none⟩) NB239_247.out _).trans (((cell_far (p := ⟨gb247, _, none⟩) NB239_247.out _).trans (hHeld.2.2.1)))), ((cell_far (p := ⟨gb247, _, none⟩) NB239_247.out _).trans (((cell_far (p := ⟨gb247, _, none⟩) NB239_247.out _).trans (hHeld.2.2.2))))⟩ (fun hHeld => ?_)
  clear hK K
  refine pure_ (i := 25) (N := some 19) (v := ?_) (a' := ?_) (fl 26 67108863) rfl rfl (any_of HT_.out (by kernel_rfl)) (fun _ _ _ h => h) (Or.inl ⟨by rfl, ?_⟩) ?_ ?_
  rotate_left
  ·intro w'
   go_simp
   with_reducible rfl
  rotate_left
  ·simp only [Act.put, List.setIfInBounds_toArray, List.set_cons_zero, List.set_cons_succ, i64_w, i32_w]
   rfl
  refine done_ (done_of HT_.out (by kernel_rfl)) ?_
  try go_wp2
  have n0_ : Aside0 (((w51.setCell ⟨gb247, 0, none⟩ (.int .i64 t244)).setCell ⟨gb247, 1, none⟩ (.int .i64 t245)).heap[gb231]? = some (.cells #[.int .i64 a0_0, .int .i64 a0_1] 38 (0, 0))) := ⟨by (with_reducible repeat (first | refine blk_drewN ?_ _ | refine blk_drew ?_ | refine blk_alloc ?_ _)); refine blk_far ?_ NB231_247.out _; (with_reducible repeat (first | refine blk_drewN ?_ _ | refine blk_drew ?_ | refine blk_alloc ?_ _)); refine blk_far ?_ NB231_247.out _; (with_reducible repeat (first | refine blk_drewN ?_ _ | refine blk_drew ?_ | refine blk_alloc ?_ _)); exact BK231.out⟩
  have n1_ : Aside0 (((w51.setCell ⟨gb247, 0, none⟩ (.int .i64 t244)).setCell ⟨gb247, 1, none⟩ (.int .i64 t245)).heap[gb232]? = some (.cells #[.int .i64 a1_0, .int .i64 a1_1] 38 (0, 0))) := ⟨by (with_reducible repeat (first | refine blk_drewN ?_ _ | refine blk_drew ?_ | refine blk_alloc ?_ _)); refine blk_far ?_ NB232_247.out _; (with_reducible repeat (first | refine blk_drewN ?_ _ | refine blk_drew ?_ | refine blk_alloc ?_ _)); refine blk_far ?_ NB232_247.out _; (with_reducible repeat (first | refine blk_drewN ?_ _ | refine blk_drew ?_ | refine blk_alloc ?_ _)); exact BK232.out⟩
  have n2_ : Aside0 (((w51.setCell ⟨gb247, 0, none⟩ (.int .i64 t244)).setCell ⟨gb247, 1, none⟩ (.int .i64 t245)).heap[gb233]? = some (.cells #[.int .i64 a2_0, .int .i64 a2_1] 38 (0, 0))) := ⟨by (with_reducible repeat (first | refine blk_drewN ?_ _ | refine blk_drew ?_ | refine blk_alloc ?_ _)); refine blk_far ?_ NB233_247.out _; (with_reducible repeat (first | refine blk_drewN ?_ _ | refine blk_drew ?_ | refine blk_alloc ?_ _)); refine blk_far ?_ NB233_247.out _; (with_reducible repeat (first | refine blk_drewN ?_ _ | refine blk_drew ?_ | refine blk_alloc ?_ _)); exact BK233.out⟩
  have n3_ : Aside0 (((w51.setCell ⟨gb247, 0, none⟩ (.int .i64 t244)).setCell ⟨gb247, 1, none⟩ (.int .i64 t245)).heap[gb234]? = some (.cells #[.int .i64 0, .int .i64 0] 38 (0, 0))) := ⟨by (with_reducible repeat (first | refine blk_drewN ?_ _ | refine blk_drew ?_ | refine blk_alloc ?_ _)); refine blk_far ?_ NB234_247.out _; (with_reducible repeat (first | refine blk_drewN ?_ _ | refine blk_drew ?_ | refine blk_alloc ?_ _)); refine blk_far ?_ NB234_247.out _; (with_reducible repeat (first | refine blk_drewN ?_ _ | refine blk_drew ?_ | refine blk_alloc ?_ _)); exact BK234.out⟩
  have n4_ : Aside0 (((w51.setCell ⟨gb247, 0, none⟩ (.int .i64 t244)).setCell ⟨gb247, 1, none⟩ (.int .i64 t245)).heap[gb235]? = some (.cells #[.int .i64 0, .int .i64 0] 38 (0, 0))) := ⟨by (with_reducible repeat (first | refine blk_drewN ?_ _ | refine blk_drew ?_ | refine blk_alloc ?_ _)); refine blk_far ?_ NB235_247.out _; (with_reducible repeat (first | refine blk_drewN ?_ _ | refine blk_drew ?_ | refine blk_alloc ?_ _)); refine blk_far ?_ NB235_247.out _; (with_reducible repeat (first | refine blk_drewN ?_ _ | refine blk_drew ?_ | refine blk_alloc ?_ _)); exact BK235.out⟩
  have n5_ : Aside0 (((w51.setCell ⟨gb247, 0, none⟩ (.int .i64 t244)).setCell ⟨gb247, 1, none⟩ (.int .i64 t245)).heap[gb239]? = some (.cells #[.int .i64 t236, .int .i64 t237] 38 (0, 0))) := ⟨by (with_reducible repeat (first | refine blk_drewN ?_ _ | refine blk_drew ?_ | refine blk_alloc ?_ _)); refine blk_far ?_ NB239_247.out _; (with_reducible repeat (first | refine blk_drewN ?_ _ | refine blk_drew ?_ | refine blk_alloc ?_ _)); refine blk_far ?_ NB239_247.out _; (with_reducible repeat (first | refine blk_drewN ?_ _ | refine blk_drew ?_ | refine blk_alloc ?_ _)); exact BK239.out⟩
  have n6_ : Aside0 (((w51.setCell ⟨gb247, 0, none⟩ (.int .i64 t244)).setCell ⟨gb247, 1, none⟩ (.int .i64 t245)).heap[gb243]? = some (.cells #[.int .i64 t240, .int .i64 t241] 38 (0, 0))) := ⟨by (with_reducible repeat (first | refine blk_drewN ?_ _ | refine blk_drew ?_ | refine blk_alloc ?_ _)); refine blk_far ?_ NB243_247.out _; (with_reducible repeat (first | refine blk_drewN ?_ _ | refine blk_drew ?_ | refine blk_alloc ?_ _)); refine blk_far ?_ NB243_247.out _; (with_reducible repeat (first | refine blk_drewN ?_ _ | refine blk_drew ?_ | refine blk_alloc ?_ _)); exact BK243.out⟩
  have n7_ : Aside0 (((w51.setCell ⟨gb247, 0, none⟩ (.int .i64 t244)).setCell ⟨gb247, 1, none⟩ (.int .i64 t245)).heap[gb247]? = some (.cells #[.int .i64 t244, .int .i64 t245] 38 (0, 0))) := ⟨by (with_reducible repeat (first | refine blk_drewN ?_ _ | refine blk_drew ?_ | refine blk_alloc ?_ _)); refine blk_put (cs := #[.int .i64 t244, .int .i64 0]) ?_ 1 _ rfl; (with_reducible repeat (first | refine blk_drewN ?_ _ | refine blk_drew ?_ | refine blk_alloc ?_ _)); refine blk_put (cs := #[.int .i64 0, .int .i64 0]) ?_ 0 _ rfl; (with_reducible repeat (first | refine blk_drewN ?_ _ | refine blk_drew ?_ | refine blk_alloc ?_ _)); exact BK247.out⟩
  have n8_ : Aside0 (Below w.heap.size w ((w51.setCell ⟨gb247, 0, none⟩ (.int .i64 t244)).setCell ⟨gb247, 1, none⟩ (.int .i64 t245))) := ⟨by repeat (first | (with_reducible first | exact HB.out | apply below_alloc | apply pw_below_drewN | apply below_drew1 | refine below_set ?_ GE231.out | refine below_set ?_ GE232.out | refine below_set ?_ GE233.out | refine below_set ?_ GE234.out | refine below_set ?_ GE235.out | refine below_set ?_ GE239.out | refine below_set ?_ GE243.out | refine below_set ?_ GE247.out) | exact HB.out)⟩
  (try clear BK231)
  (try clear BK232)
  (try clear BK233)
  (try clear BK234)
  (try clear BK235)
  (try clear BK239)
  (try clear BK243)
  (try clear BK247)
  (try clear HB)
  generalize ((w51.setCell ⟨gb247, 0, none⟩ (.int .i64 t244)).setCell ⟨gb247, 1, none⟩ (.int .i64 t245)) = w54 at n0_ n1_ n2_ n3_ n4_ n5_ n6_ n7_ n8_ ⊢
  have BK231 := n0_
  have BK232 := n1_
  have BK233 := n2_
  have BK234 := n3_
  have BK235 := n4_
  have BK239 := n5_
  have BK243 := n6_
  have BK247 := n7_
  have HB := n8_
  clear n0_ n1_ n2_ n3_ n4_ n5_ n6_ n7_ n8_
  have n0_ := Aside0.mk (blk_drew BK231.out)
  have n1_ := Aside0.mk (blk_drew BK232.out)
  have n2_ := Aside0.mk (blk_drew BK233.out)
  have n3_ := Aside0.mk (blk_drew BK234.out)
  have n4_ := Aside0.mk (blk_drew BK235.out)
  have n5_ := Aside0.mk (blk_drew BK239.out)
  have n6_ := Aside0.mk (blk_drew BK243.out)
  have n7_ := Aside0.mk (blk_drew BK247.out)
  have n8_ := Aside0.mk (below_drew1 HB.out)
  clear BK231
  clear BK232
  clear BK233
  clear BK234
  clear BK235
  clear BK239
  clear BK243
  clear BK247
  clear HB
  have BK231 := n0_
  have BK232 := n1_
  have BK233 := n2_
  have BK234 := n3_
  have BK235 := n4_
  have BK239 := n5_
  have BK243 := n6_
  have BK247 := n7_
  have HB := n8_
  clear n0_ n1_ n2_ n3_ n4_ n5_ n6_ n7_ n8_
  refine start_ (n := 4) (S := fun w' => w'.cell? ⟨gb243, 0, none⟩ = some (.int .i64 t240) ∧ w'.cell? ⟨gb243, 1, none⟩ = some (.int .i64 t241) ∧ w'.cell? ⟨gb247, 0, none⟩ = some (.int .i64 t244) ∧ w'.cell? ⟨gb247, 1, none⟩ = some (.int .i64 t245)) (ds := []) (fl 4 0) (by kernel_rfl) rfl rfl ⟨(blk_cell BK243.out 0).trans rfl, (blk_cell BK243.out 1).trans rfl, (blk_cell BK247.out 0).trans rfl, (blk_cell BK247.out 1).trans rfl⟩ (fun hHeld => ?_)
  generalize w54.drew = w55 at BK231 BK232 BK233 BK234 BK235 BK239 BK243 BK247 HB hHeld ⊢
  refine take_ (i := 0) (N := some 72) (v := ?_) (a' := ?_) (fl 4 1) rfl rfl (by kernel_rfl) (fun _ _ _ h => h) (Or.inl ⟨by rfl, ?_⟩) hHeld ?_ ?_
  rotate_left
  ·rintro w' ⟨s0, s1, s2, s3⟩
   go_simp
   with_reducible rfl
  rotate_left
  ·simp only [Act.put, List.setIfInBounds_toArray, List.set_cons_zero, List.set_cons_succ, i64_w, i32_w]
   rfl
  refine take_ (i := 1) (N := some 73) (v := ?_) (a' := ?_) (fl 4 3) rfl rfl (by kernel_rfl) (fun _ _ _ h => h) (Or.inl ⟨by rfl, ?_⟩) hHeld ?_ ?_
  rotate_left
  ·rintro w' ⟨s0, s1, s2, s3⟩
   go_simp
   with_reducible rfl
  rotate_left
  ·simp only [Act.put, List.setIfInBounds_toArray, List.set_cons_zero, List.set_cons_succ, i64_w, i32_w]
   rfl
  refine one_ (i := 2) (N := none) (fl 4 7) rfl rfl (by kernel_rfl) (by decide) (fun K hK => ?_)
  have hs56 : w55.cell? ⟨gb234, 0, none⟩ = some (.int .i64 0) := (blk_cell BK234.out 0).trans rfl
  have hfs56 := blk_frozen BK234.out 0
  have hns56_0 := NB231_234.out
  have hns56_1 := NB232_234.out
  have hns56_2 := NB233_234.out
  have hns56_4 := NB235_234.out
  have hns56_5 := NB239_234.out
  have hns56_6 := NB243_234.out
  have hns56_7 := NB247_234.out
  have hms56_0 := NB234_231.out
  have hms56_1 := NB234_232.out
  have hms56_2 := NB234_233.out
  have hms56_4 := NB234_235.out
  have hms56_5 := NB234_239.out
  have hms56_6 := NB234_243.out
  have hms56_7 := NB234_247.out
  have hs57 : w55.cell? ⟨gb234, 1, none⟩ = some (.int .i64 0) := (blk_cell BK234.out 1).trans rfl
  have hfs57 := blk_frozen BK234.out 1
  have hns57_0 := NB231_234.out
  have hns57_1 := NB232_234.out
  have hns57_2 := NB233_234.out
  have hns57_4 := NB235_234.out
  have hns57_5 := NB239_234.out
  have hns57_6 := NB243_234.out
  have hns57_7 := NB247_234.out
  have hms57_0 := NB234_231.out
  have hms57_1 := NB234_232.out
  have hms57_2 := NB234_233.out
  have hms57_4 := NB234_235.out
  have hms57_5 := NB234_239.out
  have hms57_6 := NB234_243.out
  have hms57_7 := NB234_247.out
  refine skip_ (w1 := ?_) (by rfl) rfl ?_ ?_
  rotate_left
  ·go_simp
   rfl
  refine hK.out _ _ ⟨((cell_far (p := ⟨gb234, _, none⟩) NB243_234.out _).trans (((cell_far (p := ⟨gb234, _, none⟩) NB243_234.out _).trans (hHeld.1)))), ((cell_far (p := ⟨gb234, _, none⟩) NB243_234.out _).trans (((cell_far (p := ⟨gb234, _, none⟩) NB243_234.out _).trans (hHeld.2.1)))), ((cell_far (p := ⟨gb234, _, none⟩) NB247_234.out _).trans (((cell_far (p := ⟨gb234, _, none⟩) NB247_234.out _).trans (hHeld.2.2.1)))), ((cell_far (p := ⟨gb234, _, none⟩) NB247_234.out _).trans (((cell_far (p := ⟨gb234, _, none⟩) NB247_234.out _).trans (hHeld.2.2.2))))⟩ (fun hHeld => ?_)
  clear hK K
  refine one_ (i := 3) (N := none) (fl 4 15) rfl rfl (by kernel_rfl) (by decide) (fun K hK => ?_)
  have hs58 : w55.cell? ⟨gb235, 0, none⟩ = some (.int .i64 0) := (blk_cell BK235.out 0).trans rfl
  have hfs58 := blk_frozen BK235.out 0
  have hns58_0 := NB231_235.out
  have hns58_1 := NB232_235.out
  have hns58_2 := NB233_235.out
  have hns58_3 := NB234_235.out
  have hns58_5 := NB239_235.out
  have hns58_6 := NB243_235.out
  have hns58_7 := NB247_235.out
  have hms58_0 := NB235_231.out
  have hms58_1 := NB235_232.out
  have hms58_2 := NB235_233.out
  have hms58_3 := NB235_234.out
  have hms58_5 := NB235_239.out
  have hms58_6 := NB235_243.out
  have hms58_7 := NB235_247.out
  have hs59 : w55.cell? ⟨gb235, 1, none⟩ = some (.int .i64 0) := (blk_cell BK235.out 1).trans rfl
  have hfs59 := blk_frozen BK235.out 1
  have hns59_0 := NB231_235.out
  have hns59_1 := NB232_235.out
  have hns59_2 := NB233_235.out
  have hns59_3 := NB234_235.out
  have hns59_5 := NB239_235.out
  have hns59_6 := NB243_235.out
  have hns59_7 := NB247_235.out
  have hms59_0 := NB235_231.out
  have hms59_1 := NB235_232.out
  have hms59_2 := NB235_233.out
  have hms59_3 := NB235_234.out
  have hms59_5 := NB235_239.out
  have hms59_6 := NB235_243.out
  have hms59_7 := NB235_247.out
  refine skip_ (w1 := ?_) (by rfl) rfl ?_ ?_
  rotate_left
  ·go_simp
   rfl
  refine hK.out _ _ ⟨((cell_far (p := ⟨gb235, _, none⟩) NB243_235.out _).trans (((cell_far (p := ⟨gb235, _, none⟩) NB243_235.out _).trans (hHeld.1)))), ((cell_far (p := ⟨gb235, _, none⟩) NB243_235.out _).trans (((cell_far (p := ⟨gb235, _, none⟩) NB243_235.out _).trans (hHeld.2.1)))), ((cell_far (p := ⟨gb235, _, none⟩) NB247_235.out _).trans (((cell_far (p := ⟨gb235, _, none⟩) NB247_235.out _).trans (hHeld.2.2.1)))), ((cell_far (p := ⟨gb235, _, none⟩) NB247_235.out _).trans (((cell_far (p := ⟨gb235, _, none⟩) NB247_235.out _).trans (hHeld.2.2.2))))⟩ (fun hHeld => ?_)
  clear hK K
  refine done_ (by kernel_rfl) ?_
  try go_wp2
  refine bodyPost_ret (results_cc rfl _ _ gb234 gb235 38 38 #[.int .i64 t240, .int .i64 t241] #[.int .i64 t244, .int .i64 t245] (0, 0) (0, 0) _ _ rfl (by (with_reducible repeat (first | refine blk_drewN ?_ _ | refine blk_drew ?_ | refine blk_alloc ?_ _)); refine blk_far ?_ NB234_235.out _; (with_reducible repeat (first | refine blk_drewN ?_ _ | refine blk_drew ?_ | refine blk_alloc ?_ _)); refine blk_far ?_ NB234_235.out _; (with_reducible repeat (first | refine blk_drewN ?_ _ | refine blk_drew ?_ | refine blk_alloc ?_ _)); refine blk_put (cs := #[.int .i64 t240, .int .i64 0]) ?_ 1 _ rfl; (with_reducible repeat (first | refine blk_drewN ?_ _ | refine blk_drew ?_ | refine blk_alloc ?_ _)); refine blk_put (cs := #[.int .i64 0, .int .i64 0]) ?_ 0 _ rfl; (with_reducible repeat (first | refine blk_drewN ?_ _ | refine blk_drew ?_ | refine blk_alloc ?_ _)); exact BK234.out) Tryz.underlying38 rfl (by kernel_rfl) rfl (by (with_reducible repeat (first | refine blk_drewN ?_ _ | refine blk_drew ?_ | refine blk_alloc ?_ _)); refine blk_put (cs := #[.int .i64 t244, .int .i64 0]) ?_ 1 _ rfl; (with_reducible repeat (first | refine blk_drewN ?_ _ | refine blk_drew ?_ | refine blk_alloc ?_ _)); refine blk_put (cs := #[.int .i64 0, .int .i64 0]) ?_ 0 _ rfl; (with_reducible repeat (first | refine blk_drewN ?_ _ | refine blk_drew ?_ | refine blk_alloc ?_ _)); refine blk_far ?_ NB235_234.out _; (with_reducible repeat (first | refine blk_drewN ?_ _ | refine blk_drew ?_ | refine blk_alloc ?_ _)); refine blk_far ?_ NB235_234.out _; (with_reducible repeat (first | refine blk_drewN ?_ _ | refine blk_drew ?_ | refine blk_alloc ?_ _)); exact BK235.out) Tryz.underlying38 rfl (by kernel_rfl)) rfl ?_
  exact ⟨by first | rfl | (simp [errW_none, errW_some] <;> rfl) | (simp only [← hji9, ← hji11]; first | rfl | (simp [errW_none, errW_some] <;> rfl)) | (simp [*, errW_none, errW_some] <;> rfl), by repeat (first | (with_reducible first | exact HB.out | apply below_alloc | apply pw_below_drewN | apply below_drew1 | refine below_set ?_ GE231.out | refine below_set ?_ GE232.out | refine below_set ?_ GE233.out | refine below_set ?_ GE234.out | refine below_set ?_ GE235.out | refine below_set ?_ GE239.out | refine below_set ?_ GE243.out | refine below_set ?_ GE247.out) | exact HB.out)⟩
 ·rw [if_neg c8] at H
  exact absurd H (by simp)

end Go.Proofs.YteieahbadclppaaGreat.P

namespace Go.Proofs.YteieahbadclppaaGreat.P
open Go.RowKit Go.Proofs.YteieahbadclppaaGreatW.PrintWords Go.Proofs.YteieahbadclppaaGreatW.PrintLast Go.Proofs.YteieahbadclppaaGreatW.PrintMore
set_option linter.unusedVariables false
set_option linter.unusedSimpArgs false
section
variable {P : Program} {ops : Array Oper} {rest : List Oper} {o : Oper} {a : Act} {Q : Exit → Act → World → Prop} {K : Act → World → Prop}
theorem cell_event {W : World} (hgd : o.guard = none) (hN : o.dst = none) (ty : TypeId) (x y : Operand) (ho : o.op = .store ty x y) (g : Nat) (v : Value) (hx : a.eval x = .pointer (some ⟨g, 0, none⟩)) (hy : a.eval y = v)
  (t : TypeId) (old : Value) (hg : W.heap[g]? = some (.cells #[old] t (0, 0))) (hi : (P.info? ty).map (·.size) = some 1) (hv : v.cells.toList = [v]) (h1 : v.oneCell' = true)
  (h : ∀ w1, w1.heap[g]? = some (.cells #[v] t (0, 0)) → (∀ k, k ≠ g → w1.heap[k]? = W.heap[k]?) → (∀ B w0, B ≤ g → Below B w0 W → Below B w0 w1) → wpList P ops Q rest a w1) : wpList P ops Q (o :: rest) a W := by
 have hr : (Instr.storeAt ty (.pointer (some ⟨g, 0, none⟩)) v).run P W = .ok () (W.setCells g 0 [v]) := run_store_run ty v [v] hg hv hi (by simp) (by simpa using h1)
 have e : W.setCells g 0 [v] = W.setCell ⟨g, 0, none⟩ v := rfl
 rw [e] at hr
 refine wpList_plain hgd fun K hK => ?_
 unfold Oper.wp execOp
 simp only [ho, hx, hy, Sem.run_bind, Sem.run_pure, Result.andThen_ok, hr]
 show K (a.put o.dst undef) _
 rw [hN]
 refine hK _ _ (h _ (blk_put hg 0 v rfl) (fun k hk => Below.heap_setCell W ⟨g, 0, none⟩ v k hk) (fun B w0 hB hb => hb.setCell (p := ⟨g, 0, none⟩) hB v))
theorem box_step {W : World} {N : Option Tmp} (hw : Region.wanted o (yielded ops a.tmps) = true) (hN : o.dst = N) {cs : Array Value} {t : TypeId}
  (hrun : (execOp a.eval o).run P W = .ok (.value (.pointer (some ⟨W.heap.size, 0, none⟩))) (W.alloc (.cells cs t (0, 0))))
  (h : ∀ g, g = W.heap.size → ∀ w1, w1.heap[g]? = some (.cells cs t (0, 0)) → Below W.heap.size W w1 → K (a.put N (.pointer (some ⟨g, 0, none⟩))) w1) :
  if Region.wanted o (yielded ops a.tmps) = true then Oper.wp P o a W K Q else K (a.put N undef) W :=
 value_ hw hN hrun (h _ rfl _ (blk_new W _) (below_alloc (Below.refl _ _) _))
theorem row_step {W : World} (hw : Region.wanted o (yielded ops a.tmps) = true) (hN : o.dst = none) (ty : TypeId) (x y : Operand) (ho : o.op = .store ty x y)
  (g : Nat) (cells : Array Value) (hx : a.eval x = .pointer (some ⟨g, 0, none⟩)) (hy : a.eval y = .agg cells)
  (t : TypeId) (old : Array Value) (hg : W.heap[g]? = some (.cells old t (0, 0))) (hi : (P.info? ty).map (·.size) = some cells.size)
  (hold : old.size = cells.size) (h1 : cells.all (·.oneCell') = true)
  (h : ∀ w1, w1.heap[g]? = some (.cells cells t (0, 0)) → (∀ k, k ≠ g → w1.heap[k]? = W.heap[k]?) → (∀ B w0, B ≤ g → Below B w0 W → Below B w0 w1) → K a w1) :
  if Region.wanted o (yielded ops a.tmps) = true then Oper.wp P o a W K Q else K (a.put none undef) W := by
 rw [if_pos hw]
 refine wp_store_row ty x y ho g cells hx hy t old hg hi hold h1 ?_
 rw [hN]
 exact h _ (setRow_heap W g old cells t (0, 0) hg) (fun k hk => setRow_other W g k cells hk) (fun B w0 hB hb => below_setRow hb hB cells)
theorem cx_step {W : World} {base : Nat} (hw : Region.wanted o (yielded ops a.tmps) = true) (hN : o.dst = none) (p x : Operand) (ho : o.op = .store 38 p x) {g n cap : Nat} (i : Nat) (xs : List S38) (y : S38) (ok : Nat → Prop)
  (haddr : a.eval p = .pointer (some ⟨g, i * 2, none⟩)) (hx : a.eval x = .agg #[.int .i64 y.f0, .int .i64 y.f1]) (ht : (P.info? 38).map (·.size) = some 2)
  (HO : Kd.R k38 38 W base ok (.slice (some ⟨g, 0, none⟩) n cap) xs) (hi : i < n)
  (h : ∀ w1, Kd.R k38 38 w1 base ok (.slice (some ⟨g, 0, none⟩) n cap) (xs.set i y) → W.grownBy w1 (some g) → (∀ k, k ≠ g → w1.heap[k]? = W.heap[k]?) → (∀ w0, Below base w0 W → Below base w0 w1) → K a w1) :
  if Region.wanted o (yielded ops a.tmps) = true then Oper.wp P o a W K Q else K (a.put none undef) W := by
 obtain ⟨c, hcl, hM, hcc, hfr⟩ := Kd.R_elem HO z38 (i : Int) (by omega) (by omega)
 obtain rfl := k38_openM hM
 obtain ⟨hrow, hg⟩ := Kd.R_seg HO (i : Int) (by omega) (by omega) (seg := [.int .i64 y.f0, .int .i64 y.f1]) (j := 0) hcl hcc (Nat.le_refl 2) (x' := y) (okp := fun _ => False) (k38_mkM W base _ y) (fun _ hk => hk.elim)
 have hbg : base ≤ g := Kd.R_base HO g (by simp [Value.ownBlock])
 rw [Int.toNat_natCast] at hrow hg
 have hrun : (Instr.storeAt 38 (.pointer (some ⟨g, i * 2, none⟩)) (.agg #[.int .i64 y.f0, .int .i64 y.f1])).run P W = .ok () (W.setCells g (i * 2) [.int .i64 y.f0, .int .i64 y.f1]) := by
  obtain ⟨_, inner, hown, hr⟩ := HO
  rcases hown.2 with ⟨hv, _⟩ | ⟨g', cap', cur, hv, hb, hh, hnc, hcm, hcs, _⟩
  ·cases hv
  injection hv with ha _ hc
  injection ha with ha
  injection ha with hg'
  subst hg'; subst hc
  refine run_store_run 38 _ _ hh rfl ht ?_ (by simp [Value.oneCell'])
  have h2 : k38.sz = 2 := rfl
  rw [h2] at hcs
  rw [hcs]
  simp only [List.length_cons, List.length_nil]
  omega
 rw [if_pos hw]
 unfold Oper.wp execOp
 simp only [ho, haddr, hx, Sem.run_bind, Sem.run_pure, Result.andThen_ok, hrun]
 show K (a.put o.dst undef) _
 rw [hN]
 exact h _ hrow hg (fun k hk => setCells_far _ _ k hk) (fun w0 hb => hb.grown hg (Nat.le_of_lt (Nat.lt_of_le_of_lt hbg (Kd.R_lt HO g (by simp [Value.ownBlock])))) (fun k e => by cases e; exact hbg))
end
def pairV (a b w : S38) (bits s mode : Int) : S38 × S38 := match two_pair.f a.f0 a.f1 b.f0 b.f1 w.f0 w.f1 bits s mode with
 | some r => (⟨r.1, r.2.1⟩, ⟨r.2.2.1, r.2.2.2⟩)
 | none => (z38, z38)
theorem pair_yes (a b w : S38) (bits s mode : Int) (hb : inB 2147483648 b = true) (hw : inB 1073741824 w = true) (h0 : 0 ≤ bits) (h1 : bits ≤ 29) (h2 : 0 ≤ s) (h3 : s ≤ 3) (h4 : 0 ≤ mode) (h5 : mode < 3) :
  two_pair.f a.f0 a.f1 b.f0 b.f1 w.f0 w.f1 bits s mode = some ((pairV a b w bits s mode).1.f0, (pairV a b w bits s mode).1.f1, (pairV a b w bits s mode).2.f0, (pairV a b w bits s mode).2.f1) := by
 have h : ∃ r, two_pair.f a.f0 a.f1 b.f0 b.f1 w.f0 w.f1 bits s mode = some r := by
  have e : wrap64 (bits + s) = bits + s := by unfold wrap64; omega
  have hS : ∀ x y : Int, cx_Shift.f x y (bits + s) mode = some (shV x (bits + s) mode, shV y (bits + s) mode, 0) := fun x y => shiftC_f ⟨x, y⟩ (bits + s) mode (by omega) (by omega) h4 h5
  unfold two_pair.f cx_Times.f
  rw [show inB 2147483648 ⟨b.f0, b.f1⟩ = true from hb, show inB 1073741824 ⟨w.f0, w.f1⟩ = true from hw, if_pos rfl, if_pos rfl, Option.bind_some, if_pos h0, e, hS, Option.bind_some, hS, Option.bind_some]
  exact ⟨_, rfl⟩
 obtain ⟨r, hr⟩ := h
 unfold pairV
 rw [hr]
def rootV (inv : Bool) (w : S38) : S38 := if inv = true then ⟨w.f0, wrap64 (-w.f1)⟩ else w
def twoStep (x w : List S38) (h bits s mode : Int) (inv : Bool) (o : List S38) (p : Int × Int) : List S38 :=
 (o.set p.1.toNat (pairV (rd_T38 x p.1) (rd_T38 x (p.1 + h)) (rootV inv (rd_T38 w p.2)) bits s mode).1).set (p.1 + h).toNat (pairV (rd_T38 x p.1) (rd_T38 x (p.1 + h)) (rootV inv (rd_T38 w p.2)) bits s mode).2
def twoL (x w : List S38) (h bits s mode : Int) (inv : Bool) (m : Int) (n : Nat) : List S38 := (pairsTo h m n).foldl (twoStep x w h bits s mode inv) x
theorem twoStep_len (x w : List S38) (h bits s mode : Int) (inv : Bool) (o : List S38) (p : Int × Int) : (twoStep x w h bits s mode inv o p).length = o.length := by simp [twoStep]
theorem twoFold_len (x w : List S38) (h bits s mode : Int) (inv : Bool) (ps : List (Int × Int)) : ∀ o : List S38, (ps.foldl (twoStep x w h bits s mode inv) o).length = o.length := by
 induction ps with
 | nil => intro o; rfl
 | cons p ps ih => intro o; rw [List.foldl_cons, ih, twoStep_len]
end Go.Proofs.YteieahbadclppaaGreat.P

