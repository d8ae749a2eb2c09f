/- Part 7 of 10 of the proof: the texts that it reaches, one behind the other. No condition. -/
import Derived.Test.YteieahbadclppaaGreatKs6
namespace Go.Proofs.YteieahbadclppaaGreat.P
open Go.RowKit Go.Shelf Go.Proofs.YteieahbadclppaaGreatW.PrintWords Go.Proofs.YteieahbadclppaaGreatW.PrintLast Go.Proofs.YteieahbadclppaaGreatW.PrintMore
set_option linter.unusedVariables false
set_option linter.unusedSimpArgs false
attribute [local go_sem] Oper.semAt_some
section
variable {P : Program} {ops : Array Oper} {Q : Exit → Act → World → Prop}
theorem listRound_of {l n : Nat} (hL : ¬ LetsOut Q) : ∀ (r : List Oper) (a : Act) (w : World), r.all noDefer = true → wpList P ops Q r a w → wpListIn (Fence.wide.inRound l) n P ops Q r a w
 | [], _, _, _, h => h
 | o :: r, a, w, hd, h => by
  have hd1 : noDefer o = true ∧ r.all noDefer = true := by simpa using hd
  have ho : ∀ c, o.op ≠ .defer c := fun c e => by
   have h1 := hd1.1
   unfold noDefer at h1
   rw [e] at h1
   cases h1
  unfold wpList at h
  unfold wpListIn
  by_cases hw : Region.wanted o (yielded ops a.tmps) = true
  ·rw [if_pos hw] at h ⊢
   rcases h with h3 | h3
   ·exact operRound_of ho (Oper.wp_mono (fun a' w' => listRound_of hL r a' w' hd1.2) h3)
   ·exact absurd h3.2 hL
  ·rw [if_neg hw] at h ⊢
   exact ⟨fun _ _ => trivial, listRound_of hL r _ w hd1.2 h⟩
theorem regionR_ {id n l : Nat} {r : List Oper} {a : Act} {w : World} (hd : r.all noDefer = true) (hL : ¬ LetsOut Q) (h : wpList P r.toArray Q r a w) : (Code.region id r.toArray false).wpIn (Fence.wide.inRound l) n P Q a w :=
 wpIn_region_lit (listRound_of hL r a w hd h)
end
theorem results_two {fn : Func} {t u : Tmp} (h : fn.results = #[.tmp t, .tmp u]) (tmps : Array Value) (P : Program) (w : World) : (results fn tmps).run P w = .ok (.tuple #[tmps.getD t undef, tmps.getD u undef]) w := by simp [results, h]
theorem sizeOf22 : (Tryz.prog.info? 22).map (·.size) = some 1 := by kernel_rfl

def InvP (A A2 : Option Addr) (g g7 g8 g9 g10 g11 g12 g13 g20 gn gh : Nat) (l wl : List S38) (c c2 cap : Nat) (h bits s mode : Int) (inv : Bool) (m : Int) (w : World) (pre : List {p : Int × Int // p ∈ pairsTo h m l.length}) (W : World) : Prop :=
 (W.heap[g7]? = some (.cells #[.slice A l.length c] 22 (0, 0)) ∧ W.heap[g8]? = some (.cells #[.slice A2 wl.length c2] 22 (0, 0)) ∧ W.heap[g9]? = some (.cells #[.int .i64 h] 3 (0, 0)) ∧ W.heap[g10]? = some (.cells #[.int .i64 bits] 3 (0, 0)) ∧ W.heap[g11]? = some (.cells #[.int .i64 s] 3 (0, 0)) ∧ W.heap[g12]? = some (.cells #[.int .i64 mode] 3 (0, 0)) ∧ W.heap[g13]? = some (.cells #[.bool inv] 4 (0, 0)) ∧ W.heap[g20]? = some (.cells #[.slice (some ⟨g, 0, none⟩) l.length cap] 22 (0, 0)) ∧ W.heap[gn]? = some (.cells #[.int .i64 l.length] 3 (0, 0)) ∧ W.heap[gh]? = some (.cells #[.int .i64 h] 3 (0, 0))) ∧
 Kd.R k38 38 W w.heap.size (fun _ => True) (.slice (some ⟨g, 0, none⟩) l.length cap) ((pre.map Subtype.val).foldl (twoStep l wl h bits s mode inv) l) ∧ Below w.heap.size w W
theorem blk_own {W W' : World} {row : Option Nat} {b t : Nat} {cs : Array Value} (h : W.heap[b]? = some (.cells cs t (0, 0))) (hg : W.grownBy W' row) (hr : ∀ r, row = some r → ∃ o : Obj, W.heap[r]? = some o ∧ o.isCells = false) : W'.heap[b]? = some (.cells cs t (0, 0)) :=
 (hg.block b (blk_lt h) (fun e => by obtain ⟨o, ho, hc⟩ := hr b e.symm; rw [h] at ho; cases ho; cases hc)).trans h
theorem row_own {W W' : World} {row : Option Nat} {base : Nat} {ok : Nat → Prop} {v : Value} {xs : List S38} (h : Kd.R k38 38 W base ok v xs) (hg : W.grownBy W' row) (hr : ∀ r, row = some r → ∃ o : Obj, W.heap[r]? = some o ∧ o.isCells = false) : Kd.R k38 38 W' base ok v xs :=
 Kd.R_grown2 h rfl hg (fun k hk e => by
  obtain ⟨o, ho, hc⟩ := hr k hk
  obtain ⟨cells, h2⟩ := Kd.R_typed h k e.symm
  rw [h2] at ho; cases ho; cases hc)
theorem invP_own {A A2 : Option Addr} {g g7 g8 g9 g10 g11 g12 g13 g20 gn gh : Nat} {l wl : List S38} {c c2 cap : Nat} {h bits s mode : Int} {inv : Bool} {m : Int} {w W0 : World} (hB : w.heap.size ≤ W0.heap.size) : OwnFrom W0.heap.size (InvP A A2 g g7 g8 g9 g10 g11 g12 g13 g20 gn gh l wl c c2 cap h bits s mode inv m w) := by
 rintro pre W W' row ⟨⟨h7, h8, h9, h10, h11, h12, h13, h20, hn, hh⟩, hR, hb⟩ hg hr
 have hr2 : ∀ r, row = some r → ∃ o : Obj, W.heap[r]? = some o ∧ o.isCells = false := fun r e => (hr r e).2
 exact ⟨⟨blk_own h7 hg hr2, blk_own h8 hg hr2, blk_own h9 hg hr2, blk_own h10 hg hr2, blk_own h11 hg hr2, blk_own h12 hg hr2, blk_own h13 hg hr2, blk_own h20 hg hr2, blk_own hn hg hr2, blk_own hh hg hr2⟩, row_own hR hg hr2, hb.grown hg hb.size (fun k e => Nat.le_trans hB (hr k e).1)⟩
set_option maxRecDepth 100000 in
set_option maxHeartbeats 8000000 in
theorem twoPass_yes (A A2 : Option Addr) (c c2 : Nat) (l wl : List S38) (h bits s mode m mm lg : Int) (inv : Bool) (w : World)
  (hr : Kd.C k38 w A l.length l) (hc : l.length ≤ c) (hs : Kd.C k38 w A2 wl.length wl) (hc2 : wl.length ≤ c2) (hlen : wl.length = l.length) (hn0 : 0 < l.length) (hn : l.length ≤ 64)
  (hlog : flip_Log.f 10 l.length = some (lg, 0)) (h1 : 1 ≤ h) (h2 : h < l.length) (hpow : Go.bits .and .i64 h (h - 1) = 0) (hset : two_settings.f bits s mode = some true) (b0 : 0 ≤ bits) (b1 : bits ≤ 40) (hmm : mm = 2 ^ bits.toNat)
  (b2 : bits ≤ 29) (s0 : 0 ≤ s) (s1 : s ≤ 3) (mo0 : 0 ≤ mode) (mo1 : mode < 3)
  (hx : ∀ x, x ∈ l → inB 2147483648 x = true) (hw : ∀ x, x ∈ wl → inB mm x = true) (hm : m = l.length / (2 * h))
  (hidx : ∀ p, p ∈ pairsTo h m l.length → 0 ≤ p.1 ∧ p.1 + h < l.length ∧ 0 ≤ p.2 ∧ p.2 < l.length) :
  Calls Tryz.prog 49 #[.slice A l.length c, .slice A2 wl.length c2, .int .i64 h, .int .i64 bits, .int .i64 s, .int .i64 mode, .bool inv] w fun e w' => ∃ v, e = .returned (.tuple #[v, .int .i64 0]) ∧ Kd.R k38 38 w' w.heap.size (fun _ => True) v (twoL l wl h bits s mode inv m l.length) ∧ Below w.heap.size w w' := by
 have hmx : Tryz.prog.follows .mixedOrders = true := by kernel_rfl
 have HCL := Lib.hid (show api_Cx_79.f l = some l by unfold api_Cx_79.f api_Cx_79a.f; rw [Option.bind_some, if_pos (by simp; omega)]; rfl)
 have HR := Lib.hid hr
 have HS := Lib.hid hs
 have HC := Lib.hid hc
 have HC2 := Lib.hid hc2
 have HX := Lib.hid hx
 have HW := Lib.hid hw
 have HNE := Lib.hid hn0
 have HLOG := Lib.hid hlog
 have HSET := Lib.hid hset
 have HI := Lib.hid hidx
 have HM := Lib.hid hm
 have HLN := Lib.hid hlen
 have HN := Lib.hid hn
 have q1 : (h < 1) = False := eq_false (by omega)
 have q2 : ((l.length : Int) ≤ h) = False := eq_false (by omega)
 have q3 : wrap64 (h - 1) = h - 1 := by unfold wrap64; omega
 have q4 : (wl.length : Int) = (l.length : Int) := by omega
 have q1' : decide (h < 1) = false := decide_eq_false (by omega)
 have q2' : decide ((l.length : Int) ≤ h) = false := decide_eq_false (by omega)
 have HB0 := Lib.hid (Below.refl w.heap.size w)
 have HH := Lib.hid (And.intro h1 h2)
 clear hr hs hc hc2 hx hw hlog hset hidx hm hlen hn hn0 h1 h2
 refine (callsIn_wide (n := 10)).1 ?_
 refine callsIn_of_wp_marks Tryz.func49 rfl trivial ?_ rfl
 simp only [Tryz.ntmps49, List.size_toArray, List.length_cons, List.length_nil, Nat.reduceAdd, Nat.reduceSub, Array.replicate_succ, Array.replicate_zero, List.push_toArray, List.append_toArray, List.nil_append, List.cons_append]
 refine wpIn_wide.2 ?_
 go_wp2_with (first
  | ((with_reducible refine gate_dst (N := 7) rfl ?_); refine box_event ?hg (N := 7) ?hd (cs := #[.slice A l.length c]) (t := 22) ?hr ?_; (case hd => rfl); (case hg => rfl); (case hr => first | (go_simp; done) | (go_simp; rfl)); intro g7 hg W1 hbox hbl; have L7 : w.heap.size ≤ g7 := (by rw [hg]; exact below_size HB0.out); have B7_1 := Lib.hid hbox; have HB_1 := Lib.hid (below_step HB0.out hbl); have Cx_1 := Lib.hid (Kd.C_below HR.out HB_1.out); have Cy_1 := Lib.hid (Kd.C_below HS.out HB_1.out); have k7_0_1 : W1.cell? ⟨g7, 0, none⟩ = some (.slice A l.length c) := (blk_cell B7_1.out 0).trans rfl; clear hbox hbl hg)
  | ((with_reducible refine gate_dst (N := 8) rfl ?_); refine box_event ?hg (N := 8) ?hd (cs := #[.slice A2 wl.length c2]) (t := 22) ?hr ?_; (case hd => rfl); (case hg => rfl); (case hr => first | (go_simp; done) | (go_simp; rfl)); intro g8 hg W2 hbox hbl; have L8 : w.heap.size ≤ g8 := (by rw [hg]; exact below_size HB_1.out); have B8_2 := Lib.hid hbox; have HB_2 := Lib.hid (below_step HB_1.out hbl); have B7_2 := Lib.hid (blk_below B7_1.out hbl); have Cx_2 := Lib.hid (Kd.C_below HR.out HB_2.out); have Cy_2 := Lib.hid (Kd.C_below HS.out HB_2.out); have k7_0_2 : W2.cell? ⟨g7, 0, none⟩ = some (.slice A l.length c) := (blk_cell B7_2.out 0).trans rfl; clear k7_0_1; have k8_0_2 : W2.cell? ⟨g8, 0, none⟩ = some (.slice A2 wl.length c2) := (blk_cell B8_2.out 0).trans rfl; clear hbox hbl hg)
  | ((with_reducible refine gate_dst (N := 9) rfl ?_); refine box_event ?hg (N := 9) ?hd (cs := #[.int .i64 h]) (t := 3) ?hr ?_; (case hd => rfl); (case hg => rfl); (case hr => first | (go_simp; done) | (go_simp; rfl)); intro g9 hg W3 hbox hbl; have L9 : w.heap.size ≤ g9 := (by rw [hg]; exact below_size HB_2.out); have B9_3 := Lib.hid hbox; have HB_3 := Lib.hid (below_step HB_2.out hbl); have B7_3 := Lib.hid (blk_below B7_2.out hbl); have B8_3 := Lib.hid (blk_below B8_2.out hbl); have Cx_3 := Lib.hid (Kd.C_below HR.out HB_3.out); have Cy_3 := Lib.hid (Kd.C_below HS.out HB_3.out); have k7_0_3 : W3.cell? ⟨g7, 0, none⟩ = some (.slice A l.length c) := (blk_cell B7_3.out 0).trans rfl; have k8_0_3 : W3.cell? ⟨g8, 0, none⟩ = some (.slice A2 wl.length c2) := (blk_cell B8_3.out 0).trans rfl; clear k7_0_2 k8_0_2; have k9_0_3 : W3.cell? ⟨g9, 0, none⟩ = some (.int .i64 h) := (blk_cell B9_3.out 0).trans rfl; clear hbox hbl hg)
  | ((with_reducible refine gate_dst (N := 10) rfl ?_); refine box_event ?hg (N := 10) ?hd (cs := #[.int .i64 bits]) (t := 3) ?hr ?_; (case hd => rfl); (case hg => rfl); (case hr => first | (go_simp; done) | (go_simp; rfl)); intro g10 hg W4 hbox hbl; have L10 : w.heap.size ≤ g10 := (by rw [hg]; exact below_size HB_3.out); have B10_4 := Lib.hid hbox; have HB_4 := Lib.hid (below_step HB_3.out hbl); have B7_4 := Lib.hid (blk_below B7_3.out hbl); have B8_4 := Lib.hid (blk_below B8_3.out hbl); have B9_4 := Lib.hid (blk_below B9_3.out hbl); have Cx_4 := Lib.hid (Kd.C_below HR.out HB_4.out); have Cy_4 := Lib.hid (Kd.C_below HS.out HB_4.out); have k7_0_4 : W4.cell? ⟨g7, 0, none⟩ = some (.slice A l.length c) := (blk_cell B7_4.out 0).trans rfl; have k8_0_4 : W4.cell? ⟨g8, 0, none⟩ = some (.slice A2 wl.length c2) := (blk_cell B8_4.out 0).trans rfl; have k9_0_4 : W4.cell? ⟨g9, 0, none⟩ = some (.int .i64 h) := (blk_cell B9_4.out 0).trans rfl; clear k7_0_3 k8_0_3 k9_0_3; have k10_0_4 : W4.cell? ⟨g10, 0, none⟩ = some (.int .i64 bits) := (blk_cell B10_4.out 0).trans rfl; clear hbox hbl hg)
  | ((with_reducible refine gate_dst (N := 11) rfl ?_); refine box_event ?hg (N := 11) ?hd (cs := #[.int .i64 s]) (t := 3) ?hr ?_; (case hd => rfl); (case hg => rfl); (case hr => first | (go_simp; done) | (go_simp; rfl)); intro g11 hg W5 hbox hbl; have L11 : w.heap.size ≤ g11 := (by rw [hg]; exact below_size HB_4.out); have B11_5 := Lib.hid hbox; have HB_5 := Lib.hid (below_step HB_4.out hbl); have B7_5 := Lib.hid (blk_below B7_4.out hbl); have B8_5 := Lib.hid (blk_below B8_4.out hbl); have B9_5 := Lib.hid (blk_below B9_4.out hbl); have B10_5 := Lib.hid (blk_below B10_4.out hbl); have Cx_5 := Lib.hid (Kd.C_below HR.out HB_5.out); have Cy_5 := Lib.hid (Kd.C_below HS.out HB_5.out); have k7_0_5 : W5.cell? ⟨g7, 0, none⟩ = some (.slice A l.length c) := (blk_cell B7_5.out 0).trans rfl; have k8_0_5 : W5.cell? ⟨g8, 0, none⟩ = some (.slice A2 wl.length c2) := (blk_cell B8_5.out 0).trans rfl; have k9_0_5 : W5.cell? ⟨g9, 0, none⟩ = some (.int .i64 h) := (blk_cell B9_5.out 0).trans rfl; have k10_0_5 : W5.cell? ⟨g10, 0, none⟩ = some (.int .i64 bits) := (blk_cell B10_5.out 0).trans rfl; clear k7_0_4 k8_0_4 k9_0_4 k10_0_4; have k11_0_5 : W5.cell? ⟨g11, 0, none⟩ = some (.int .i64 s) := (blk_cell B11_5.out 0).trans rfl; clear hbox hbl hg)
  | ((with_reducible refine gate_dst (N := 12) rfl ?_); refine box_event ?hg (N := 12) ?hd (cs := #[.int .i64 mode]) (t := 3) ?hr ?_; (case hd => rfl); (case hg => rfl); (case hr => first | (go_simp; done) | (go_simp; rfl)); intro g12 hg W6 hbox hbl; have L12 : w.heap.size ≤ g12 := (by rw [hg]; exact below_size HB_5.out); have B12_6 := Lib.hid hbox; have HB_6 := Lib.hid (below_step HB_5.out hbl); have B7_6 := Lib.hid (blk_below B7_5.out hbl); have B8_6 := Lib.hid (blk_below B8_5.out hbl); have B9_6 := Lib.hid (blk_below B9_5.out hbl); have B10_6 := Lib.hid (blk_below B10_5.out hbl); have B11_6 := Lib.hid (blk_below B11_5.out hbl); have Cx_6 := Lib.hid (Kd.C_below HR.out HB_6.out); have Cy_6 := Lib.hid (Kd.C_below HS.out HB_6.out); have k7_0_6 : W6.cell? ⟨g7, 0, none⟩ = some (.slice A l.length c) := (blk_cell B7_6.out 0).trans rfl; have k8_0_6 : W6.cell? ⟨g8, 0, none⟩ = some (.slice A2 wl.length c2) := (blk_cell B8_6.out 0).trans rfl; have k9_0_6 : W6.cell? ⟨g9, 0, none⟩ = some (.int .i64 h) := (blk_cell B9_6.out 0).trans rfl; have k10_0_6 : W6.cell? ⟨g10, 0, none⟩ = some (.int .i64 bits) := (blk_cell B10_6.out 0).trans rfl; have k11_0_6 : W6.cell? ⟨g11, 0, none⟩ = some (.int .i64 s) := (blk_cell B11_6.out 0).trans rfl; clear k7_0_5 k8_0_5 k9_0_5 k10_0_5 k11_0_5; have k12_0_6 : W6.cell? ⟨g12, 0, none⟩ = some (.int .i64 mode) := (blk_cell B12_6.out 0).trans rfl; clear hbox hbl hg)
  | ((with_reducible refine gate_dst (N := 13) rfl ?_); refine box_event ?hg (N := 13) ?hd (cs := #[.bool inv]) (t := 4) ?hr ?_; (case hd => rfl); (case hg => rfl); (case hr => first | (go_simp; done) | (go_simp; rfl)); intro g13 hg W7 hbox hbl; have L13 : w.heap.size ≤ g13 := (by rw [hg]; exact below_size HB_6.out); have B13_7 := Lib.hid hbox; have HB_7 := Lib.hid (below_step HB_6.out hbl); have B7_7 := Lib.hid (blk_below B7_6.out hbl); have B8_7 := Lib.hid (blk_below B8_6.out hbl); have B9_7 := Lib.hid (blk_below B9_6.out hbl); have B10_7 := Lib.hid (blk_below B10_6.out hbl); have B11_7 := Lib.hid (blk_below B11_6.out hbl); have B12_7 := Lib.hid (blk_below B12_6.out hbl); have Cx_7 := Lib.hid (Kd.C_below HR.out HB_7.out); have Cy_7 := Lib.hid (Kd.C_below HS.out HB_7.out); have k7_0_7 : W7.cell? ⟨g7, 0, none⟩ = some (.slice A l.length c) := (blk_cell B7_7.out 0).trans rfl; have k8_0_7 : W7.cell? ⟨g8, 0, none⟩ = some (.slice A2 wl.length c2) := (blk_cell B8_7.out 0).trans rfl; have k9_0_7 : W7.cell? ⟨g9, 0, none⟩ = some (.int .i64 h) := (blk_cell B9_7.out 0).trans rfl; have k10_0_7 : W7.cell? ⟨g10, 0, none⟩ = some (.int .i64 bits) := (blk_cell B10_7.out 0).trans rfl; have k11_0_7 : W7.cell? ⟨g11, 0, none⟩ = some (.int .i64 s) := (blk_cell B11_7.out 0).trans rfl; have k12_0_7 : W7.cell? ⟨g12, 0, none⟩ = some (.int .i64 mode) := (blk_cell B12_7.out 0).trans rfl; clear k7_0_6 k8_0_6 k9_0_6 k10_0_6 k11_0_6 k12_0_6; have k13_0_7 : W7.cell? ⟨g13, 0, none⟩ = some (.bool inv) := (blk_cell B13_7.out 0).trans rfl; clear hbox hbl hg)
  | (go_at_call 40; (with_reducible refine (flip_Log.calls 10 _ _ _ _ HLOG.out).mono ?_); rintro e W8 ⟨rfl, hd⟩; have hb := hd.below; clear hd; have HB_8 := Lib.hid (below_step HB_7.out hb); have B7_8 := Lib.hid (blk_below B7_7.out hb); have B8_8 := Lib.hid (blk_below B8_7.out hb); have B9_8 := Lib.hid (blk_below B9_7.out hb); have B10_8 := Lib.hid (blk_below B10_7.out hb); have B11_8 := Lib.hid (blk_below B11_7.out hb); have B12_8 := Lib.hid (blk_below B12_7.out hb); have B13_8 := Lib.hid (blk_below B13_7.out hb); have Cx_8 := Lib.hid (Kd.C_below HR.out HB_8.out); have Cy_8 := Lib.hid (Kd.C_below HS.out HB_8.out); have k7_0_8 : W8.cell? ⟨g7, 0, none⟩ = some (.slice A l.length c) := (blk_cell B7_8.out 0).trans rfl; have k8_0_8 : W8.cell? ⟨g8, 0, none⟩ = some (.slice A2 wl.length c2) := (blk_cell B8_8.out 0).trans rfl; have k9_0_8 : W8.cell? ⟨g9, 0, none⟩ = some (.int .i64 h) := (blk_cell B9_8.out 0).trans rfl; have k10_0_8 : W8.cell? ⟨g10, 0, none⟩ = some (.int .i64 bits) := (blk_cell B10_8.out 0).trans rfl; have k11_0_8 : W8.cell? ⟨g11, 0, none⟩ = some (.int .i64 s) := (blk_cell B11_8.out 0).trans rfl; have k12_0_8 : W8.cell? ⟨g12, 0, none⟩ = some (.int .i64 mode) := (blk_cell B12_8.out 0).trans rfl; have k13_0_8 : W8.cell? ⟨g13, 0, none⟩ = some (.bool inv) := (blk_cell B13_8.out 0).trans rfl; clear k7_0_7 k8_0_7 k9_0_7 k10_0_7 k11_0_7 k12_0_7 k13_0_7; clear hb)
  | (go_at_call 78; (with_reducible refine (two_settings.calls bits s mode true _ HSET.out).mono ?_); rintro e W9 ⟨rfl, hb⟩; have HB_9 := Lib.hid (below_step HB_8.out hb); have B7_9 := Lib.hid (blk_below B7_8.out hb); have B8_9 := Lib.hid (blk_below B8_8.out hb); have B9_9 := Lib.hid (blk_below B9_8.out hb); have B10_9 := Lib.hid (blk_below B10_8.out hb); have B11_9 := Lib.hid (blk_below B11_8.out hb); have B12_9 := Lib.hid (blk_below B12_8.out hb); have B13_9 := Lib.hid (blk_below B13_8.out hb); have Cx_9 := Lib.hid (Kd.C_below HR.out HB_9.out); have Cy_9 := Lib.hid (Kd.C_below HS.out HB_9.out); have k7_0_9 : W9.cell? ⟨g7, 0, none⟩ = some (.slice A l.length c) := (blk_cell B7_9.out 0).trans rfl; have k8_0_9 : W9.cell? ⟨g8, 0, none⟩ = some (.slice A2 wl.length c2) := (blk_cell B8_9.out 0).trans rfl; have k9_0_9 : W9.cell? ⟨g9, 0, none⟩ = some (.int .i64 h) := (blk_cell B9_9.out 0).trans rfl; have k10_0_9 : W9.cell? ⟨g10, 0, none⟩ = some (.int .i64 bits) := (blk_cell B10_9.out 0).trans rfl; have k11_0_9 : W9.cell? ⟨g11, 0, none⟩ = some (.int .i64 s) := (blk_cell B11_9.out 0).trans rfl; have k12_0_9 : W9.cell? ⟨g12, 0, none⟩ = some (.int .i64 mode) := (blk_cell B12_9.out 0).trans rfl; have k13_0_9 : W9.cell? ⟨g13, 0, none⟩ = some (.bool inv) := (blk_cell B13_9.out 0).trans rfl; clear k7_0_8 k8_0_8 k9_0_8 k10_0_8 k11_0_8 k12_0_8 k13_0_8; clear hb)
  | (go_at_call 43; (with_reducible refine (ContainsNo75 A c l _ Cx_9.out HC.out HX.out).mono ?_); rintro e W10 ⟨rfl, hb⟩; have HB_10 := Lib.hid (below_step HB_9.out hb); have B7_10 := Lib.hid (blk_below B7_9.out hb); have B8_10 := Lib.hid (blk_below B8_9.out hb); have B9_10 := Lib.hid (blk_below B9_9.out hb); have B10_10 := Lib.hid (blk_below B10_9.out hb); have B11_10 := Lib.hid (blk_below B11_9.out hb); have B12_10 := Lib.hid (blk_below B12_9.out hb); have B13_10 := Lib.hid (blk_below B13_9.out hb); have Cx_10 := Lib.hid (Kd.C_below HR.out HB_10.out); have Cy_10 := Lib.hid (Kd.C_below HS.out HB_10.out); have k7_0_10 : W10.cell? ⟨g7, 0, none⟩ = some (.slice A l.length c) := (blk_cell B7_10.out 0).trans rfl; have k8_0_10 : W10.cell? ⟨g8, 0, none⟩ = some (.slice A2 wl.length c2) := (blk_cell B8_10.out 0).trans rfl; have k9_0_10 : W10.cell? ⟨g9, 0, none⟩ = some (.int .i64 h) := (blk_cell B9_10.out 0).trans rfl; have k10_0_10 : W10.cell? ⟨g10, 0, none⟩ = some (.int .i64 bits) := (blk_cell B10_10.out 0).trans rfl; have k11_0_10 : W10.cell? ⟨g11, 0, none⟩ = some (.int .i64 s) := (blk_cell B11_10.out 0).trans rfl; have k12_0_10 : W10.cell? ⟨g12, 0, none⟩ = some (.int .i64 mode) := (blk_cell B12_10.out 0).trans rfl; have k13_0_10 : W10.cell? ⟨g13, 0, none⟩ = some (.bool inv) := (blk_cell B13_10.out 0).trans rfl; clear k7_0_9 k8_0_9 k9_0_9 k10_0_9 k11_0_9 k12_0_9 k13_0_9; clear hb)
  | (go_at_call 43; (with_reducible refine (ContainsNo77 A2 c2 wl g10 bits mm b0 b1 hmm _ Cy_10.out HC2.out B10_10.out HW.out).mono ?_); rintro e W11 ⟨rfl, hb⟩; have HB_11 := Lib.hid (below_step HB_10.out hb); have B7_11 := Lib.hid (blk_below B7_10.out hb); have B8_11 := Lib.hid (blk_below B8_10.out hb); have B9_11 := Lib.hid (blk_below B9_10.out hb); have B10_11 := Lib.hid (blk_below B10_10.out hb); have B11_11 := Lib.hid (blk_below B11_10.out hb); have B12_11 := Lib.hid (blk_below B12_10.out hb); have B13_11 := Lib.hid (blk_below B13_10.out hb); have Cx_11 := Lib.hid (Kd.C_below HR.out HB_11.out); have Cy_11 := Lib.hid (Kd.C_below HS.out HB_11.out); have k7_0_11 : W11.cell? ⟨g7, 0, none⟩ = some (.slice A l.length c) := (blk_cell B7_11.out 0).trans rfl; have k8_0_11 : W11.cell? ⟨g8, 0, none⟩ = some (.slice A2 wl.length c2) := (blk_cell B8_11.out 0).trans rfl; have k9_0_11 : W11.cell? ⟨g9, 0, none⟩ = some (.int .i64 h) := (blk_cell B9_11.out 0).trans rfl; have k10_0_11 : W11.cell? ⟨g10, 0, none⟩ = some (.int .i64 bits) := (blk_cell B10_11.out 0).trans rfl; have k11_0_11 : W11.cell? ⟨g11, 0, none⟩ = some (.int .i64 s) := (blk_cell B11_11.out 0).trans rfl; have k12_0_11 : W11.cell? ⟨g12, 0, none⟩ = some (.int .i64 mode) := (blk_cell B12_11.out 0).trans rfl; have k13_0_11 : W11.cell? ⟨g13, 0, none⟩ = some (.bool inv) := (blk_cell B13_11.out 0).trans rfl; clear k7_0_10 k8_0_10 k9_0_10 k10_0_10 k11_0_10 k12_0_10 k13_0_10; clear hb)
  | (go_at_call 79; (refine (api_Cx_79.calls A c l l _ Cx_11.out HC.out HCL.out).mono ?_); rintro e W12 ⟨v20, rfl, ho, hb⟩; obtain ⟨g, cap, hv, hg1, hg2, _⟩ := Kd.R_form ho HNE.out; subst hv; have LG : w.heap.size ≤ g := Nat.le_trans (below_size HB_11.out) hg1; have Rout_12 := Lib.hid (Kd.R_lower ho (below_size HB_11.out)); have HB_12 := Lib.hid (below_step HB_11.out hb); have B7_12 := Lib.hid (blk_below B7_11.out hb); have B8_12 := Lib.hid (blk_below B8_11.out hb); have B9_12 := Lib.hid (blk_below B9_11.out hb); have B10_12 := Lib.hid (blk_below B10_11.out hb); have B11_12 := Lib.hid (blk_below B11_11.out hb); have B12_12 := Lib.hid (blk_below B12_11.out hb); have B13_12 := Lib.hid (blk_below B13_11.out hb); have Cx_12 := Lib.hid (Kd.C_below HR.out HB_12.out); have Cy_12 := Lib.hid (Kd.C_below HS.out HB_12.out); have k7_0_12 : W12.cell? ⟨g7, 0, none⟩ = some (.slice A l.length c) := (blk_cell B7_12.out 0).trans rfl; have k8_0_12 : W12.cell? ⟨g8, 0, none⟩ = some (.slice A2 wl.length c2) := (blk_cell B8_12.out 0).trans rfl; have k9_0_12 : W12.cell? ⟨g9, 0, none⟩ = some (.int .i64 h) := (blk_cell B9_12.out 0).trans rfl; have k10_0_12 : W12.cell? ⟨g10, 0, none⟩ = some (.int .i64 bits) := (blk_cell B10_12.out 0).trans rfl; have k11_0_12 : W12.cell? ⟨g11, 0, none⟩ = some (.int .i64 s) := (blk_cell B11_12.out 0).trans rfl; have k12_0_12 : W12.cell? ⟨g12, 0, none⟩ = some (.int .i64 mode) := (blk_cell B12_12.out 0).trans rfl; have k13_0_12 : W12.cell? ⟨g13, 0, none⟩ = some (.bool inv) := (blk_cell B13_12.out 0).trans rfl; clear k7_0_11 k8_0_11 k9_0_11 k10_0_11 k11_0_11 k12_0_11 k13_0_11; clear hb ho hg1 hg2)
  | ((with_reducible refine gate_dst (N := 20) rfl ?_); refine box_event ?hg (N := 20) ?hd (cs := #[.slice none 0 0]) (t := 22) ?hr ?_; (case hd => rfl); (case hg => rfl); (case hr => first | (go_simp; done) | (go_simp; rfl)); intro g20 hg W13 hbox hbl; have L20 : w.heap.size ≤ g20 := (by rw [hg]; exact below_size HB_12.out); have B20_13 := Lib.hid hbox; have HB_13 := Lib.hid (below_step HB_12.out hbl); have B7_13 := Lib.hid (blk_below B7_12.out hbl); have B8_13 := Lib.hid (blk_below B8_12.out hbl); have B9_13 := Lib.hid (blk_below B9_12.out hbl); have B10_13 := Lib.hid (blk_below B10_12.out hbl); have B11_13 := Lib.hid (blk_below B11_12.out hbl); have B12_13 := Lib.hid (blk_below B12_12.out hbl); have B13_13 := Lib.hid (blk_below B13_12.out hbl); have Rout_13 := Lib.hid (Kd.R_below Rout_12.out hbl); have Cx_13 := Lib.hid (Kd.C_below HR.out HB_13.out); have Cy_13 := Lib.hid (Kd.C_below HS.out HB_13.out); have k7_0_13 : W13.cell? ⟨g7, 0, none⟩ = some (.slice A l.length c) := (blk_cell B7_13.out 0).trans rfl; have k8_0_13 : W13.cell? ⟨g8, 0, none⟩ = some (.slice A2 wl.length c2) := (blk_cell B8_13.out 0).trans rfl; have k9_0_13 : W13.cell? ⟨g9, 0, none⟩ = some (.int .i64 h) := (blk_cell B9_13.out 0).trans rfl; have k10_0_13 : W13.cell? ⟨g10, 0, none⟩ = some (.int .i64 bits) := (blk_cell B10_13.out 0).trans rfl; have k11_0_13 : W13.cell? ⟨g11, 0, none⟩ = some (.int .i64 s) := (blk_cell B11_13.out 0).trans rfl; have k12_0_13 : W13.cell? ⟨g12, 0, none⟩ = some (.int .i64 mode) := (blk_cell B12_13.out 0).trans rfl; have k13_0_13 : W13.cell? ⟨g13, 0, none⟩ = some (.bool inv) := (blk_cell B13_13.out 0).trans rfl; clear k7_0_12 k8_0_12 k9_0_12 k10_0_12 k11_0_12 k12_0_12 k13_0_12; have k20_0_13 : W13.cell? ⟨g20, 0, none⟩ = some (.slice none 0 0) := (blk_cell B20_13.out 0).trans rfl; have N20_7 := Lib.hid (show g7 ≠ g20 from by have := blk_lt B7_12.out; omega); have N20_8 := Lib.hid (show g8 ≠ g20 from by have := blk_lt B8_12.out; omega); have NR20 := Lib.hid (show some g20 ≠ _ from by rw [hg]; exact Kd.R_ne_new Rout_12.out 0); clear hbox hbl hg)
  | ((with_reducible refine gate_store (t := 22) (p := 20) rfl ?_); refine cell_event rfl rfl 22 _ _ rfl g20 (.slice (some ⟨g, 0, none⟩) l.length cap) rfl rfl 22 _ B20_13.out sizeOf22 rfl rfl ?_; intro W14 hq hoth hbel; have B20_14 := Lib.hid hq; have HB_14 := Lib.hid (hbel _ _ L20 HB_13.out); have ne_9 : g9 ≠ g20 := (fun e => by have h1 := B9_13.out; rw [e] at h1; have h2 := h1.symm.trans B20_13.out; simp at h2); have ne_10 : g10 ≠ g20 := (fun e => by have h1 := B10_13.out; rw [e] at h1; have h2 := h1.symm.trans B20_13.out; simp at h2); have ne_11 : g11 ≠ g20 := (fun e => by have h1 := B11_13.out; rw [e] at h1; have h2 := h1.symm.trans B20_13.out; simp at h2); have ne_12 : g12 ≠ g20 := (fun e => by have h1 := B12_13.out; rw [e] at h1; have h2 := h1.symm.trans B20_13.out; simp at h2); have ne_13 : g13 ≠ g20 := (fun e => by have h1 := B13_13.out; rw [e] at h1; have h2 := h1.symm.trans B20_13.out; simp at h2); have ne_7 : g7 ≠ g20 := (fun e => by have h1 := N20_7.out; exact h1 e); have ne_8 : g8 ≠ g20 := (fun e => by have h1 := N20_8.out; exact h1 e); have B7_14 := Lib.hid ((hoth _ (ne_7)).trans B7_13.out); have B8_14 := Lib.hid ((hoth _ (ne_8)).trans B8_13.out); have B9_14 := Lib.hid ((hoth _ (ne_9)).trans B9_13.out); have B10_14 := Lib.hid ((hoth _ (ne_10)).trans B10_13.out); have B11_14 := Lib.hid ((hoth _ (ne_11)).trans B11_13.out); have B12_14 := Lib.hid ((hoth _ (ne_12)).trans B12_13.out); have B13_14 := Lib.hid ((hoth _ (ne_13)).trans B13_13.out); have Rout_14 := Lib.hid (R_other Rout_13.out hoth NR20.out); have k7_0_14 : W14.cell? ⟨g7, 0, none⟩ = some (.slice A l.length c) := (blk_cell B7_14.out 0).trans rfl; have k8_0_14 : W14.cell? ⟨g8, 0, none⟩ = some (.slice A2 wl.length c2) := (blk_cell B8_14.out 0).trans rfl; have k9_0_14 : W14.cell? ⟨g9, 0, none⟩ = some (.int .i64 h) := (blk_cell B9_14.out 0).trans rfl; have k10_0_14 : W14.cell? ⟨g10, 0, none⟩ = some (.int .i64 bits) := (blk_cell B10_14.out 0).trans rfl; have k11_0_14 : W14.cell? ⟨g11, 0, none⟩ = some (.int .i64 s) := (blk_cell B11_14.out 0).trans rfl; have k12_0_14 : W14.cell? ⟨g12, 0, none⟩ = some (.int .i64 mode) := (blk_cell B12_14.out 0).trans rfl; have k13_0_14 : W14.cell? ⟨g13, 0, none⟩ = some (.bool inv) := (blk_cell B13_14.out 0).trans rfl; clear k7_0_13 k8_0_13 k9_0_13 k10_0_13 k11_0_13 k12_0_13 k13_0_13 k20_0_13; have k20_0_14 : W14.cell? ⟨g20, 0, none⟩ = some (.slice (some ⟨g, 0, none⟩) l.length cap) := (blk_cell B20_14.out 0).trans rfl; clear hq hoth hbel)
  | (go_at_call 80; ( refine (pairs_any l.length h _).mono ?_); rintro e W15 ⟨gn, gh, rfl, hbn, hbh, Ln, Lh, hb⟩; have HB_15 := Lib.hid (below_step HB_14.out hb); have B7_15 := Lib.hid (blk_below B7_14.out hb); have B8_15 := Lib.hid (blk_below B8_14.out hb); have B9_15 := Lib.hid (blk_below B9_14.out hb); have B10_15 := Lib.hid (blk_below B10_14.out hb); have B11_15 := Lib.hid (blk_below B11_14.out hb); have B12_15 := Lib.hid (blk_below B12_14.out hb); have B13_15 := Lib.hid (blk_below B13_14.out hb); have B20_15 := Lib.hid (blk_below B20_14.out hb); have Rout_15 := Lib.hid (Kd.R_below Rout_14.out hb); have Cx_15 := Lib.hid (Kd.C_below HR.out HB_15.out); have Cy_15 := Lib.hid (Kd.C_below HS.out HB_15.out); have k7_0_15 : W15.cell? ⟨g7, 0, none⟩ = some (.slice A l.length c) := (blk_cell B7_15.out 0).trans rfl; have k8_0_15 : W15.cell? ⟨g8, 0, none⟩ = some (.slice A2 wl.length c2) := (blk_cell B8_15.out 0).trans rfl; have k9_0_15 : W15.cell? ⟨g9, 0, none⟩ = some (.int .i64 h) := (blk_cell B9_15.out 0).trans rfl; have k10_0_15 : W15.cell? ⟨g10, 0, none⟩ = some (.int .i64 bits) := (blk_cell B10_15.out 0).trans rfl; have k11_0_15 : W15.cell? ⟨g11, 0, none⟩ = some (.int .i64 s) := (blk_cell B11_15.out 0).trans rfl; have k12_0_15 : W15.cell? ⟨g12, 0, none⟩ = some (.int .i64 mode) := (blk_cell B12_15.out 0).trans rfl; have k13_0_15 : W15.cell? ⟨g13, 0, none⟩ = some (.bool inv) := (blk_cell B13_15.out 0).trans rfl; have k20_0_15 : W15.cell? ⟨g20, 0, none⟩ = some (.slice (some ⟨g, 0, none⟩) l.length cap) := (blk_cell B20_15.out 0).trans rfl; clear k7_0_14 k8_0_14 k9_0_14 k10_0_14 k11_0_14 k12_0_14 k13_0_14 k20_0_14; have Bn := Lib.hid hbn; have Bh := Lib.hid hbh; clear hbn hbh; clear hb))
 refine (wpIn_wide (n := 10)).1 ?_
 refine wpIn_rangeFunc_ownF rfl (by decide) (gf := 106) (lb := #[.pointer (some ⟨gn, 0, none⟩), .pointer (some ⟨gh, 0, none⟩)]) rfl trivial (enters_of Tryz.func106 (by kernel_rfl) rfl)
  (pairs_stops 9 (by decide) gn gh l.length h m (by have := HN.out; omega) (by have := HH.out.1; omega) (by have := HH.out.2; have := HN.out; omega) HM.out _ Bn.out Bh.out) keepTwo_t (keepTwo_b (blk_lt Bn.out) (blk_lt Bh.out)) (Below.refl _ _) (fun _ => rfl)
  (fun pre W => InvP A A2 g g7 g8 g9 g10 g11 g12 g13 g20 gn gh l wl c c2 cap h bits s mode inv m w pre W)
  (fun _ _ _ => False)
  (invP_own (below_size HB_15.out))
  (fun _ _ _ _ _ hs _ _ => hs)
  ⟨⟨B7_15.out, B8_15.out, B9_15.out, B10_15.out, B11_15.out, B12_15.out, B13_15.out, B20_15.out, Bn.out, Bh.out⟩, Rout_15.out, HB_15.out⟩ ?a1 ?assign ?body ?done ?stop
 case assign =>
  intro l x W K hK
  gi_wp2
  exact hK
 case body =>
  rintro lY pre ⟨p, hp⟩ W ⟨⟨h7, h8, h9, h10, h11, h12, h13, h20, hn, hh⟩, hR, hB⟩ hlt
  obtain ⟨i0, i1, i2, i3⟩ := HI.out p hp
  have hC1 := Kd.C_below HR.out hB
  have hC2 := Kd.C_below HS.out hB
  have e1 := HLN.out
  have e2 := HH.out
  have e3 := HN.out
  obtain ⟨ad, rfl, x0, x1⟩ := at_T38 hC1 p.1 i0 (by omega)
  obtain ⟨ad', e4, x2, x3⟩ := at_T38 hC1 (p.1 + h) (by omega) (by omega)
  obtain rfl := Option.some.inj e4
  obtain ⟨ad2, rfl, z0, z1⟩ := at_T38 hC2 p.2 i2 (by omega)
  have ha0 : inB 2147483648 (rd_T38 l p.1) = true := by have := allB_drop HX.out p.1.toNat (by omega); rwa [Int.toNat_of_nonneg i0] at this
  have ha1 : inB 2147483648 (rd_T38 l (p.1 + h)) = true := by have := allB_drop HX.out (p.1 + h).toNat (by omega); rwa [Int.toNat_of_nonneg (by omega)] at this
  have hrr : inB mm (rd_T38 wl p.2) = true := by have := allB_drop HW.out p.2.toNat (by omega); rwa [Int.toNat_of_nonneg i2] at this
  have hmm1 : mm ≤ 1073741823 := by
   have hp := int_pow_le (a := bits.toNat) (b := 29) (by omega)
   rw [hmm]
   have : (2 : Int) ^ 29 = 536870912 := by decide
   omega
  have hr30 : inB 1073741824 (rd_T38 wl p.2) = true := by obtain ⟨c0, c1, c2, c3⟩ := inB_of hrr; exact inB_to (by omega)
  have HWD := Lib.hid (show wideB (rd_T38 wl p.2) = true by obtain ⟨c0, c1, c2, c3⟩ := inB_of hr30; exact decide_eq_true (by omega))
  have hv30 : inB 1073741824 (rootV inv (rd_T38 wl p.2)) = true := by
   obtain ⟨c0, c1, c2, c3⟩ := inB_of hr30
   unfold rootV
   split
   ·have e : wrap64 (-(rd_T38 wl p.2).f1) = -(rd_T38 wl p.2).f1 := by unfold wrap64; omega
    exact inB_to (by dsimp only; rw [e]; omega)
   ·exact hr30
  have HP := Lib.hid (pair_yes (rd_T38 l p.1) (rd_T38 l (p.1 + h)) (rootV inv (rd_T38 wl p.2)) bits s mode ha1 hv30 b0 b2 s0 s1 mo0 mo1)
  have HQ := Lib.hid (show ∀ Y : List S38, twoStep l wl h bits s mode inv Y p = (Y.set p.1.toNat (pairV (rd_T38 l p.1) (rd_T38 l (p.1 + h)) (rootV inv (rd_T38 wl p.2)) bits s mode).1).set (p.1 + h).toNat (pairV (rd_T38 l p.1) (rd_T38 l (p.1 + h)) (rootV inv (rd_T38 wl p.2)) bits s mode).2 from fun _ => rfl)
  have HPRE := Lib.hid (show ((pre ++ [(⟨p, hp⟩ : {p : Int × Int // p ∈ pairsTo h m l.length})]).map Subtype.val).foldl (twoStep l wl h bits s mode inv) l = twoStep l wl h bits s mode inv ((pre.map Subtype.val).foldl (twoStep l wl h bits s mode inv) l) p by rw [List.map_append, List.foldl_append]; rfl)
  have hY := twoFold_len l wl h bits s mode inv (pre.map Subtype.val) l
  have w1 : wrap64 (p.1 + h) = p.1 + h := by unfold wrap64; omega
  have l1 : p.1 < l.length := by omega
  have i4 : 0 ≤ p.1 + h := by omega
  have l2 : p.2 < wl.length := by omega
  generalize (pre.map Subtype.val).foldl (twoStep l wl h bits s mode inv) l = Y at *
  generalize rd_T38 l p.1 = a0 at *
  generalize rd_T38 l (p.1 + h) = a1 at *
  generalize rd_T38 wl p.2 = r at *
  have E7 := Lib.hid h7
  have E8 := Lib.hid h8
  have E9 := Lib.hid h9
  have E10 := Lib.hid h10
  have E11 := Lib.hid h11
  have E12 := Lib.hid h12
  have E13 := Lib.hid h13
  have E20 := Lib.hid h20
  have En := Lib.hid hn
  have Eh := Lib.hid hh
  have ER := Lib.hid hR
  have EB := Lib.hid hB
  have HBs := Lib.hid (Below.refl W.heap.size W)
  have k7 : W.cell? ⟨g7, 0, none⟩ = some (.slice (some ad) l.length c) := (blk_cell h7 0).trans rfl
  have k8 : W.cell? ⟨g8, 0, none⟩ = some (.slice (some ad2) wl.length c2) := (blk_cell h8 0).trans rfl
  have k9 := (blk_cell h9 0).trans rfl
  have k10 := (blk_cell h10 0).trans rfl
  have k11 := (blk_cell h11 0).trans rfl
  have k12 := (blk_cell h12 0).trans rfl
  have k13 := (blk_cell h13 0).trans rfl
  have k20 := (blk_cell h20 0).trans rfl
  have kn := (blk_cell hn 0).trans rfl
  have kh := (blk_cell hh 0).trans rfl
  clear h7 h8 h9 h10 h11 h12 h13 h20 hn hh hR hB hC1 hC2 e1 e2 e3 ha0 ha1 hrr hmm1 hr30 hv30 k7_0_15 k8_0_15 k9_0_15 k10_0_15 k11_0_15 k12_0_15 k13_0_15 k20_0_15
  cases inv with
  | true =>
   refine wpIn_block ?_
   refine wpIn_seq ?_
   refine regionR_ (by kernel_rfl) (fun ⟨_, _, q⟩ => q) ?_
   go_wp2_with (first
    | ((with_reducible refine gate_dst (N := 23) rfl ?_); refine box_event ?hg (N := 23) ?hd (cs := #[.int .i64 0, .int .i64 0]) (t := 38) ?hr ?_; (case hd => rfl); (case hg => rfl); (case hr => first | (go_simp; done) | (go_simp; rfl)); intro g23 hg W1 hbox hbl; have L23 : W.heap.size ≤ g23 := (by rw [hg]; exact below_size HBs.out); have B23_1 := Lib.hid hbox; have HB_1 := Lib.hid (below_step HBs.out hbl); have B7_1 := Lib.hid (blk_below E7.out hbl); have B8_1 := Lib.hid (blk_below E8.out hbl); have B9_1 := Lib.hid (blk_below E9.out hbl); have B10_1 := Lib.hid (blk_below E10.out hbl); have B11_1 := Lib.hid (blk_below E11.out hbl); have B12_1 := Lib.hid (blk_below E12.out hbl); have B13_1 := Lib.hid (blk_below E13.out hbl); have B20_1 := Lib.hid (blk_below E20.out hbl); have Bn_1 := Lib.hid (blk_below En.out hbl); have Bh_1 := Lib.hid (blk_below Eh.out hbl); have Rout_1 := Lib.hid (Kd.R_below ER.out hbl); have k7_0_1 : W1.cell? ⟨g7, 0, none⟩ = some (.slice (some ad) l.length c) := (blk_cell B7_1.out 0).trans rfl; have k8_0_1 : W1.cell? ⟨g8, 0, none⟩ = some (.slice (some ad2) wl.length c2) := (blk_cell B8_1.out 0).trans rfl; have k9_0_1 : W1.cell? ⟨g9, 0, none⟩ = some (.int .i64 h) := (blk_cell B9_1.out 0).trans rfl; have k10_0_1 : W1.cell? ⟨g10, 0, none⟩ = some (.int .i64 bits) := (blk_cell B10_1.out 0).trans rfl; have k11_0_1 : W1.cell? ⟨g11, 0, none⟩ = some (.int .i64 s) := (blk_cell B11_1.out 0).trans rfl; have k12_0_1 : W1.cell? ⟨g12, 0, none⟩ = some (.int .i64 mode) := (blk_cell B12_1.out 0).trans rfl; have k13_0_1 : W1.cell? ⟨g13, 0, none⟩ = some (.bool true) := (blk_cell B13_1.out 0).trans rfl; have k20_0_1 : W1.cell? ⟨g20, 0, none⟩ = some (.slice (some ⟨g, 0, none⟩) l.length cap) := (blk_cell B20_1.out 0).trans rfl; have kn_0_1 : W1.cell? ⟨gn, 0, none⟩ = some (.int .i64 l.length) := (blk_cell Bn_1.out 0).trans rfl; have kh_0_1 : W1.cell? ⟨gh, 0, none⟩ = some (.int .i64 h) := (blk_cell Bh_1.out 0).trans rfl; clear k7 k8 k9 k10 k11 k12 k13 k20 kn kh; have k23_0_1 : W1.cell? ⟨g23, 0, none⟩ = some (.int .i64 0) := (blk_cell B23_1.out 0).trans rfl; have k23_1_1 : W1.cell? ⟨g23, 1, none⟩ = some (.int .i64 0) := (blk_cell B23_1.out 1).trans rfl; have ne23_7 : g7 ≠ g23 := (fun e => by have := blk_lt E7.out; rw [hg] at e; omega); have ne23_8 : g8 ≠ g23 := (fun e => by have := blk_lt E8.out; rw [hg] at e; omega); have ne23_9 : g9 ≠ g23 := (fun e => by have := blk_lt E9.out; rw [hg] at e; omega); have ne23_10 : g10 ≠ g23 := (fun e => by have := blk_lt E10.out; rw [hg] at e; omega); have ne23_11 : g11 ≠ g23 := (fun e => by have := blk_lt E11.out; rw [hg] at e; omega); have ne23_12 : g12 ≠ g23 := (fun e => by have := blk_lt E12.out; rw [hg] at e; omega); have ne23_13 : g13 ≠ g23 := (fun e => by have := blk_lt E13.out; rw [hg] at e; omega); have ne23_20 : g20 ≠ g23 := (fun e => by have := blk_lt E20.out; rw [hg] at e; omega); have ne23_n : gn ≠ g23 := (fun e => by have := blk_lt En.out; rw [hg] at e; omega); have ne23_h : gh ≠ g23 := (fun e => by have := blk_lt Eh.out; rw [hg] at e; omega); have NR23 := Lib.hid (show some g23 ≠ _ from by rw [hg]; exact Kd.R_ne_new ER.out 0); clear hbox hbl hg)
    | ((with_reducible refine gate_store (t := 38) (p := 23) rfl ?_); refine row_event rfl 38 _ _ rfl g23 #[.int .i64 r.f0, .int .i64 r.f1] rfl rfl 38 #[.int .i64 0, .int .i64 0] B23_1.out (size38 _ _) rfl (one38 _ _) ?_; intro W2 hq hoth hbel; have B23_2 := Lib.hid hq; have HB_2 := Lib.hid (hbel _ _ L23 HB_1.out); have B7_2 := Lib.hid ((hoth _ (ne23_7)).trans B7_1.out); have B8_2 := Lib.hid ((hoth _ (ne23_8)).trans B8_1.out); have B9_2 := Lib.hid ((hoth _ (ne23_9)).trans B9_1.out); have B10_2 := Lib.hid ((hoth _ (ne23_10)).trans B10_1.out); have B11_2 := Lib.hid ((hoth _ (ne23_11)).trans B11_1.out); have B12_2 := Lib.hid ((hoth _ (ne23_12)).trans B12_1.out); have B13_2 := Lib.hid ((hoth _ (ne23_13)).trans B13_1.out); have B20_2 := Lib.hid ((hoth _ (ne23_20)).trans B20_1.out); have Bn_2 := Lib.hid ((hoth _ (ne23_n)).trans Bn_1.out); have Bh_2 := Lib.hid ((hoth _ (ne23_h)).trans Bh_1.out); have Rout_2 := Lib.hid (R_other Rout_1.out hoth NR23.out); have k7_0_2 : W2.cell? ⟨g7, 0, none⟩ = some (.slice (some ad) l.length c) := (blk_cell B7_2.out 0).trans rfl; have k8_0_2 : W2.cell? ⟨g8, 0, none⟩ = some (.slice (some ad2) wl.length c2) := (blk_cell B8_2.out 0).trans rfl; have k9_0_2 : W2.cell? ⟨g9, 0, none⟩ = some (.int .i64 h) := (blk_cell B9_2.out 0).trans rfl; have k10_0_2 : W2.cell? ⟨g10, 0, none⟩ = some (.int .i64 bits) := (blk_cell B10_2.out 0).trans rfl; have k11_0_2 : W2.cell? ⟨g11, 0, none⟩ = some (.int .i64 s) := (blk_cell B11_2.out 0).trans rfl; have k12_0_2 : W2.cell? ⟨g12, 0, none⟩ = some (.int .i64 mode) := (blk_cell B12_2.out 0).trans rfl; have k13_0_2 : W2.cell? ⟨g13, 0, none⟩ = some (.bool true) := (blk_cell B13_2.out 0).trans rfl; have k20_0_2 : W2.cell? ⟨g20, 0, none⟩ = some (.slice (some ⟨g, 0, none⟩) l.length cap) := (blk_cell B20_2.out 0).trans rfl; have kn_0_2 : W2.cell? ⟨gn, 0, none⟩ = some (.int .i64 l.length) := (blk_cell Bn_2.out 0).trans rfl; have kh_0_2 : W2.cell? ⟨gh, 0, none⟩ = some (.int .i64 h) := (blk_cell Bh_2.out 0).trans rfl; clear k7_0_1 k8_0_1 k9_0_1 k10_0_1 k11_0_1 k12_0_1 k13_0_1 k20_0_1 kn_0_1 kh_0_1 k23_0_1 k23_1_1; have k23_0_2 : W2.cell? ⟨g23, 0, none⟩ = some (.int .i64 r.f0) := (blk_cell B23_2.out 0).trans rfl; have k23_1_2 : W2.cell? ⟨g23, 1, none⟩ = some (.int .i64 r.f1) := (blk_cell B23_2.out 1).trans rfl; clear hq hoth hbel))
   refine wpIn_seq ?_
   refine wpIn_seq ?_
   refine regionR_ (by kernel_rfl) (fun ⟨_, _, q⟩ => q) ?_
   go_wp2
   refine wpIn_cond_true rfl ?_
   refine regionR_ (by kernel_rfl) (fun ⟨_, _, q⟩ => q) ?_
   go_wp2_with (first
    | ((with_reducible refine gate_dst (N := 89) rfl ?_); refine wpList_load_row rfl 38 _ rfl g23 rfl 38 #[.int .i64 r.f0, .int .i64 r.f1] (0, 0) _ B23_2.out Tryz.underlying38 rfl (size38 _ _) ?_)
    | (go_at_call 58; (with_reducible refine (Conj_yes r HWD.out _).mono ?_); rintro e W3 ⟨rfl, hb⟩; have HB_3 := Lib.hid (below_step HB_2.out hb); have B7_3 := Lib.hid (blk_below B7_2.out hb); have B8_3 := Lib.hid (blk_below B8_2.out hb); have B9_3 := Lib.hid (blk_below B9_2.out hb); have B10_3 := Lib.hid (blk_below B10_2.out hb); have B11_3 := Lib.hid (blk_below B11_2.out hb); have B12_3 := Lib.hid (blk_below B12_2.out hb); have B13_3 := Lib.hid (blk_below B13_2.out hb); have B20_3 := Lib.hid (blk_below B20_2.out hb); have Bn_3 := Lib.hid (blk_below Bn_2.out hb); have Bh_3 := Lib.hid (blk_below Bh_2.out hb); have B23_3 := Lib.hid (blk_below B23_2.out hb); have Rout_3 := Lib.hid (Kd.R_below Rout_2.out hb); have k7_0_3 : W3.cell? ⟨g7, 0, none⟩ = some (.slice (some ad) l.length c) := (blk_cell B7_3.out 0).trans rfl; have k8_0_3 : W3.cell? ⟨g8, 0, none⟩ = some (.slice (some ad2) wl.length c2) := (blk_cell B8_3.out 0).trans rfl; have k9_0_3 : W3.cell? ⟨g9, 0, none⟩ = some (.int .i64 h) := (blk_cell B9_3.out 0).trans rfl; have k10_0_3 : W3.cell? ⟨g10, 0, none⟩ = some (.int .i64 bits) := (blk_cell B10_3.out 0).trans rfl; have k11_0_3 : W3.cell? ⟨g11, 0, none⟩ = some (.int .i64 s) := (blk_cell B11_3.out 0).trans rfl; have k12_0_3 : W3.cell? ⟨g12, 0, none⟩ = some (.int .i64 mode) := (blk_cell B12_3.out 0).trans rfl; have k13_0_3 : W3.cell? ⟨g13, 0, none⟩ = some (.bool true) := (blk_cell B13_3.out 0).trans rfl; have k20_0_3 : W3.cell? ⟨g20, 0, none⟩ = some (.slice (some ⟨g, 0, none⟩) l.length cap) := (blk_cell B20_3.out 0).trans rfl; have kn_0_3 : W3.cell? ⟨gn, 0, none⟩ = some (.int .i64 l.length) := (blk_cell Bn_3.out 0).trans rfl; have kh_0_3 : W3.cell? ⟨gh, 0, none⟩ = some (.int .i64 h) := (blk_cell Bh_3.out 0).trans rfl; have k23_0_3 : W3.cell? ⟨g23, 0, none⟩ = some (.int .i64 r.f0) := (blk_cell B23_3.out 0).trans rfl; have k23_1_3 : W3.cell? ⟨g23, 1, none⟩ = some (.int .i64 r.f1) := (blk_cell B23_3.out 1).trans rfl; clear k7_0_2 k8_0_2 k9_0_2 k10_0_2 k11_0_2 k12_0_2 k13_0_2 k20_0_2 kn_0_2 kh_0_2 k23_0_2 k23_1_2; clear hb)
    | ((with_reducible refine gate_store (t := 38) (p := 23) rfl ?_); refine row_event rfl 38 _ _ rfl g23 #[.int .i64 r.f0, .int .i64 (wrap64 (-r.f1))] rfl rfl 38 #[.int .i64 r.f0, .int .i64 r.f1] B23_3.out (size38 _ _) rfl (one38 _ _) ?_; intro W4 hq hoth hbel; have B23_4 := Lib.hid hq; have HB_4 := Lib.hid (hbel _ _ L23 HB_3.out); have B7_4 := Lib.hid ((hoth _ (ne23_7)).trans B7_3.out); have B8_4 := Lib.hid ((hoth _ (ne23_8)).trans B8_3.out); have B9_4 := Lib.hid ((hoth _ (ne23_9)).trans B9_3.out); have B10_4 := Lib.hid ((hoth _ (ne23_10)).trans B10_3.out); have B11_4 := Lib.hid ((hoth _ (ne23_11)).trans B11_3.out); have B12_4 := Lib.hid ((hoth _ (ne23_12)).trans B12_3.out); have B13_4 := Lib.hid ((hoth _ (ne23_13)).trans B13_3.out); have B20_4 := Lib.hid ((hoth _ (ne23_20)).trans B20_3.out); have Bn_4 := Lib.hid ((hoth _ (ne23_n)).trans Bn_3.out); have Bh_4 := Lib.hid ((hoth _ (ne23_h)).trans Bh_3.out); have Rout_4 := Lib.hid (R_other Rout_3.out hoth NR23.out); have k7_0_4 : W4.cell? ⟨g7, 0, none⟩ = some (.slice (some ad) l.length c) := (blk_cell B7_4.out 0).trans rfl; have k8_0_4 : W4.cell? ⟨g8, 0, none⟩ = some (.slice (some ad2) wl.length c2) := (blk_cell B8_4.out 0).trans rfl; have k9_0_4 : W4.cell? ⟨g9, 0, none⟩ = some (.int .i64 h) := (blk_cell B9_4.out 0).trans rfl; have k10_0_4 : W4.cell? ⟨g10, 0, none⟩ = some (.int .i64 bits) := (blk_cell B10_4.out 0).trans rfl; have k11_0_4 : W4.cell? ⟨g11, 0, none⟩ = some (.int .i64 s) := (blk_cell B11_4.out 0).trans rfl; have k12_0_4 : W4.cell? ⟨g12, 0, none⟩ = some (.int .i64 mode) := (blk_cell B12_4.out 0).trans rfl; have k13_0_4 : W4.cell? ⟨g13, 0, none⟩ = some (.bool true) := (blk_cell B13_4.out 0).trans rfl; have k20_0_4 : W4.cell? ⟨g20, 0, none⟩ = some (.slice (some ⟨g, 0, none⟩) l.length cap) := (blk_cell B20_4.out 0).trans rfl; have kn_0_4 : W4.cell? ⟨gn, 0, none⟩ = some (.int .i64 l.length) := (blk_cell Bn_4.out 0).trans rfl; have kh_0_4 : W4.cell? ⟨gh, 0, none⟩ = some (.int .i64 h) := (blk_cell Bh_4.out 0).trans rfl; clear k7_0_3 k8_0_3 k9_0_3 k10_0_3 k11_0_3 k12_0_3 k13_0_3 k20_0_3 kn_0_3 kh_0_3 k23_0_3 k23_1_3; have k23_0_4 : W4.cell? ⟨g23, 0, none⟩ = some (.int .i64 r.f0) := (blk_cell B23_4.out 0).trans rfl; have k23_1_4 : W4.cell? ⟨g23, 1, none⟩ = some (.int .i64 (wrap64 (-r.f1))) := (blk_cell B23_4.out 1).trans rfl; clear hq hoth hbel))
   have y0 := (HB_4.out.cell (World.block_lt_of_cell? _ _ x0)).trans x0
   have y1 := (HB_4.out.cell (World.block_lt_of_cell? _ _ x1)).trans x1
   have y2 := (HB_4.out.cell (World.block_lt_of_cell? _ _ x2)).trans x2
   have y3 := (HB_4.out.cell (World.block_lt_of_cell? _ _ x3)).trans x3
   refine wpIn_seq ?_
   refine startR_ (S := fun w' => Below W4.heap.size W4 w') (ds := []) (fl 22 0) hmx rfl rfl (by kernel_rfl) (fun ⟨_, _, q⟩ => q) (Below.refl _ _).drew (fun hHeld => ?_)
   refine pure_ (i := 1) (N := some 95) (v := ?_) (a' := ?_) (fl 22 2) rfl rfl (by kernel_rfl) (fun _ _ _ h => h) (Or.inl ⟨by rfl, ?_⟩) ?_ ?_
   rotate_left
   ·intro w'
    go_simp
    with_reducible rfl
   rotate_left
   ·simp only [Act.put, List.setIfInBounds_toArray, List.set_cons_zero, List.set_cons_succ, i64_w, i32_w]
    rfl
   refine pure_ (i := 5) (N := some 99) (v := ?_) (a' := ?_) (fl 22 34) rfl rfl (by kernel_rfl) (fun _ _ _ h => h) (Or.inl ⟨by rfl, ?_⟩) ?_ ?_
   rotate_left
   ·intro w'
    go_simp
    with_reducible rfl
   rotate_left
   ·simp only [Act.put, List.setIfInBounds_toArray, List.set_cons_zero, List.set_cons_succ, i64_w, i32_w]
    rfl
   refine take_ (i := 0) (N := some 94) (v := ?_) (a' := ?_) (fl 22 35) rfl rfl (by kernel_rfl) (fun _ _ _ h => h) (Or.inl ⟨by rfl, ?_⟩) hHeld ?_ ?_
   rotate_left
   ·rintro w' hs
    have j_k7_0_4 := bg hs k7_0_4
    have j_k9_0_4 := bg hs k9_0_4
    have j_k10_0_4 := bg hs k10_0_4
    have j_k11_0_4 := bg hs k11_0_4
    have j_k12_0_4 := bg hs k12_0_4
    have j_k23_0_4 := bg hs k23_0_4
    have j_k23_1_4 := bg hs k23_1_4
    have j_y0 := bg hs y0
    have j_y1 := bg hs y1
    have j_y2 := bg hs y2
    have j_y3 := bg hs y3
    go_simp
    with_reducible rfl
   rotate_left
   ·simp only [Act.put, List.setIfInBounds_toArray, List.set_cons_zero, List.set_cons_succ, i64_w, i32_w]
    rfl
   refine pure_ (i := 2) (N := some 96) (v := ?_) (a' := ?_) (fl 22 39) rfl rfl (by kernel_rfl) (fun _ _ _ h => h) (Or.inl ⟨by rfl, ?_⟩) ?_ ?_
   rotate_left
   ·intro w'
    go_simp
    with_reducible rfl
   rotate_left
   ·simp only [Act.put, List.setIfInBounds_toArray, List.set_cons_zero, List.set_cons_succ, i64_w, i32_w]
    rfl
   refine take_ (i := 3) (N := some 97) (v := ?_) (a' := ?_) (fl 22 47) rfl rfl (by kernel_rfl) (fun _ _ _ h => h) (Or.inl ⟨by rfl, ?_⟩) hHeld ?_ ?_
   rotate_left
   ·rintro w' hs
    have j_k7_0_4 := bg hs k7_0_4
    have j_k9_0_4 := bg hs k9_0_4
    have j_k10_0_4 := bg hs k10_0_4
    have j_k11_0_4 := bg hs k11_0_4
    have j_k12_0_4 := bg hs k12_0_4
    have j_k23_0_4 := bg hs k23_0_4
    have j_k23_1_4 := bg hs k23_1_4
    have j_y0 := bg hs y0
    have j_y1 := bg hs y1
    have j_y2 := bg hs y2
    have j_y3 := bg hs y3
    go_simp
    with_reducible rfl
   rotate_left
   ·simp only [Act.put, List.setIfInBounds_toArray, List.set_cons_zero, List.set_cons_succ, i64_w, i32_w]
    rfl
   refine take_ (i := 4) (N := some 98) (v := ?_) (a' := ?_) (fl 22 63) rfl rfl (by kernel_rfl) (fun _ _ _ h => h) (Or.inl ⟨by rfl, ?_⟩) hHeld ?_ ?_
   rotate_left
   ·rintro w' hs
    have j_k7_0_4 := bg hs k7_0_4
    have j_k9_0_4 := bg hs k9_0_4
    have j_k10_0_4 := bg hs k10_0_4
    have j_k11_0_4 := bg hs k11_0_4
    have j_k12_0_4 := bg hs k12_0_4
    have j_k23_0_4 := bg hs k23_0_4
    have j_k23_1_4 := bg hs k23_1_4
    have j_y0 := bg hs y0
    have j_y1 := bg hs y1
    have j_y2 := bg hs y2
    have j_y3 := bg hs y3
    go_simp
    with_reducible rfl
   rotate_left
   ·simp only [Act.put, List.setIfInBounds_toArray, List.set_cons_zero, List.set_cons_succ, i64_w, i32_w]
    rfl
   refine take_ (i := 6) (N := some 100) (v := ?_) (a' := ?_) (fl 22 127) rfl rfl (by kernel_rfl) (fun _ _ _ h => h) (Or.inl ⟨by rfl, ?_⟩) hHeld ?_ ?_
   rotate_left
   ·rintro w' hs
    have j_k7_0_4 := bg hs k7_0_4
    have j_k9_0_4 := bg hs k9_0_4
    have j_k10_0_4 := bg hs k10_0_4
    have j_k11_0_4 := bg hs k11_0_4
    have j_k12_0_4 := bg hs k12_0_4
    have j_k23_0_4 := bg hs k23_0_4
    have j_k23_1_4 := bg hs k23_1_4
    have j_y0 := bg hs y0
    have j_y1 := bg hs y1
    have j_y2 := bg hs y2
    have j_y3 := bg hs y3
    go_simp
    with_reducible rfl
   rotate_left
   ·simp only [Act.put, List.setIfInBounds_toArray, List.set_cons_zero, List.set_cons_succ, i64_w, i32_w]
    rfl
   refine pure_ (i := 7) (N := some 101) (v := ?_) (a' := ?_) (fl 22 255) rfl rfl (by kernel_rfl) (fun _ _ _ h => h) (Or.inl ⟨by rfl, ?_⟩) ?_ ?_
   rotate_left
   ·intro w'
    go_simp
    with_reducible rfl
   rotate_left
   ·simp only [Act.put, List.setIfInBounds_toArray, List.set_cons_zero, List.set_cons_succ, i64_w, i32_w]
    rfl
   refine pure_ (i := 8) (N := some 102) (v := ?_) (a' := ?_) (fl 22 511) rfl rfl (by kernel_rfl) (fun _ _ _ h => h) (Or.inl ⟨by rfl, ?_⟩) ?_ ?_
   rotate_left
   ·intro w'
    go_simp
    with_reducible rfl
   rotate_left
   ·simp only [Act.put, List.setIfInBounds_toArray, List.set_cons_zero, List.set_cons_succ, i64_w, i32_w]
    rfl
   refine take_ (i := 9) (N := some 103) (v := ?_) (a' := ?_) (fl 22 1023) rfl rfl (by kernel_rfl) (fun _ _ _ h => h) (Or.inl ⟨by rfl, ?_⟩) hHeld ?_ ?_
   rotate_left
   ·rintro w' hs
    have j_k7_0_4 := bg hs k7_0_4
    have j_k9_0_4 := bg hs k9_0_4
    have j_k10_0_4 := bg hs k10_0_4
    have j_k11_0_4 := bg hs k11_0_4
    have j_k12_0_4 := bg hs k12_0_4
    have j_k23_0_4 := bg hs k23_0_4
    have j_k23_1_4 := bg hs k23_1_4
    have j_y0 := bg hs y0
    have j_y1 := bg hs y1
    have j_y2 := bg hs y2
    have j_y3 := bg hs y3
    go_simp
    with_reducible rfl
   rotate_left
   ·simp only [Act.put, List.setIfInBounds_toArray, List.set_cons_zero, List.set_cons_succ, i64_w, i32_w]
    rfl
   refine take_ (i := 10) (N := some 104) (v := ?_) (a' := ?_) (fl 22 2047) rfl rfl (by kernel_rfl) (fun _ _ _ h => h) (Or.inl ⟨by rfl, ?_⟩) hHeld ?_ ?_
   rotate_left
   ·rintro w' hs
    have j_k7_0_4 := bg hs k7_0_4
    have j_k9_0_4 := bg hs k9_0_4
    have j_k10_0_4 := bg hs k10_0_4
    have j_k11_0_4 := bg hs k11_0_4
    have j_k12_0_4 := bg hs k12_0_4
    have j_k23_0_4 := bg hs k23_0_4
    have j_k23_1_4 := bg hs k23_1_4
    have j_y0 := bg hs y0
    have j_y1 := bg hs y1
    have j_y2 := bg hs y2
    have j_y3 := bg hs y3
    go_simp
    with_reducible rfl
   rotate_left
   ·simp only [Act.put, List.setIfInBounds_toArray, List.set_cons_zero, List.set_cons_succ, i64_w, i32_w]
    rfl
   refine take_ (i := 11) (N := some 105) (v := ?_) (a' := ?_) (fl 22 4095) rfl rfl (by kernel_rfl) (fun _ _ _ h => h) (Or.inl ⟨by rfl, ?_⟩) hHeld ?_ ?_
   rotate_left
   ·rintro w' hs
    have j_k7_0_4 := bg hs k7_0_4
    have j_k9_0_4 := bg hs k9_0_4
    have j_k10_0_4 := bg hs k10_0_4
    have j_k11_0_4 := bg hs k11_0_4
    have j_k12_0_4 := bg hs k12_0_4
    have j_k23_0_4 := bg hs k23_0_4
    have j_k23_1_4 := bg hs k23_1_4
    have j_y0 := bg hs y0
    have j_y1 := bg hs y1
    have j_y2 := bg hs y2
    have j_y3 := bg hs y3
    go_simp
    with_reducible rfl
   rotate_left
   ·simp only [Act.put, List.setIfInBounds_toArray, List.set_cons_zero, List.set_cons_succ, i64_w, i32_w]
    rfl
   refine take_ (i := 12) (N := some 106) (v := ?_) (a' := ?_) (fl 22 8191) rfl rfl (by kernel_rfl) (fun _ _ _ h => h) (Or.inl ⟨by rfl, ?_⟩) hHeld ?_ ?_
   rotate_left
   ·rintro w' hs
    have j_k7_0_4 := bg hs k7_0_4
    have j_k9_0_4 := bg hs k9_0_4
    have j_k10_0_4 := bg hs k10_0_4
    have j_k11_0_4 := bg hs k11_0_4
    have j_k12_0_4 := bg hs k12_0_4
    have j_k23_0_4 := bg hs k23_0_4
    have j_k23_1_4 := bg hs k23_1_4
    have j_y0 := bg hs y0
    have j_y1 := bg hs y1
    have j_y2 := bg hs y2
    have j_y3 := bg hs y3
    go_simp
    with_reducible rfl
   rotate_left
   ·simp only [Act.put, List.setIfInBounds_toArray, List.set_cons_zero, List.set_cons_succ, i64_w, i32_w]
    rfl
   refine take_ (i := 13) (N := some 107) (v := ?_) (a' := ?_) (fl 22 16383) rfl rfl (by kernel_rfl) (fun _ _ _ h => h) (Or.inl ⟨by rfl, ?_⟩) hHeld ?_ ?_
   rotate_left
   ·rintro w' hs
    have j_k7_0_4 := bg hs k7_0_4
    have j_k9_0_4 := bg hs k9_0_4
    have j_k10_0_4 := bg hs k10_0_4
    have j_k11_0_4 := bg hs k11_0_4
    have j_k12_0_4 := bg hs k12_0_4
    have j_k23_0_4 := bg hs k23_0_4
    have j_k23_1_4 := bg hs k23_1_4
    have j_y0 := bg hs y0
    have j_y1 := bg hs y1
    have j_y2 := bg hs y2
    have j_y3 := bg hs y3
    go_simp
    with_reducible rfl
   rotate_left
   ·simp only [Act.put, List.setIfInBounds_toArray, List.set_cons_zero, List.set_cons_succ, i64_w, i32_w]
    rfl
   refine three_ (i := 14) (j := 18) (k := 19) (Ni := some 108) (Nj := some 24) (Nk := some 25) (fl 22 32767) (fl 22 278527) (fl 22 540671) rfl rfl rfl rfl rfl rfl (by kernel_rfl) (by decide) (by decide) (by decide) (fun K hK => ?_) (fun K hK => ?_) (fun K hK => ?_)
   ·skip
    refine goes_ Tryz.func81 (by kernel_rfl) rfl #[.agg #[.int .i64 a0.f0, .int .i64 a0.f1], .agg #[.int .i64 a1.f0, .int .i64 a1.f1], .agg #[.int .i64 r.f0, .int .i64 (wrap64 (-r.f1))], .int .i64 bits, .int .i64 s, .int .i64 mode] (by rfl) rfl rfl (by go_simp) ?_
    refine (two_pair.calls _ _ _ _ _ _ _ _ _ _ _ _ _ _ HP.out).mono ?_
    rintro e Wc ⟨rfl, hb⟩
    refine ⟨_, rfl, ?_⟩
    refine hK.out _ _ (below_step hHeld hb) (fun hHeld => ?_)
    clear hK K hb
    refine norm_ (a' := ?_) ?_ ?_
    rotate_left
    ·show Act.put _ (some 108) _ = _
     simp only [Act.put, List.setIfInBounds_toArray, List.set_cons_zero, List.set_cons_succ, i64_w, i32_w]
     rfl
    refine pure_ (i := 15) (N := some 93) (v := ?_) (a' := ?_) (fl 22 65535) rfl rfl (by kernel_rfl) (fun _ _ _ h => h) (Or.inl ⟨by rfl, ?_⟩) ?_ ?_
    rotate_left
    ·intro w'
     go_simp
     with_reducible rfl
    rotate_left
    ·simp only [Act.put, List.setIfInBounds_toArray, List.set_cons_zero, List.set_cons_succ, i64_w, i32_w]
     rfl
    refine pure_ (i := 16) (N := some 109) (v := ?_) (a' := ?_) (fl 22 131071) rfl rfl (by kernel_rfl) (fun _ _ _ h => h) (Or.inl ⟨by rfl, ?_⟩) ?_ ?_
    rotate_left
    ·intro w'
     go_simp
     with_reducible rfl
    rotate_left
    ·simp only [Act.put, List.setIfInBounds_toArray, List.set_cons_zero, List.set_cons_succ, i64_w, i32_w]
     rfl
    refine pure_ (i := 17) (N := some 110) (v := ?_) (a' := ?_) (fl 22 262143) rfl rfl (by kernel_rfl) (fun _ _ _ h => h) (Or.inl ⟨by rfl, ?_⟩) ?_ ?_
    rotate_left
    ·intro w'
     go_simp
     with_reducible rfl
    rotate_left
    ·simp only [Act.put, List.setIfInBounds_toArray, List.set_cons_zero, List.set_cons_succ, i64_w, i32_w]
     rfl
    refine two_ (i := 18) (j := 19) (Ni := some 24) (Nj := some 25) (fl 22 524287) (fl 22 786431) rfl rfl rfl rfl (by kernel_rfl) (by decide) (by decide) (fun K hK => ?_) (fun K hK => ?_)
    ·skip
     refine box_step rfl rfl (cs := #[.int .i64 0, .int .i64 0]) (t := 38) (by first | (go_simp; done) | (go_simp; rfl)) ?_
     intro g24 hg Wc hbox hbl
     refine hK.out _ _ (below_step hHeld hbl) (fun hHeld2 => ?_)
     have L24 : W4.heap.size ≤ g24 := by rw [hg]; exact hHeld.size
     have B24 := Lib.hid hbox
     clear hK K hbl hbox hg hHeld
     have hHeld := hHeld2
     clear hHeld2
     refine norm_ (a' := ?_) ?_ ?_
     rotate_left
     ·show Act.put _ (some 24) _ = _
      simp only [Act.put, List.setIfInBounds_toArray, List.set_cons_zero, List.set_cons_succ, i64_w, i32_w]
      rfl
     refine one_ (i := 19) (N := some 25) (fl 22 1048575) rfl rfl (by kernel_rfl) (by decide) (fun K hK => ?_)
     refine box_step rfl rfl (cs := #[.int .i64 0, .int .i64 0]) (t := 38) (by first | (go_simp; done) | (go_simp; rfl)) ?_
     intro g25 hg Wc hbox hbl
     refine hK.out _ _ (below_step hHeld hbl) (fun hHeld2 => ?_)
     have L25 : W4.heap.size ≤ g25 := by rw [hg]; exact hHeld.size
     have B25 := Lib.hid hbox
     have N2425 : g24 ≠ g25 := by have := blk_lt B24.out; omega
     replace B24 := Lib.hid (blk_below B24.out hbl)
     clear hK K hbl hbox hg hHeld
     have hHeld := hHeld2
     clear hHeld2
     refine norm_ (a' := ?_) ?_ ?_
     rotate_left
     ·show Act.put _ (some 25) _ = _
      simp only [Act.put, List.setIfInBounds_toArray, List.set_cons_zero, List.set_cons_succ, i64_w, i32_w]
      rfl

     refine one_ (i := 20) (N := none) (fl 22 2097151) rfl rfl (by kernel_rfl) (by decide) (fun K hK => ?_)
     refine row_step rfl rfl 38 _ _ rfl g24 #[.int .i64 (pairV a0 a1 (rootV true r) bits s mode).1.f0, .int .i64 (pairV a0 a1 (rootV true r) bits s mode).1.f1] rfl rfl 38 #[.int .i64 0, .int .i64 0] B24.out (size38 _ _) rfl (one38 _ _) ?_
     intro Wd hq hoth hbel
     refine hK.out _ _ (hbel _ _ L24 hHeld) (fun hHeld2 => ?_)
     replace B25 := Lib.hid ((hoth _ (Ne.symm N2425)).trans B25.out)
     replace B24 := Lib.hid hq
     clear hK K hq hoth hbel hHeld
     have hHeld := hHeld2
     clear hHeld2
     refine one_ (i := 21) (N := none) (fl 22 4194303) rfl rfl (by kernel_rfl) (by decide) (fun K hK => ?_)
     refine row_step rfl rfl 38 _ _ rfl g25 #[.int .i64 (pairV a0 a1 (rootV true r) bits s mode).2.f0, .int .i64 (pairV a0 a1 (rootV true r) bits s mode).2.f1] rfl rfl 38 #[.int .i64 0, .int .i64 0] B25.out (size38 _ _) rfl (one38 _ _) ?_
     intro Wf hq hoth hbel
     refine hK.out _ _ (hbel _ _ L25 hHeld) (fun hHeld2 => ?_)
     replace B24 := Lib.hid ((hoth _ N2425).trans B24.out)
     replace B25 := Lib.hid hq
     clear hK K hq hoth hbel hHeld
     have hF := below_step HB_4.out hHeld2
     clear hHeld2
     refine done_ (by kernel_rfl) ?_
     have L24' := Nat.le_trans (below_size HB_4.out) L24
     have L25' := Nat.le_trans (below_size HB_4.out) L25
     have RF := Lib.hid (Kd.R_below ER.out hF)
     have gW : g < W.heap.size := Kd.R_lt ER.out g rfl
     have n20 : g20 ≠ g := fun e => Kd.R_ne ER.out E20.out (by decide) (by rw [e]; rfl)
     have n9 : g9 ≠ g := fun e => Kd.R_ne ER.out E9.out (by decide) (by rw [e]; rfl)
     have n24 : g24 ≠ g := by omega
     have n25 : g25 ≠ g := by omega
     refine startR_ (S := fun w' => w'.heap[g20]? = some (.cells #[.slice (some ⟨g, 0, none⟩) l.length cap] 22 (0, 0)) ∧ w'.heap[g9]? = some (.cells #[.int .i64 h] 3 (0, 0)) ∧ w'.heap[g24]? = some (.cells #[.int .i64 (pairV a0 a1 (rootV true r) bits s mode).1.f0, .int .i64 (pairV a0 a1 (rootV true r) bits s mode).1.f1] 38 (0, 0)) ∧ w'.heap[g25]? = some (.cells #[.int .i64 (pairV a0 a1 (rootV true r) bits s mode).2.f0, .int .i64 (pairV a0 a1 (rootV true r) bits s mode).2.f1] 38 (0, 0))) (ds := []) (fl 12 0) hmx rfl rfl (by kernel_rfl) (fun ⟨_, _, q⟩ => q) ⟨blk_below E20.out hF.drew, blk_below E9.out hF.drew, B24.out, B25.out⟩ (fun hHeld => ?_)
     refine pure_ (i := 1) (N := some 112) (v := ?_) (a' := ?_) (fl 12 2) rfl rfl (by kernel_rfl) (fun _ _ _ h => h) (Or.inl ⟨by rfl, ?_⟩) ?_ ?_
     rotate_left
     ·intro w'
      go_simp
      with_reducible rfl
     rotate_left
     ·simp only [Act.put, List.setIfInBounds_toArray, List.set_cons_zero, List.set_cons_succ, i64_w, i32_w]
      rfl
     refine pure_ (i := 3) (N := some 114) (v := ?_) (a' := ?_) (fl 12 10) rfl rfl (by kernel_rfl) (fun _ _ _ h => h) (Or.inl ⟨by rfl, ?_⟩) ?_ ?_
     rotate_left
     ·intro w'
      go_simp
      with_reducible rfl
     rotate_left
     ·simp only [Act.put, List.setIfInBounds_toArray, List.set_cons_zero, List.set_cons_succ, i64_w, i32_w]
      rfl
     refine take_ (i := 0) (N := some 111) (v := ?_) (a' := ?_) (fl 12 11) rfl rfl (by kernel_rfl) (fun _ _ _ h => h) (Or.inl ⟨by rfl, ?_⟩) hHeld ?_ ?_
     rotate_left
     ·rintro w' ⟨s0, s1, s2, s3⟩
      have ja := (blk_cell s0 0).trans rfl
      have jb := (blk_cell s1 0).trans rfl
      have jc := (blk_cell s2 0).trans rfl
      have jd := (blk_cell s2 1).trans rfl
      have je := (blk_cell s3 0).trans rfl
      have jf := (blk_cell s3 1).trans rfl
      go_simp
      with_reducible rfl
     rotate_left
     ·simp only [Act.put, List.setIfInBounds_toArray, List.set_cons_zero, List.set_cons_succ, i64_w, i32_w]
      rfl
     refine take_ (i := 2) (N := some 113) (v := ?_) (a' := ?_) (fl 12 15) rfl rfl (by kernel_rfl) (fun _ _ _ h => h) (Or.inl ⟨by rfl, ?_⟩) hHeld ?_ ?_
     rotate_left
     ·rintro w' ⟨s0, s1, s2, s3⟩
      have ja := (blk_cell s0 0).trans rfl
      have jb := (blk_cell s1 0).trans rfl
      have jc := (blk_cell s2 0).trans rfl
      have jd := (blk_cell s2 1).trans rfl
      have je := (blk_cell s3 0).trans rfl
      have jf := (blk_cell s3 1).trans rfl
      go_simp
      with_reducible rfl
     rotate_left
     ·simp only [Act.put, List.setIfInBounds_toArray, List.set_cons_zero, List.set_cons_succ, i64_w, i32_w]
      rfl
     refine take_ (i := 4) (N := some 115) (v := ?_) (a' := ?_) (fl 12 31) rfl rfl (by kernel_rfl) (fun _ _ _ h => h) (Or.inl ⟨by rfl, ?_⟩) hHeld ?_ ?_
     rotate_left
     ·rintro w' ⟨s0, s1, s2, s3⟩
      have ja := (blk_cell s0 0).trans rfl
      have jb := (blk_cell s1 0).trans rfl
      have jc := (blk_cell s2 0).trans rfl
      have jd := (blk_cell s2 1).trans rfl
      have je := (blk_cell s3 0).trans rfl
      have jf := (blk_cell s3 1).trans rfl
      go_simp
      with_reducible rfl
     rotate_left
     ·simp only [Act.put, List.setIfInBounds_toArray, List.set_cons_zero, List.set_cons_succ, i64_w, i32_w]
      rfl
     refine pure_ (i := 5) (N := some 116) (v := ?_) (a' := ?_) (fl 12 63) rfl rfl (by kernel_rfl) (fun _ _ _ h => h) (Or.inl ⟨by rfl, ?_⟩) ?_ ?_
     rotate_left
     ·intro w'
      go_simp
      with_reducible rfl
     rotate_left
     ·simp only [Act.put, List.setIfInBounds_toArray, List.set_cons_zero, List.set_cons_succ, i64_w, i32_w]
      rfl
     refine take_ (i := 6) (N := some 117) (v := ?_) (a' := ?_) (fl 12 127) rfl rfl (by kernel_rfl) (fun _ _ _ h => h) (Or.inl ⟨by rfl, ?_⟩) hHeld ?_ ?_
     rotate_left
     ·rintro w' ⟨s0, s1, s2, s3⟩
      have ja := (blk_cell s0 0).trans rfl
      have jb := (blk_cell s1 0).trans rfl
      have jc := (blk_cell s2 0).trans rfl
      have jd := (blk_cell s2 1).trans rfl
      have je := (blk_cell s3 0).trans rfl
      have jf := (blk_cell s3 1).trans rfl
      go_simp
      with_reducible rfl
     rotate_left
     ·simp only [Act.put, List.setIfInBounds_toArray, List.set_cons_zero, List.set_cons_succ, i64_w, i32_w]
      rfl
     refine pure_ (i := 8) (N := some 119) (v := ?_) (a' := ?_) (fl 12 383) rfl rfl (by kernel_rfl) (fun _ _ _ h => h) (Or.inl ⟨by rfl, ?_⟩) ?_ ?_
     rotate_left
     ·intro w'
      go_simp
      with_reducible rfl
     rotate_left
     ·simp only [Act.put, List.setIfInBounds_toArray, List.set_cons_zero, List.set_cons_succ, i64_w, i32_w]
      rfl
     refine take_ (i := 7) (N := some 118) (v := ?_) (a' := ?_) (fl 12 511) rfl rfl (by kernel_rfl) (fun _ _ _ h => h) (Or.inl ⟨by rfl, ?_⟩) hHeld ?_ ?_
     rotate_left
     ·rintro w' ⟨s0, s1, s2, s3⟩
      have ja := (blk_cell s0 0).trans rfl
      have jb := (blk_cell s1 0).trans rfl
      have jc := (blk_cell s2 0).trans rfl
      have jd := (blk_cell s2 1).trans rfl
      have je := (blk_cell s3 0).trans rfl
      have jf := (blk_cell s3 1).trans rfl
      go_simp
      with_reducible rfl
     rotate_left
     ·simp only [Act.put, List.setIfInBounds_toArray, List.set_cons_zero, List.set_cons_succ, i64_w, i32_w]
      rfl
     refine one_ (i := 9) (N := none) (fl 12 1023) rfl rfl (by kernel_rfl) (by decide) (fun K hK => ?_)
     refine cx_step (base := w.heap.size) rfl rfl _ _ rfl p.1.toNat Y (pairV a0 a1 (rootV true r) bits s mode).1 (fun _ => True) rfl rfl (size38 (.int .i64 0) (.int .i64 0)) (Kd.R_drew RF.out) (by omega) ?_
     intro Wg hRg hgg hog hbg
     refine hK.out _ _ ⟨(hog _ n20).trans hHeld.1, (hog _ n9).trans hHeld.2.1, (hog _ n24).trans hHeld.2.2.1, (hog _ n25).trans hHeld.2.2.2⟩ (fun hHeld2 => ?_)
     have RG := Lib.hid hRg
     have OG := Lib.hid hog
     have BG := Lib.hid hbg
     have GG := Lib.hid hgg
     clear hK K hRg hgg hog hbg hHeld
     have hHeld := hHeld2
     clear hHeld2
     refine pure_ (i := 10) (N := some 120) (v := ?_) (a' := ?_) (fl 12 2047) rfl rfl (by kernel_rfl) (fun _ _ _ h => h) (Or.inl ⟨by rfl, ?_⟩) ?_ ?_
     rotate_left
     ·intro w'
      go_simp
      with_reducible rfl
     rotate_left
     ·simp only [Act.put, List.setIfInBounds_toArray, List.set_cons_zero, List.set_cons_succ, i64_w, i32_w]
      rfl
     refine one_ (i := 11) (N := none) (fl 12 4095) rfl rfl (by kernel_rfl) (by decide) (fun K hK => ?_)
     refine cx_step (base := w.heap.size) rfl rfl _ _ rfl (p.1 + h).toNat (Y.set p.1.toNat (pairV a0 a1 (rootV true r) bits s mode).1) (pairV a0 a1 (rootV true r) bits s mode).2 (fun _ => True) rfl rfl (size38 (.int .i64 0) (.int .i64 0)) RG.out (by omega) ?_
     intro Wh hRh hgh hoh hbh
     refine hK.out _ _ ⟨(hoh _ n20).trans hHeld.1, (hoh _ n9).trans hHeld.2.1, (hoh _ n24).trans hHeld.2.2.1, (hoh _ n25).trans hHeld.2.2.2⟩ (fun _ => ?_)
     clear hK K hHeld
     refine done_ (by kernel_rfl) ?_
     have same : ∀ k, k < W.heap.size → k ≠ g → Wh.heap[k]? = W.heap[k]? := fun k hk hne => (hoh k hne).trans ((OG.out k hne).trans (hF.block k hk))
     have n7 : g7 ≠ g := fun e => Kd.R_ne ER.out E7.out (by decide) (by rw [e]; rfl)
     have n8 : g8 ≠ g := fun e => Kd.R_ne ER.out E8.out (by decide) (by rw [e]; rfl)
     have n10 : g10 ≠ g := fun e => Kd.R_ne ER.out E10.out (by decide) (by rw [e]; rfl)
     have n11 : g11 ≠ g := fun e => Kd.R_ne ER.out E11.out (by decide) (by rw [e]; rfl)
     have n12 : g12 ≠ g := fun e => Kd.R_ne ER.out E12.out (by decide) (by rw [e]; rfl)
     have n13 : g13 ≠ g := fun e => Kd.R_ne ER.out E13.out (by decide) (by rw [e]; rfl)
     have nn : gn ≠ g := fun e => Kd.R_ne ER.out En.out (by decide) (by rw [e]; rfl)
     have nh : gh ≠ g := fun e => Kd.R_ne ER.out Eh.out (by decide) (by rw [e]; rfl)
     have hsz : W.heap.size ≤ Wh.heap.size := Nat.le_trans hF.size (Nat.le_trans GG.out.size hgh.size)
     refine ⟨⟨hsz, fun k o hk ho => (same k (Array.getElem?_eq_some_iff.1 hk).1 (fun e => by obtain ⟨cells, hc⟩ := Kd.R_typed ER.out g rfl; rw [e, hc] at hk; cases hk; cases ho)).trans hk⟩, ⟨same _ (blk_lt En.out) nn, same _ (blk_lt Eh.out) nh⟩, ⟨(same _ (blk_lt E7.out) n7).trans E7.out, (same _ (blk_lt E8.out) n8).trans E8.out, (same _ (blk_lt E9.out) n9).trans E9.out, (same _ (blk_lt E10.out) n10).trans E10.out, (same _ (blk_lt E11.out) n11).trans E11.out, (same _ (blk_lt E12.out) n12).trans E12.out, (same _ (blk_lt E13.out) n13).trans E13.out, (same _ (blk_lt E20.out) n20).trans E20.out, (same _ (blk_lt En.out) nn).trans En.out, (same _ (blk_lt Eh.out) nh).trans Eh.out⟩, ?_, hbh _ (BG.out _ (below_drew (EB.out.trans (hF.mono EB.out.size))))⟩
     rw [HPRE.out, HQ.out Y]
     exact hRh
    ·skip
     refine box_step rfl rfl (cs := #[.int .i64 0, .int .i64 0]) (t := 38) (by first | (go_simp; done) | (go_simp; rfl)) ?_
     intro g25 hg Wc hbox hbl
     refine hK.out _ _ (below_step hHeld hbl) (fun hHeld2 => ?_)
     have L25 : W4.heap.size ≤ g25 := by rw [hg]; exact hHeld.size
     have B25 := Lib.hid hbox
     clear hK K hbl hbox hg hHeld
     have hHeld := hHeld2
     clear hHeld2
     refine norm_ (a' := ?_) ?_ ?_
     rotate_left
     ·show Act.put _ (some 25) _ = _
      simp only [Act.put, List.setIfInBounds_toArray, List.set_cons_zero, List.set_cons_succ, i64_w, i32_w]
      rfl
     refine one_ (i := 18) (N := some 24) (fl 22 1048575) rfl rfl (by kernel_rfl) (by decide) (fun K hK => ?_)
     refine box_step rfl rfl (cs := #[.int .i64 0, .int .i64 0]) (t := 38) (by first | (go_simp; done) | (go_simp; rfl)) ?_
     intro g24 hg Wc hbox hbl
     refine hK.out _ _ (below_step hHeld hbl) (fun hHeld2 => ?_)
     have L24 : W4.heap.size ≤ g24 := by rw [hg]; exact hHeld.size
     have B24 := Lib.hid hbox
     have N2425 : g24 ≠ g25 := by have := blk_lt B25.out; omega
     replace B25 := Lib.hid (blk_below B25.out hbl)
     clear hK K hbl hbox hg hHeld
     have hHeld := hHeld2
     clear hHeld2
     refine norm_ (a' := ?_) ?_ ?_
     rotate_left
     ·show Act.put _ (some 24) _ = _
      simp only [Act.put, List.setIfInBounds_toArray, List.set_cons_zero, List.set_cons_succ, i64_w, i32_w]
      rfl

     refine one_ (i := 20) (N := none) (fl 22 2097151) rfl rfl (by kernel_rfl) (by decide) (fun K hK => ?_)
     refine row_step rfl rfl 38 _ _ rfl g24 #[.int .i64 (pairV a0 a1 (rootV true r) bits s mode).1.f0, .int .i64 (pairV a0 a1 (rootV true r) bits s mode).1.f1] rfl rfl 38 #[.int .i64 0, .int .i64 0] B24.out (size38 _ _) rfl (one38 _ _) ?_
     intro Wd hq hoth hbel
     refine hK.out _ _ (hbel _ _ L24 hHeld) (fun hHeld2 => ?_)
     replace B25 := Lib.hid ((hoth _ (Ne.symm N2425)).trans B25.out)
     replace B24 := Lib.hid hq
     clear hK K hq hoth hbel hHeld
     have hHeld := hHeld2
     clear hHeld2
     refine one_ (i := 21) (N := none) (fl 22 4194303) rfl rfl (by kernel_rfl) (by decide) (fun K hK => ?_)
     refine row_step rfl rfl 38 _ _ rfl g25 #[.int .i64 (pairV a0 a1 (rootV true r) bits s mode).2.f0, .int .i64 (pairV a0 a1 (rootV true r) bits s mode).2.f1] rfl rfl 38 #[.int .i64 0, .int .i64 0] B25.out (size38 _ _) rfl (one38 _ _) ?_
     intro Wf hq hoth hbel
     refine hK.out _ _ (hbel _ _ L25 hHeld) (fun hHeld2 => ?_)
     replace B24 := Lib.hid ((hoth _ N2425).trans B24.out)
     replace B25 := Lib.hid hq
     clear hK K hq hoth hbel hHeld
     have hF := below_step HB_4.out hHeld2
     clear hHeld2
     refine done_ (by kernel_rfl) ?_
     have L24' := Nat.le_trans (below_size HB_4.out) L24
     have L25' := Nat.le_trans (below_size HB_4.out) L25
     have RF := Lib.hid (Kd.R_below ER.out hF)
     have gW : g < W.heap.size := Kd.R_lt ER.out g rfl
     have n20 : g20 ≠ g := fun e => Kd.R_ne ER.out E20.out (by decide) (by rw [e]; rfl)
     have n9 : g9 ≠ g := fun e => Kd.R_ne ER.out E9.out (by decide) (by rw [e]; rfl)
     have n24 : g24 ≠ g := by omega
     have n25 : g25 ≠ g := by omega
     refine startR_ (S := fun w' => w'.heap[g20]? = some (.cells #[.slice (some ⟨g, 0, none⟩) l.length cap] 22 (0, 0)) ∧ w'.heap[g9]? = some (.cells #[.int .i64 h] 3 (0, 0)) ∧ w'.heap[g24]? = some (.cells #[.int .i64 (pairV a0 a1 (rootV true r) bits s mode).1.f0, .int .i64 (pairV a0 a1 (rootV true r) bits s mode).1.f1] 38 (0, 0)) ∧ w'.heap[g25]? = some (.cells #[.int .i64 (pairV a0 a1 (rootV true r) bits s mode).2.f0, .int .i64 (pairV a0 a1 (rootV true r) bits s mode).2.f1] 38 (0, 0))) (ds := []) (fl 12 0) hmx rfl rfl (by kernel_rfl) (fun ⟨_, _, q⟩ => q) ⟨blk_below E20.out hF.drew, blk_below E9.out hF.drew, B24.out, B25.out⟩ (fun hHeld => ?_)
     refine pure_ (i := 1) (N := some 112) (v := ?_) (a' := ?_) (fl 12 2) rfl rfl (by kernel_rfl) (fun _ _ _ h => h) (Or.inl ⟨by rfl, ?_⟩) ?_ ?_
     rotate_left
     ·intro w'
      go_simp
      with_reducible rfl
     rotate_left
     ·simp only [Act.put, List.setIfInBounds_toArray, List.set_cons_zero, List.set_cons_succ, i64_w, i32_w]
      rfl
     refine pure_ (i := 3) (N := some 114) (v := ?_) (a' := ?_) (fl 12 10) rfl rfl (by kernel_rfl) (fun _ _ _ h => h) (Or.inl ⟨by rfl, ?_⟩) ?_ ?_
     rotate_left
     ·intro w'
      go_simp
      with_reducible rfl
     rotate_left
     ·simp only [Act.put, List.setIfInBounds_toArray, List.set_cons_zero, List.set_cons_succ, i64_w, i32_w]
      rfl
     refine take_ (i := 0) (N := some 111) (v := ?_) (a' := ?_) (fl 12 11) rfl rfl (by kernel_rfl) (fun _ _ _ h => h) (Or.inl ⟨by rfl, ?_⟩) hHeld ?_ ?_
     rotate_left
     ·rintro w' ⟨s0, s1, s2, s3⟩
      have ja := (blk_cell s0 0).trans rfl
      have jb := (blk_cell s1 0).trans rfl
      have jc := (blk_cell s2 0).trans rfl
      have jd := (blk_cell s2 1).trans rfl
      have je := (blk_cell s3 0).trans rfl
      have jf := (blk_cell s3 1).trans rfl
      go_simp
      with_reducible rfl
     rotate_left
     ·simp only [Act.put, List.setIfInBounds_toArray, List.set_cons_zero, List.set_cons_succ, i64_w, i32_w]
      rfl
     refine take_ (i := 2) (N := some 113) (v := ?_) (a' := ?_) (fl 12 15) rfl rfl (by kernel_rfl) (fun _ _ _ h => h) (Or.inl ⟨by rfl, ?_⟩) hHeld ?_ ?_
     rotate_left
     ·rintro w' ⟨s0, s1, s2, s3⟩
      have ja := (blk_cell s0 0).trans rfl
      have jb := (blk_cell s1 0).trans rfl
      have jc := (blk_cell s2 0).trans rfl
      have jd := (blk_cell s2 1).trans rfl
      have je := (blk_cell s3 0).trans rfl
      have jf := (blk_cell s3 1).trans rfl
      go_simp
      with_reducible rfl
     rotate_left
     ·simp only [Act.put, List.setIfInBounds_toArray, List.set_cons_zero, List.set_cons_succ, i64_w, i32_w]
      rfl
     refine take_ (i := 4) (N := some 115) (v := ?_) (a' := ?_) (fl 12 31) rfl rfl (by kernel_rfl) (fun _ _ _ h => h) (Or.inl ⟨by rfl, ?_⟩) hHeld ?_ ?_
     rotate_left
     ·rintro w' ⟨s0, s1, s2, s3⟩
      have ja := (blk_cell s0 0).trans rfl
      have jb := (blk_cell s1 0).trans rfl
      have jc := (blk_cell s2 0).trans rfl
      have jd := (blk_cell s2 1).trans rfl
      have je := (blk_cell s3 0).trans rfl
      have jf := (blk_cell s3 1).trans rfl
      go_simp
      with_reducible rfl
     rotate_left
     ·simp only [Act.put, List.setIfInBounds_toArray, List.set_cons_zero, List.set_cons_succ, i64_w, i32_w]
      rfl
     refine pure_ (i := 5) (N := some 116) (v := ?_) (a' := ?_) (fl 12 63) rfl rfl (by kernel_rfl) (fun _ _ _ h => h) (Or.inl ⟨by rfl, ?_⟩) ?_ ?_
     rotate_left
     ·intro w'
      go_simp
      with_reducible rfl
     rotate_left
     ·simp only [Act.put, List.setIfInBounds_toArray, List.set_cons_zero, List.set_cons_succ, i64_w, i32_w]
      rfl
     refine take_ (i := 6) (N := some 117) (v := ?_) (a' := ?_) (fl 12 127) rfl rfl (by kernel_rfl) (fun _ _ _ h => h) (Or.inl ⟨by rfl, ?_⟩) hHeld ?_ ?_
     rotate_left
     ·rintro w' ⟨s0, s1, s2, s3⟩
      have ja := (blk_cell s0 0).trans rfl
      have jb := (blk_cell s1 0).trans rfl
      have jc := (blk_cell s2 0).trans rfl
      have jd := (blk_cell s2 1).trans rfl
      have je := (blk_cell s3 0).trans rfl
      have jf := (blk_cell s3 1).trans rfl
      go_simp
      with_reducible rfl
     rotate_left
     ·simp only [Act.put, List.setIfInBounds_toArray, List.set_cons_zero, List.set_cons_succ, i64_w, i32_w]
      rfl
     refine pure_ (i := 8) (N := some 119) (v := ?_) (a' := ?_) (fl 12 383) rfl rfl (by kernel_rfl) (fun _ _ _ h => h) (Or.inl ⟨by rfl, ?_⟩) ?_ ?_
     rotate_left
     ·intro w'
      go_simp
      with_reducible rfl
     rotate_left
     ·simp only [Act.put, List.setIfInBounds_toArray, List.set_cons_zero, List.set_cons_succ, i64_w, i32_w]
      rfl
     refine take_ (i := 7) (N := some 118) (v := ?_) (a' := ?_) (fl 12 511) rfl rfl (by kernel_rfl) (fun _ _ _ h => h) (Or.inl ⟨by rfl, ?_⟩) hHeld ?_ ?_
     rotate_left
     ·rintro w' ⟨s0, s1, s2, s3⟩
      have ja := (blk_cell s0 0).trans rfl
      have jb := (blk_cell s1 0).trans rfl
      have jc := (blk_cell s2 0).trans rfl
      have jd := (blk_cell s2 1).trans rfl
      have je := (blk_cell s3 0).trans rfl
      have jf := (blk_cell s3 1).trans rfl
      go_simp
      with_reducible rfl
     rotate_left
     ·simp only [Act.put, List.setIfInBounds_toArray, List.set_cons_zero, List.set_cons_succ, i64_w, i32_w]
      rfl
     refine one_ (i := 9) (N := none) (fl 12 1023) rfl rfl (by kernel_rfl) (by decide) (fun K hK => ?_)
     refine cx_step (base := w.heap.size) rfl rfl _ _ rfl p.1.toNat Y (pairV a0 a1 (rootV true r) bits s mode).1 (fun _ => True) rfl rfl (size38 (.int .i64 0) (.int .i64 0)) (Kd.R_drew RF.out) (by omega) ?_
     intro Wg hRg hgg hog hbg
     refine hK.out _ _ ⟨(hog _ n20).trans hHeld.1, (hog _ n9).trans hHeld.2.1, (hog _ n24).trans hHeld.2.2.1, (hog _ n25).trans hHeld.2.2.2⟩ (fun hHeld2 => ?_)
     have RG := Lib.hid hRg
     have OG := Lib.hid hog
     have BG := Lib.hid hbg
     have GG := Lib.hid hgg
     clear hK K hRg hgg hog hbg hHeld
     have hHeld := hHeld2
     clear hHeld2
     refine pure_ (i := 10) (N := some 120) (v := ?_) (a' := ?_) (fl 12 2047) rfl rfl (by kernel_rfl) (fun _ _ _ h => h) (Or.inl ⟨by rfl, ?_⟩) ?_ ?_
     rotate_left
     ·intro w'
      go_simp
      with_reducible rfl
     rotate_left
     ·simp only [Act.put, List.setIfInBounds_toArray, List.set_cons_zero, List.set_cons_succ, i64_w, i32_w]
      rfl
     refine one_ (i := 11) (N := none) (fl 12 4095) rfl rfl (by kernel_rfl) (by decide) (fun K hK => ?_)
     refine cx_step (base := w.heap.size) rfl rfl _ _ rfl (p.1 + h).toNat (Y.set p.1.toNat (pairV a0 a1 (rootV true r) bits s mode).1) (pairV a0 a1 (rootV true r) bits s mode).2 (fun _ => True) rfl rfl (size38 (.int .i64 0) (.int .i64 0)) RG.out (by omega) ?_
     intro Wh hRh hgh hoh hbh
     refine hK.out _ _ ⟨(hoh _ n20).trans hHeld.1, (hoh _ n9).trans hHeld.2.1, (hoh _ n24).trans hHeld.2.2.1, (hoh _ n25).trans hHeld.2.2.2⟩ (fun _ => ?_)
     clear hK K hHeld
     refine done_ (by kernel_rfl) ?_
     have same : ∀ k, k < W.heap.size → k ≠ g → Wh.heap[k]? = W.heap[k]? := fun k hk hne => (hoh k hne).trans ((OG.out k hne).trans (hF.block k hk))
     have n7 : g7 ≠ g := fun e => Kd.R_ne ER.out E7.out (by decide) (by rw [e]; rfl)
     have n8 : g8 ≠ g := fun e => Kd.R_ne ER.out E8.out (by decide) (by rw [e]; rfl)
     have n10 : g10 ≠ g := fun e => Kd.R_ne ER.out E10.out (by decide) (by rw [e]; rfl)
     have n11 : g11 ≠ g := fun e => Kd.R_ne ER.out E11.out (by decide) (by rw [e]; rfl)
     have n12 : g12 ≠ g := fun e => Kd.R_ne ER.out E12.out (by decide) (by rw [e]; rfl)
     have n13 : g13 ≠ g := fun e => Kd.R_ne ER.out E13.out (by decide) (by rw [e]; rfl)
     have nn : gn ≠ g := fun e => Kd.R_ne ER.out En.out (by decide) (by rw [e]; rfl)
     have nh : gh ≠ g := fun e => Kd.R_ne ER.out Eh.out (by decide) (by rw [e]; rfl)
     have hsz : W.heap.size ≤ Wh.heap.size := Nat.le_trans hF.size (Nat.le_trans GG.out.size hgh.size)
     refine ⟨⟨hsz, fun k o hk ho => (same k (Array.getElem?_eq_some_iff.1 hk).1 (fun e => by obtain ⟨cells, hc⟩ := Kd.R_typed ER.out g rfl; rw [e, hc] at hk; cases hk; cases ho)).trans hk⟩, ⟨same _ (blk_lt En.out) nn, same _ (blk_lt Eh.out) nh⟩, ⟨(same _ (blk_lt E7.out) n7).trans E7.out, (same _ (blk_lt E8.out) n8).trans E8.out, (same _ (blk_lt E9.out) n9).trans E9.out, (same _ (blk_lt E10.out) n10).trans E10.out, (same _ (blk_lt E11.out) n11).trans E11.out, (same _ (blk_lt E12.out) n12).trans E12.out, (same _ (blk_lt E13.out) n13).trans E13.out, (same _ (blk_lt E20.out) n20).trans E20.out, (same _ (blk_lt En.out) nn).trans En.out, (same _ (blk_lt Eh.out) nh).trans Eh.out⟩, ?_, hbh _ (BG.out _ (below_drew (EB.out.trans (hF.mono EB.out.size))))⟩
     rw [HPRE.out, HQ.out Y]
     exact hRh
   ·skip
    refine box_step rfl rfl (cs := #[.int .i64 0, .int .i64 0]) (t := 38) (by first | (go_simp; done) | (go_simp; rfl)) ?_
    intro g24 hg Wc hbox hbl
    refine hK.out _ _ (below_step hHeld hbl) (fun hHeld2 => ?_)
    have L24 : W4.heap.size ≤ g24 := by rw [hg]; exact hHeld.size
    have B24 := Lib.hid hbox
    clear hK K hbl hbox hg hHeld
    have hHeld := hHeld2
    clear hHeld2
    refine norm_ (a' := ?_) ?_ ?_
    rotate_left
    ·show Act.put _ (some 24) _ = _
     simp only [Act.put, List.setIfInBounds_toArray, List.set_cons_zero, List.set_cons_succ, i64_w, i32_w]
     rfl
    refine two_ (i := 14) (j := 19) (Ni := some 108) (Nj := some 25) (fl 22 294911) (fl 22 802815) rfl rfl rfl rfl (by kernel_rfl) (by decide) (by decide) (fun K hK => ?_) (fun K hK => ?_)
    ·skip
     refine goes_ Tryz.func81 (by kernel_rfl) rfl #[.agg #[.int .i64 a0.f0, .int .i64 a0.f1], .agg #[.int .i64 a1.f0, .int .i64 a1.f1], .agg #[.int .i64 r.f0, .int .i64 (wrap64 (-r.f1))], .int .i64 bits, .int .i64 s, .int .i64 mode] (by rfl) rfl rfl (by go_simp) ?_
     refine (two_pair.calls _ _ _ _ _ _ _ _ _ _ _ _ _ _ HP.out).mono ?_
     rintro e Wc ⟨rfl, hb⟩
     refine ⟨_, rfl, ?_⟩
     refine hK.out _ _ (below_step hHeld hb) (fun hHeld => ?_)
     replace B24 := Lib.hid (blk_below B24.out hb)
     clear hK K hb
     refine norm_ (a' := ?_) ?_ ?_
     rotate_left
     ·show Act.put _ (some 108) _ = _
      simp only [Act.put, List.setIfInBounds_toArray, List.set_cons_zero, List.set_cons_succ, i64_w, i32_w]
      rfl
     refine pure_ (i := 15) (N := some 93) (v := ?_) (a' := ?_) (fl 22 327679) rfl rfl (by kernel_rfl) (fun _ _ _ h => h) (Or.inl ⟨by rfl, ?_⟩) ?_ ?_
     rotate_left
     ·intro w'
      go_simp
      with_reducible rfl
     rotate_left
     ·simp only [Act.put, List.setIfInBounds_toArray, List.set_cons_zero, List.set_cons_succ, i64_w, i32_w]
      rfl
     refine pure_ (i := 16) (N := some 109) (v := ?_) (a' := ?_) (fl 22 393215) rfl rfl (by kernel_rfl) (fun _ _ _ h => h) (Or.inl ⟨by rfl, ?_⟩) ?_ ?_
     rotate_left
     ·intro w'
      go_simp
      with_reducible rfl
     rotate_left
     ·simp only [Act.put, List.setIfInBounds_toArray, List.set_cons_zero, List.set_cons_succ, i64_w, i32_w]
      rfl
     refine pure_ (i := 17) (N := some 110) (v := ?_) (a' := ?_) (fl 22 524287) rfl rfl (by kernel_rfl) (fun _ _ _ h => h) (Or.inl ⟨by rfl, ?_⟩) ?_ ?_
     rotate_left
     ·intro w'
      go_simp
      with_reducible rfl
     rotate_left
     ·simp only [Act.put, List.setIfInBounds_toArray, List.set_cons_zero, List.set_cons_succ, i64_w, i32_w]
      rfl
     refine one_ (i := 19) (N := some 25) (fl 22 1048575) rfl rfl (by kernel_rfl) (by decide) (fun K hK => ?_)
     refine box_step rfl rfl (cs := #[.int .i64 0, .int .i64 0]) (t := 38) (by first | (go_simp; done) | (go_simp; rfl)) ?_
     intro g25 hg Wc hbox hbl
     refine hK.out _ _ (below_step hHeld hbl) (fun hHeld2 => ?_)
     have L25 : W4.heap.size ≤ g25 := by rw [hg]; exact hHeld.size
     have B25 := Lib.hid hbox
     have N2425 : g24 ≠ g25 := by have := blk_lt B24.out; omega
     replace B24 := Lib.hid (blk_below B24.out hbl)
     clear hK K hbl hbox hg hHeld
     have hHeld := hHeld2
     clear hHeld2
     refine norm_ (a' := ?_) ?_ ?_
     rotate_left
     ·show Act.put _ (some 25) _ = _
      simp only [Act.put, List.setIfInBounds_toArray, List.set_cons_zero, List.set_cons_succ, i64_w, i32_w]
      rfl

     refine one_ (i := 20) (N := none) (fl 22 2097151) rfl rfl (by kernel_rfl) (by decide) (fun K hK => ?_)
     refine row_step rfl rfl 38 _ _ rfl g24 #[.int .i64 (pairV a0 a1 (rootV true r) bits s mode).1.f0, .int .i64 (pairV a0 a1 (rootV true r) bits s mode).1.f1] rfl rfl 38 #[.int .i64 0, .int .i64 0] B24.out (size38 _ _) rfl (one38 _ _) ?_
     intro Wd hq hoth hbel
     refine hK.out _ _ (hbel _ _ L24 hHeld) (fun hHeld2 => ?_)
     replace B25 := Lib.hid ((hoth _ (Ne.symm N2425)).trans B25.out)
     replace B24 := Lib.hid hq
     clear hK K hq hoth hbel hHeld
     have hHeld := hHeld2
     clear hHeld2
     refine one_ (i := 21) (N := none) (fl 22 4194303) rfl rfl (by kernel_rfl) (by decide) (fun K hK => ?_)
     refine row_step rfl rfl 38 _ _ rfl g25 #[.int .i64 (pairV a0 a1 (rootV true r) bits s mode).2.f0, .int .i64 (pairV a0 a1 (rootV true r) bits s mode).2.f1] rfl rfl 38 #[.int .i64 0, .int .i64 0] B25.out (size38 _ _) rfl (one38 _ _) ?_
     intro Wf hq hoth hbel
     refine hK.out _ _ (hbel _ _ L25 hHeld) (fun hHeld2 => ?_)
     replace B24 := Lib.hid ((hoth _ N2425).trans B24.out)
     replace B25 := Lib.hid hq
     clear hK K hq hoth hbel hHeld
     have hF := below_step HB_4.out hHeld2
     clear hHeld2
     refine done_ (by kernel_rfl) ?_
     have L24' := Nat.le_trans (below_size HB_4.out) L24
     have L25' := Nat.le_trans (below_size HB_4.out) L25
     have RF := Lib.hid (Kd.R_below ER.out hF)
     have gW : g < W.heap.size := Kd.R_lt ER.out g rfl
     have n20 : g20 ≠ g := fun e => Kd.R_ne ER.out E20.out (by decide) (by rw [e]; rfl)
     have n9 : g9 ≠ g := fun e => Kd.R_ne ER.out E9.out (by decide) (by rw [e]; rfl)
     have n24 : g24 ≠ g := by omega
     have n25 : g25 ≠ g := by omega
     refine startR_ (S := fun w' => w'.heap[g20]? = some (.cells #[.slice (some ⟨g, 0, none⟩) l.length cap] 22 (0, 0)) ∧ w'.heap[g9]? = some (.cells #[.int .i64 h] 3 (0, 0)) ∧ w'.heap[g24]? = some (.cells #[.int .i64 (pairV a0 a1 (rootV true r) bits s mode).1.f0, .int .i64 (pairV a0 a1 (rootV true r) bits s mode).1.f1] 38 (0, 0)) ∧ w'.heap[g25]? = some (.cells #[.int .i64 (pairV a0 a1 (rootV true r) bits s mode).2.f0, .int .i64 (pairV a0 a1 (rootV true r) bits s mode).2.f1] 38 (0, 0))) (ds := []) (fl 12 0) hmx rfl rfl (by kernel_rfl) (fun ⟨_, _, q⟩ => q) ⟨blk_below E20.out hF.drew, blk_below E9.out hF.drew, B24.out, B25.out⟩ (fun hHeld => ?_)
     refine pure_ (i := 1) (N := some 112) (v := ?_) (a' := ?_) (fl 12 2) rfl rfl (by kernel_rfl) (fun _ _ _ h => h) (Or.inl ⟨by rfl, ?_⟩) ?_ ?_
     rotate_left
     ·intro w'
      go_simp
      with_reducible rfl
     rotate_left
     ·simp only [Act.put, List.setIfInBounds_toArray, List.set_cons_zero, List.set_cons_succ, i64_w, i32_w]
      rfl
     refine pure_ (i := 3) (N := some 114) (v := ?_) (a' := ?_) (fl 12 10) rfl rfl (by kernel_rfl) (fun _ _ _ h => h) (Or.inl ⟨by rfl, ?_⟩) ?_ ?_
     rotate_left
     ·intro w'
      go_simp
      with_reducible rfl
     rotate_left
     ·simp only [Act.put, List.setIfInBounds_toArray, List.set_cons_zero, List.set_cons_succ, i64_w, i32_w]
      rfl
     refine take_ (i := 0) (N := some 111) (v := ?_) (a' := ?_) (fl 12 11) rfl rfl (by kernel_rfl) (fun _ _ _ h => h) (Or.inl ⟨by rfl, ?_⟩) hHeld ?_ ?_
     rotate_left
     ·rintro w' ⟨s0, s1, s2, s3⟩
      have ja := (blk_cell s0 0).trans rfl
      have jb := (blk_cell s1 0).trans rfl
      have jc := (blk_cell s2 0).trans rfl
      have jd := (blk_cell s2 1).trans rfl
      have je := (blk_cell s3 0).trans rfl
      have jf := (blk_cell s3 1).trans rfl
      go_simp
      with_reducible rfl
     rotate_left
     ·simp only [Act.put, List.setIfInBounds_toArray, List.set_cons_zero, List.set_cons_succ, i64_w, i32_w]
      rfl
     refine take_ (i := 2) (N := some 113) (v := ?_) (a' := ?_) (fl 12 15) rfl rfl (by kernel_rfl) (fun _ _ _ h => h) (Or.inl ⟨by rfl, ?_⟩) hHeld ?_ ?_
     rotate_left
     ·rintro w' ⟨s0, s1, s2, s3⟩
      have ja := (blk_cell s0 0).trans rfl
      have jb := (blk_cell s1 0).trans rfl
      have jc := (blk_cell s2 0).trans rfl
      have jd := (blk_cell s2 1).trans rfl
      have je := (blk_cell s3 0).trans rfl
      have jf := (blk_cell s3 1).trans rfl
      go_simp
      with_reducible rfl
     rotate_left
     ·simp only [Act.put, List.setIfInBounds_toArray, List.set_cons_zero, List.set_cons_succ, i64_w, i32_w]
      rfl
     refine take_ (i := 4) (N := some 115) (v := ?_) (a' := ?_) (fl 12 31) rfl rfl (by kernel_rfl) (fun _ _ _ h => h) (Or.inl ⟨by rfl, ?_⟩) hHeld ?_ ?_
     rotate_left
     ·rintro w' ⟨s0, s1, s2, s3⟩
      have ja := (blk_cell s0 0).trans rfl
      have jb := (blk_cell s1 0).trans rfl
      have jc := (blk_cell s2 0).trans rfl
      have jd := (blk_cell s2 1).trans rfl
      have je := (blk_cell s3 0).trans rfl
      have jf := (blk_cell s3 1).trans rfl
      go_simp
      with_reducible rfl
     rotate_left
     ·simp only [Act.put, List.setIfInBounds_toArray, List.set_cons_zero, List.set_cons_succ, i64_w, i32_w]
      rfl
     refine pure_ (i := 5) (N := some 116) (v := ?_) (a' := ?_) (fl 12 63) rfl rfl (by kernel_rfl) (fun _ _ _ h => h) (Or.inl ⟨by rfl, ?_⟩) ?_ ?_
     rotate_left
     ·intro w'
      go_simp
      with_reducible rfl
     rotate_left
     ·simp only [Act.put, List.setIfInBounds_toArray, List.set_cons_zero, List.set_cons_succ, i64_w, i32_w]
      rfl
     refine take_ (i := 6) (N := some 117) (v := ?_) (a' := ?_) (fl 12 127) rfl rfl (by kernel_rfl) (fun _ _ _ h => h) (Or.inl ⟨by rfl, ?_⟩) hHeld ?_ ?_
     rotate_left
     ·rintro w' ⟨s0, s1, s2, s3⟩
      have ja := (blk_cell s0 0).trans rfl
      have jb := (blk_cell s1 0).trans rfl
      have jc := (blk_cell s2 0).trans rfl
      have jd := (blk_cell s2 1).trans rfl
      have je := (blk_cell s3 0).trans rfl
      have jf := (blk_cell s3 1).trans rfl
      go_simp
      with_reducible rfl
     rotate_left
     ·simp only [Act.put, List.setIfInBounds_toArray, List.set_cons_zero, List.set_cons_succ, i64_w, i32_w]
      rfl
     refine pure_ (i := 8) (N := some 119) (v := ?_) (a' := ?_) (fl 12 383) rfl rfl (by kernel_rfl) (fun _ _ _ h => h) (Or.inl ⟨by rfl, ?_⟩) ?_ ?_
     rotate_left
     ·intro w'
      go_simp
      with_reducible rfl
     rotate_left
     ·simp only [Act.put, List.setIfInBounds_toArray, List.set_cons_zero, List.set_cons_succ, i64_w, i32_w]
      rfl
     refine take_ (i := 7) (N := some 118) (v := ?_) (a' := ?_) (fl 12 511) rfl rfl (by kernel_rfl) (fun _ _ _ h => h) (Or.inl ⟨by rfl, ?_⟩) hHeld ?_ ?_
     rotate_left
     ·rintro w' ⟨s0, s1, s2, s3⟩
      have ja := (blk_cell s0 0).trans rfl
      have jb := (blk_cell s1 0).trans rfl
      have jc := (blk_cell s2 0).trans rfl
      have jd := (blk_cell s2 1).trans rfl
      have je := (blk_cell s3 0).trans rfl
      have jf := (blk_cell s3 1).trans rfl
      go_simp
      with_reducible rfl
     rotate_left
     ·simp only [Act.put, List.setIfInBounds_toArray, List.set_cons_zero, List.set_cons_succ, i64_w, i32_w]
      rfl
     refine one_ (i := 9) (N := none) (fl 12 1023) rfl rfl (by kernel_rfl) (by decide) (fun K hK => ?_)
     refine cx_step (base := w.heap.size) rfl rfl _ _ rfl p.1.toNat Y (pairV a0 a1 (rootV true r) bits s mode).1 (fun _ => True) rfl rfl (size38 (.int .i64 0) (.int .i64 0)) (Kd.R_drew RF.out) (by omega) ?_
     intro Wg hRg hgg hog hbg
     refine hK.out _ _ ⟨(hog _ n20).trans hHeld.1, (hog _ n9).trans hHeld.2.1, (hog _ n24).trans hHeld.2.2.1, (hog _ n25).trans hHeld.2.2.2⟩ (fun hHeld2 => ?_)
     have RG := Lib.hid hRg
     have OG := Lib.hid hog
     have BG := Lib.hid hbg
     have GG := Lib.hid hgg
     clear hK K hRg hgg hog hbg hHeld
     have hHeld := hHeld2
     clear hHeld2
     refine pure_ (i := 10) (N := some 120) (v := ?_) (a' := ?_) (fl 12 2047) rfl rfl (by kernel_rfl) (fun _ _ _ h => h) (Or.inl ⟨by rfl, ?_⟩) ?_ ?_
     rotate_left
     ·intro w'
      go_simp
      with_reducible rfl
     rotate_left
     ·simp only [Act.put, List.setIfInBounds_toArray, List.set_cons_zero, List.set_cons_succ, i64_w, i32_w]
      rfl
     refine one_ (i := 11) (N := none) (fl 12 4095) rfl rfl (by kernel_rfl) (by decide) (fun K hK => ?_)
     refine cx_step (base := w.heap.size) rfl rfl _ _ rfl (p.1 + h).toNat (Y.set p.1.toNat (pairV a0 a1 (rootV true r) bits s mode).1) (pairV a0 a1 (rootV true r) bits s mode).2 (fun _ => True) rfl rfl (size38 (.int .i64 0) (.int .i64 0)) RG.out (by omega) ?_
     intro Wh hRh hgh hoh hbh
     refine hK.out _ _ ⟨(hoh _ n20).trans hHeld.1, (hoh _ n9).trans hHeld.2.1, (hoh _ n24).trans hHeld.2.2.1, (hoh _ n25).trans hHeld.2.2.2⟩ (fun _ => ?_)
     clear hK K hHeld
     refine done_ (by kernel_rfl) ?_
     have same : ∀ k, k < W.heap.size → k ≠ g → Wh.heap[k]? = W.heap[k]? := fun k hk hne => (hoh k hne).trans ((OG.out k hne).trans (hF.block k hk))
     have n7 : g7 ≠ g := fun e => Kd.R_ne ER.out E7.out (by decide) (by rw [e]; rfl)
     have n8 : g8 ≠ g := fun e => Kd.R_ne ER.out E8.out (by decide) (by rw [e]; rfl)
     have n10 : g10 ≠ g := fun e => Kd.R_ne ER.out E10.out (by decide) (by rw [e]; rfl)
     have n11 : g11 ≠ g := fun e => Kd.R_ne ER.out E11.out (by decide) (by rw [e]; rfl)
     have n12 : g12 ≠ g := fun e => Kd.R_ne ER.out E12.out (by decide) (by rw [e]; rfl)
     have n13 : g13 ≠ g := fun e => Kd.R_ne ER.out E13.out (by decide) (by rw [e]; rfl)
     have nn : gn ≠ g := fun e => Kd.R_ne ER.out En.out (by decide) (by rw [e]; rfl)
     have nh : gh ≠ g := fun e => Kd.R_ne ER.out Eh.out (by decide) (by rw [e]; rfl)
     have hsz : W.heap.size ≤ Wh.heap.size := Nat.le_trans hF.size (Nat.le_trans GG.out.size hgh.size)
     refine ⟨⟨hsz, fun k o hk ho => (same k (Array.getElem?_eq_some_iff.1 hk).1 (fun e => by obtain ⟨cells, hc⟩ := Kd.R_typed ER.out g rfl; rw [e, hc] at hk; cases hk; cases ho)).trans hk⟩, ⟨same _ (blk_lt En.out) nn, same _ (blk_lt Eh.out) nh⟩, ⟨(same _ (blk_lt E7.out) n7).trans E7.out, (same _ (blk_lt E8.out) n8).trans E8.out, (same _ (blk_lt E9.out) n9).trans E9.out, (same _ (blk_lt E10.out) n10).trans E10.out, (same _ (blk_lt E11.out) n11).trans E11.out, (same _ (blk_lt E12.out) n12).trans E12.out, (same _ (blk_lt E13.out) n13).trans E13.out, (same _ (blk_lt E20.out) n20).trans E20.out, (same _ (blk_lt En.out) nn).trans En.out, (same _ (blk_lt Eh.out) nh).trans Eh.out⟩, ?_, hbh _ (BG.out _ (below_drew (EB.out.trans (hF.mono EB.out.size))))⟩
     rw [HPRE.out, HQ.out Y]
     exact hRh
    ·skip
     refine box_step rfl rfl (cs := #[.int .i64 0, .int .i64 0]) (t := 38) (by first | (go_simp; done) | (go_simp; rfl)) ?_
     intro g25 hg Wc hbox hbl
     refine hK.out _ _ (below_step hHeld hbl) (fun hHeld2 => ?_)
     have L25 : W4.heap.size ≤ g25 := by rw [hg]; exact hHeld.size
     have B25 := Lib.hid hbox
     have N2425 : g24 ≠ g25 := by have := blk_lt B24.out; omega
     replace B24 := Lib.hid (blk_below B24.out hbl)
     clear hK K hbl hbox hg hHeld
     have hHeld := hHeld2
     clear hHeld2
     refine norm_ (a' := ?_) ?_ ?_
     rotate_left
     ·show Act.put _ (some 25) _ = _
      simp only [Act.put, List.setIfInBounds_toArray, List.set_cons_zero, List.set_cons_succ, i64_w, i32_w]
      rfl
     refine one_ (i := 14) (N := some 108) (fl 22 819199) rfl rfl (by kernel_rfl) (by decide) (fun K hK => ?_)
     refine goes_ Tryz.func81 (by kernel_rfl) rfl #[.agg #[.int .i64 a0.f0, .int .i64 a0.f1], .agg #[.int .i64 a1.f0, .int .i64 a1.f1], .agg #[.int .i64 r.f0, .int .i64 (wrap64 (-r.f1))], .int .i64 bits, .int .i64 s, .int .i64 mode] (by rfl) rfl rfl (by go_simp) ?_
     refine (two_pair.calls _ _ _ _ _ _ _ _ _ _ _ _ _ _ HP.out).mono ?_
     rintro e Wc ⟨rfl, hb⟩
     refine ⟨_, rfl, ?_⟩
     refine hK.out _ _ (below_step hHeld hb) (fun hHeld => ?_)
     replace B24 := Lib.hid (blk_below B24.out hb)
     replace B25 := Lib.hid (blk_below B25.out hb)
     clear hK K hb
     refine norm_ (a' := ?_) ?_ ?_
     rotate_left
     ·show Act.put _ (some 108) _ = _
      simp only [Act.put, List.setIfInBounds_toArray, List.set_cons_zero, List.set_cons_succ, i64_w, i32_w]
      rfl
     refine pure_ (i := 15) (N := some 93) (v := ?_) (a' := ?_) (fl 22 851967) rfl rfl (by kernel_rfl) (fun _ _ _ h => h) (Or.inl ⟨by rfl, ?_⟩) ?_ ?_
     rotate_left
     ·intro w'
      go_simp
      with_reducible rfl
     rotate_left
     ·simp only [Act.put, List.setIfInBounds_toArray, List.set_cons_zero, List.set_cons_succ, i64_w, i32_w]
      rfl
     refine pure_ (i := 16) (N := some 109) (v := ?_) (a' := ?_) (fl 22 917503) rfl rfl (by kernel_rfl) (fun _ _ _ h => h) (Or.inl ⟨by rfl, ?_⟩) ?_ ?_
     rotate_left
     ·intro w'
      go_simp
      with_reducible rfl
     rotate_left
     ·simp only [Act.put, List.setIfInBounds_toArray, List.set_cons_zero, List.set_cons_succ, i64_w, i32_w]
      rfl
     refine pure_ (i := 17) (N := some 110) (v := ?_) (a' := ?_) (fl 22 1048575) rfl rfl (by kernel_rfl) (fun _ _ _ h => h) (Or.inl ⟨by rfl, ?_⟩) ?_ ?_
     rotate_left
     ·intro w'
      go_simp
      with_reducible rfl
     rotate_left
     ·simp only [Act.put, List.setIfInBounds_toArray, List.set_cons_zero, List.set_cons_succ, i64_w, i32_w]
      rfl

     refine one_ (i := 20) (N := none) (fl 22 2097151) rfl rfl (by kernel_rfl) (by decide) (fun K hK => ?_)
     refine row_step rfl rfl 38 _ _ rfl g24 #[.int .i64 (pairV a0 a1 (rootV true r) bits s mode).1.f0, .int .i64 (pairV a0 a1 (rootV true r) bits s mode).1.f1] rfl rfl 38 #[.int .i64 0, .int .i64 0] B24.out (size38 _ _) rfl (one38 _ _) ?_
     intro Wd hq hoth hbel
     refine hK.out _ _ (hbel _ _ L24 hHeld) (fun hHeld2 => ?_)
     replace B25 := Lib.hid ((hoth _ (Ne.symm N2425)).trans B25.out)
     replace B24 := Lib.hid hq
     clear hK K hq hoth hbel hHeld
     have hHeld := hHeld2
     clear hHeld2
     refine one_ (i := 21) (N := none) (fl 22 4194303) rfl rfl (by kernel_rfl) (by decide) (fun K hK => ?_)
     refine row_step rfl rfl 38 _ _ rfl g25 #[.int .i64 (pairV a0 a1 (rootV true r) bits s mode).2.f0, .int .i64 (pairV a0 a1 (rootV true r) bits s mode).2.f1] rfl rfl 38 #[.int .i64 0, .int .i64 0] B25.out (size38 _ _) rfl (one38 _ _) ?_
     intro Wf hq hoth hbel
     refine hK.out _ _ (hbel _ _ L25 hHeld) (fun hHeld2 => ?_)
     replace B24 := Lib.hid ((hoth _ N2425).trans B24.out)
     replace B25 := Lib.hid hq
     clear hK K hq hoth hbel hHeld
     have hF := below_step HB_4.out hHeld2
     clear hHeld2
     refine done_ (by kernel_rfl) ?_
     have L24' := Nat.le_trans (below_size HB_4.out) L24
     have L25' := Nat.le_trans (below_size HB_4.out) L25
     have RF := Lib.hid (Kd.R_below ER.out hF)
     have gW : g < W.heap.size := Kd.R_lt ER.out g rfl
     have n20 : g20 ≠ g := fun e => Kd.R_ne ER.out E20.out (by decide) (by rw [e]; rfl)
     have n9 : g9 ≠ g := fun e => Kd.R_ne ER.out E9.out (by decide) (by rw [e]; rfl)
     have n24 : g24 ≠ g := by omega
     have n25 : g25 ≠ g := by omega
     refine startR_ (S := fun w' => w'.heap[g20]? = some (.cells #[.slice (some ⟨g, 0, none⟩) l.length cap] 22 (0, 0)) ∧ w'.heap[g9]? = some (.cells #[.int .i64 h] 3 (0, 0)) ∧ w'.heap[g24]? = some (.cells #[.int .i64 (pairV a0 a1 (rootV true r) bits s mode).1.f0, .int .i64 (pairV a0 a1 (rootV true r) bits s mode).1.f1] 38 (0, 0)) ∧ w'.heap[g25]? = some (.cells #[.int .i64 (pairV a0 a1 (rootV true r) bits s mode).2.f0, .int .i64 (pairV a0 a1 (rootV true r) bits s mode).2.f1] 38 (0, 0))) (ds := []) (fl 12 0) hmx rfl rfl (by kernel_rfl) (fun ⟨_, _, q⟩ => q) ⟨blk_below E20.out hF.drew, blk_below E9.out hF.drew, B24.out, B25.out⟩ (fun hHeld => ?_)
     refine pure_ (i := 1) (N := some 112) (v := ?_) (a' := ?_) (fl 12 2) rfl rfl (by kernel_rfl) (fun _ _ _ h => h) (Or.inl ⟨by rfl, ?_⟩) ?_ ?_
     rotate_left
     ·intro w'
      go_simp
      with_reducible rfl
     rotate_left
     ·simp only [Act.put, List.setIfInBounds_toArray, List.set_cons_zero, List.set_cons_succ, i64_w, i32_w]
      rfl
     refine pure_ (i := 3) (N := some 114) (v := ?_) (a' := ?_) (fl 12 10) rfl rfl (by kernel_rfl) (fun _ _ _ h => h) (Or.inl ⟨by rfl, ?_⟩) ?_ ?_
     rotate_left
     ·intro w'
      go_simp
      with_reducible rfl
     rotate_left
     ·simp only [Act.put, List.setIfInBounds_toArray, List.set_cons_zero, List.set_cons_succ, i64_w, i32_w]
      rfl
     refine take_ (i := 0) (N := some 111) (v := ?_) (a' := ?_) (fl 12 11) rfl rfl (by kernel_rfl) (fun _ _ _ h => h) (Or.inl ⟨by rfl, ?_⟩) hHeld ?_ ?_
     rotate_left
     ·rintro w' ⟨s0, s1, s2, s3⟩
      have ja := (blk_cell s0 0).trans rfl
      have jb := (blk_cell s1 0).trans rfl
      have jc := (blk_cell s2 0).trans rfl
      have jd := (blk_cell s2 1).trans rfl
      have je := (blk_cell s3 0).trans rfl
      have jf := (blk_cell s3 1).trans rfl
      go_simp
      with_reducible rfl
     rotate_left
     ·simp only [Act.put, List.setIfInBounds_toArray, List.set_cons_zero, List.set_cons_succ, i64_w, i32_w]
      rfl
     refine take_ (i := 2) (N := some 113) (v := ?_) (a' := ?_) (fl 12 15) rfl rfl (by kernel_rfl) (fun _ _ _ h => h) (Or.inl ⟨by rfl, ?_⟩) hHeld ?_ ?_
     rotate_left
     ·rintro w' ⟨s0, s1, s2, s3⟩
      have ja := (blk_cell s0 0).trans rfl
      have jb := (blk_cell s1 0).trans rfl
      have jc := (blk_cell s2 0).trans rfl
      have jd := (blk_cell s2 1).trans rfl
      have je := (blk_cell s3 0).trans rfl
      have jf := (blk_cell s3 1).trans rfl
      go_simp
      with_reducible rfl
     rotate_left
     ·simp only [Act.put, List.setIfInBounds_toArray, List.set_cons_zero, List.set_cons_succ, i64_w, i32_w]
      rfl
     refine take_ (i := 4) (N := some 115) (v := ?_) (a' := ?_) (fl 12 31) rfl rfl (by kernel_rfl) (fun _ _ _ h => h) (Or.inl ⟨by rfl, ?_⟩) hHeld ?_ ?_
     rotate_left
     ·rintro w' ⟨s0, s1, s2, s3⟩
      have ja := (blk_cell s0 0).trans rfl
      have jb := (blk_cell s1 0).trans rfl
      have jc := (blk_cell s2 0).trans rfl
      have jd := (blk_cell s2 1).trans rfl
      have je := (blk_cell s3 0).trans rfl
      have jf := (blk_cell s3 1).trans rfl
      go_simp
      with_reducible rfl
     rotate_left
     ·simp only [Act.put, List.setIfInBounds_toArray, List.set_cons_zero, List.set_cons_succ, i64_w, i32_w]
      rfl
     refine pure_ (i := 5) (N := some 116) (v := ?_) (a' := ?_) (fl 12 63) rfl rfl (by kernel_rfl) (fun _ _ _ h => h) (Or.inl ⟨by rfl, ?_⟩) ?_ ?_
     rotate_left
     ·intro w'
      go_simp
      with_reducible rfl
     rotate_left
     ·simp only [Act.put, List.setIfInBounds_toArray, List.set_cons_zero, List.set_cons_succ, i64_w, i32_w]
      rfl
     refine take_ (i := 6) (N := some 117) (v := ?_) (a' := ?_) (fl 12 127) rfl rfl (by kernel_rfl) (fun _ _ _ h => h) (Or.inl ⟨by rfl, ?_⟩) hHeld ?_ ?_
     rotate_left
     ·rintro w' ⟨s0, s1, s2, s3⟩
      have ja := (blk_cell s0 0).trans rfl
      have jb := (blk_cell s1 0).trans rfl
      have jc := (blk_cell s2 0).trans rfl
      have jd := (blk_cell s2 1).trans rfl
      have je := (blk_cell s3 0).trans rfl
      have jf := (blk_cell s3 1).trans rfl
      go_simp
      with_reducible rfl
     rotate_left
     ·simp only [Act.put, List.setIfInBounds_toArray, List.set_cons_zero, List.set_cons_succ, i64_w, i32_w]
      rfl
     refine pure_ (i := 8) (N := some 119) (v := ?_) (a' := ?_) (fl 12 383) rfl rfl (by kernel_rfl) (fun _ _ _ h => h) (Or.inl ⟨by rfl, ?_⟩) ?_ ?_
     rotate_left
     ·intro w'
      go_simp
      with_reducible rfl
     rotate_left
     ·simp only [Act.put, List.setIfInBounds_toArray, List.set_cons_zero, List.set_cons_succ, i64_w, i32_w]
      rfl
     refine take_ (i := 7) (N := some 118) (v := ?_) (a' := ?_) (fl 12 511) rfl rfl (by kernel_rfl) (fun _ _ _ h => h) (Or.inl ⟨by rfl, ?_⟩) hHeld ?_ ?_
     rotate_left
     ·rintro w' ⟨s0, s1, s2, s3⟩
      have ja := (blk_cell s0 0).trans rfl
      have jb := (blk_cell s1 0).trans rfl
      have jc := (blk_cell s2 0).trans rfl
      have jd := (blk_cell s2 1).trans rfl
      have je := (blk_cell s3 0).trans rfl
      have jf := (blk_cell s3 1).trans rfl
      go_simp
      with_reducible rfl
     rotate_left
     ·simp only [Act.put, List.setIfInBounds_toArray, List.set_cons_zero, List.set_cons_succ, i64_w, i32_w]
      rfl
     refine one_ (i := 9) (N := none) (fl 12 1023) rfl rfl (by kernel_rfl) (by decide) (fun K hK => ?_)
     refine cx_step (base := w.heap.size) rfl rfl _ _ rfl p.1.toNat Y (pairV a0 a1 (rootV true r) bits s mode).1 (fun _ => True) rfl rfl (size38 (.int .i64 0) (.int .i64 0)) (Kd.R_drew RF.out) (by omega) ?_
     intro Wg hRg hgg hog hbg
     refine hK.out _ _ ⟨(hog _ n20).trans hHeld.1, (hog _ n9).trans hHeld.2.1, (hog _ n24).trans hHeld.2.2.1, (hog _ n25).trans hHeld.2.2.2⟩ (fun hHeld2 => ?_)
     have RG := Lib.hid hRg
     have OG := Lib.hid hog
     have BG := Lib.hid hbg
     have GG := Lib.hid hgg
     clear hK K hRg hgg hog hbg hHeld
     have hHeld := hHeld2
     clear hHeld2
     refine pure_ (i := 10) (N := some 120) (v := ?_) (a' := ?_) (fl 12 2047) rfl rfl (by kernel_rfl) (fun _ _ _ h => h) (Or.inl ⟨by rfl, ?_⟩) ?_ ?_
     rotate_left
     ·intro w'
      go_simp
      with_reducible rfl
     rotate_left
     ·simp only [Act.put, List.setIfInBounds_toArray, List.set_cons_zero, List.set_cons_succ, i64_w, i32_w]
      rfl
     refine one_ (i := 11) (N := none) (fl 12 4095) rfl rfl (by kernel_rfl) (by decide) (fun K hK => ?_)
     refine cx_step (base := w.heap.size) rfl rfl _ _ rfl (p.1 + h).toNat (Y.set p.1.toNat (pairV a0 a1 (rootV true r) bits s mode).1) (pairV a0 a1 (rootV true r) bits s mode).2 (fun _ => True) rfl rfl (size38 (.int .i64 0) (.int .i64 0)) RG.out (by omega) ?_
     intro Wh hRh hgh hoh hbh
     refine hK.out _ _ ⟨(hoh _ n20).trans hHeld.1, (hoh _ n9).trans hHeld.2.1, (hoh _ n24).trans hHeld.2.2.1, (hoh _ n25).trans hHeld.2.2.2⟩ (fun _ => ?_)
     clear hK K hHeld
     refine done_ (by kernel_rfl) ?_
     have same : ∀ k, k < W.heap.size → k ≠ g → Wh.heap[k]? = W.heap[k]? := fun k hk hne => (hoh k hne).trans ((OG.out k hne).trans (hF.block k hk))
     have n7 : g7 ≠ g := fun e => Kd.R_ne ER.out E7.out (by decide) (by rw [e]; rfl)
     have n8 : g8 ≠ g := fun e => Kd.R_ne ER.out E8.out (by decide) (by rw [e]; rfl)
     have n10 : g10 ≠ g := fun e => Kd.R_ne ER.out E10.out (by decide) (by rw [e]; rfl)
     have n11 : g11 ≠ g := fun e => Kd.R_ne ER.out E11.out (by decide) (by rw [e]; rfl)
     have n12 : g12 ≠ g := fun e => Kd.R_ne ER.out E12.out (by decide) (by rw [e]; rfl)
     have n13 : g13 ≠ g := fun e => Kd.R_ne ER.out E13.out (by decide) (by rw [e]; rfl)
     have nn : gn ≠ g := fun e => Kd.R_ne ER.out En.out (by decide) (by rw [e]; rfl)
     have nh : gh ≠ g := fun e => Kd.R_ne ER.out Eh.out (by decide) (by rw [e]; rfl)
     have hsz : W.heap.size ≤ Wh.heap.size := Nat.le_trans hF.size (Nat.le_trans GG.out.size hgh.size)
     refine ⟨⟨hsz, fun k o hk ho => (same k (Array.getElem?_eq_some_iff.1 hk).1 (fun e => by obtain ⟨cells, hc⟩ := Kd.R_typed ER.out g rfl; rw [e, hc] at hk; cases hk; cases ho)).trans hk⟩, ⟨same _ (blk_lt En.out) nn, same _ (blk_lt Eh.out) nh⟩, ⟨(same _ (blk_lt E7.out) n7).trans E7.out, (same _ (blk_lt E8.out) n8).trans E8.out, (same _ (blk_lt E9.out) n9).trans E9.out, (same _ (blk_lt E10.out) n10).trans E10.out, (same _ (blk_lt E11.out) n11).trans E11.out, (same _ (blk_lt E12.out) n12).trans E12.out, (same _ (blk_lt E13.out) n13).trans E13.out, (same _ (blk_lt E20.out) n20).trans E20.out, (same _ (blk_lt En.out) nn).trans En.out, (same _ (blk_lt Eh.out) nh).trans Eh.out⟩, ?_, hbh _ (BG.out _ (below_drew (EB.out.trans (hF.mono EB.out.size))))⟩
     rw [HPRE.out, HQ.out Y]
     exact hRh
   ·skip
    refine box_step rfl rfl (cs := #[.int .i64 0, .int .i64 0]) (t := 38) (by first | (go_simp; done) | (go_simp; rfl)) ?_
    intro g25 hg Wc hbox hbl
    refine hK.out _ _ (below_step hHeld hbl) (fun hHeld2 => ?_)
    have L25 : W4.heap.size ≤ g25 := by rw [hg]; exact hHeld.size
    have B25 := Lib.hid hbox
    clear hK K hbl hbox hg hHeld
    have hHeld := hHeld2
    clear hHeld2
    refine norm_ (a' := ?_) ?_ ?_
    rotate_left
    ·show Act.put _ (some 25) _ = _
     simp only [Act.put, List.setIfInBounds_toArray, List.set_cons_zero, List.set_cons_succ, i64_w, i32_w]
     rfl
    refine two_ (i := 14) (j := 18) (Ni := some 108) (Nj := some 24) (fl 22 557055) (fl 22 802815) rfl rfl rfl rfl (by kernel_rfl) (by decide) (by decide) (fun K hK => ?_) (fun K hK => ?_)
    ·skip
     refine goes_ Tryz.func81 (by kernel_rfl) rfl #[.agg #[.int .i64 a0.f0, .int .i64 a0.f1], .agg #[.int .i64 a1.f0, .int .i64 a1.f1], .agg #[.int .i64 r.f0, .int .i64 (wrap64 (-r.f1))], .int .i64 bits, .int .i64 s, .int .i64 mode] (by rfl) rfl rfl (by go_simp) ?_
     refine (two_pair.calls _ _ _ _ _ _ _ _ _ _ _ _ _ _ HP.out).mono ?_
     rintro e Wc ⟨rfl, hb⟩
     refine ⟨_, rfl, ?_⟩
     refine hK.out _ _ (below_step hHeld hb) (fun hHeld => ?_)
     replace B25 := Lib.hid (blk_below B25.out hb)
     clear hK K hb
     refine norm_ (a' := ?_) ?_ ?_
     rotate_left
     ·show Act.put _ (some 108) _ = _
      simp only [Act.put, List.setIfInBounds_toArray, List.set_cons_zero, List.set_cons_succ, i64_w, i32_w]
      rfl
     refine pure_ (i := 15) (N := some 93) (v := ?_) (a' := ?_) (fl 22 589823) rfl rfl (by kernel_rfl) (fun _ _ _ h => h) (Or.inl ⟨by rfl, ?_⟩) ?_ ?_
     rotate_left
     ·intro w'
      go_simp
      with_reducible rfl
     rotate_left
     ·simp only [Act.put, List.setIfInBounds_toArray, List.set_cons_zero, List.set_cons_succ, i64_w, i32_w]
      rfl
     refine pure_ (i := 16) (N := some 109) (v := ?_) (a' := ?_) (fl 22 655359) rfl rfl (by kernel_rfl) (fun _ _ _ h => h) (Or.inl ⟨by rfl, ?_⟩) ?_ ?_
     rotate_left
     ·intro w'
      go_simp
      with_reducible rfl
     rotate_left
     ·simp only [Act.put, List.setIfInBounds_toArray, List.set_cons_zero, List.set_cons_succ, i64_w, i32_w]
      rfl
     refine pure_ (i := 17) (N := some 110) (v := ?_) (a' := ?_) (fl 22 786431) rfl rfl (by kernel_rfl) (fun _ _ _ h => h) (Or.inl ⟨by rfl, ?_⟩) ?_ ?_
     rotate_left
     ·intro w'
      go_simp
      with_reducible rfl
     rotate_left
     ·simp only [Act.put, List.setIfInBounds_toArray, List.set_cons_zero, List.set_cons_succ, i64_w, i32_w]
      rfl
     refine one_ (i := 18) (N := some 24) (fl 22 1048575) rfl rfl (by kernel_rfl) (by decide) (fun K hK => ?_)
     refine box_step rfl rfl (cs := #[.int .i64 0, .int .i64 0]) (t := 38) (by first | (go_simp; done) | (go_simp; rfl)) ?_
     intro g24 hg Wc hbox hbl
     refine hK.out _ _ (below_step hHeld hbl) (fun hHeld2 => ?_)
     have L24 : W4.heap.size ≤ g24 := by rw [hg]; exact hHeld.size
     have B24 := Lib.hid hbox
     have N2425 : g24 ≠ g25 := by have := blk_lt B25.out; omega
     replace B25 := Lib.hid (blk_below B25.out hbl)
     clear hK K hbl hbox hg hHeld
     have hHeld := hHeld2
     clear hHeld2
     refine norm_ (a' := ?_) ?_ ?_
     rotate_left
     ·show Act.put _ (some 24) _ = _
      simp only [Act.put, List.setIfInBounds_toArray, List.set_cons_zero, List.set_cons_succ, i64_w, i32_w]
      rfl

     refine one_ (i := 20) (N := none) (fl 22 2097151) rfl rfl (by kernel_rfl) (by decide) (fun K hK => ?_)
     refine row_step rfl rfl 38 _ _ rfl g24 #[.int .i64 (pairV a0 a1 (rootV true r) bits s mode).1.f0, .int .i64 (pairV a0 a1 (rootV true r) bits s mode).1.f1] rfl rfl 38 #[.int .i64 0, .int .i64 0] B24.out (size38 _ _) rfl (one38 _ _) ?_
     intro Wd hq hoth hbel
     refine hK.out _ _ (hbel _ _ L24 hHeld) (fun hHeld2 => ?_)
     replace B25 := Lib.hid ((hoth _ (Ne.symm N2425)).trans B25.out)
     replace B24 := Lib.hid hq
     clear hK K hq hoth hbel hHeld
     have hHeld := hHeld2
     clear hHeld2
     refine one_ (i := 21) (N := none) (fl 22 4194303) rfl rfl (by kernel_rfl) (by decide) (fun K hK => ?_)
     refine row_step rfl rfl 38 _ _ rfl g25 #[.int .i64 (pairV a0 a1 (rootV true r) bits s mode).2.f0, .int .i64 (pairV a0 a1 (rootV true r) bits s mode).2.f1] rfl rfl 38 #[.int .i64 0, .int .i64 0] B25.out (size38 _ _) rfl (one38 _ _) ?_
     intro Wf hq hoth hbel
     refine hK.out _ _ (hbel _ _ L25 hHeld) (fun hHeld2 => ?_)
     replace B24 := Lib.hid ((hoth _ N2425).trans B24.out)
     replace B25 := Lib.hid hq
     clear hK K hq hoth hbel hHeld
     have hF := below_step HB_4.out hHeld2
     clear hHeld2
     refine done_ (by kernel_rfl) ?_
     have L24' := Nat.le_trans (below_size HB_4.out) L24
     have L25' := Nat.le_trans (below_size HB_4.out) L25
     have RF := Lib.hid (Kd.R_below ER.out hF)
     have gW : g < W.heap.size := Kd.R_lt ER.out g rfl
     have n20 : g20 ≠ g := fun e => Kd.R_ne ER.out E20.out (by decide) (by rw [e]; rfl)
     have n9 : g9 ≠ g := fun e => Kd.R_ne ER.out E9.out (by decide) (by rw [e]; rfl)
     have n24 : g24 ≠ g := by omega
     have n25 : g25 ≠ g := by omega
     refine startR_ (S := fun w' => w'.heap[g20]? = some (.cells #[.slice (some ⟨g, 0, none⟩) l.length cap] 22 (0, 0)) ∧ w'.heap[g9]? = some (.cells #[.int .i64 h] 3 (0, 0)) ∧ w'.heap[g24]? = some (.cells #[.int .i64 (pairV a0 a1 (rootV true r) bits s mode).1.f0, .int .i64 (pairV a0 a1 (rootV true r) bits s mode).1.f1] 38 (0, 0)) ∧ w'.heap[g25]? = some (.cells #[.int .i64 (pairV a0 a1 (rootV true r) bits s mode).2.f0, .int .i64 (pairV a0 a1 (rootV true r) bits s mode).2.f1] 38 (0, 0))) (ds := []) (fl 12 0) hmx rfl rfl (by kernel_rfl) (fun ⟨_, _, q⟩ => q) ⟨blk_below E20.out hF.drew, blk_below E9.out hF.drew, B24.out, B25.out⟩ (fun hHeld => ?_)
     refine pure_ (i := 1) (N := some 112) (v := ?_) (a' := ?_) (fl 12 2) rfl rfl (by kernel_rfl) (fun _ _ _ h => h) (Or.inl ⟨by rfl, ?_⟩) ?_ ?_
     rotate_left
     ·intro w'
      go_simp
      with_reducible rfl
     rotate_left
     ·simp only [Act.put, List.setIfInBounds_toArray, List.set_cons_zero, List.set_cons_succ, i64_w, i32_w]
      rfl
     refine pure_ (i := 3) (N := some 114) (v := ?_) (a' := ?_) (fl 12 10) rfl rfl (by kernel_rfl) (fun _ _ _ h => h) (Or.inl ⟨by rfl, ?_⟩) ?_ ?_
     rotate_left
     ·intro w'
      go_simp
      with_reducible rfl
     rotate_left
     ·simp only [Act.put, List.setIfInBounds_toArray, List.set_cons_zero, List.set_cons_succ, i64_w, i32_w]
      rfl
     refine take_ (i := 0) (N := some 111) (v := ?_) (a' := ?_) (fl 12 11) rfl rfl (by kernel_rfl) (fun _ _ _ h => h) (Or.inl ⟨by rfl, ?_⟩) hHeld ?_ ?_
     rotate_left
     ·rintro w' ⟨s0, s1, s2, s3⟩
      have ja := (blk_cell s0 0).trans rfl
      have jb := (blk_cell s1 0).trans rfl
      have jc := (blk_cell s2 0).trans rfl
      have jd := (blk_cell s2 1).trans rfl
      have je := (blk_cell s3 0).trans rfl
      have jf := (blk_cell s3 1).trans rfl
      go_simp
      with_reducible rfl
     rotate_left
     ·simp only [Act.put, List.setIfInBounds_toArray, List.set_cons_zero, List.set_cons_succ, i64_w, i32_w]
      rfl
     refine take_ (i := 2) (N := some 113) (v := ?_) (a' := ?_) (fl 12 15) rfl rfl (by kernel_rfl) (fun _ _ _ h => h) (Or.inl ⟨by rfl, ?_⟩) hHeld ?_ ?_
     rotate_left
     ·rintro w' ⟨s0, s1, s2, s3⟩
      have ja := (blk_cell s0 0).trans rfl
      have jb := (blk_cell s1 0).trans rfl
      have jc := (blk_cell s2 0).trans rfl
      have jd := (blk_cell s2 1).trans rfl
      have je := (blk_cell s3 0).trans rfl
      have jf := (blk_cell s3 1).trans rfl
      go_simp
      with_reducible rfl
     rotate_left
     ·simp only [Act.put, List.setIfInBounds_toArray, List.set_cons_zero, List.set_cons_succ, i64_w, i32_w]
      rfl
     refine take_ (i := 4) (N := some 115) (v := ?_) (a' := ?_) (fl 12 31) rfl rfl (by kernel_rfl) (fun _ _ _ h => h) (Or.inl ⟨by rfl, ?_⟩) hHeld ?_ ?_
     rotate_left
     ·rintro w' ⟨s0, s1, s2, s3⟩
      have ja := (blk_cell s0 0).trans rfl
      have jb := (blk_cell s1 0).trans rfl
      have jc := (blk_cell s2 0).trans rfl
      have jd := (blk_cell s2 1).trans rfl
      have je := (blk_cell s3 0).trans rfl
      have jf := (blk_cell s3 1).trans rfl
      go_simp
      with_reducible rfl
     rotate_left
     ·simp only [Act.put, List.setIfInBounds_toArray, List.set_cons_zero, List.set_cons_succ, i64_w, i32_w]
      rfl
     refine pure_ (i := 5) (N := some 116) (v := ?_) (a' := ?_) (fl 12 63) rfl rfl (by kernel_rfl) (fun _ _ _ h => h) (Or.inl ⟨by rfl, ?_⟩) ?_ ?_
     rotate_left
     ·intro w'
      go_simp
      with_reducible rfl
     rotate_left
     ·simp only [Act.put, List.setIfInBounds_toArray, List.set_cons_zero, List.set_cons_succ, i64_w, i32_w]
      rfl
     refine take_ (i := 6) (N := some 117) (v := ?_) (a' := ?_) (fl 12 127) rfl rfl (by kernel_rfl) (fun _ _ _ h => h) (Or.inl ⟨by rfl, ?_⟩) hHeld ?_ ?_
     rotate_left
     ·rintro w' ⟨s0, s1, s2, s3⟩
      have ja := (blk_cell s0 0).trans rfl
      have jb := (blk_cell s1 0).trans rfl
      have jc := (blk_cell s2 0).trans rfl
      have jd := (blk_cell s2 1).trans rfl
      have je := (blk_cell s3 0).trans rfl
      have jf := (blk_cell s3 1).trans rfl
      go_simp
      with_reducible rfl
     rotate_left
     ·simp only [Act.put, List.setIfInBounds_toArray, List.set_cons_zero, List.set_cons_succ, i64_w, i32_w]
      rfl
     refine pure_ (i := 8) (N := some 119) (v := ?_) (a' := ?_) (fl 12 383) rfl rfl (by kernel_rfl) (fun _ _ _ h => h) (Or.inl ⟨by rfl, ?_⟩) ?_ ?_
     rotate_left
     ·intro w'
      go_simp
      with_reducible rfl
     rotate_left
     ·simp only [Act.put, List.setIfInBounds_toArray, List.set_cons_zero, List.set_cons_succ, i64_w, i32_w]
      rfl
     refine take_ (i := 7) (N := some 118) (v := ?_) (a' := ?_) (fl 12 511) rfl rfl (by kernel_rfl) (fun _ _ _ h => h) (Or.inl ⟨by rfl, ?_⟩) hHeld ?_ ?_
     rotate_left
     ·rintro w' ⟨s0, s1, s2, s3⟩
      have ja := (blk_cell s0 0).trans rfl
      have jb := (blk_cell s1 0).trans rfl
      have jc := (blk_cell s2 0).trans rfl
      have jd := (blk_cell s2 1).trans rfl
      have je := (blk_cell s3 0).trans rfl
      have jf := (blk_cell s3 1).trans rfl
      go_simp
      with_reducible rfl
     rotate_left
     ·simp only [Act.put, List.setIfInBounds_toArray, List.set_cons_zero, List.set_cons_succ, i64_w, i32_w]
      rfl
     refine one_ (i := 9) (N := none) (fl 12 1023) rfl rfl (by kernel_rfl) (by decide) (fun K hK => ?_)
     refine cx_step (base := w.heap.size) rfl rfl _ _ rfl p.1.toNat Y (pairV a0 a1 (rootV true r) bits s mode).1 (fun _ => True) rfl rfl (size38 (.int .i64 0) (.int .i64 0)) (Kd.R_drew RF.out) (by omega) ?_
     intro Wg hRg hgg hog hbg
     refine hK.out _ _ ⟨(hog _ n20).trans hHeld.1, (hog _ n9).trans hHeld.2.1, (hog _ n24).trans hHeld.2.2.1, (hog _ n25).trans hHeld.2.2.2⟩ (fun hHeld2 => ?_)
     have RG := Lib.hid hRg
     have OG := Lib.hid hog
     have BG := Lib.hid hbg
     have GG := Lib.hid hgg
     clear hK K hRg hgg hog hbg hHeld
     have hHeld := hHeld2
     clear hHeld2
     refine pure_ (i := 10) (N := some 120) (v := ?_) (a' := ?_) (fl 12 2047) rfl rfl (by kernel_rfl) (fun _ _ _ h => h) (Or.inl ⟨by rfl, ?_⟩) ?_ ?_
     rotate_left
     ·intro w'
      go_simp
      with_reducible rfl
     rotate_left
     ·simp only [Act.put, List.setIfInBounds_toArray, List.set_cons_zero, List.set_cons_succ, i64_w, i32_w]
      rfl
     refine one_ (i := 11) (N := none) (fl 12 4095) rfl rfl (by kernel_rfl) (by decide) (fun K hK => ?_)
     refine cx_step (base := w.heap.size) rfl rfl _ _ rfl (p.1 + h).toNat (Y.set p.1.toNat (pairV a0 a1 (rootV true r) bits s mode).1) (pairV a0 a1 (rootV true r) bits s mode).2 (fun _ => True) rfl rfl (size38 (.int .i64 0) (.int .i64 0)) RG.out (by omega) ?_
     intro Wh hRh hgh hoh hbh
     refine hK.out _ _ ⟨(hoh _ n20).trans hHeld.1, (hoh _ n9).trans hHeld.2.1, (hoh _ n24).trans hHeld.2.2.1, (hoh _ n25).trans hHeld.2.2.2⟩ (fun _ => ?_)
     clear hK K hHeld
     refine done_ (by kernel_rfl) ?_
     have same : ∀ k, k < W.heap.size → k ≠ g → Wh.heap[k]? = W.heap[k]? := fun k hk hne => (hoh k hne).trans ((OG.out k hne).trans (hF.block k hk))
     have n7 : g7 ≠ g := fun e => Kd.R_ne ER.out E7.out (by decide) (by rw [e]; rfl)
     have n8 : g8 ≠ g := fun e => Kd.R_ne ER.out E8.out (by decide) (by rw [e]; rfl)
     have n10 : g10 ≠ g := fun e => Kd.R_ne ER.out E10.out (by decide) (by rw [e]; rfl)
     have n11 : g11 ≠ g := fun e => Kd.R_ne ER.out E11.out (by decide) (by rw [e]; rfl)
     have n12 : g12 ≠ g := fun e => Kd.R_ne ER.out E12.out (by decide) (by rw [e]; rfl)
     have n13 : g13 ≠ g := fun e => Kd.R_ne ER.out E13.out (by decide) (by rw [e]; rfl)
     have nn : gn ≠ g := fun e => Kd.R_ne ER.out En.out (by decide) (by rw [e]; rfl)
     have nh : gh ≠ g := fun e => Kd.R_ne ER.out Eh.out (by decide) (by rw [e]; rfl)
     have hsz : W.heap.size ≤ Wh.heap.size := Nat.le_trans hF.size (Nat.le_trans GG.out.size hgh.size)
     refine ⟨⟨hsz, fun k o hk ho => (same k (Array.getElem?_eq_some_iff.1 hk).1 (fun e => by obtain ⟨cells, hc⟩ := Kd.R_typed ER.out g rfl; rw [e, hc] at hk; cases hk; cases ho)).trans hk⟩, ⟨same _ (blk_lt En.out) nn, same _ (blk_lt Eh.out) nh⟩, ⟨(same _ (blk_lt E7.out) n7).trans E7.out, (same _ (blk_lt E8.out) n8).trans E8.out, (same _ (blk_lt E9.out) n9).trans E9.out, (same _ (blk_lt E10.out) n10).trans E10.out, (same _ (blk_lt E11.out) n11).trans E11.out, (same _ (blk_lt E12.out) n12).trans E12.out, (same _ (blk_lt E13.out) n13).trans E13.out, (same _ (blk_lt E20.out) n20).trans E20.out, (same _ (blk_lt En.out) nn).trans En.out, (same _ (blk_lt Eh.out) nh).trans Eh.out⟩, ?_, hbh _ (BG.out _ (below_drew (EB.out.trans (hF.mono EB.out.size))))⟩
     rw [HPRE.out, HQ.out Y]
     exact hRh
    ·skip
     refine box_step rfl rfl (cs := #[.int .i64 0, .int .i64 0]) (t := 38) (by first | (go_simp; done) | (go_simp; rfl)) ?_
     intro g24 hg Wc hbox hbl
     refine hK.out _ _ (below_step hHeld hbl) (fun hHeld2 => ?_)
     have L24 : W4.heap.size ≤ g24 := by rw [hg]; exact hHeld.size
     have B24 := Lib.hid hbox
     have N2425 : g24 ≠ g25 := by have := blk_lt B25.out; omega
     replace B25 := Lib.hid (blk_below B25.out hbl)
     clear hK K hbl hbox hg hHeld
     have hHeld := hHeld2
     clear hHeld2
     refine norm_ (a' := ?_) ?_ ?_
     rotate_left
     ·show Act.put _ (some 24) _ = _
      simp only [Act.put, List.setIfInBounds_toArray, List.set_cons_zero, List.set_cons_succ, i64_w, i32_w]
      rfl
     refine one_ (i := 14) (N := some 108) (fl 22 819199) rfl rfl (by kernel_rfl) (by decide) (fun K hK => ?_)
     refine goes_ Tryz.func81 (by kernel_rfl) rfl #[.agg #[.int .i64 a0.f0, .int .i64 a0.f1], .agg #[.int .i64 a1.f0, .int .i64 a1.f1], .agg #[.int .i64 r.f0, .int .i64 (wrap64 (-r.f1))], .int .i64 bits, .int .i64 s, .int .i64 mode] (by rfl) rfl rfl (by go_simp) ?_
     refine (two_pair.calls _ _ _ _ _ _ _ _ _ _ _ _ _ _ HP.out).mono ?_
     rintro e Wc ⟨rfl, hb⟩
     refine ⟨_, rfl, ?_⟩
     refine hK.out _ _ (below_step hHeld hb) (fun hHeld => ?_)
     replace B24 := Lib.hid (blk_below B24.out hb)
     replace B25 := Lib.hid (blk_below B25.out hb)
     clear hK K hb
     refine norm_ (a' := ?_) ?_ ?_
     rotate_left
     ·show Act.put _ (some 108) _ = _
      simp only [Act.put, List.setIfInBounds_toArray, List.set_cons_zero, List.set_cons_succ, i64_w, i32_w]
      rfl
     refine pure_ (i := 15) (N := some 93) (v := ?_) (a' := ?_) (fl 22 851967) rfl rfl (by kernel_rfl) (fun _ _ _ h => h) (Or.inl ⟨by rfl, ?_⟩) ?_ ?_
     rotate_left
     ·intro w'
      go_simp
      with_reducible rfl
     rotate_left
     ·simp only [Act.put, List.setIfInBounds_toArray, List.set_cons_zero, List.set_cons_succ, i64_w, i32_w]
      rfl
     refine pure_ (i := 16) (N := some 109) (v := ?_) (a' := ?_) (fl 22 917503) rfl rfl (by kernel_rfl) (fun _ _ _ h => h) (Or.inl ⟨by rfl, ?_⟩) ?_ ?_
     rotate_left
     ·intro w'
      go_simp
      with_reducible rfl
     rotate_left
     ·simp only [Act.put, List.setIfInBounds_toArray, List.set_cons_zero, List.set_cons_succ, i64_w, i32_w]
      rfl
     refine pure_ (i := 17) (N := some 110) (v := ?_) (a' := ?_) (fl 22 1048575) rfl rfl (by kernel_rfl) (fun _ _ _ h => h) (Or.inl ⟨by rfl, ?_⟩) ?_ ?_
     rotate_left
     ·intro w'
      go_simp
      with_reducible rfl
     rotate_left
     ·simp only [Act.put, List.setIfInBounds_toArray, List.set_cons_zero, List.set_cons_succ, i64_w, i32_w]
      rfl

     refine one_ (i := 20) (N := none) (fl 22 2097151) rfl rfl (by kernel_rfl) (by decide) (fun K hK => ?_)
     refine row_step rfl rfl 38 _ _ rfl g24 #[.int .i64 (pairV a0 a1 (rootV true r) bits s mode).1.f0, .int .i64 (pairV a0 a1 (rootV true r) bits s mode).1.f1] rfl rfl 38 #[.int .i64 0, .int .i64 0] B24.out (size38 _ _) rfl (one38 _ _) ?_
     intro Wd hq hoth hbel
     refine hK.out _ _ (hbel _ _ L24 hHeld) (fun hHeld2 => ?_)
     replace B25 := Lib.hid ((hoth _ (Ne.symm N2425)).trans B25.out)
     replace B24 := Lib.hid hq
     clear hK K hq hoth hbel hHeld
     have hHeld := hHeld2
     clear hHeld2
     refine one_ (i := 21) (N := none) (fl 22 4194303) rfl rfl (by kernel_rfl) (by decide) (fun K hK => ?_)
     refine row_step rfl rfl 38 _ _ rfl g25 #[.int .i64 (pairV a0 a1 (rootV true r) bits s mode).2.f0, .int .i64 (pairV a0 a1 (rootV true r) bits s mode).2.f1] rfl rfl 38 #[.int .i64 0, .int .i64 0] B25.out (size38 _ _) rfl (one38 _ _) ?_
     intro Wf hq hoth hbel
     refine hK.out _ _ (hbel _ _ L25 hHeld) (fun hHeld2 => ?_)
     replace B24 := Lib.hid ((hoth _ N2425).trans B24.out)
     replace B25 := Lib.hid hq
     clear hK K hq hoth hbel hHeld
     have hF := below_step HB_4.out hHeld2
     clear hHeld2
     refine done_ (by kernel_rfl) ?_
     have L24' := Nat.le_trans (below_size HB_4.out) L24
     have L25' := Nat.le_trans (below_size HB_4.out) L25
     have RF := Lib.hid (Kd.R_below ER.out hF)
     have gW : g < W.heap.size := Kd.R_lt ER.out g rfl
     have n20 : g20 ≠ g := fun e => Kd.R_ne ER.out E20.out (by decide) (by rw [e]; rfl)
     have n9 : g9 ≠ g := fun e => Kd.R_ne ER.out E9.out (by decide) (by rw [e]; rfl)
     have n24 : g24 ≠ g := by omega
     have n25 : g25 ≠ g := by omega
     refine startR_ (S := fun w' => w'.heap[g20]? = some (.cells #[.slice (some ⟨g, 0, none⟩) l.length cap] 22 (0, 0)) ∧ w'.heap[g9]? = some (.cells #[.int .i64 h] 3 (0, 0)) ∧ w'.heap[g24]? = some (.cells #[.int .i64 (pairV a0 a1 (rootV true r) bits s mode).1.f0, .int .i64 (pairV a0 a1 (rootV true r) bits s mode).1.f1] 38 (0, 0)) ∧ w'.heap[g25]? = some (.cells #[.int .i64 (pairV a0 a1 (rootV true r) bits s mode).2.f0, .int .i64 (pairV a0 a1 (rootV true r) bits s mode).2.f1] 38 (0, 0))) (ds := []) (fl 12 0) hmx rfl rfl (by kernel_rfl) (fun ⟨_, _, q⟩ => q) ⟨blk_below E20.out hF.drew, blk_below E9.out hF.drew, B24.out, B25.out⟩ (fun hHeld => ?_)
     refine pure_ (i := 1) (N := some 112) (v := ?_) (a' := ?_) (fl 12 2) rfl rfl (by kernel_rfl) (fun _ _ _ h => h) (Or.inl ⟨by rfl, ?_⟩) ?_ ?_
     rotate_left
     ·intro w'
      go_simp
      with_reducible rfl
     rotate_left
     ·simp only [Act.put, List.setIfInBounds_toArray, List.set_cons_zero, List.set_cons_succ, i64_w, i32_w]
      rfl
     refine pure_ (i := 3) (N := some 114) (v := ?_) (a' := ?_) (fl 12 10) rfl rfl (by kernel_rfl) (fun _ _ _ h => h) (Or.inl ⟨by rfl, ?_⟩) ?_ ?_
     rotate_left
     ·intro w'
      go_simp
      with_reducible rfl
     rotate_left
     ·simp only [Act.put, List.setIfInBounds_toArray, List.set_cons_zero, List.set_cons_succ, i64_w, i32_w]
      rfl
     refine take_ (i := 0) (N := some 111) (v := ?_) (a' := ?_) (fl 12 11) rfl rfl (by kernel_rfl) (fun _ _ _ h => h) (Or.inl ⟨by rfl, ?_⟩) hHeld ?_ ?_
     rotate_left
     ·rintro w' ⟨s0, s1, s2, s3⟩
      have ja := (blk_cell s0 0).trans rfl
      have jb := (blk_cell s1 0).trans rfl
      have jc := (blk_cell s2 0).trans rfl
      have jd := (blk_cell s2 1).trans rfl
      have je := (blk_cell s3 0).trans rfl
      have jf := (blk_cell s3 1).trans rfl
      go_simp
      with_reducible rfl
     rotate_left
     ·simp only [Act.put, List.setIfInBounds_toArray, List.set_cons_zero, List.set_cons_succ, i64_w, i32_w]
      rfl
     refine take_ (i := 2) (N := some 113) (v := ?_) (a' := ?_) (fl 12 15) rfl rfl (by kernel_rfl) (fun _ _ _ h => h) (Or.inl ⟨by rfl, ?_⟩) hHeld ?_ ?_
     rotate_left
     ·rintro w' ⟨s0, s1, s2, s3⟩
      have ja := (blk_cell s0 0).trans rfl
      have jb := (blk_cell s1 0).trans rfl
      have jc := (blk_cell s2 0).trans rfl
      have jd := (blk_cell s2 1).trans rfl
      have je := (blk_cell s3 0).trans rfl
      have jf := (blk_cell s3 1).trans rfl
      go_simp
      with_reducible rfl
     rotate_left
     ·simp only [Act.put, List.setIfInBounds_toArray, List.set_cons_zero, List.set_cons_succ, i64_w, i32_w]
      rfl
     refine take_ (i := 4) (N := some 115) (v := ?_) (a' := ?_) (fl 12 31) rfl rfl (by kernel_rfl) (fun _ _ _ h => h) (Or.inl ⟨by rfl, ?_⟩) hHeld ?_ ?_
     rotate_left
     ·rintro w' ⟨s0, s1, s2, s3⟩
      have ja := (blk_cell s0 0).trans rfl
      have jb := (blk_cell s1 0).trans rfl
      have jc := (blk_cell s2 0).trans rfl
      have jd := (blk_cell s2 1).trans rfl
      have je := (blk_cell s3 0).trans rfl
      have jf := (blk_cell s3 1).trans rfl
      go_simp
      with_reducible rfl
     rotate_left
     ·simp only [Act.put, List.setIfInBounds_toArray, List.set_cons_zero, List.set_cons_succ, i64_w, i32_w]
      rfl
     refine pure_ (i := 5) (N := some 116) (v := ?_) (a' := ?_) (fl 12 63) rfl rfl (by kernel_rfl) (fun _ _ _ h => h) (Or.inl ⟨by rfl, ?_⟩) ?_ ?_
     rotate_left
     ·intro w'
      go_simp
      with_reducible rfl
     rotate_left
     ·simp only [Act.put, List.setIfInBounds_toArray, List.set_cons_zero, List.set_cons_succ, i64_w, i32_w]
      rfl
     refine take_ (i := 6) (N := some 117) (v := ?_) (a' := ?_) (fl 12 127) rfl rfl (by kernel_rfl) (fun _ _ _ h => h) (Or.inl ⟨by rfl, ?_⟩) hHeld ?_ ?_
     rotate_left
     ·rintro w' ⟨s0, s1, s2, s3⟩
      have ja := (blk_cell s0 0).trans rfl
      have jb := (blk_cell s1 0).trans rfl
      have jc := (blk_cell s2 0).trans rfl
      have jd := (blk_cell s2 1).trans rfl
      have je := (blk_cell s3 0).trans rfl
      have jf := (blk_cell s3 1).trans rfl
      go_simp
      with_reducible rfl
     rotate_left
     ·simp only [Act.put, List.setIfInBounds_toArray, List.set_cons_zero, List.set_cons_succ, i64_w, i32_w]
      rfl
     refine pure_ (i := 8) (N := some 119) (v := ?_) (a' := ?_) (fl 12 383) rfl rfl (by kernel_rfl) (fun _ _ _ h => h) (Or.inl ⟨by rfl, ?_⟩) ?_ ?_
     rotate_left
     ·intro w'
      go_simp
      with_reducible rfl
     rotate_left
     ·simp only [Act.put, List.setIfInBounds_toArray, List.set_cons_zero, List.set_cons_succ, i64_w, i32_w]
      rfl
     refine take_ (i := 7) (N := some 118) (v := ?_) (a' := ?_) (fl 12 511) rfl rfl (by kernel_rfl) (fun _ _ _ h => h) (Or.inl ⟨by rfl, ?_⟩) hHeld ?_ ?_
     rotate_left
     ·rintro w' ⟨s0, s1, s2, s3⟩
      have ja := (blk_cell s0 0).trans rfl
      have jb := (blk_cell s1 0).trans rfl
      have jc := (blk_cell s2 0).trans rfl
      have jd := (blk_cell s2 1).trans rfl
      have je := (blk_cell s3 0).trans rfl
      have jf := (blk_cell s3 1).trans rfl
      go_simp
      with_reducible rfl
     rotate_left
     ·simp only [Act.put, List.setIfInBounds_toArray, List.set_cons_zero, List.set_cons_succ, i64_w, i32_w]
      rfl
     refine one_ (i := 9) (N := none) (fl 12 1023) rfl rfl (by kernel_rfl) (by decide) (fun K hK => ?_)
     refine cx_step (base := w.heap.size) rfl rfl _ _ rfl p.1.toNat Y (pairV a0 a1 (rootV true r) bits s mode).1 (fun _ => True) rfl rfl (size38 (.int .i64 0) (.int .i64 0)) (Kd.R_drew RF.out) (by omega) ?_
     intro Wg hRg hgg hog hbg
     refine hK.out _ _ ⟨(hog _ n20).trans hHeld.1, (hog _ n9).trans hHeld.2.1, (hog _ n24).trans hHeld.2.2.1, (hog _ n25).trans hHeld.2.2.2⟩ (fun hHeld2 => ?_)
     have RG := Lib.hid hRg
     have OG := Lib.hid hog
     have BG := Lib.hid hbg
     have GG := Lib.hid hgg
     clear hK K hRg hgg hog hbg hHeld
     have hHeld := hHeld2
     clear hHeld2
     refine pure_ (i := 10) (N := some 120) (v := ?_) (a' := ?_) (fl 12 2047) rfl rfl (by kernel_rfl) (fun _ _ _ h => h) (Or.inl ⟨by rfl, ?_⟩) ?_ ?_
     rotate_left
     ·intro w'
      go_simp
      with_reducible rfl
     rotate_left
     ·simp only [Act.put, List.setIfInBounds_toArray, List.set_cons_zero, List.set_cons_succ, i64_w, i32_w]
      rfl
     refine one_ (i := 11) (N := none) (fl 12 4095) rfl rfl (by kernel_rfl) (by decide) (fun K hK => ?_)
     refine cx_step (base := w.heap.size) rfl rfl _ _ rfl (p.1 + h).toNat (Y.set p.1.toNat (pairV a0 a1 (rootV true r) bits s mode).1) (pairV a0 a1 (rootV true r) bits s mode).2 (fun _ => True) rfl rfl (size38 (.int .i64 0) (.int .i64 0)) RG.out (by omega) ?_
     intro Wh hRh hgh hoh hbh
     refine hK.out _ _ ⟨(hoh _ n20).trans hHeld.1, (hoh _ n9).trans hHeld.2.1, (hoh _ n24).trans hHeld.2.2.1, (hoh _ n25).trans hHeld.2.2.2⟩ (fun _ => ?_)
     clear hK K hHeld
     refine done_ (by kernel_rfl) ?_
     have same : ∀ k, k < W.heap.size → k ≠ g → Wh.heap[k]? = W.heap[k]? := fun k hk hne => (hoh k hne).trans ((OG.out k hne).trans (hF.block k hk))
     have n7 : g7 ≠ g := fun e => Kd.R_ne ER.out E7.out (by decide) (by rw [e]; rfl)
     have n8 : g8 ≠ g := fun e => Kd.R_ne ER.out E8.out (by decide) (by rw [e]; rfl)
     have n10 : g10 ≠ g := fun e => Kd.R_ne ER.out E10.out (by decide) (by rw [e]; rfl)
     have n11 : g11 ≠ g := fun e => Kd.R_ne ER.out E11.out (by decide) (by rw [e]; rfl)
     have n12 : g12 ≠ g := fun e => Kd.R_ne ER.out E12.out (by decide) (by rw [e]; rfl)
     have n13 : g13 ≠ g := fun e => Kd.R_ne ER.out E13.out (by decide) (by rw [e]; rfl)
     have nn : gn ≠ g := fun e => Kd.R_ne ER.out En.out (by decide) (by rw [e]; rfl)
     have nh : gh ≠ g := fun e => Kd.R_ne ER.out Eh.out (by decide) (by rw [e]; rfl)
     have hsz : W.heap.size ≤ Wh.heap.size := Nat.le_trans hF.size (Nat.le_trans GG.out.size hgh.size)
     refine ⟨⟨hsz, fun k o hk ho => (same k (Array.getElem?_eq_some_iff.1 hk).1 (fun e => by obtain ⟨cells, hc⟩ := Kd.R_typed ER.out g rfl; rw [e, hc] at hk; cases hk; cases ho)).trans hk⟩, ⟨same _ (blk_lt En.out) nn, same _ (blk_lt Eh.out) nh⟩, ⟨(same _ (blk_lt E7.out) n7).trans E7.out, (same _ (blk_lt E8.out) n8).trans E8.out, (same _ (blk_lt E9.out) n9).trans E9.out, (same _ (blk_lt E10.out) n10).trans E10.out, (same _ (blk_lt E11.out) n11).trans E11.out, (same _ (blk_lt E12.out) n12).trans E12.out, (same _ (blk_lt E13.out) n13).trans E13.out, (same _ (blk_lt E20.out) n20).trans E20.out, (same _ (blk_lt En.out) nn).trans En.out, (same _ (blk_lt Eh.out) nh).trans Eh.out⟩, ?_, hbh _ (BG.out _ (below_drew (EB.out.trans (hF.mono EB.out.size))))⟩
     rw [HPRE.out, HQ.out Y]
     exact hRh

  | false =>
   refine wpIn_block ?_
   refine wpIn_seq ?_
   refine regionR_ (by kernel_rfl) (fun ⟨_, _, q⟩ => q) ?_
   go_wp2_with (first
    | ((with_reducible refine gate_dst (N := 23) rfl ?_); refine box_event ?hg (N := 23) ?hd (cs := #[.int .i64 0, .int .i64 0]) (t := 38) ?hr ?_; (case hd => rfl); (case hg => rfl); (case hr => first | (go_simp; done) | (go_simp; rfl)); intro g23 hg W1 hbox hbl; have L23 : W.heap.size ≤ g23 := (by rw [hg]; exact below_size HBs.out); have B23_1 := Lib.hid hbox; have HB_1 := Lib.hid (below_step HBs.out hbl); have B7_1 := Lib.hid (blk_below E7.out hbl); have B8_1 := Lib.hid (blk_below E8.out hbl); have B9_1 := Lib.hid (blk_below E9.out hbl); have B10_1 := Lib.hid (blk_below E10.out hbl); have B11_1 := Lib.hid (blk_below E11.out hbl); have B12_1 := Lib.hid (blk_below E12.out hbl); have B13_1 := Lib.hid (blk_below E13.out hbl); have B20_1 := Lib.hid (blk_below E20.out hbl); have Bn_1 := Lib.hid (blk_below En.out hbl); have Bh_1 := Lib.hid (blk_below Eh.out hbl); have Rout_1 := Lib.hid (Kd.R_below ER.out hbl); have k7_0_1 : W1.cell? ⟨g7, 0, none⟩ = some (.slice (some ad) l.length c) := (blk_cell B7_1.out 0).trans rfl; have k8_0_1 : W1.cell? ⟨g8, 0, none⟩ = some (.slice (some ad2) wl.length c2) := (blk_cell B8_1.out 0).trans rfl; have k9_0_1 : W1.cell? ⟨g9, 0, none⟩ = some (.int .i64 h) := (blk_cell B9_1.out 0).trans rfl; have k10_0_1 : W1.cell? ⟨g10, 0, none⟩ = some (.int .i64 bits) := (blk_cell B10_1.out 0).trans rfl; have k11_0_1 : W1.cell? ⟨g11, 0, none⟩ = some (.int .i64 s) := (blk_cell B11_1.out 0).trans rfl; have k12_0_1 : W1.cell? ⟨g12, 0, none⟩ = some (.int .i64 mode) := (blk_cell B12_1.out 0).trans rfl; have k13_0_1 : W1.cell? ⟨g13, 0, none⟩ = some (.bool false) := (blk_cell B13_1.out 0).trans rfl; have k20_0_1 : W1.cell? ⟨g20, 0, none⟩ = some (.slice (some ⟨g, 0, none⟩) l.length cap) := (blk_cell B20_1.out 0).trans rfl; have kn_0_1 : W1.cell? ⟨gn, 0, none⟩ = some (.int .i64 l.length) := (blk_cell Bn_1.out 0).trans rfl; have kh_0_1 : W1.cell? ⟨gh, 0, none⟩ = some (.int .i64 h) := (blk_cell Bh_1.out 0).trans rfl; clear k7 k8 k9 k10 k11 k12 k13 k20 kn kh; have k23_0_1 : W1.cell? ⟨g23, 0, none⟩ = some (.int .i64 0) := (blk_cell B23_1.out 0).trans rfl; have k23_1_1 : W1.cell? ⟨g23, 1, none⟩ = some (.int .i64 0) := (blk_cell B23_1.out 1).trans rfl; have ne23_7 : g7 ≠ g23 := (fun e => by have := blk_lt E7.out; rw [hg] at e; omega); have ne23_8 : g8 ≠ g23 := (fun e => by have := blk_lt E8.out; rw [hg] at e; omega); have ne23_9 : g9 ≠ g23 := (fun e => by have := blk_lt E9.out; rw [hg] at e; omega); have ne23_10 : g10 ≠ g23 := (fun e => by have := blk_lt E10.out; rw [hg] at e; omega); have ne23_11 : g11 ≠ g23 := (fun e => by have := blk_lt E11.out; rw [hg] at e; omega); have ne23_12 : g12 ≠ g23 := (fun e => by have := blk_lt E12.out; rw [hg] at e; omega); have ne23_13 : g13 ≠ g23 := (fun e => by have := blk_lt E13.out; rw [hg] at e; omega); have ne23_20 : g20 ≠ g23 := (fun e => by have := blk_lt E20.out; rw [hg] at e; omega); have ne23_n : gn ≠ g23 := (fun e => by have := blk_lt En.out; rw [hg] at e; omega); have ne23_h : gh ≠ g23 := (fun e => by have := blk_lt Eh.out; rw [hg] at e; omega); have NR23 := Lib.hid (show some g23 ≠ _ from by rw [hg]; exact Kd.R_ne_new ER.out 0); clear hbox hbl hg)
    | ((with_reducible refine gate_store (t := 38) (p := 23) rfl ?_); refine row_event rfl 38 _ _ rfl g23 #[.int .i64 r.f0, .int .i64 r.f1] rfl rfl 38 #[.int .i64 0, .int .i64 0] B23_1.out (size38 _ _) rfl (one38 _ _) ?_; intro W2 hq hoth hbel; have B23_2 := Lib.hid hq; have HB_2 := Lib.hid (hbel _ _ L23 HB_1.out); have B7_2 := Lib.hid ((hoth _ (ne23_7)).trans B7_1.out); have B8_2 := Lib.hid ((hoth _ (ne23_8)).trans B8_1.out); have B9_2 := Lib.hid ((hoth _ (ne23_9)).trans B9_1.out); have B10_2 := Lib.hid ((hoth _ (ne23_10)).trans B10_1.out); have B11_2 := Lib.hid ((hoth _ (ne23_11)).trans B11_1.out); have B12_2 := Lib.hid ((hoth _ (ne23_12)).trans B12_1.out); have B13_2 := Lib.hid ((hoth _ (ne23_13)).trans B13_1.out); have B20_2 := Lib.hid ((hoth _ (ne23_20)).trans B20_1.out); have Bn_2 := Lib.hid ((hoth _ (ne23_n)).trans Bn_1.out); have Bh_2 := Lib.hid ((hoth _ (ne23_h)).trans Bh_1.out); have Rout_2 := Lib.hid (R_other Rout_1.out hoth NR23.out); have k7_0_2 : W2.cell? ⟨g7, 0, none⟩ = some (.slice (some ad) l.length c) := (blk_cell B7_2.out 0).trans rfl; have k8_0_2 : W2.cell? ⟨g8, 0, none⟩ = some (.slice (some ad2) wl.length c2) := (blk_cell B8_2.out 0).trans rfl; have k9_0_2 : W2.cell? ⟨g9, 0, none⟩ = some (.int .i64 h) := (blk_cell B9_2.out 0).trans rfl; have k10_0_2 : W2.cell? ⟨g10, 0, none⟩ = some (.int .i64 bits) := (blk_cell B10_2.out 0).trans rfl; have k11_0_2 : W2.cell? ⟨g11, 0, none⟩ = some (.int .i64 s) := (blk_cell B11_2.out 0).trans rfl; have k12_0_2 : W2.cell? ⟨g12, 0, none⟩ = some (.int .i64 mode) := (blk_cell B12_2.out 0).trans rfl; have k13_0_2 : W2.cell? ⟨g13, 0, none⟩ = some (.bool false) := (blk_cell B13_2.out 0).trans rfl; have k20_0_2 : W2.cell? ⟨g20, 0, none⟩ = some (.slice (some ⟨g, 0, none⟩) l.length cap) := (blk_cell B20_2.out 0).trans rfl; have kn_0_2 : W2.cell? ⟨gn, 0, none⟩ = some (.int .i64 l.length) := (blk_cell Bn_2.out 0).trans rfl; have kh_0_2 : W2.cell? ⟨gh, 0, none⟩ = some (.int .i64 h) := (blk_cell Bh_2.out 0).trans rfl; clear k7_0_1 k8_0_1 k9_0_1 k10_0_1 k11_0_1 k12_0_1 k13_0_1 k20_0_1 kn_0_1 kh_0_1 k23_0_1 k23_1_1; have k23_0_2 : W2.cell? ⟨g23, 0, none⟩ = some (.int .i64 r.f0) := (blk_cell B23_2.out 0).trans rfl; have k23_1_2 : W2.cell? ⟨g23, 1, none⟩ = some (.int .i64 r.f1) := (blk_cell B23_2.out 1).trans rfl; clear hq hoth hbel))
   refine wpIn_seq ?_
   refine wpIn_seq ?_
   refine regionR_ (by kernel_rfl) (fun ⟨_, _, q⟩ => q) ?_
   go_wp2
   refine wpIn_cond_false rfl ?_
   refine wpIn_skip ?_
   have y0 := (HB_2.out.cell (World.block_lt_of_cell? _ _ x0)).trans x0
   have y1 := (HB_2.out.cell (World.block_lt_of_cell? _ _ x1)).trans x1
   have y2 := (HB_2.out.cell (World.block_lt_of_cell? _ _ x2)).trans x2
   have y3 := (HB_2.out.cell (World.block_lt_of_cell? _ _ x3)).trans x3
   refine wpIn_seq ?_
   refine startR_ (S := fun w' => Below W2.heap.size W2 w') (ds := []) (fl 22 0) hmx rfl rfl (by kernel_rfl) (fun ⟨_, _, q⟩ => q) (Below.refl _ _).drew (fun hHeld => ?_)
   refine pure_ (i := 1) (N := some 95) (v := ?_) (a' := ?_) (fl 22 2) rfl rfl (by kernel_rfl) (fun _ _ _ h => h) (Or.inl ⟨by rfl, ?_⟩) ?_ ?_
   rotate_left
   ·intro w'
    go_simp
    with_reducible rfl
   rotate_left
   ·simp only [Act.put, List.setIfInBounds_toArray, List.set_cons_zero, List.set_cons_succ, i64_w, i32_w]
    rfl
   refine pure_ (i := 5) (N := some 99) (v := ?_) (a' := ?_) (fl 22 34) rfl rfl (by kernel_rfl) (fun _ _ _ h => h) (Or.inl ⟨by rfl, ?_⟩) ?_ ?_
   rotate_left
   ·intro w'
    go_simp
    with_reducible rfl
   rotate_left
   ·simp only [Act.put, List.setIfInBounds_toArray, List.set_cons_zero, List.set_cons_succ, i64_w, i32_w]
    rfl
   refine take_ (i := 0) (N := some 94) (v := ?_) (a' := ?_) (fl 22 35) rfl rfl (by kernel_rfl) (fun _ _ _ h => h) (Or.inl ⟨by rfl, ?_⟩) hHeld ?_ ?_
   rotate_left
   ·rintro w' hs
    have j_k7_0_2 := bg hs k7_0_2
    have j_k9_0_2 := bg hs k9_0_2
    have j_k10_0_2 := bg hs k10_0_2
    have j_k11_0_2 := bg hs k11_0_2
    have j_k12_0_2 := bg hs k12_0_2
    have j_k23_0_2 := bg hs k23_0_2
    have j_k23_1_2 := bg hs k23_1_2
    have j_y0 := bg hs y0
    have j_y1 := bg hs y1
    have j_y2 := bg hs y2
    have j_y3 := bg hs y3
    go_simp
    with_reducible rfl
   rotate_left
   ·simp only [Act.put, List.setIfInBounds_toArray, List.set_cons_zero, List.set_cons_succ, i64_w, i32_w]
    rfl
   refine pure_ (i := 2) (N := some 96) (v := ?_) (a' := ?_) (fl 22 39) rfl rfl (by kernel_rfl) (fun _ _ _ h => h) (Or.inl ⟨by rfl, ?_⟩) ?_ ?_
   rotate_left
   ·intro w'
    go_simp
    with_reducible rfl
   rotate_left
   ·simp only [Act.put, List.setIfInBounds_toArray, List.set_cons_zero, List.set_cons_succ, i64_w, i32_w]
    rfl
   refine take_ (i := 3) (N := some 97) (v := ?_) (a' := ?_) (fl 22 47) rfl rfl (by kernel_rfl) (fun _ _ _ h => h) (Or.inl ⟨by rfl, ?_⟩) hHeld ?_ ?_
   rotate_left
   ·rintro w' hs
    have j_k7_0_2 := bg hs k7_0_2
    have j_k9_0_2 := bg hs k9_0_2
    have j_k10_0_2 := bg hs k10_0_2
    have j_k11_0_2 := bg hs k11_0_2
    have j_k12_0_2 := bg hs k12_0_2
    have j_k23_0_2 := bg hs k23_0_2
    have j_k23_1_2 := bg hs k23_1_2
    have j_y0 := bg hs y0
    have j_y1 := bg hs y1
    have j_y2 := bg hs y2
    have j_y3 := bg hs y3
    go_simp
    with_reducible rfl
   rotate_left
   ·simp only [Act.put, List.setIfInBounds_toArray, List.set_cons_zero, List.set_cons_succ, i64_w, i32_w]
    rfl
   refine take_ (i := 4) (N := some 98) (v := ?_) (a' := ?_) (fl 22 63) rfl rfl (by kernel_rfl) (fun _ _ _ h => h) (Or.inl ⟨by rfl, ?_⟩) hHeld ?_ ?_
   rotate_left
   ·rintro w' hs
    have j_k7_0_2 := bg hs k7_0_2
    have j_k9_0_2 := bg hs k9_0_2
    have j_k10_0_2 := bg hs k10_0_2
    have j_k11_0_2 := bg hs k11_0_2
    have j_k12_0_2 := bg hs k12_0_2
    have j_k23_0_2 := bg hs k23_0_2
    have j_k23_1_2 := bg hs k23_1_2
    have j_y0 := bg hs y0
    have j_y1 := bg hs y1
    have j_y2 := bg hs y2
    have j_y3 := bg hs y3
    go_simp
    with_reducible rfl
   rotate_left
   ·simp only [Act.put, List.setIfInBounds_toArray, List.set_cons_zero, List.set_cons_succ, i64_w, i32_w]
    rfl
   refine take_ (i := 6) (N := some 100) (v := ?_) (a' := ?_) (fl 22 127) rfl rfl (by kernel_rfl) (fun _ _ _ h => h) (Or.inl ⟨by rfl, ?_⟩) hHeld ?_ ?_
   rotate_left
   ·rintro w' hs
    have j_k7_0_2 := bg hs k7_0_2
    have j_k9_0_2 := bg hs k9_0_2
    have j_k10_0_2 := bg hs k10_0_2
    have j_k11_0_2 := bg hs k11_0_2
    have j_k12_0_2 := bg hs k12_0_2
    have j_k23_0_2 := bg hs k23_0_2
    have j_k23_1_2 := bg hs k23_1_2
    have j_y0 := bg hs y0
    have j_y1 := bg hs y1
    have j_y2 := bg hs y2
    have j_y3 := bg hs y3
    go_simp
    with_reducible rfl
   rotate_left
   ·simp only [Act.put, List.setIfInBounds_toArray, List.set_cons_zero, List.set_cons_succ, i64_w, i32_w]
    rfl
   refine pure_ (i := 7) (N := some 101) (v := ?_) (a' := ?_) (fl 22 255) rfl rfl (by kernel_rfl) (fun _ _ _ h => h) (Or.inl ⟨by rfl, ?_⟩) ?_ ?_
   rotate_left
   ·intro w'
    go_simp
    with_reducible rfl
   rotate_left
   ·simp only [Act.put, List.setIfInBounds_toArray, List.set_cons_zero, List.set_cons_succ, i64_w, i32_w]
    rfl
   refine pure_ (i := 8) (N := some 102) (v := ?_) (a' := ?_) (fl 22 511) rfl rfl (by kernel_rfl) (fun _ _ _ h => h) (Or.inl ⟨by rfl, ?_⟩) ?_ ?_
   rotate_left
   ·intro w'
    go_simp
    with_reducible rfl
   rotate_left
   ·simp only [Act.put, List.setIfInBounds_toArray, List.set_cons_zero, List.set_cons_succ, i64_w, i32_w]
    rfl
   refine take_ (i := 9) (N := some 103) (v := ?_) (a' := ?_) (fl 22 1023) rfl rfl (by kernel_rfl) (fun _ _ _ h => h) (Or.inl ⟨by rfl, ?_⟩) hHeld ?_ ?_
   rotate_left
   ·rintro w' hs
    have j_k7_0_2 := bg hs k7_0_2
    have j_k9_0_2 := bg hs k9_0_2
    have j_k10_0_2 := bg hs k10_0_2
    have j_k11_0_2 := bg hs k11_0_2
    have j_k12_0_2 := bg hs k12_0_2
    have j_k23_0_2 := bg hs k23_0_2
    have j_k23_1_2 := bg hs k23_1_2
    have j_y0 := bg hs y0
    have j_y1 := bg hs y1
    have j_y2 := bg hs y2
    have j_y3 := bg hs y3
    go_simp
    with_reducible rfl
   rotate_left
   ·simp only [Act.put, List.setIfInBounds_toArray, List.set_cons_zero, List.set_cons_succ, i64_w, i32_w]
    rfl
   refine take_ (i := 10) (N := some 104) (v := ?_) (a' := ?_) (fl 22 2047) rfl rfl (by kernel_rfl) (fun _ _ _ h => h) (Or.inl ⟨by rfl, ?_⟩) hHeld ?_ ?_
   rotate_left
   ·rintro w' hs
    have j_k7_0_2 := bg hs k7_0_2
    have j_k9_0_2 := bg hs k9_0_2
    have j_k10_0_2 := bg hs k10_0_2
    have j_k11_0_2 := bg hs k11_0_2
    have j_k12_0_2 := bg hs k12_0_2
    have j_k23_0_2 := bg hs k23_0_2
    have j_k23_1_2 := bg hs k23_1_2
    have j_y0 := bg hs y0
    have j_y1 := bg hs y1
    have j_y2 := bg hs y2
    have j_y3 := bg hs y3
    go_simp
    with_reducible rfl
   rotate_left
   ·simp only [Act.put, List.setIfInBounds_toArray, List.set_cons_zero, List.set_cons_succ, i64_w, i32_w]
    rfl
   refine take_ (i := 11) (N := some 105) (v := ?_) (a' := ?_) (fl 22 4095) rfl rfl (by kernel_rfl) (fun _ _ _ h => h) (Or.inl ⟨by rfl, ?_⟩) hHeld ?_ ?_
   rotate_left
   ·rintro w' hs
    have j_k7_0_2 := bg hs k7_0_2
    have j_k9_0_2 := bg hs k9_0_2
    have j_k10_0_2 := bg hs k10_0_2
    have j_k11_0_2 := bg hs k11_0_2
    have j_k12_0_2 := bg hs k12_0_2
    have j_k23_0_2 := bg hs k23_0_2
    have j_k23_1_2 := bg hs k23_1_2
    have j_y0 := bg hs y0
    have j_y1 := bg hs y1
    have j_y2 := bg hs y2
    have j_y3 := bg hs y3
    go_simp
    with_reducible rfl
   rotate_left
   ·simp only [Act.put, List.setIfInBounds_toArray, List.set_cons_zero, List.set_cons_succ, i64_w, i32_w]
    rfl
   refine take_ (i := 12) (N := some 106) (v := ?_) (a' := ?_) (fl 22 8191) rfl rfl (by kernel_rfl) (fun _ _ _ h => h) (Or.inl ⟨by rfl, ?_⟩) hHeld ?_ ?_
   rotate_left
   ·rintro w' hs
    have j_k7_0_2 := bg hs k7_0_2
    have j_k9_0_2 := bg hs k9_0_2
    have j_k10_0_2 := bg hs k10_0_2
    have j_k11_0_2 := bg hs k11_0_2
    have j_k12_0_2 := bg hs k12_0_2
    have j_k23_0_2 := bg hs k23_0_2
    have j_k23_1_2 := bg hs k23_1_2
    have j_y0 := bg hs y0
    have j_y1 := bg hs y1
    have j_y2 := bg hs y2
    have j_y3 := bg hs y3
    go_simp
    with_reducible rfl
   rotate_left
   ·simp only [Act.put, List.setIfInBounds_toArray, List.set_cons_zero, List.set_cons_succ, i64_w, i32_w]
    rfl
   refine take_ (i := 13) (N := some 107) (v := ?_) (a' := ?_) (fl 22 16383) rfl rfl (by kernel_rfl) (fun _ _ _ h => h) (Or.inl ⟨by rfl, ?_⟩) hHeld ?_ ?_
   rotate_left
   ·rintro w' hs
    have j_k7_0_2 := bg hs k7_0_2
    have j_k9_0_2 := bg hs k9_0_2
    have j_k10_0_2 := bg hs k10_0_2
    have j_k11_0_2 := bg hs k11_0_2
    have j_k12_0_2 := bg hs k12_0_2
    have j_k23_0_2 := bg hs k23_0_2
    have j_k23_1_2 := bg hs k23_1_2
    have j_y0 := bg hs y0
    have j_y1 := bg hs y1
    have j_y2 := bg hs y2
    have j_y3 := bg hs y3
    go_simp
    with_reducible rfl
   rotate_left
   ·simp only [Act.put, List.setIfInBounds_toArray, List.set_cons_zero, List.set_cons_succ, i64_w, i32_w]
    rfl
   refine three_ (i := 14) (j := 18) (k := 19) (Ni := some 108) (Nj := some 24) (Nk := some 25) (fl 22 32767) (fl 22 278527) (fl 22 540671) rfl rfl rfl rfl rfl rfl (by kernel_rfl) (by decide) (by decide) (by decide) (fun K hK => ?_) (fun K hK => ?_) (fun K hK => ?_)
   ·skip
    refine goes_ Tryz.func81 (by kernel_rfl) rfl #[.agg #[.int .i64 a0.f0, .int .i64 a0.f1], .agg #[.int .i64 a1.f0, .int .i64 a1.f1], .agg #[.int .i64 r.f0, .int .i64 r.f1], .int .i64 bits, .int .i64 s, .int .i64 mode] (by rfl) rfl rfl (by go_simp) ?_
    refine (two_pair.calls _ _ _ _ _ _ _ _ _ _ _ _ _ _ HP.out).mono ?_
    rintro e Wc ⟨rfl, hb⟩
    refine ⟨_, rfl, ?_⟩
    refine hK.out _ _ (below_step hHeld hb) (fun hHeld => ?_)
    clear hK K hb
    refine norm_ (a' := ?_) ?_ ?_
    rotate_left
    ·show Act.put _ (some 108) _ = _
     simp only [Act.put, List.setIfInBounds_toArray, List.set_cons_zero, List.set_cons_succ, i64_w, i32_w]
     rfl
    refine pure_ (i := 15) (N := some 93) (v := ?_) (a' := ?_) (fl 22 65535) rfl rfl (by kernel_rfl) (fun _ _ _ h => h) (Or.inl ⟨by rfl, ?_⟩) ?_ ?_
    rotate_left
    ·intro w'
     go_simp
     with_reducible rfl
    rotate_left
    ·simp only [Act.put, List.setIfInBounds_toArray, List.set_cons_zero, List.set_cons_succ, i64_w, i32_w]
     rfl
    refine pure_ (i := 16) (N := some 109) (v := ?_) (a' := ?_) (fl 22 131071) rfl rfl (by kernel_rfl) (fun _ _ _ h => h) (Or.inl ⟨by rfl, ?_⟩) ?_ ?_
    rotate_left
    ·intro w'
     go_simp
     with_reducible rfl
    rotate_left
    ·simp only [Act.put, List.setIfInBounds_toArray, List.set_cons_zero, List.set_cons_succ, i64_w, i32_w]
     rfl
    refine pure_ (i := 17) (N := some 110) (v := ?_) (a' := ?_) (fl 22 262143) rfl rfl (by kernel_rfl) (fun _ _ _ h => h) (Or.inl ⟨by rfl, ?_⟩) ?_ ?_
    rotate_left
    ·intro w'
     go_simp
     with_reducible rfl
    rotate_left
    ·simp only [Act.put, List.setIfInBounds_toArray, List.set_cons_zero, List.set_cons_succ, i64_w, i32_w]
     rfl
    refine two_ (i := 18) (j := 19) (Ni := some 24) (Nj := some 25) (fl 22 524287) (fl 22 786431) rfl rfl rfl rfl (by kernel_rfl) (by decide) (by decide) (fun K hK => ?_) (fun K hK => ?_)
    ·skip
     refine box_step rfl rfl (cs := #[.int .i64 0, .int .i64 0]) (t := 38) (by first | (go_simp; done) | (go_simp; rfl)) ?_
     intro g24 hg Wc hbox hbl
     refine hK.out _ _ (below_step hHeld hbl) (fun hHeld2 => ?_)
     have L24 : W2.heap.size ≤ g24 := by rw [hg]; exact hHeld.size
     have B24 := Lib.hid hbox
     clear hK K hbl hbox hg hHeld
     have hHeld := hHeld2
     clear hHeld2
     refine norm_ (a' := ?_) ?_ ?_
     rotate_left
     ·show Act.put _ (some 24) _ = _
      simp only [Act.put, List.setIfInBounds_toArray, List.set_cons_zero, List.set_cons_succ, i64_w, i32_w]
      rfl
     refine one_ (i := 19) (N := some 25) (fl 22 1048575) rfl rfl (by kernel_rfl) (by decide) (fun K hK => ?_)
     refine box_step rfl rfl (cs := #[.int .i64 0, .int .i64 0]) (t := 38) (by first | (go_simp; done) | (go_simp; rfl)) ?_
     intro g25 hg Wc hbox hbl
     refine hK.out _ _ (below_step hHeld hbl) (fun hHeld2 => ?_)
     have L25 : W2.heap.size ≤ g25 := by rw [hg]; exact hHeld.size
     have B25 := Lib.hid hbox
     have N2425 : g24 ≠ g25 := by have := blk_lt B24.out; omega
     replace B24 := Lib.hid (blk_below B24.out hbl)
     clear hK K hbl hbox hg hHeld
     have hHeld := hHeld2
     clear hHeld2
     refine norm_ (a' := ?_) ?_ ?_
     rotate_left
     ·show Act.put _ (some 25) _ = _
      simp only [Act.put, List.setIfInBounds_toArray, List.set_cons_zero, List.set_cons_succ, i64_w, i32_w]
      rfl

     refine one_ (i := 20) (N := none) (fl 22 2097151) rfl rfl (by kernel_rfl) (by decide) (fun K hK => ?_)
     refine row_step rfl rfl 38 _ _ rfl g24 #[.int .i64 (pairV a0 a1 (rootV false r) bits s mode).1.f0, .int .i64 (pairV a0 a1 (rootV false r) bits s mode).1.f1] rfl rfl 38 #[.int .i64 0, .int .i64 0] B24.out (size38 _ _) rfl (one38 _ _) ?_
     intro Wd hq hoth hbel
     refine hK.out _ _ (hbel _ _ L24 hHeld) (fun hHeld2 => ?_)
     replace B25 := Lib.hid ((hoth _ (Ne.symm N2425)).trans B25.out)
     replace B24 := Lib.hid hq
     clear hK K hq hoth hbel hHeld
     have hHeld := hHeld2
     clear hHeld2
     refine one_ (i := 21) (N := none) (fl 22 4194303) rfl rfl (by kernel_rfl) (by decide) (fun K hK => ?_)
     refine row_step rfl rfl 38 _ _ rfl g25 #[.int .i64 (pairV a0 a1 (rootV false r) bits s mode).2.f0, .int .i64 (pairV a0 a1 (rootV false r) bits s mode).2.f1] rfl rfl 38 #[.int .i64 0, .int .i64 0] B25.out (size38 _ _) rfl (one38 _ _) ?_
     intro Wf hq hoth hbel
     refine hK.out _ _ (hbel _ _ L25 hHeld) (fun hHeld2 => ?_)
     replace B24 := Lib.hid ((hoth _ N2425).trans B24.out)
     replace B25 := Lib.hid hq
     clear hK K hq hoth hbel hHeld
     have hF := below_step HB_2.out hHeld2
     clear hHeld2
     refine done_ (by kernel_rfl) ?_
     have L24' := Nat.le_trans (below_size HB_2.out) L24
     have L25' := Nat.le_trans (below_size HB_2.out) L25
     have RF := Lib.hid (Kd.R_below ER.out hF)
     have gW : g < W.heap.size := Kd.R_lt ER.out g rfl
     have n20 : g20 ≠ g := fun e => Kd.R_ne ER.out E20.out (by decide) (by rw [e]; rfl)
     have n9 : g9 ≠ g := fun e => Kd.R_ne ER.out E9.out (by decide) (by rw [e]; rfl)
     have n24 : g24 ≠ g := by omega
     have n25 : g25 ≠ g := by omega
     refine startR_ (S := fun w' => w'.heap[g20]? = some (.cells #[.slice (some ⟨g, 0, none⟩) l.length cap] 22 (0, 0)) ∧ w'.heap[g9]? = some (.cells #[.int .i64 h] 3 (0, 0)) ∧ w'.heap[g24]? = some (.cells #[.int .i64 (pairV a0 a1 (rootV false r) bits s mode).1.f0, .int .i64 (pairV a0 a1 (rootV false r) bits s mode).1.f1] 38 (0, 0)) ∧ w'.heap[g25]? = some (.cells #[.int .i64 (pairV a0 a1 (rootV false r) bits s mode).2.f0, .int .i64 (pairV a0 a1 (rootV false r) bits s mode).2.f1] 38 (0, 0))) (ds := []) (fl 12 0) hmx rfl rfl (by kernel_rfl) (fun ⟨_, _, q⟩ => q) ⟨blk_below E20.out hF.drew, blk_below E9.out hF.drew, B24.out, B25.out⟩ (fun hHeld => ?_)
     refine pure_ (i := 1) (N := some 112) (v := ?_) (a' := ?_) (fl 12 2) rfl rfl (by kernel_rfl) (fun _ _ _ h => h) (Or.inl ⟨by rfl, ?_⟩) ?_ ?_
     rotate_left
     ·intro w'
      go_simp
      with_reducible rfl
     rotate_left
     ·simp only [Act.put, List.setIfInBounds_toArray, List.set_cons_zero, List.set_cons_succ, i64_w, i32_w]
      rfl
     refine pure_ (i := 3) (N := some 114) (v := ?_) (a' := ?_) (fl 12 10) rfl rfl (by kernel_rfl) (fun _ _ _ h => h) (Or.inl ⟨by rfl, ?_⟩) ?_ ?_
     rotate_left
     ·intro w'
      go_simp
      with_reducible rfl
     rotate_left
     ·simp only [Act.put, List.setIfInBounds_toArray, List.set_cons_zero, List.set_cons_succ, i64_w, i32_w]
      rfl
     refine take_ (i := 0) (N := some 111) (v := ?_) (a' := ?_) (fl 12 11) rfl rfl (by kernel_rfl) (fun _ _ _ h => h) (Or.inl ⟨by rfl, ?_⟩) hHeld ?_ ?_
     rotate_left
     ·rintro w' ⟨s0, s1, s2, s3⟩
      have ja := (blk_cell s0 0).trans rfl
      have jb := (blk_cell s1 0).trans rfl
      have jc := (blk_cell s2 0).trans rfl
      have jd := (blk_cell s2 1).trans rfl
      have je := (blk_cell s3 0).trans rfl
      have jf := (blk_cell s3 1).trans rfl
      go_simp
      with_reducible rfl
     rotate_left
     ·simp only [Act.put, List.setIfInBounds_toArray, List.set_cons_zero, List.set_cons_succ, i64_w, i32_w]
      rfl
     refine take_ (i := 2) (N := some 113) (v := ?_) (a' := ?_) (fl 12 15) rfl rfl (by kernel_rfl) (fun _ _ _ h => h) (Or.inl ⟨by rfl, ?_⟩) hHeld ?_ ?_
     rotate_left
     ·rintro w' ⟨s0, s1, s2, s3⟩
      have ja := (blk_cell s0 0).trans rfl
      have jb := (blk_cell s1 0).trans rfl
      have jc := (blk_cell s2 0).trans rfl
      have jd := (blk_cell s2 1).trans rfl
      have je := (blk_cell s3 0).trans rfl
      have jf := (blk_cell s3 1).trans rfl
      go_simp
      with_reducible rfl
     rotate_left
     ·simp only [Act.put, List.setIfInBounds_toArray, List.set_cons_zero, List.set_cons_succ, i64_w, i32_w]
      rfl
     refine take_ (i := 4) (N := some 115) (v := ?_) (a' := ?_) (fl 12 31) rfl rfl (by kernel_rfl) (fun _ _ _ h => h) (Or.inl ⟨by rfl, ?_⟩) hHeld ?_ ?_
     rotate_left
     ·rintro w' ⟨s0, s1, s2, s3⟩
      have ja := (blk_cell s0 0).trans rfl
      have jb := (blk_cell s1 0).trans rfl
      have jc := (blk_cell s2 0).trans rfl
      have jd := (blk_cell s2 1).trans rfl
      have je := (blk_cell s3 0).trans rfl
      have jf := (blk_cell s3 1).trans rfl
      go_simp
      with_reducible rfl
     rotate_left
     ·simp only [Act.put, List.setIfInBounds_toArray, List.set_cons_zero, List.set_cons_succ, i64_w, i32_w]
      rfl
     refine pure_ (i := 5) (N := some 116) (v := ?_) (a' := ?_) (fl 12 63) rfl rfl (by kernel_rfl) (fun _ _ _ h => h) (Or.inl ⟨by rfl, ?_⟩) ?_ ?_
     rotate_left
     ·intro w'
      go_simp
      with_reducible rfl
     rotate_left
     ·simp only [Act.put, List.setIfInBounds_toArray, List.set_cons_zero, List.set_cons_succ, i64_w, i32_w]
      rfl
     refine take_ (i := 6) (N := some 117) (v := ?_) (a' := ?_) (fl 12 127) rfl rfl (by kernel_rfl) (fun _ _ _ h => h) (Or.inl ⟨by rfl, ?_⟩) hHeld ?_ ?_
     rotate_left
     ·rintro w' ⟨s0, s1, s2, s3⟩
      have ja := (blk_cell s0 0).trans rfl
      have jb := (blk_cell s1 0).trans rfl
      have jc := (blk_cell s2 0).trans rfl
      have jd := (blk_cell s2 1).trans rfl
      have je := (blk_cell s3 0).trans rfl
      have jf := (blk_cell s3 1).trans rfl
      go_simp
      with_reducible rfl
     rotate_left
     ·simp only [Act.put, List.setIfInBounds_toArray, List.set_cons_zero, List.set_cons_succ, i64_w, i32_w]
      rfl
     refine pure_ (i := 8) (N := some 119) (v := ?_) (a' := ?_) (fl 12 383) rfl rfl (by kernel_rfl) (fun _ _ _ h => h) (Or.inl ⟨by rfl, ?_⟩) ?_ ?_
     rotate_left
     ·intro w'
      go_simp
      with_reducible rfl
     rotate_left
     ·simp only [Act.put, List.setIfInBounds_toArray, List.set_cons_zero, List.set_cons_succ, i64_w, i32_w]
      rfl
     refine take_ (i := 7) (N := some 118) (v := ?_) (a' := ?_) (fl 12 511) rfl rfl (by kernel_rfl) (fun _ _ _ h => h) (Or.inl ⟨by rfl, ?_⟩) hHeld ?_ ?_
     rotate_left
     ·rintro w' ⟨s0, s1, s2, s3⟩
      have ja := (blk_cell s0 0).trans rfl
      have jb := (blk_cell s1 0).trans rfl
      have jc := (blk_cell s2 0).trans rfl
      have jd := (blk_cell s2 1).trans rfl
      have je := (blk_cell s3 0).trans rfl
      have jf := (blk_cell s3 1).trans rfl
      go_simp
      with_reducible rfl
     rotate_left
     ·simp only [Act.put, List.setIfInBounds_toArray, List.set_cons_zero, List.set_cons_succ, i64_w, i32_w]
      rfl
     refine one_ (i := 9) (N := none) (fl 12 1023) rfl rfl (by kernel_rfl) (by decide) (fun K hK => ?_)
     refine cx_step (base := w.heap.size) rfl rfl _ _ rfl p.1.toNat Y (pairV a0 a1 (rootV false r) bits s mode).1 (fun _ => True) rfl rfl (size38 (.int .i64 0) (.int .i64 0)) (Kd.R_drew RF.out) (by omega) ?_
     intro Wg hRg hgg hog hbg
     refine hK.out _ _ ⟨(hog _ n20).trans hHeld.1, (hog _ n9).trans hHeld.2.1, (hog _ n24).trans hHeld.2.2.1, (hog _ n25).trans hHeld.2.2.2⟩ (fun hHeld2 => ?_)
     have RG := Lib.hid hRg
     have OG := Lib.hid hog
     have BG := Lib.hid hbg
     have GG := Lib.hid hgg
     clear hK K hRg hgg hog hbg hHeld
     have hHeld := hHeld2
     clear hHeld2
     refine pure_ (i := 10) (N := some 120) (v := ?_) (a' := ?_) (fl 12 2047) rfl rfl (by kernel_rfl) (fun _ _ _ h => h) (Or.inl ⟨by rfl, ?_⟩) ?_ ?_
     rotate_left
     ·intro w'
      go_simp
      with_reducible rfl
     rotate_left
     ·simp only [Act.put, List.setIfInBounds_toArray, List.set_cons_zero, List.set_cons_succ, i64_w, i32_w]
      rfl
     refine one_ (i := 11) (N := none) (fl 12 4095) rfl rfl (by kernel_rfl) (by decide) (fun K hK => ?_)
     refine cx_step (base := w.heap.size) rfl rfl _ _ rfl (p.1 + h).toNat (Y.set p.1.toNat (pairV a0 a1 (rootV false r) bits s mode).1) (pairV a0 a1 (rootV false r) bits s mode).2 (fun _ => True) rfl rfl (size38 (.int .i64 0) (.int .i64 0)) RG.out (by omega) ?_
     intro Wh hRh hgh hoh hbh
     refine hK.out _ _ ⟨(hoh _ n20).trans hHeld.1, (hoh _ n9).trans hHeld.2.1, (hoh _ n24).trans hHeld.2.2.1, (hoh _ n25).trans hHeld.2.2.2⟩ (fun _ => ?_)
     clear hK K hHeld
     refine done_ (by kernel_rfl) ?_
     have same : ∀ k, k < W.heap.size → k ≠ g → Wh.heap[k]? = W.heap[k]? := fun k hk hne => (hoh k hne).trans ((OG.out k hne).trans (hF.block k hk))
     have n7 : g7 ≠ g := fun e => Kd.R_ne ER.out E7.out (by decide) (by rw [e]; rfl)
     have n8 : g8 ≠ g := fun e => Kd.R_ne ER.out E8.out (by decide) (by rw [e]; rfl)
     have n10 : g10 ≠ g := fun e => Kd.R_ne ER.out E10.out (by decide) (by rw [e]; rfl)
     have n11 : g11 ≠ g := fun e => Kd.R_ne ER.out E11.out (by decide) (by rw [e]; rfl)
     have n12 : g12 ≠ g := fun e => Kd.R_ne ER.out E12.out (by decide) (by rw [e]; rfl)
     have n13 : g13 ≠ g := fun e => Kd.R_ne ER.out E13.out (by decide) (by rw [e]; rfl)
     have nn : gn ≠ g := fun e => Kd.R_ne ER.out En.out (by decide) (by rw [e]; rfl)
     have nh : gh ≠ g := fun e => Kd.R_ne ER.out Eh.out (by decide) (by rw [e]; rfl)
     have hsz : W.heap.size ≤ Wh.heap.size := Nat.le_trans hF.size (Nat.le_trans GG.out.size hgh.size)
     refine ⟨⟨hsz, fun k o hk ho => (same k (Array.getElem?_eq_some_iff.1 hk).1 (fun e => by obtain ⟨cells, hc⟩ := Kd.R_typed ER.out g rfl; rw [e, hc] at hk; cases hk; cases ho)).trans hk⟩, ⟨same _ (blk_lt En.out) nn, same _ (blk_lt Eh.out) nh⟩, ⟨(same _ (blk_lt E7.out) n7).trans E7.out, (same _ (blk_lt E8.out) n8).trans E8.out, (same _ (blk_lt E9.out) n9).trans E9.out, (same _ (blk_lt E10.out) n10).trans E10.out, (same _ (blk_lt E11.out) n11).trans E11.out, (same _ (blk_lt E12.out) n12).trans E12.out, (same _ (blk_lt E13.out) n13).trans E13.out, (same _ (blk_lt E20.out) n20).trans E20.out, (same _ (blk_lt En.out) nn).trans En.out, (same _ (blk_lt Eh.out) nh).trans Eh.out⟩, ?_, hbh _ (BG.out _ (below_drew (EB.out.trans (hF.mono EB.out.size))))⟩
     rw [HPRE.out, HQ.out Y]
     exact hRh
    ·skip
     refine box_step rfl rfl (cs := #[.int .i64 0, .int .i64 0]) (t := 38) (by first | (go_simp; done) | (go_simp; rfl)) ?_
     intro g25 hg Wc hbox hbl
     refine hK.out _ _ (below_step hHeld hbl) (fun hHeld2 => ?_)
     have L25 : W2.heap.size ≤ g25 := by rw [hg]; exact hHeld.size
     have B25 := Lib.hid hbox
     clear hK K hbl hbox hg hHeld
     have hHeld := hHeld2
     clear hHeld2
     refine norm_ (a' := ?_) ?_ ?_
     rotate_left
     ·show Act.put _ (some 25) _ = _
      simp only [Act.put, List.setIfInBounds_toArray, List.set_cons_zero, List.set_cons_succ, i64_w, i32_w]
      rfl
     refine one_ (i := 18) (N := some 24) (fl 22 1048575) rfl rfl (by kernel_rfl) (by decide) (fun K hK => ?_)
     refine box_step rfl rfl (cs := #[.int .i64 0, .int .i64 0]) (t := 38) (by first | (go_simp; done) | (go_simp; rfl)) ?_
     intro g24 hg Wc hbox hbl
     refine hK.out _ _ (below_step hHeld hbl) (fun hHeld2 => ?_)
     have L24 : W2.heap.size ≤ g24 := by rw [hg]; exact hHeld.size
     have B24 := Lib.hid hbox
     have N2425 : g24 ≠ g25 := by have := blk_lt B25.out; omega
     replace B25 := Lib.hid (blk_below B25.out hbl)
     clear hK K hbl hbox hg hHeld
     have hHeld := hHeld2
     clear hHeld2
     refine norm_ (a' := ?_) ?_ ?_
     rotate_left
     ·show Act.put _ (some 24) _ = _
      simp only [Act.put, List.setIfInBounds_toArray, List.set_cons_zero, List.set_cons_succ, i64_w, i32_w]
      rfl

     refine one_ (i := 20) (N := none) (fl 22 2097151) rfl rfl (by kernel_rfl) (by decide) (fun K hK => ?_)
     refine row_step rfl rfl 38 _ _ rfl g24 #[.int .i64 (pairV a0 a1 (rootV false r) bits s mode).1.f0, .int .i64 (pairV a0 a1 (rootV false r) bits s mode).1.f1] rfl rfl 38 #[.int .i64 0, .int .i64 0] B24.out (size38 _ _) rfl (one38 _ _) ?_
     intro Wd hq hoth hbel
     refine hK.out _ _ (hbel _ _ L24 hHeld) (fun hHeld2 => ?_)
     replace B25 := Lib.hid ((hoth _ (Ne.symm N2425)).trans B25.out)
     replace B24 := Lib.hid hq
     clear hK K hq hoth hbel hHeld
     have hHeld := hHeld2
     clear hHeld2
     refine one_ (i := 21) (N := none) (fl 22 4194303) rfl rfl (by kernel_rfl) (by decide) (fun K hK => ?_)
     refine row_step rfl rfl 38 _ _ rfl g25 #[.int .i64 (pairV a0 a1 (rootV false r) bits s mode).2.f0, .int .i64 (pairV a0 a1 (rootV false r) bits s mode).2.f1] rfl rfl 38 #[.int .i64 0, .int .i64 0] B25.out (size38 _ _) rfl (one38 _ _) ?_
     intro Wf hq hoth hbel
     refine hK.out _ _ (hbel _ _ L25 hHeld) (fun hHeld2 => ?_)
     replace B24 := Lib.hid ((hoth _ N2425).trans B24.out)
     replace B25 := Lib.hid hq
     clear hK K hq hoth hbel hHeld
     have hF := below_step HB_2.out hHeld2
     clear hHeld2
     refine done_ (by kernel_rfl) ?_
     have L24' := Nat.le_trans (below_size HB_2.out) L24
     have L25' := Nat.le_trans (below_size HB_2.out) L25
     have RF := Lib.hid (Kd.R_below ER.out hF)
     have gW : g < W.heap.size := Kd.R_lt ER.out g rfl
     have n20 : g20 ≠ g := fun e => Kd.R_ne ER.out E20.out (by decide) (by rw [e]; rfl)
     have n9 : g9 ≠ g := fun e => Kd.R_ne ER.out E9.out (by decide) (by rw [e]; rfl)
     have n24 : g24 ≠ g := by omega
     have n25 : g25 ≠ g := by omega
     refine startR_ (S := fun w' => w'.heap[g20]? = some (.cells #[.slice (some ⟨g, 0, none⟩) l.length cap] 22 (0, 0)) ∧ w'.heap[g9]? = some (.cells #[.int .i64 h] 3 (0, 0)) ∧ w'.heap[g24]? = some (.cells #[.int .i64 (pairV a0 a1 (rootV false r) bits s mode).1.f0, .int .i64 (pairV a0 a1 (rootV false r) bits s mode).1.f1] 38 (0, 0)) ∧ w'.heap[g25]? = some (.cells #[.int .i64 (pairV a0 a1 (rootV false r) bits s mode).2.f0, .int .i64 (pairV a0 a1 (rootV false r) bits s mode).2.f1] 38 (0, 0))) (ds := []) (fl 12 0) hmx rfl rfl (by kernel_rfl) (fun ⟨_, _, q⟩ => q) ⟨blk_below E20.out hF.drew, blk_below E9.out hF.drew, B24.out, B25.out⟩ (fun hHeld => ?_)
     refine pure_ (i := 1) (N := some 112) (v := ?_) (a' := ?_) (fl 12 2) rfl rfl (by kernel_rfl) (fun _ _ _ h => h) (Or.inl ⟨by rfl, ?_⟩) ?_ ?_
     rotate_left
     ·intro w'
      go_simp
      with_reducible rfl
     rotate_left
     ·simp only [Act.put, List.setIfInBounds_toArray, List.set_cons_zero, List.set_cons_succ, i64_w, i32_w]
      rfl
     refine pure_ (i := 3) (N := some 114) (v := ?_) (a' := ?_) (fl 12 10) rfl rfl (by kernel_rfl) (fun _ _ _ h => h) (Or.inl ⟨by rfl, ?_⟩) ?_ ?_
     rotate_left
     ·intro w'
      go_simp
      with_reducible rfl
     rotate_left
     ·simp only [Act.put, List.setIfInBounds_toArray, List.set_cons_zero, List.set_cons_succ, i64_w, i32_w]
      rfl
     refine take_ (i := 0) (N := some 111) (v := ?_) (a' := ?_) (fl 12 11) rfl rfl (by kernel_rfl) (fun _ _ _ h => h) (Or.inl ⟨by rfl, ?_⟩) hHeld ?_ ?_
     rotate_left
     ·rintro w' ⟨s0, s1, s2, s3⟩
      have ja := (blk_cell s0 0).trans rfl
      have jb := (blk_cell s1 0).trans rfl
      have jc := (blk_cell s2 0).trans rfl
      have jd := (blk_cell s2 1).trans rfl
      have je := (blk_cell s3 0).trans rfl
      have jf := (blk_cell s3 1).trans rfl
      go_simp
      with_reducible rfl
     rotate_left
     ·simp only [Act.put, List.setIfInBounds_toArray, List.set_cons_zero, List.set_cons_succ, i64_w, i32_w]
      rfl
     refine take_ (i := 2) (N := some 113) (v := ?_) (a' := ?_) (fl 12 15) rfl rfl (by kernel_rfl) (fun _ _ _ h => h) (Or.inl ⟨by rfl, ?_⟩) hHeld ?_ ?_
     rotate_left
     ·rintro w' ⟨s0, s1, s2, s3⟩
      have ja := (blk_cell s0 0).trans rfl
      have jb := (blk_cell s1 0).trans rfl
      have jc := (blk_cell s2 0).trans rfl
      have jd := (blk_cell s2 1).trans rfl
      have je := (blk_cell s3 0).trans rfl
      have jf := (blk_cell s3 1).trans rfl
      go_simp
      with_reducible rfl
     rotate_left
     ·simp only [Act.put, List.setIfInBounds_toArray, List.set_cons_zero, List.set_cons_succ, i64_w, i32_w]
      rfl
     refine take_ (i := 4) (N := some 115) (v := ?_) (a' := ?_) (fl 12 31) rfl rfl (by kernel_rfl) (fun _ _ _ h => h) (Or.inl ⟨by rfl, ?_⟩) hHeld ?_ ?_
     rotate_left
     ·rintro w' ⟨s0, s1, s2, s3⟩
      have ja := (blk_cell s0 0).trans rfl
      have jb := (blk_cell s1 0).trans rfl
      have jc := (blk_cell s2 0).trans rfl
      have jd := (blk_cell s2 1).trans rfl
      have je := (blk_cell s3 0).trans rfl
      have jf := (blk_cell s3 1).trans rfl
      go_simp
      with_reducible rfl
     rotate_left
     ·simp only [Act.put, List.setIfInBounds_toArray, List.set_cons_zero, List.set_cons_succ, i64_w, i32_w]
      rfl
     refine pure_ (i := 5) (N := some 116) (v := ?_) (a' := ?_) (fl 12 63) rfl rfl (by kernel_rfl) (fun _ _ _ h => h) (Or.inl ⟨by rfl, ?_⟩) ?_ ?_
     rotate_left
     ·intro w'
      go_simp
      with_reducible rfl
     rotate_left
     ·simp only [Act.put, List.setIfInBounds_toArray, List.set_cons_zero, List.set_cons_succ, i64_w, i32_w]
      rfl
     refine take_ (i := 6) (N := some 117) (v := ?_) (a' := ?_) (fl 12 127) rfl rfl (by kernel_rfl) (fun _ _ _ h => h) (Or.inl ⟨by rfl, ?_⟩) hHeld ?_ ?_
     rotate_left
     ·rintro w' ⟨s0, s1, s2, s3⟩
      have ja := (blk_cell s0 0).trans rfl
      have jb := (blk_cell s1 0).trans rfl
      have jc := (blk_cell s2 0).trans rfl
      have jd := (blk_cell s2 1).trans rfl
      have je := (blk_cell s3 0).trans rfl
      have jf := (blk_cell s3 1).trans rfl
      go_simp
      with_reducible rfl
     rotate_left
     ·simp only [Act.put, List.setIfInBounds_toArray, List.set_cons_zero, List.set_cons_succ, i64_w, i32_w]
      rfl
     refine pure_ (i := 8) (N := some 119) (v := ?_) (a' := ?_) (fl 12 383) rfl rfl (by kernel_rfl) (fun _ _ _ h => h) (Or.inl ⟨by rfl, ?_⟩) ?_ ?_
     rotate_left
     ·intro w'
      go_simp
      with_reducible rfl
     rotate_left
     ·simp only [Act.put, List.setIfInBounds_toArray, List.set_cons_zero, List.set_cons_succ, i64_w, i32_w]
      rfl
     refine take_ (i := 7) (N := some 118) (v := ?_) (a' := ?_) (fl 12 511) rfl rfl (by kernel_rfl) (fun _ _ _ h => h) (Or.inl ⟨by rfl, ?_⟩) hHeld ?_ ?_
     rotate_left
     ·rintro w' ⟨s0, s1, s2, s3⟩
      have ja := (blk_cell s0 0).trans rfl
      have jb := (blk_cell s1 0).trans rfl
      have jc := (blk_cell s2 0).trans rfl
      have jd := (blk_cell s2 1).trans rfl
      have je := (blk_cell s3 0).trans rfl
      have jf := (blk_cell s3 1).trans rfl
      go_simp
      with_reducible rfl
     rotate_left
     ·simp only [Act.put, List.setIfInBounds_toArray, List.set_cons_zero, List.set_cons_succ, i64_w, i32_w]
      rfl
     refine one_ (i := 9) (N := none) (fl 12 1023) rfl rfl (by kernel_rfl) (by decide) (fun K hK => ?_)
     refine cx_step (base := w.heap.size) rfl rfl _ _ rfl p.1.toNat Y (pairV a0 a1 (rootV false r) bits s mode).1 (fun _ => True) rfl rfl (size38 (.int .i64 0) (.int .i64 0)) (Kd.R_drew RF.out) (by omega) ?_
     intro Wg hRg hgg hog hbg
     refine hK.out _ _ ⟨(hog _ n20).trans hHeld.1, (hog _ n9).trans hHeld.2.1, (hog _ n24).trans hHeld.2.2.1, (hog _ n25).trans hHeld.2.2.2⟩ (fun hHeld2 => ?_)
     have RG := Lib.hid hRg
     have OG := Lib.hid hog
     have BG := Lib.hid hbg
     have GG := Lib.hid hgg
     clear hK K hRg hgg hog hbg hHeld
     have hHeld := hHeld2
     clear hHeld2
     refine pure_ (i := 10) (N := some 120) (v := ?_) (a' := ?_) (fl 12 2047) rfl rfl (by kernel_rfl) (fun _ _ _ h => h) (Or.inl ⟨by rfl, ?_⟩) ?_ ?_
     rotate_left
     ·intro w'
      go_simp
      with_reducible rfl
     rotate_left
     ·simp only [Act.put, List.setIfInBounds_toArray, List.set_cons_zero, List.set_cons_succ, i64_w, i32_w]
      rfl
     refine one_ (i := 11) (N := none) (fl 12 4095) rfl rfl (by kernel_rfl) (by decide) (fun K hK => ?_)
     refine cx_step (base := w.heap.size) rfl rfl _ _ rfl (p.1 + h).toNat (Y.set p.1.toNat (pairV a0 a1 (rootV false r) bits s mode).1) (pairV a0 a1 (rootV false r) bits s mode).2 (fun _ => True) rfl rfl (size38 (.int .i64 0) (.int .i64 0)) RG.out (by omega) ?_
     intro Wh hRh hgh hoh hbh
     refine hK.out _ _ ⟨(hoh _ n20).trans hHeld.1, (hoh _ n9).trans hHeld.2.1, (hoh _ n24).trans hHeld.2.2.1, (hoh _ n25).trans hHeld.2.2.2⟩ (fun _ => ?_)
     clear hK K hHeld
     refine done_ (by kernel_rfl) ?_
     have same : ∀ k, k < W.heap.size → k ≠ g → Wh.heap[k]? = W.heap[k]? := fun k hk hne => (hoh k hne).trans ((OG.out k hne).trans (hF.block k hk))
     have n7 : g7 ≠ g := fun e => Kd.R_ne ER.out E7.out (by decide) (by rw [e]; rfl)
     have n8 : g8 ≠ g := fun e => Kd.R_ne ER.out E8.out (by decide) (by rw [e]; rfl)
     have n10 : g10 ≠ g := fun e => Kd.R_ne ER.out E10.out (by decide) (by rw [e]; rfl)
     have n11 : g11 ≠ g := fun e => Kd.R_ne ER.out E11.out (by decide) (by rw [e]; rfl)
     have n12 : g12 ≠ g := fun e => Kd.R_ne ER.out E12.out (by decide) (by rw [e]; rfl)
     have n13 : g13 ≠ g := fun e => Kd.R_ne ER.out E13.out (by decide) (by rw [e]; rfl)
     have nn : gn ≠ g := fun e => Kd.R_ne ER.out En.out (by decide) (by rw [e]; rfl)
     have nh : gh ≠ g := fun e => Kd.R_ne ER.out Eh.out (by decide) (by rw [e]; rfl)
     have hsz : W.heap.size ≤ Wh.heap.size := Nat.le_trans hF.size (Nat.le_trans GG.out.size hgh.size)
     refine ⟨⟨hsz, fun k o hk ho => (same k (Array.getElem?_eq_some_iff.1 hk).1 (fun e => by obtain ⟨cells, hc⟩ := Kd.R_typed ER.out g rfl; rw [e, hc] at hk; cases hk; cases ho)).trans hk⟩, ⟨same _ (blk_lt En.out) nn, same _ (blk_lt Eh.out) nh⟩, ⟨(same _ (blk_lt E7.out) n7).trans E7.out, (same _ (blk_lt E8.out) n8).trans E8.out, (same _ (blk_lt E9.out) n9).trans E9.out, (same _ (blk_lt E10.out) n10).trans E10.out, (same _ (blk_lt E11.out) n11).trans E11.out, (same _ (blk_lt E12.out) n12).trans E12.out, (same _ (blk_lt E13.out) n13).trans E13.out, (same _ (blk_lt E20.out) n20).trans E20.out, (same _ (blk_lt En.out) nn).trans En.out, (same _ (blk_lt Eh.out) nh).trans Eh.out⟩, ?_, hbh _ (BG.out _ (below_drew (EB.out.trans (hF.mono EB.out.size))))⟩
     rw [HPRE.out, HQ.out Y]
     exact hRh
   ·skip
    refine box_step rfl rfl (cs := #[.int .i64 0, .int .i64 0]) (t := 38) (by first | (go_simp; done) | (go_simp; rfl)) ?_
    intro g24 hg Wc hbox hbl
    refine hK.out _ _ (below_step hHeld hbl) (fun hHeld2 => ?_)
    have L24 : W2.heap.size ≤ g24 := by rw [hg]; exact hHeld.size
    have B24 := Lib.hid hbox
    clear hK K hbl hbox hg hHeld
    have hHeld := hHeld2
    clear hHeld2
    refine norm_ (a' := ?_) ?_ ?_
    rotate_left
    ·show Act.put _ (some 24) _ = _
     simp only [Act.put, List.setIfInBounds_toArray, List.set_cons_zero, List.set_cons_succ, i64_w, i32_w]
     rfl
    refine two_ (i := 14) (j := 19) (Ni := some 108) (Nj := some 25) (fl 22 294911) (fl 22 802815) rfl rfl rfl rfl (by kernel_rfl) (by decide) (by decide) (fun K hK => ?_) (fun K hK => ?_)
    ·skip
     refine goes_ Tryz.func81 (by kernel_rfl) rfl #[.agg #[.int .i64 a0.f0, .int .i64 a0.f1], .agg #[.int .i64 a1.f0, .int .i64 a1.f1], .agg #[.int .i64 r.f0, .int .i64 r.f1], .int .i64 bits, .int .i64 s, .int .i64 mode] (by rfl) rfl rfl (by go_simp) ?_
     refine (two_pair.calls _ _ _ _ _ _ _ _ _ _ _ _ _ _ HP.out).mono ?_
     rintro e Wc ⟨rfl, hb⟩
     refine ⟨_, rfl, ?_⟩
     refine hK.out _ _ (below_step hHeld hb) (fun hHeld => ?_)
     replace B24 := Lib.hid (blk_below B24.out hb)
     clear hK K hb
     refine norm_ (a' := ?_) ?_ ?_
     rotate_left
     ·show Act.put _ (some 108) _ = _
      simp only [Act.put, List.setIfInBounds_toArray, List.set_cons_zero, List.set_cons_succ, i64_w, i32_w]
      rfl
     refine pure_ (i := 15) (N := some 93) (v := ?_) (a' := ?_) (fl 22 327679) rfl rfl (by kernel_rfl) (fun _ _ _ h => h) (Or.inl ⟨by rfl, ?_⟩) ?_ ?_
     rotate_left
     ·intro w'
      go_simp
      with_reducible rfl
     rotate_left
     ·simp only [Act.put, List.setIfInBounds_toArray, List.set_cons_zero, List.set_cons_succ, i64_w, i32_w]
      rfl
     refine pure_ (i := 16) (N := some 109) (v := ?_) (a' := ?_) (fl 22 393215) rfl rfl (by kernel_rfl) (fun _ _ _ h => h) (Or.inl ⟨by rfl, ?_⟩) ?_ ?_
     rotate_left
     ·intro w'
      go_simp
      with_reducible rfl
     rotate_left
     ·simp only [Act.put, List.setIfInBounds_toArray, List.set_cons_zero, List.set_cons_succ, i64_w, i32_w]
      rfl
     refine pure_ (i := 17) (N := some 110) (v := ?_) (a' := ?_) (fl 22 524287) rfl rfl (by kernel_rfl) (fun _ _ _ h => h) (Or.inl ⟨by rfl, ?_⟩) ?_ ?_
     rotate_left
     ·intro w'
      go_simp
      with_reducible rfl
     rotate_left
     ·simp only [Act.put, List.setIfInBounds_toArray, List.set_cons_zero, List.set_cons_succ, i64_w, i32_w]
      rfl
     refine one_ (i := 19) (N := some 25) (fl 22 1048575) rfl rfl (by kernel_rfl) (by decide) (fun K hK => ?_)
     refine box_step rfl rfl (cs := #[.int .i64 0, .int .i64 0]) (t := 38) (by first | (go_simp; done) | (go_simp; rfl)) ?_
     intro g25 hg Wc hbox hbl
     refine hK.out _ _ (below_step hHeld hbl) (fun hHeld2 => ?_)
     have L25 : W2.heap.size ≤ g25 := by rw [hg]; exact hHeld.size
     have B25 := Lib.hid hbox
     have N2425 : g24 ≠ g25 := by have := blk_lt B24.out; omega
     replace B24 := Lib.hid (blk_below B24.out hbl)
     clear hK K hbl hbox hg hHeld
     have hHeld := hHeld2
     clear hHeld2
     refine norm_ (a' := ?_) ?_ ?_
     rotate_left
     ·show Act.put _ (some 25) _ = _
      simp only [Act.put, List.setIfInBounds_toArray, List.set_cons_zero, List.set_cons_succ, i64_w, i32_w]
      rfl

     refine one_ (i := 20) (N := none) (fl 22 2097151) rfl rfl (by kernel_rfl) (by decide) (fun K hK => ?_)
     refine row_step rfl rfl 38 _ _ rfl g24 #[.int .i64 (pairV a0 a1 (rootV false r) bits s mode).1.f0, .int .i64 (pairV a0 a1 (rootV false r) bits s mode).1.f1] rfl rfl 38 #[.int .i64 0, .int .i64 0] B24.out (size38 _ _) rfl (one38 _ _) ?_
     intro Wd hq hoth hbel
     refine hK.out _ _ (hbel _ _ L24 hHeld) (fun hHeld2 => ?_)
     replace B25 := Lib.hid ((hoth _ (Ne.symm N2425)).trans B25.out)
     replace B24 := Lib.hid hq
     clear hK K hq hoth hbel hHeld
     have hHeld := hHeld2
     clear hHeld2
     refine one_ (i := 21) (N := none) (fl 22 4194303) rfl rfl (by kernel_rfl) (by decide) (fun K hK => ?_)
     refine row_step rfl rfl 38 _ _ rfl g25 #[.int .i64 (pairV a0 a1 (rootV false r) bits s mode).2.f0, .int .i64 (pairV a0 a1 (rootV false r) bits s mode).2.f1] rfl rfl 38 #[.int .i64 0, .int .i64 0] B25.out (size38 _ _) rfl (one38 _ _) ?_
     intro Wf hq hoth hbel
     refine hK.out _ _ (hbel _ _ L25 hHeld) (fun hHeld2 => ?_)
     replace B24 := Lib.hid ((hoth _ N2425).trans B24.out)
     replace B25 := Lib.hid hq
     clear hK K hq hoth hbel hHeld
     have hF := below_step HB_2.out hHeld2
     clear hHeld2
     refine done_ (by kernel_rfl) ?_
     have L24' := Nat.le_trans (below_size HB_2.out) L24
     have L25' := Nat.le_trans (below_size HB_2.out) L25
     have RF := Lib.hid (Kd.R_below ER.out hF)
     have gW : g < W.heap.size := Kd.R_lt ER.out g rfl
     have n20 : g20 ≠ g := fun e => Kd.R_ne ER.out E20.out (by decide) (by rw [e]; rfl)
     have n9 : g9 ≠ g := fun e => Kd.R_ne ER.out E9.out (by decide) (by rw [e]; rfl)
     have n24 : g24 ≠ g := by omega
     have n25 : g25 ≠ g := by omega
     refine startR_ (S := fun w' => w'.heap[g20]? = some (.cells #[.slice (some ⟨g, 0, none⟩) l.length cap] 22 (0, 0)) ∧ w'.heap[g9]? = some (.cells #[.int .i64 h] 3 (0, 0)) ∧ w'.heap[g24]? = some (.cells #[.int .i64 (pairV a0 a1 (rootV false r) bits s mode).1.f0, .int .i64 (pairV a0 a1 (rootV false r) bits s mode).1.f1] 38 (0, 0)) ∧ w'.heap[g25]? = some (.cells #[.int .i64 (pairV a0 a1 (rootV false r) bits s mode).2.f0, .int .i64 (pairV a0 a1 (rootV false r) bits s mode).2.f1] 38 (0, 0))) (ds := []) (fl 12 0) hmx rfl rfl (by kernel_rfl) (fun ⟨_, _, q⟩ => q) ⟨blk_below E20.out hF.drew, blk_below E9.out hF.drew, B24.out, B25.out⟩ (fun hHeld => ?_)
     refine pure_ (i := 1) (N := some 112) (v := ?_) (a' := ?_) (fl 12 2) rfl rfl (by kernel_rfl) (fun _ _ _ h => h) (Or.inl ⟨by rfl, ?_⟩) ?_ ?_
     rotate_left
     ·intro w'
      go_simp
      with_reducible rfl
     rotate_left
     ·simp only [Act.put, List.setIfInBounds_toArray, List.set_cons_zero, List.set_cons_succ, i64_w, i32_w]
      rfl
     refine pure_ (i := 3) (N := some 114) (v := ?_) (a' := ?_) (fl 12 10) rfl rfl (by kernel_rfl) (fun _ _ _ h => h) (Or.inl ⟨by rfl, ?_⟩) ?_ ?_
     rotate_left
     ·intro w'
      go_simp
      with_reducible rfl
     rotate_left
     ·simp only [Act.put, List.setIfInBounds_toArray, List.set_cons_zero, List.set_cons_succ, i64_w, i32_w]
      rfl
     refine take_ (i := 0) (N := some 111) (v := ?_) (a' := ?_) (fl 12 11) rfl rfl (by kernel_rfl) (fun _ _ _ h => h) (Or.inl ⟨by rfl, ?_⟩) hHeld ?_ ?_
     rotate_left
     ·rintro w' ⟨s0, s1, s2, s3⟩
      have ja := (blk_cell s0 0).trans rfl
      have jb := (blk_cell s1 0).trans rfl
      have jc := (blk_cell s2 0).trans rfl
      have jd := (blk_cell s2 1).trans rfl
      have je := (blk_cell s3 0).trans rfl
      have jf := (blk_cell s3 1).trans rfl
      go_simp
      with_reducible rfl
     rotate_left
     ·simp only [Act.put, List.setIfInBounds_toArray, List.set_cons_zero, List.set_cons_succ, i64_w, i32_w]
      rfl
     refine take_ (i := 2) (N := some 113) (v := ?_) (a' := ?_) (fl 12 15) rfl rfl (by kernel_rfl) (fun _ _ _ h => h) (Or.inl ⟨by rfl, ?_⟩) hHeld ?_ ?_
     rotate_left
     ·rintro w' ⟨s0, s1, s2, s3⟩
      have ja := (blk_cell s0 0).trans rfl
      have jb := (blk_cell s1 0).trans rfl
      have jc := (blk_cell s2 0).trans rfl
      have jd := (blk_cell s2 1).trans rfl
      have je := (blk_cell s3 0).trans rfl
      have jf := (blk_cell s3 1).trans rfl
      go_simp
      with_reducible rfl
     rotate_left
     ·simp only [Act.put, List.setIfInBounds_toArray, List.set_cons_zero, List.set_cons_succ, i64_w, i32_w]
      rfl
     refine take_ (i := 4) (N := some 115) (v := ?_) (a' := ?_) (fl 12 31) rfl rfl (by kernel_rfl) (fun _ _ _ h => h) (Or.inl ⟨by rfl, ?_⟩) hHeld ?_ ?_
     rotate_left
     ·rintro w' ⟨s0, s1, s2, s3⟩
      have ja := (blk_cell s0 0).trans rfl
      have jb := (blk_cell s1 0).trans rfl
      have jc := (blk_cell s2 0).trans rfl
      have jd := (blk_cell s2 1).trans rfl
      have je := (blk_cell s3 0).trans rfl
      have jf := (blk_cell s3 1).trans rfl
      go_simp
      with_reducible rfl
     rotate_left
     ·simp only [Act.put, List.setIfInBounds_toArray, List.set_cons_zero, List.set_cons_succ, i64_w, i32_w]
      rfl
     refine pure_ (i := 5) (N := some 116) (v := ?_) (a' := ?_) (fl 12 63) rfl rfl (by kernel_rfl) (fun _ _ _ h => h) (Or.inl ⟨by rfl, ?_⟩) ?_ ?_
     rotate_left
     ·intro w'
      go_simp
      with_reducible rfl
     rotate_left
     ·simp only [Act.put, List.setIfInBounds_toArray, List.set_cons_zero, List.set_cons_succ, i64_w, i32_w]
      rfl
     refine take_ (i := 6) (N := some 117) (v := ?_) (a' := ?_) (fl 12 127) rfl rfl (by kernel_rfl) (fun _ _ _ h => h) (Or.inl ⟨by rfl, ?_⟩) hHeld ?_ ?_
     rotate_left
     ·rintro w' ⟨s0, s1, s2, s3⟩
      have ja := (blk_cell s0 0).trans rfl
      have jb := (blk_cell s1 0).trans rfl
      have jc := (blk_cell s2 0).trans rfl
      have jd := (blk_cell s2 1).trans rfl
      have je := (blk_cell s3 0).trans rfl
      have jf := (blk_cell s3 1).trans rfl
      go_simp
      with_reducible rfl
     rotate_left
     ·simp only [Act.put, List.setIfInBounds_toArray, List.set_cons_zero, List.set_cons_succ, i64_w, i32_w]
      rfl
     refine pure_ (i := 8) (N := some 119) (v := ?_) (a' := ?_) (fl 12 383) rfl rfl (by kernel_rfl) (fun _ _ _ h => h) (Or.inl ⟨by rfl, ?_⟩) ?_ ?_
     rotate_left
     ·intro w'
      go_simp
      with_reducible rfl
     rotate_left
     ·simp only [Act.put, List.setIfInBounds_toArray, List.set_cons_zero, List.set_cons_succ, i64_w, i32_w]
      rfl
     refine take_ (i := 7) (N := some 118) (v := ?_) (a' := ?_) (fl 12 511) rfl rfl (by kernel_rfl) (fun _ _ _ h => h) (Or.inl ⟨by rfl, ?_⟩) hHeld ?_ ?_
     rotate_left
     ·rintro w' ⟨s0, s1, s2, s3⟩
      have ja := (blk_cell s0 0).trans rfl
      have jb := (blk_cell s1 0).trans rfl
      have jc := (blk_cell s2 0).trans rfl
      have jd := (blk_cell s2 1).trans rfl
      have je := (blk_cell s3 0).trans rfl
      have jf := (blk_cell s3 1).trans rfl
      go_simp
      with_reducible rfl
     rotate_left
     ·simp only [Act.put, List.setIfInBounds_toArray, List.set_cons_zero, List.set_cons_succ, i64_w, i32_w]
      rfl
     refine one_ (i := 9) (N := none) (fl 12 1023) rfl rfl (by kernel_rfl) (by decide) (fun K hK => ?_)
     refine cx_step (base := w.heap.size) rfl rfl _ _ rfl p.1.toNat Y (pairV a0 a1 (rootV false r) bits s mode).1 (fun _ => True) rfl rfl (size38 (.int .i64 0) (.int .i64 0)) (Kd.R_drew RF.out) (by omega) ?_
     intro Wg hRg hgg hog hbg
     refine hK.out _ _ ⟨(hog _ n20).trans hHeld.1, (hog _ n9).trans hHeld.2.1, (hog _ n24).trans hHeld.2.2.1, (hog _ n25).trans hHeld.2.2.2⟩ (fun hHeld2 => ?_)
     have RG := Lib.hid hRg
     have OG := Lib.hid hog
     have BG := Lib.hid hbg
     have GG := Lib.hid hgg
     clear hK K hRg hgg hog hbg hHeld
     have hHeld := hHeld2
     clear hHeld2
     refine pure_ (i := 10) (N := some 120) (v := ?_) (a' := ?_) (fl 12 2047) rfl rfl (by kernel_rfl) (fun _ _ _ h => h) (Or.inl ⟨by rfl, ?_⟩) ?_ ?_
     rotate_left
     ·intro w'
      go_simp
      with_reducible rfl
     rotate_left
     ·simp only [Act.put, List.setIfInBounds_toArray, List.set_cons_zero, List.set_cons_succ, i64_w, i32_w]
      rfl
     refine one_ (i := 11) (N := none) (fl 12 4095) rfl rfl (by kernel_rfl) (by decide) (fun K hK => ?_)
     refine cx_step (base := w.heap.size) rfl rfl _ _ rfl (p.1 + h).toNat (Y.set p.1.toNat (pairV a0 a1 (rootV false r) bits s mode).1) (pairV a0 a1 (rootV false r) bits s mode).2 (fun _ => True) rfl rfl (size38 (.int .i64 0) (.int .i64 0)) RG.out (by omega) ?_
     intro Wh hRh hgh hoh hbh
     refine hK.out _ _ ⟨(hoh _ n20).trans hHeld.1, (hoh _ n9).trans hHeld.2.1, (hoh _ n24).trans hHeld.2.2.1, (hoh _ n25).trans hHeld.2.2.2⟩ (fun _ => ?_)
     clear hK K hHeld
     refine done_ (by kernel_rfl) ?_
     have same : ∀ k, k < W.heap.size → k ≠ g → Wh.heap[k]? = W.heap[k]? := fun k hk hne => (hoh k hne).trans ((OG.out k hne).trans (hF.block k hk))
     have n7 : g7 ≠ g := fun e => Kd.R_ne ER.out E7.out (by decide) (by rw [e]; rfl)
     have n8 : g8 ≠ g := fun e => Kd.R_ne ER.out E8.out (by decide) (by rw [e]; rfl)
     have n10 : g10 ≠ g := fun e => Kd.R_ne ER.out E10.out (by decide) (by rw [e]; rfl)
     have n11 : g11 ≠ g := fun e => Kd.R_ne ER.out E11.out (by decide) (by rw [e]; rfl)
     have n12 : g12 ≠ g := fun e => Kd.R_ne ER.out E12.out (by decide) (by rw [e]; rfl)
     have n13 : g13 ≠ g := fun e => Kd.R_ne ER.out E13.out (by decide) (by rw [e]; rfl)
     have nn : gn ≠ g := fun e => Kd.R_ne ER.out En.out (by decide) (by rw [e]; rfl)
     have nh : gh ≠ g := fun e => Kd.R_ne ER.out Eh.out (by decide) (by rw [e]; rfl)
     have hsz : W.heap.size ≤ Wh.heap.size := Nat.le_trans hF.size (Nat.le_trans GG.out.size hgh.size)
     refine ⟨⟨hsz, fun k o hk ho => (same k (Array.getElem?_eq_some_iff.1 hk).1 (fun e => by obtain ⟨cells, hc⟩ := Kd.R_typed ER.out g rfl; rw [e, hc] at hk; cases hk; cases ho)).trans hk⟩, ⟨same _ (blk_lt En.out) nn, same _ (blk_lt Eh.out) nh⟩, ⟨(same _ (blk_lt E7.out) n7).trans E7.out, (same _ (blk_lt E8.out) n8).trans E8.out, (same _ (blk_lt E9.out) n9).trans E9.out, (same _ (blk_lt E10.out) n10).trans E10.out, (same _ (blk_lt E11.out) n11).trans E11.out, (same _ (blk_lt E12.out) n12).trans E12.out, (same _ (blk_lt E13.out) n13).trans E13.out, (same _ (blk_lt E20.out) n20).trans E20.out, (same _ (blk_lt En.out) nn).trans En.out, (same _ (blk_lt Eh.out) nh).trans Eh.out⟩, ?_, hbh _ (BG.out _ (below_drew (EB.out.trans (hF.mono EB.out.size))))⟩
     rw [HPRE.out, HQ.out Y]
     exact hRh
    ·skip
     refine box_step rfl rfl (cs := #[.int .i64 0, .int .i64 0]) (t := 38) (by first | (go_simp; done) | (go_simp; rfl)) ?_
     intro g25 hg Wc hbox hbl
     refine hK.out _ _ (below_step hHeld hbl) (fun hHeld2 => ?_)
     have L25 : W2.heap.size ≤ g25 := by rw [hg]; exact hHeld.size
     have B25 := Lib.hid hbox
     have N2425 : g24 ≠ g25 := by have := blk_lt B24.out; omega
     replace B24 := Lib.hid (blk_below B24.out hbl)
     clear hK K hbl hbox hg hHeld
     have hHeld := hHeld2
     clear hHeld2
     refine norm_ (a' := ?_) ?_ ?_
     rotate_left
     ·show Act.put _ (some 25) _ = _
      simp only [Act.put, List.setIfInBounds_toArray, List.set_cons_zero, List.set_cons_succ, i64_w, i32_w]
      rfl
     refine one_ (i := 14) (N := some 108) (fl 22 819199) rfl rfl (by kernel_rfl) (by decide) (fun K hK => ?_)
     refine goes_ Tryz.func81 (by kernel_rfl) rfl #[.agg #[.int .i64 a0.f0, .int .i64 a0.f1], .agg #[.int .i64 a1.f0, .int .i64 a1.f1], .agg #[.int .i64 r.f0, .int .i64 r.f1], .int .i64 bits, .int .i64 s, .int .i64 mode] (by rfl) rfl rfl (by go_simp) ?_
     refine (two_pair.calls _ _ _ _ _ _ _ _ _ _ _ _ _ _ HP.out).mono ?_
     rintro e Wc ⟨rfl, hb⟩
     refine ⟨_, rfl, ?_⟩
     refine hK.out _ _ (below_step hHeld hb) (fun hHeld => ?_)
     replace B24 := Lib.hid (blk_below B24.out hb)
     replace B25 := Lib.hid (blk_below B25.out hb)
     clear hK K hb
     refine norm_ (a' := ?_) ?_ ?_
     rotate_left
     ·show Act.put _ (some 108) _ = _
      simp only [Act.put, List.setIfInBounds_toArray, List.set_cons_zero, List.set_cons_succ, i64_w, i32_w]
      rfl
     refine pure_ (i := 15) (N := some 93) (v := ?_) (a' := ?_) (fl 22 851967) rfl rfl (by kernel_rfl) (fun _ _ _ h => h) (Or.inl ⟨by rfl, ?_⟩) ?_ ?_
     rotate_left
     ·intro w'
      go_simp
      with_reducible rfl
     rotate_left
     ·simp only [Act.put, List.setIfInBounds_toArray, List.set_cons_zero, List.set_cons_succ, i64_w, i32_w]
      rfl
     refine pure_ (i := 16) (N := some 109) (v := ?_) (a' := ?_) (fl 22 917503) rfl rfl (by kernel_rfl) (fun _ _ _ h => h) (Or.inl ⟨by rfl, ?_⟩) ?_ ?_
     rotate_left
     ·intro w'
      go_simp
      with_reducible rfl
     rotate_left
     ·simp only [Act.put, List.setIfInBounds_toArray, List.set_cons_zero, List.set_cons_succ, i64_w, i32_w]
      rfl
     refine pure_ (i := 17) (N := some 110) (v := ?_) (a' := ?_) (fl 22 1048575) rfl rfl (by kernel_rfl) (fun _ _ _ h => h) (Or.inl ⟨by rfl, ?_⟩) ?_ ?_
     rotate_left
     ·intro w'
      go_simp
      with_reducible rfl
     rotate_left
     ·simp only [Act.put, List.setIfInBounds_toArray, List.set_cons_zero, List.set_cons_succ, i64_w, i32_w]
      rfl

     refine one_ (i := 20) (N := none) (fl 22 2097151) rfl rfl (by kernel_rfl) (by decide) (fun K hK => ?_)
     refine row_step rfl rfl 38 _ _ rfl g24 #[.int .i64 (pairV a0 a1 (rootV false r) bits s mode).1.f0, .int .i64 (pairV a0 a1 (rootV false r) bits s mode).1.f1] rfl rfl 38 #[.int .i64 0, .int .i64 0] B24.out (size38 _ _) rfl (one38 _ _) ?_
     intro Wd hq hoth hbel
     refine hK.out _ _ (hbel _ _ L24 hHeld) (fun hHeld2 => ?_)
     replace B25 := Lib.hid ((hoth _ (Ne.symm N2425)).trans B25.out)
     replace B24 := Lib.hid hq
     clear hK K hq hoth hbel hHeld
     have hHeld := hHeld2
     clear hHeld2
     refine one_ (i := 21) (N := none) (fl 22 4194303) rfl rfl (by kernel_rfl) (by decide) (fun K hK => ?_)
     refine row_step rfl rfl 38 _ _ rfl g25 #[.int .i64 (pairV a0 a1 (rootV false r) bits s mode).2.f0, .int .i64 (pairV a0 a1 (rootV false r) bits s mode).2.f1] rfl rfl 38 #[.int .i64 0, .int .i64 0] B25.out (size38 _ _) rfl (one38 _ _) ?_
     intro Wf hq hoth hbel
     refine hK.out _ _ (hbel _ _ L25 hHeld) (fun hHeld2 => ?_)
     replace B24 := Lib.hid ((hoth _ N2425).trans B24.out)
     replace B25 := Lib.hid hq
     clear hK K hq hoth hbel hHeld
     have hF := below_step HB_2.out hHeld2
     clear hHeld2
     refine done_ (by kernel_rfl) ?_
     have L24' := Nat.le_trans (below_size HB_2.out) L24
     have L25' := Nat.le_trans (below_size HB_2.out) L25
     have RF := Lib.hid (Kd.R_below ER.out hF)
     have gW : g < W.heap.size := Kd.R_lt ER.out g rfl
     have n20 : g20 ≠ g := fun e => Kd.R_ne ER.out E20.out (by decide) (by rw [e]; rfl)
     have n9 : g9 ≠ g := fun e => Kd.R_ne ER.out E9.out (by decide) (by rw [e]; rfl)
     have n24 : g24 ≠ g := by omega
     have n25 : g25 ≠ g := by omega
     refine startR_ (S := fun w' => w'.heap[g20]? = some (.cells #[.slice (some ⟨g, 0, none⟩) l.length cap] 22 (0, 0)) ∧ w'.heap[g9]? = some (.cells #[.int .i64 h] 3 (0, 0)) ∧ w'.heap[g24]? = some (.cells #[.int .i64 (pairV a0 a1 (rootV false r) bits s mode).1.f0, .int .i64 (pairV a0 a1 (rootV false r) bits s mode).1.f1] 38 (0, 0)) ∧ w'.heap[g25]? = some (.cells #[.int .i64 (pairV a0 a1 (rootV false r) bits s mode).2.f0, .int .i64 (pairV a0 a1 (rootV false r) bits s mode).2.f1] 38 (0, 0))) (ds := []) (fl 12 0) hmx rfl rfl (by kernel_rfl) (fun ⟨_, _, q⟩ => q) ⟨blk_below E20.out hF.drew, blk_below E9.out hF.drew, B24.out, B25.out⟩ (fun hHeld => ?_)
     refine pure_ (i := 1) (N := some 112) (v := ?_) (a' := ?_) (fl 12 2) rfl rfl (by kernel_rfl) (fun _ _ _ h => h) (Or.inl ⟨by rfl, ?_⟩) ?_ ?_
     rotate_left
     ·intro w'
      go_simp
      with_reducible rfl
     rotate_left
     ·simp only [Act.put, List.setIfInBounds_toArray, List.set_cons_zero, List.set_cons_succ, i64_w, i32_w]
      rfl
     refine pure_ (i := 3) (N := some 114) (v := ?_) (a' := ?_) (fl 12 10) rfl rfl (by kernel_rfl) (fun _ _ _ h => h) (Or.inl ⟨by rfl, ?_⟩) ?_ ?_
     rotate_left
     ·intro w'
      go_simp
      with_reducible rfl
     rotate_left
     ·simp only [Act.put, List.setIfInBounds_toArray, List.set_cons_zero, List.set_cons_succ, i64_w, i32_w]
      rfl
     refine take_ (i := 0) (N := some 111) (v := ?_) (a' := ?_) (fl 12 11) rfl rfl (by kernel_rfl) (fun _ _ _ h => h) (Or.inl ⟨by rfl, ?_⟩) hHeld ?_ ?_
     rotate_left
     ·rintro w' ⟨s0, s1, s2, s3⟩
      have ja := (blk_cell s0 0).trans rfl
      have jb := (blk_cell s1 0).trans rfl
      have jc := (blk_cell s2 0).trans rfl
      have jd := (blk_cell s2 1).trans rfl
      have je := (blk_cell s3 0).trans rfl
      have jf := (blk_cell s3 1).trans rfl
      go_simp
      with_reducible rfl
     rotate_left
     ·simp only [Act.put, List.setIfInBounds_toArray, List.set_cons_zero, List.set_cons_succ, i64_w, i32_w]
      rfl
     refine take_ (i := 2) (N := some 113) (v := ?_) (a' := ?_) (fl 12 15) rfl rfl (by kernel_rfl) (fun _ _ _ h => h) (Or.inl ⟨by rfl, ?_⟩) hHeld ?_ ?_
     rotate_left
     ·rintro w' ⟨s0, s1, s2, s3⟩
      have ja := (blk_cell s0 0).trans rfl
      have jb := (blk_cell s1 0).trans rfl
      have jc := (blk_cell s2 0).trans rfl
      have jd := (blk_cell s2 1).trans rfl
      have je := (blk_cell s3 0).trans rfl
      have jf := (blk_cell s3 1).trans rfl
      go_simp
      with_reducible rfl
     rotate_left
     ·simp only [Act.put, List.setIfInBounds_toArray, List.set_cons_zero, List.set_cons_succ, i64_w, i32_w]
      rfl
     refine take_ (i := 4) (N := some 115) (v := ?_) (a' := ?_) (fl 12 31) rfl rfl (by kernel_rfl) (fun _ _ _ h => h) (Or.inl ⟨by rfl, ?_⟩) hHeld ?_ ?_
     rotate_left
     ·rintro w' ⟨s0, s1, s2, s3⟩
      have ja := (blk_cell s0 0).trans rfl
      have jb := (blk_cell s1 0).trans rfl
      have jc := (blk_cell s2 0).trans rfl
      have jd := (blk_cell s2 1).trans rfl
      have je := (blk_cell s3 0).trans rfl
      have jf := (blk_cell s3 1).trans rfl
      go_simp
      with_reducible rfl
     rotate_left
     ·simp only [Act.put, List.setIfInBounds_toArray, List.set_cons_zero, List.set_cons_succ, i64_w, i32_w]
      rfl
     refine pure_ (i := 5) (N := some 116) (v := ?_) (a' := ?_) (fl 12 63) rfl rfl (by kernel_rfl) (fun _ _ _ h => h) (Or.inl ⟨by rfl, ?_⟩) ?_ ?_
     rotate_left
     ·intro w'
      go_simp
      with_reducible rfl
     rotate_left
     ·simp only [Act.put, List.setIfInBounds_toArray, List.set_cons_zero, List.set_cons_succ, i64_w, i32_w]
      rfl
     refine take_ (i := 6) (N := some 117) (v := ?_) (a' := ?_) (fl 12 127) rfl rfl (by kernel_rfl) (fun _ _ _ h => h) (Or.inl ⟨by rfl, ?_⟩) hHeld ?_ ?_
     rotate_left
     ·rintro w' ⟨s0, s1, s2, s3⟩
      have ja := (blk_cell s0 0).trans rfl
      have jb := (blk_cell s1 0).trans rfl
      have jc := (blk_cell s2 0).trans rfl
      have jd := (blk_cell s2 1).trans rfl
      have je := (blk_cell s3 0).trans rfl
      have jf := (blk_cell s3 1).trans rfl
      go_simp
      with_reducible rfl
     rotate_left
     ·simp only [Act.put, List.setIfInBounds_toArray, List.set_cons_zero, List.set_cons_succ, i64_w, i32_w]
      rfl
     refine pure_ (i := 8) (N := some 119) (v := ?_) (a' := ?_) (fl 12 383) rfl rfl (by kernel_rfl) (fun _ _ _ h => h) (Or.inl ⟨by rfl, ?_⟩) ?_ ?_
     rotate_left
     ·intro w'
      go_simp
      with_reducible rfl
     rotate_left
     ·simp only [Act.put, List.setIfInBounds_toArray, List.set_cons_zero, List.set_cons_succ, i64_w, i32_w]
      rfl
     refine take_ (i := 7) (N := some 118) (v := ?_) (a' := ?_) (fl 12 511) rfl rfl (by kernel_rfl) (fun _ _ _ h => h) (Or.inl ⟨by rfl, ?_⟩) hHeld ?_ ?_
     rotate_left
     ·rintro w' ⟨s0, s1, s2, s3⟩
      have ja := (blk_cell s0 0).trans rfl
      have jb := (blk_cell s1 0).trans rfl
      have jc := (blk_cell s2 0).trans rfl
      have jd := (blk_cell s2 1).trans rfl
      have je := (blk_cell s3 0).trans rfl
      have jf := (blk_cell s3 1).trans rfl
      go_simp
      with_reducible rfl
     rotate_left
     ·simp only [Act.put, List.setIfInBounds_toArray, List.set_cons_zero, List.set_cons_succ, i64_w, i32_w]
      rfl
     refine one_ (i := 9) (N := none) (fl 12 1023) rfl rfl (by kernel_rfl) (by decide) (fun K hK => ?_)
     refine cx_step (base := w.heap.size) rfl rfl _ _ rfl p.1.toNat Y (pairV a0 a1 (rootV false r) bits s mode).1 (fun _ => True) rfl rfl (size38 (.int .i64 0) (.int .i64 0)) (Kd.R_drew RF.out) (by omega) ?_
     intro Wg hRg hgg hog hbg
     refine hK.out _ _ ⟨(hog _ n20).trans hHeld.1, (hog _ n9).trans hHeld.2.1, (hog _ n24).trans hHeld.2.2.1, (hog _ n25).trans hHeld.2.2.2⟩ (fun hHeld2 => ?_)
     have RG := Lib.hid hRg
     have OG := Lib.hid hog
     have BG := Lib.hid hbg
     have GG := Lib.hid hgg
     clear hK K hRg hgg hog hbg hHeld
     have hHeld := hHeld2
     clear hHeld2
     refine pure_ (i := 10) (N := some 120) (v := ?_) (a' := ?_) (fl 12 2047) rfl rfl (by kernel_rfl) (fun _ _ _ h => h) (Or.inl ⟨by rfl, ?_⟩) ?_ ?_
     rotate_left
     ·intro w'
      go_simp
      with_reducible rfl
     rotate_left
     ·simp only [Act.put, List.setIfInBounds_toArray, List.set_cons_zero, List.set_cons_succ, i64_w, i32_w]
      rfl
     refine one_ (i := 11) (N := none) (fl 12 4095) rfl rfl (by kernel_rfl) (by decide) (fun K hK => ?_)
     refine cx_step (base := w.heap.size) rfl rfl _ _ rfl (p.1 + h).toNat (Y.set p.1.toNat (pairV a0 a1 (rootV false r) bits s mode).1) (pairV a0 a1 (rootV false r) bits s mode).2 (fun _ => True) rfl rfl (size38 (.int .i64 0) (.int .i64 0)) RG.out (by omega) ?_
     intro Wh hRh hgh hoh hbh
     refine hK.out _ _ ⟨(hoh _ n20).trans hHeld.1, (hoh _ n9).trans hHeld.2.1, (hoh _ n24).trans hHeld.2.2.1, (hoh _ n25).trans hHeld.2.2.2⟩ (fun _ => ?_)
     clear hK K hHeld
     refine done_ (by kernel_rfl) ?_
     have same : ∀ k, k < W.heap.size → k ≠ g → Wh.heap[k]? = W.heap[k]? := fun k hk hne => (hoh k hne).trans ((OG.out k hne).trans (hF.block k hk))
     have n7 : g7 ≠ g := fun e => Kd.R_ne ER.out E7.out (by decide) (by rw [e]; rfl)
     have n8 : g8 ≠ g := fun e => Kd.R_ne ER.out E8.out (by decide) (by rw [e]; rfl)
     have n10 : g10 ≠ g := fun e => Kd.R_ne ER.out E10.out (by decide) (by rw [e]; rfl)
     have n11 : g11 ≠ g := fun e => Kd.R_ne ER.out E11.out (by decide) (by rw [e]; rfl)
     have n12 : g12 ≠ g := fun e => Kd.R_ne ER.out E12.out (by decide) (by rw [e]; rfl)
     have n13 : g13 ≠ g := fun e => Kd.R_ne ER.out E13.out (by decide) (by rw [e]; rfl)
     have nn : gn ≠ g := fun e => Kd.R_ne ER.out En.out (by decide) (by rw [e]; rfl)
     have nh : gh ≠ g := fun e => Kd.R_ne ER.out Eh.out (by decide) (by rw [e]; rfl)
     have hsz : W.heap.size ≤ Wh.heap.size := Nat.le_trans hF.size (Nat.le_trans GG.out.size hgh.size)
     refine ⟨⟨hsz, fun k o hk ho => (same k (Array.getElem?_eq_some_iff.1 hk).1 (fun e => by obtain ⟨cells, hc⟩ := Kd.R_typed ER.out g rfl; rw [e, hc] at hk; cases hk; cases ho)).trans hk⟩, ⟨same _ (blk_lt En.out) nn, same _ (blk_lt Eh.out) nh⟩, ⟨(same _ (blk_lt E7.out) n7).trans E7.out, (same _ (blk_lt E8.out) n8).trans E8.out, (same _ (blk_lt E9.out) n9).trans E9.out, (same _ (blk_lt E10.out) n10).trans E10.out, (same _ (blk_lt E11.out) n11).trans E11.out, (same _ (blk_lt E12.out) n12).trans E12.out, (same _ (blk_lt E13.out) n13).trans E13.out, (same _ (blk_lt E20.out) n20).trans E20.out, (same _ (blk_lt En.out) nn).trans En.out, (same _ (blk_lt Eh.out) nh).trans Eh.out⟩, ?_, hbh _ (BG.out _ (below_drew (EB.out.trans (hF.mono EB.out.size))))⟩
     rw [HPRE.out, HQ.out Y]
     exact hRh
   ·skip
    refine box_step rfl rfl (cs := #[.int .i64 0, .int .i64 0]) (t := 38) (by first | (go_simp; done) | (go_simp; rfl)) ?_
    intro g25 hg Wc hbox hbl
    refine hK.out _ _ (below_step hHeld hbl) (fun hHeld2 => ?_)
    have L25 : W2.heap.size ≤ g25 := by rw [hg]; exact hHeld.size
    have B25 := Lib.hid hbox
    clear hK K hbl hbox hg hHeld
    have hHeld := hHeld2
    clear hHeld2
    refine norm_ (a' := ?_) ?_ ?_
    rotate_left
    ·show Act.put _ (some 25) _ = _
     simp only [Act.put, List.setIfInBounds_toArray, List.set_cons_zero, List.set_cons_succ, i64_w, i32_w]
     rfl
    refine two_ (i := 14) (j := 18) (Ni := some 108) (Nj := some 24) (fl 22 557055) (fl 22 802815) rfl rfl rfl rfl (by kernel_rfl) (by decide) (by decide) (fun K hK => ?_) (fun K hK => ?_)
    ·skip
     refine goes_ Tryz.func81 (by kernel_rfl) rfl #[.agg #[.int .i64 a0.f0, .int .i64 a0.f1], .agg #[.int .i64 a1.f0, .int .i64 a1.f1], .agg #[.int .i64 r.f0, .int .i64 r.f1], .int .i64 bits, .int .i64 s, .int .i64 mode] (by rfl) rfl rfl (by go_simp) ?_
     refine (two_pair.calls _ _ _ _ _ _ _ _ _ _ _ _ _ _ HP.out).mono ?_
     rintro e Wc ⟨rfl, hb⟩
     refine ⟨_, rfl, ?_⟩
     refine hK.out _ _ (below_step hHeld hb) (fun hHeld => ?_)
     replace B25 := Lib.hid (blk_below B25.out hb)
     clear hK K hb
     refine norm_ (a' := ?_) ?_ ?_
     rotate_left
     ·show Act.put _ (some 108) _ = _
      simp only [Act.put, List.setIfInBounds_toArray, List.set_cons_zero, List.set_cons_succ, i64_w, i32_w]
      rfl
     refine pure_ (i := 15) (N := some 93) (v := ?_) (a' := ?_) (fl 22 589823) rfl rfl (by kernel_rfl) (fun _ _ _ h => h) (Or.inl ⟨by rfl, ?_⟩) ?_ ?_
     rotate_left
     ·intro w'
      go_simp
      with_reducible rfl
     rotate_left
     ·simp only [Act.put, List.setIfInBounds_toArray, List.set_cons_zero, List.set_cons_succ, i64_w, i32_w]
      rfl
     refine pure_ (i := 16) (N := some 109) (v := ?_) (a' := ?_) (fl 22 655359) rfl rfl (by kernel_rfl) (fun _ _ _ h => h) (Or.inl ⟨by rfl, ?_⟩) ?_ ?_
     rotate_left
     ·intro w'
      go_simp
      with_reducible rfl
     rotate_left
     ·simp only [Act.put, List.setIfInBounds_toArray, List.set_cons_zero, List.set_cons_succ, i64_w, i32_w]
      rfl
     refine pure_ (i := 17) (N := some 110) (v := ?_) (a' := ?_) (fl 22 786431) rfl rfl (by kernel_rfl) (fun _ _ _ h => h) (Or.inl ⟨by rfl, ?_⟩) ?_ ?_
     rotate_left
     ·intro w'
      go_simp
      with_reducible rfl
     rotate_left
     ·simp only [Act.put, List.setIfInBounds_toArray, List.set_cons_zero, List.set_cons_succ, i64_w, i32_w]
      rfl
     refine one_ (i := 18) (N := some 24) (fl 22 1048575) rfl rfl (by kernel_rfl) (by decide) (fun K hK => ?_)
     refine box_step rfl rfl (cs := #[.int .i64 0, .int .i64 0]) (t := 38) (by first | (go_simp; done) | (go_simp; rfl)) ?_
     intro g24 hg Wc hbox hbl
     refine hK.out _ _ (below_step hHeld hbl) (fun hHeld2 => ?_)
     have L24 : W2.heap.size ≤ g24 := by rw [hg]; exact hHeld.size
     have B24 := Lib.hid hbox
     have N2425 : g24 ≠ g25 := by have := blk_lt B25.out; omega
     replace B25 := Lib.hid (blk_below B25.out hbl)
     clear hK K hbl hbox hg hHeld
     have hHeld := hHeld2
     clear hHeld2
     refine norm_ (a' := ?_) ?_ ?_
     rotate_left
     ·show Act.put _ (some 24) _ = _
      simp only [Act.put, List.setIfInBounds_toArray, List.set_cons_zero, List.set_cons_succ, i64_w, i32_w]
      rfl

     refine one_ (i := 20) (N := none) (fl 22 2097151) rfl rfl (by kernel_rfl) (by decide) (fun K hK => ?_)
     refine row_step rfl rfl 38 _ _ rfl g24 #[.int .i64 (pairV a0 a1 (rootV false r) bits s mode).1.f0, .int .i64 (pairV a0 a1 (rootV false r) bits s mode).1.f1] rfl rfl 38 #[.int .i64 0, .int .i64 0] B24.out (size38 _ _) rfl (one38 _ _) ?_
     intro Wd hq hoth hbel
     refine hK.out _ _ (hbel _ _ L24 hHeld) (fun hHeld2 => ?_)
     replace B25 := Lib.hid ((hoth _ (Ne.symm N2425)).trans B25.out)
     replace B24 := Lib.hid hq
     clear hK K hq hoth hbel hHeld
     have hHeld := hHeld2
     clear hHeld2
     refine one_ (i := 21) (N := none) (fl 22 4194303) rfl rfl (by kernel_rfl) (by decide) (fun K hK => ?_)
     refine row_step rfl rfl 38 _ _ rfl g25 #[.int .i64 (pairV a0 a1 (rootV false r) bits s mode).2.f0, .int .i64 (pairV a0 a1 (rootV false r) bits s mode).2.f1] rfl rfl 38 #[.int .i64 0, .int .i64 0] B25.out (size38 _ _) rfl (one38 _ _) ?_
     intro Wf hq hoth hbel
     refine hK.out _ _ (hbel _ _ L25 hHeld) (fun hHeld2 => ?_)
     replace B24 := Lib.hid ((hoth _ N2425).trans B24.out)
     replace B25 := Lib.hid hq
     clear hK K hq hoth hbel hHeld
     have hF := below_step HB_2.out hHeld2
     clear hHeld2
     refine done_ (by kernel_rfl) ?_
     have L24' := Nat.le_trans (below_size HB_2.out) L24
     have L25' := Nat.le_trans (below_size HB_2.out) L25
     have RF := Lib.hid (Kd.R_below ER.out hF)
     have gW : g < W.heap.size := Kd.R_lt ER.out g rfl
     have n20 : g20 ≠ g := fun e => Kd.R_ne ER.out E20.out (by decide) (by rw [e]; rfl)
     have n9 : g9 ≠ g := fun e => Kd.R_ne ER.out E9.out (by decide) (by rw [e]; rfl)
     have n24 : g24 ≠ g := by omega
     have n25 : g25 ≠ g := by omega
     refine startR_ (S := fun w' => w'.heap[g20]? = some (.cells #[.slice (some ⟨g, 0, none⟩) l.length cap] 22 (0, 0)) ∧ w'.heap[g9]? = some (.cells #[.int .i64 h] 3 (0, 0)) ∧ w'.heap[g24]? = some (.cells #[.int .i64 (pairV a0 a1 (rootV false r) bits s mode).1.f0, .int .i64 (pairV a0 a1 (rootV false r) bits s mode).1.f1] 38 (0, 0)) ∧ w'.heap[g25]? = some (.cells #[.int .i64 (pairV a0 a1 (rootV false r) bits s mode).2.f0, .int .i64 (pairV a0 a1 (rootV false r) bits s mode).2.f1] 38 (0, 0))) (ds := []) (fl 12 0) hmx rfl rfl (by kernel_rfl) (fun ⟨_, _, q⟩ => q) ⟨blk_below E20.out hF.drew, blk_below E9.out hF.drew, B24.out, B25.out⟩ (fun hHeld => ?_)
     refine pure_ (i := 1) (N := some 112) (v := ?_) (a' := ?_) (fl 12 2) rfl rfl (by kernel_rfl) (fun _ _ _ h => h) (Or.inl ⟨by rfl, ?_⟩) ?_ ?_
     rotate_left
     ·intro w'
      go_simp
      with_reducible rfl
     rotate_left
     ·simp only [Act.put, List.setIfInBounds_toArray, List.set_cons_zero, List.set_cons_succ, i64_w, i32_w]
      rfl
     refine pure_ (i := 3) (N := some 114) (v := ?_) (a' := ?_) (fl 12 10) rfl rfl (by kernel_rfl) (fun _ _ _ h => h) (Or.inl ⟨by rfl, ?_⟩) ?_ ?_
     rotate_left
     ·intro w'
      go_simp
      with_reducible rfl
     rotate_left
     ·simp only [Act.put, List.setIfInBounds_toArray, List.set_cons_zero, List.set_cons_succ, i64_w, i32_w]
      rfl
     refine take_ (i := 0) (N := some 111) (v := ?_) (a' := ?_) (fl 12 11) rfl rfl (by kernel_rfl) (fun _ _ _ h => h) (Or.inl ⟨by rfl, ?_⟩) hHeld ?_ ?_
     rotate_left
     ·rintro w' ⟨s0, s1, s2, s3⟩
      have ja := (blk_cell s0 0).trans rfl
      have jb := (blk_cell s1 0).trans rfl
      have jc := (blk_cell s2 0).trans rfl
      have jd := (blk_cell s2 1).trans rfl
      have je := (blk_cell s3 0).trans rfl
      have jf := (blk_cell s3 1).trans rfl
      go_simp
      with_reducible rfl
     rotate_left
     ·simp only [Act.put, List.setIfInBounds_toArray, List.set_cons_zero, List.set_cons_succ, i64_w, i32_w]
      rfl
     refine take_ (i := 2) (N := some 113) (v := ?_) (a' := ?_) (fl 12 15) rfl rfl (by kernel_rfl) (fun _ _ _ h => h) (Or.inl ⟨by rfl, ?_⟩) hHeld ?_ ?_
     rotate_left
     ·rintro w' ⟨s0, s1, s2, s3⟩
      have ja := (blk_cell s0 0).trans rfl
      have jb := (blk_cell s1 0).trans rfl
      have jc := (blk_cell s2 0).trans rfl
      have jd := (blk_cell s2 1).trans rfl
      have je := (blk_cell s3 0).trans rfl
      have jf := (blk_cell s3 1).trans rfl
      go_simp
      with_reducible rfl
     rotate_left
     ·simp only [Act.put, List.setIfInBounds_toArray, List.set_cons_zero, List.set_cons_succ, i64_w, i32_w]
      rfl
     refine take_ (i := 4) (N := some 115) (v := ?_) (a' := ?_) (fl 12 31) rfl rfl (by kernel_rfl) (fun _ _ _ h => h) (Or.inl ⟨by rfl, ?_⟩) hHeld ?_ ?_
     rotate_left
     ·rintro w' ⟨s0, s1, s2, s3⟩
      have ja := (blk_cell s0 0).trans rfl
      have jb := (blk_cell s1 0).trans rfl
      have jc := (blk_cell s2 0).trans rfl
      have jd := (blk_cell s2 1).trans rfl
      have je := (blk_cell s3 0).trans rfl
      have jf := (blk_cell s3 1).trans rfl
      go_simp
      with_reducible rfl
     rotate_left
     ·simp only [Act.put, List.setIfInBounds_toArray, List.set_cons_zero, List.set_cons_succ, i64_w, i32_w]
      rfl
     refine pure_ (i := 5) (N := some 116) (v := ?_) (a' := ?_) (fl 12 63) rfl rfl (by kernel_rfl) (fun _ _ _ h => h) (Or.inl ⟨by rfl, ?_⟩) ?_ ?_
     rotate_left
     ·intro w'
      go_simp
      with_reducible rfl
     rotate_left
     ·simp only [Act.put, List.setIfInBounds_toArray, List.set_cons_zero, List.set_cons_succ, i64_w, i32_w]
      rfl
     refine take_ (i := 6) (N := some 117) (v := ?_) (a' := ?_) (fl 12 127) rfl rfl (by kernel_rfl) (fun _ _ _ h => h) (Or.inl ⟨by rfl, ?_⟩) hHeld ?_ ?_
     rotate_left
     ·rintro w' ⟨s0, s1, s2, s3⟩
      have ja := (blk_cell s0 0).trans rfl
      have jb := (blk_cell s1 0).trans rfl
      have jc := (blk_cell s2 0).trans rfl
      have jd := (blk_cell s2 1).trans rfl
      have je := (blk_cell s3 0).trans rfl
      have jf := (blk_cell s3 1).trans rfl
      go_simp
      with_reducible rfl
     rotate_left
     ·simp only [Act.put, List.setIfInBounds_toArray, List.set_cons_zero, List.set_cons_succ, i64_w, i32_w]
      rfl
     refine pure_ (i := 8) (N := some 119) (v := ?_) (a' := ?_) (fl 12 383) rfl rfl (by kernel_rfl) (fun _ _ _ h => h) (Or.inl ⟨by rfl, ?_⟩) ?_ ?_
     rotate_left
     ·intro w'
      go_simp
      with_reducible rfl
     rotate_left
     ·simp only [Act.put, List.setIfInBounds_toArray, List.set_cons_zero, List.set_cons_succ, i64_w, i32_w]
      rfl
     refine take_ (i := 7) (N := some 118) (v := ?_) (a' := ?_) (fl 12 511) rfl rfl (by kernel_rfl) (fun _ _ _ h => h) (Or.inl ⟨by rfl, ?_⟩) hHeld ?_ ?_
     rotate_left
     ·rintro w' ⟨s0, s1, s2, s3⟩
      have ja := (blk_cell s0 0).trans rfl
      have jb := (blk_cell s1 0).trans rfl
      have jc := (blk_cell s2 0).trans rfl
      have jd := (blk_cell s2 1).trans rfl
      have je := (blk_cell s3 0).trans rfl
      have jf := (blk_cell s3 1).trans rfl
      go_simp
      with_reducible rfl
     rotate_left
     ·simp only [Act.put, List.setIfInBounds_toArray, List.set_cons_zero, List.set_cons_succ, i64_w, i32_w]
      rfl
     refine one_ (i := 9) (N := none) (fl 12 1023) rfl rfl (by kernel_rfl) (by decide) (fun K hK => ?_)
     refine cx_step (base := w.heap.size) rfl rfl _ _ rfl p.1.toNat Y (pairV a0 a1 (rootV false r) bits s mode).1 (fun _ => True) rfl rfl (size38 (.int .i64 0) (.int .i64 0)) (Kd.R_drew RF.out) (by omega) ?_
     intro Wg hRg hgg hog hbg
     refine hK.out _ _ ⟨(hog _ n20).trans hHeld.1, (hog _ n9).trans hHeld.2.1, (hog _ n24).trans hHeld.2.2.1, (hog _ n25).trans hHeld.2.2.2⟩ (fun hHeld2 => ?_)
     have RG := Lib.hid hRg
     have OG := Lib.hid hog
     have BG := Lib.hid hbg
     have GG := Lib.hid hgg
     clear hK K hRg hgg hog hbg hHeld
     have hHeld := hHeld2
     clear hHeld2
     refine pure_ (i := 10) (N := some 120) (v := ?_) (a' := ?_) (fl 12 2047) rfl rfl (by kernel_rfl) (fun _ _ _ h => h) (Or.inl ⟨by rfl, ?_⟩) ?_ ?_
     rotate_left
     ·intro w'
      go_simp
      with_reducible rfl
     rotate_left
     ·simp only [Act.put, List.setIfInBounds_toArray, List.set_cons_zero, List.set_cons_succ, i64_w, i32_w]
      rfl
     refine one_ (i := 11) (N := none) (fl 12 4095) rfl rfl (by kernel_rfl) (by decide) (fun K hK => ?_)
     refine cx_step (base := w.heap.size) rfl rfl _ _ rfl (p.1 + h).toNat (Y.set p.1.toNat (pairV a0 a1 (rootV false r) bits s mode).1) (pairV a0 a1 (rootV false r) bits s mode).2 (fun _ => True) rfl rfl (size38 (.int .i64 0) (.int .i64 0)) RG.out (by omega) ?_
     intro Wh hRh hgh hoh hbh
     refine hK.out _ _ ⟨(hoh _ n20).trans hHeld.1, (hoh _ n9).trans hHeld.2.1, (hoh _ n24).trans hHeld.2.2.1, (hoh _ n25).trans hHeld.2.2.2⟩ (fun _ => ?_)
     clear hK K hHeld
     refine done_ (by kernel_rfl) ?_
     have same : ∀ k, k < W.heap.size → k ≠ g → Wh.heap[k]? = W.heap[k]? := fun k hk hne => (hoh k hne).trans ((OG.out k hne).trans (hF.block k hk))
     have n7 : g7 ≠ g := fun e => Kd.R_ne ER.out E7.out (by decide) (by rw [e]; rfl)
     have n8 : g8 ≠ g := fun e => Kd.R_ne ER.out E8.out (by decide) (by rw [e]; rfl)
     have n10 : g10 ≠ g := fun e => Kd.R_ne ER.out E10.out (by decide) (by rw [e]; rfl)
     have n11 : g11 ≠ g := fun e => Kd.R_ne ER.out E11.out (by decide) (by rw [e]; rfl)
     have n12 : g12 ≠ g := fun e => Kd.R_ne ER.out E12.out (by decide) (by rw [e]; rfl)
     have n13 : g13 ≠ g := fun e => Kd.R_ne ER.out E13.out (by decide) (by rw [e]; rfl)
     have nn : gn ≠ g := fun e => Kd.R_ne ER.out En.out (by decide) (by rw [e]; rfl)
     have nh : gh ≠ g := fun e => Kd.R_ne ER.out Eh.out (by decide) (by rw [e]; rfl)
     have hsz : W.heap.size ≤ Wh.heap.size := Nat.le_trans hF.size (Nat.le_trans GG.out.size hgh.size)
     refine ⟨⟨hsz, fun k o hk ho => (same k (Array.getElem?_eq_some_iff.1 hk).1 (fun e => by obtain ⟨cells, hc⟩ := Kd.R_typed ER.out g rfl; rw [e, hc] at hk; cases hk; cases ho)).trans hk⟩, ⟨same _ (blk_lt En.out) nn, same _ (blk_lt Eh.out) nh⟩, ⟨(same _ (blk_lt E7.out) n7).trans E7.out, (same _ (blk_lt E8.out) n8).trans E8.out, (same _ (blk_lt E9.out) n9).trans E9.out, (same _ (blk_lt E10.out) n10).trans E10.out, (same _ (blk_lt E11.out) n11).trans E11.out, (same _ (blk_lt E12.out) n12).trans E12.out, (same _ (blk_lt E13.out) n13).trans E13.out, (same _ (blk_lt E20.out) n20).trans E20.out, (same _ (blk_lt En.out) nn).trans En.out, (same _ (blk_lt Eh.out) nh).trans Eh.out⟩, ?_, hbh _ (BG.out _ (below_drew (EB.out.trans (hF.mono EB.out.size))))⟩
     rw [HPRE.out, HQ.out Y]
     exact hRh
    ·skip
     refine box_step rfl rfl (cs := #[.int .i64 0, .int .i64 0]) (t := 38) (by first | (go_simp; done) | (go_simp; rfl)) ?_
     intro g24 hg Wc hbox hbl
     refine hK.out _ _ (below_step hHeld hbl) (fun hHeld2 => ?_)
     have L24 : W2.heap.size ≤ g24 := by rw [hg]; exact hHeld.size
     have B24 := Lib.hid hbox
     have N2425 : g24 ≠ g25 := by have := blk_lt B25.out; omega
     replace B25 := Lib.hid (blk_below B25.out hbl)
     clear hK K hbl hbox hg hHeld
     have hHeld := hHeld2
     clear hHeld2
     refine norm_ (a' := ?_) ?_ ?_
     rotate_left
     ·show Act.put _ (some 24) _ = _
      simp only [Act.put, List.setIfInBounds_toArray, List.set_cons_zero, List.set_cons_succ, i64_w, i32_w]
      rfl
     refine one_ (i := 14) (N := some 108) (fl 22 819199) rfl rfl (by kernel_rfl) (by decide) (fun K hK => ?_)
     refine goes_ Tryz.func81 (by kernel_rfl) rfl #[.agg #[.int .i64 a0.f0, .int .i64 a0.f1], .agg #[.int .i64 a1.f0, .int .i64 a1.f1], .agg #[.int .i64 r.f0, .int .i64 r.f1], .int .i64 bits, .int .i64 s, .int .i64 mode] (by rfl) rfl rfl (by go_simp) ?_
     refine (two_pair.calls _ _ _ _ _ _ _ _ _ _ _ _ _ _ HP.out).mono ?_
     rintro e Wc ⟨rfl, hb⟩
     refine ⟨_, rfl, ?_⟩
     refine hK.out _ _ (below_step hHeld hb) (fun hHeld => ?_)
     replace B24 := Lib.hid (blk_below B24.out hb)
     replace B25 := Lib.hid (blk_below B25.out hb)
     clear hK K hb
     refine norm_ (a' := ?_) ?_ ?_
     rotate_left
     ·show Act.put _ (some 108) _ = _
      simp only [Act.put, List.setIfInBounds_toArray, List.set_cons_zero, List.set_cons_succ, i64_w, i32_w]
      rfl
     refine pure_ (i := 15) (N := some 93) (v := ?_) (a' := ?_) (fl 22 851967) rfl rfl (by kernel_rfl) (fun _ _ _ h => h) (Or.inl ⟨by rfl, ?_⟩) ?_ ?_
     rotate_left
     ·intro w'
      go_simp
      with_reducible rfl
     rotate_left
     ·simp only [Act.put, List.setIfInBounds_toArray, List.set_cons_zero, List.set_cons_succ, i64_w, i32_w]
      rfl
     refine pure_ (i := 16) (N := some 109) (v := ?_) (a' := ?_) (fl 22 917503) rfl rfl (by kernel_rfl) (fun _ _ _ h => h) (Or.inl ⟨by rfl, ?_⟩) ?_ ?_
     rotate_left
     ·intro w'
      go_simp
      with_reducible rfl
     rotate_left
     ·simp only [Act.put, List.setIfInBounds_toArray, List.set_cons_zero, List.set_cons_succ, i64_w, i32_w]
      rfl
     refine pure_ (i := 17) (N := some 110) (v := ?_) (a' := ?_) (fl 22 1048575) rfl rfl (by kernel_rfl) (fun _ _ _ h => h) (Or.inl ⟨by rfl, ?_⟩) ?_ ?_
     rotate_left
     ·intro w'
      go_simp
      with_reducible rfl
     rotate_left
     ·simp only [Act.put, List.setIfInBounds_toArray, List.set_cons_zero, List.set_cons_succ, i64_w, i32_w]
      rfl

     refine one_ (i := 20) (N := none) (fl 22 2097151) rfl rfl (by kernel_rfl) (by decide) (fun K hK => ?_)
     refine row_step rfl rfl 38 _ _ rfl g24 #[.int .i64 (pairV a0 a1 (rootV false r) bits s mode).1.f0, .int .i64 (pairV a0 a1 (rootV false r) bits s mode).1.f1] rfl rfl 38 #[.int .i64 0, .int .i64 0] B24.out (size38 _ _) rfl (one38 _ _) ?_
     intro Wd hq hoth hbel
     refine hK.out _ _ (hbel _ _ L24 hHeld) (fun hHeld2 => ?_)
     replace B25 := Lib.hid ((hoth _ (Ne.symm N2425)).trans B25.out)
     replace B24 := Lib.hid hq
     clear hK K hq hoth hbel hHeld
     have hHeld := hHeld2
     clear hHeld2
     refine one_ (i := 21) (N := none) (fl 22 4194303) rfl rfl (by kernel_rfl) (by decide) (fun K hK => ?_)
     refine row_step rfl rfl 38 _ _ rfl g25 #[.int .i64 (pairV a0 a1 (rootV false r) bits s mode).2.f0, .int .i64 (pairV a0 a1 (rootV false r) bits s mode).2.f1] rfl rfl 38 #[.int .i64 0, .int .i64 0] B25.out (size38 _ _) rfl (one38 _ _) ?_
     intro Wf hq hoth hbel
     refine hK.out _ _ (hbel _ _ L25 hHeld) (fun hHeld2 => ?_)
     replace B24 := Lib.hid ((hoth _ N2425).trans B24.out)
     replace B25 := Lib.hid hq
     clear hK K hq hoth hbel hHeld
     have hF := below_step HB_2.out hHeld2
     clear hHeld2
     refine done_ (by kernel_rfl) ?_
     have L24' := Nat.le_trans (below_size HB_2.out) L24
     have L25' := Nat.le_trans (below_size HB_2.out) L25
     have RF := Lib.hid (Kd.R_below ER.out hF)
     have gW : g < W.heap.size := Kd.R_lt ER.out g rfl
     have n20 : g20 ≠ g := fun e => Kd.R_ne ER.out E20.out (by decide) (by rw [e]; rfl)
     have n9 : g9 ≠ g := fun e => Kd.R_ne ER.out E9.out (by decide) (by rw [e]; rfl)
     have n24 : g24 ≠ g := by omega
     have n25 : g25 ≠ g := by omega
     refine startR_ (S := fun w' => w'.heap[g20]? = some (.cells #[.slice (some ⟨g, 0, none⟩) l.length cap] 22 (0, 0)) ∧ w'.heap[g9]? = some (.cells #[.int .i64 h] 3 (0, 0)) ∧ w'.heap[g24]? = some (.cells #[.int .i64 (pairV a0 a1 (rootV false r) bits s mode).1.f0, .int .i64 (pairV a0 a1 (rootV false r) bits s mode).1.f1] 38 (0, 0)) ∧ w'.heap[g25]? = some (.cells #[.int .i64 (pairV a0 a1 (rootV false r) bits s mode).2.f0, .int .i64 (pairV a0 a1 (rootV false r) bits s mode).2.f1] 38 (0, 0))) (ds := []) (fl 12 0) hmx rfl rfl (by kernel_rfl) (fun ⟨_, _, q⟩ => q) ⟨blk_below E20.out hF.drew, blk_below E9.out hF.drew, B24.out, B25.out⟩ (fun hHeld => ?_)
     refine pure_ (i := 1) (N := some 112) (v := ?_) (a' := ?_) (fl 12 2) rfl rfl (by kernel_rfl) (fun _ _ _ h => h) (Or.inl ⟨by rfl, ?_⟩) ?_ ?_
     rotate_left
     ·intro w'
      go_simp
      with_reducible rfl
     rotate_left
     ·simp only [Act.put, List.setIfInBounds_toArray, List.set_cons_zero, List.set_cons_succ, i64_w, i32_w]
      rfl
     refine pure_ (i := 3) (N := some 114) (v := ?_) (a' := ?_) (fl 12 10) rfl rfl (by kernel_rfl) (fun _ _ _ h => h) (Or.inl ⟨by rfl, ?_⟩) ?_ ?_
     rotate_left
     ·intro w'
      go_simp
      with_reducible rfl
     rotate_left
     ·simp only [Act.put, List.setIfInBounds_toArray, List.set_cons_zero, List.set_cons_succ, i64_w, i32_w]
      rfl
     refine take_ (i := 0) (N := some 111) (v := ?_) (a' := ?_) (fl 12 11) rfl rfl (by kernel_rfl) (fun _ _ _ h => h) (Or.inl ⟨by rfl, ?_⟩) hHeld ?_ ?_
     rotate_left
     ·rintro w' ⟨s0, s1, s2, s3⟩
      have ja := (blk_cell s0 0).trans rfl
      have jb := (blk_cell s1 0).trans rfl
      have jc := (blk_cell s2 0).trans rfl
      have jd := (blk_cell s2 1).trans rfl
      have je := (blk_cell s3 0).trans rfl
      have jf := (blk_cell s3 1).trans rfl
      go_simp
      with_reducible rfl
     rotate_left
     ·simp only [Act.put, List.setIfInBounds_toArray, List.set_cons_zero, List.set_cons_succ, i64_w, i32_w]
      rfl
     refine take_ (i := 2) (N := some 113) (v := ?_) (a' := ?_) (fl 12 15) rfl rfl (by kernel_rfl) (fun _ _ _ h => h) (Or.inl ⟨by rfl, ?_⟩) hHeld ?_ ?_
     rotate_left
     ·rintro w' ⟨s0, s1, s2, s3⟩
      have ja := (blk_cell s0 0).trans rfl
      have jb := (blk_cell s1 0).trans rfl
      have jc := (blk_cell s2 0).trans rfl
      have jd := (blk_cell s2 1).trans rfl
      have je := (blk_cell s3 0).trans rfl
      have jf := (blk_cell s3 1).trans rfl
      go_simp
      with_reducible rfl
     rotate_left
     ·simp only [Act.put, List.setIfInBounds_toArray, List.set_cons_zero, List.set_cons_succ, i64_w, i32_w]
      rfl
     refine take_ (i := 4) (N := some 115) (v := ?_) (a' := ?_) (fl 12 31) rfl rfl (by kernel_rfl) (fun _ _ _ h => h) (Or.inl ⟨by rfl, ?_⟩) hHeld ?_ ?_
     rotate_left
     ·rintro w' ⟨s0, s1, s2, s3⟩
      have ja := (blk_cell s0 0).trans rfl
      have jb := (blk_cell s1 0).trans rfl
      have jc := (blk_cell s2 0).trans rfl
      have jd := (blk_cell s2 1).trans rfl
      have je := (blk_cell s3 0).trans rfl
      have jf := (blk_cell s3 1).trans rfl
      go_simp
      with_reducible rfl
     rotate_left
     ·simp only [Act.put, List.setIfInBounds_toArray, List.set_cons_zero, List.set_cons_succ, i64_w, i32_w]
      rfl
     refine pure_ (i := 5) (N := some 116) (v := ?_) (a' := ?_) (fl 12 63) rfl rfl (by kernel_rfl) (fun _ _ _ h => h) (Or.inl ⟨by rfl, ?_⟩) ?_ ?_
     rotate_left
     ·intro w'
      go_simp
      with_reducible rfl
     rotate_left
     ·simp only [Act.put, List.setIfInBounds_toArray, List.set_cons_zero, List.set_cons_succ, i64_w, i32_w]
      rfl
     refine take_ (i := 6) (N := some 117) (v := ?_) (a' := ?_) (fl 12 127) rfl rfl (by kernel_rfl) (fun _ _ _ h => h) (Or.inl ⟨by rfl, ?_⟩) hHeld ?_ ?_
     rotate_left
     ·rintro w' ⟨s0, s1, s2, s3⟩
      have ja := (blk_cell s0 0).trans rfl
      have jb := (blk_cell s1 0).trans rfl
      have jc := (blk_cell s2 0).trans rfl
      have jd := (blk_cell s2 1).trans rfl
      have je := (blk_cell s3 0).trans rfl
      have jf := (blk_cell s3 1).trans rfl
      go_simp
      with_reducible rfl
     rotate_left
     ·simp only [Act.put, List.setIfInBounds_toArray, List.set_cons_zero, List.set_cons_succ, i64_w, i32_w]
      rfl
     refine pure_ (i := 8) (N := some 119) (v := ?_) (a' := ?_) (fl 12 383) rfl rfl (by kernel_rfl) (fun _ _ _ h => h) (Or.inl ⟨by rfl, ?_⟩) ?_ ?_
     rotate_left
     ·intro w'
      go_simp
      with_reducible rfl
     rotate_left
     ·simp only [Act.put, List.setIfInBounds_toArray, List.set_cons_zero, List.set_cons_succ, i64_w, i32_w]
      rfl
     refine take_ (i := 7) (N := some 118) (v := ?_) (a' := ?_) (fl 12 511) rfl rfl (by kernel_rfl) (fun _ _ _ h => h) (Or.inl ⟨by rfl, ?_⟩) hHeld ?_ ?_
     rotate_left
     ·rintro w' ⟨s0, s1, s2, s3⟩
      have ja := (blk_cell s0 0).trans rfl
      have jb := (blk_cell s1 0).trans rfl
      have jc := (blk_cell s2 0).trans rfl
      have jd := (blk_cell s2 1).trans rfl
      have je := (blk_cell s3 0).trans rfl
      have jf := (blk_cell s3 1).trans rfl
      go_simp
      with_reducible rfl
     rotate_left
     ·simp only [Act.put, List.setIfInBounds_toArray, List.set_cons_zero, List.set_cons_succ, i64_w, i32_w]
      rfl
     refine one_ (i := 9) (N := none) (fl 12 1023) rfl rfl (by kernel_rfl) (by decide) (fun K hK => ?_)
     refine cx_step (base := w.heap.size) rfl rfl _ _ rfl p.1.toNat Y (pairV a0 a1 (rootV false r) bits s mode).1 (fun _ => True) rfl rfl (size38 (.int .i64 0) (.int .i64 0)) (Kd.R_drew RF.out) (by omega) ?_
     intro Wg hRg hgg hog hbg
     refine hK.out _ _ ⟨(hog _ n20).trans hHeld.1, (hog _ n9).trans hHeld.2.1, (hog _ n24).trans hHeld.2.2.1, (hog _ n25).trans hHeld.2.2.2⟩ (fun hHeld2 => ?_)
     have RG := Lib.hid hRg
     have OG := Lib.hid hog
     have BG := Lib.hid hbg
     have GG := Lib.hid hgg
     clear hK K hRg hgg hog hbg hHeld
     have hHeld := hHeld2
     clear hHeld2
     refine pure_ (i := 10) (N := some 120) (v := ?_) (a' := ?_) (fl 12 2047) rfl rfl (by kernel_rfl) (fun _ _ _ h => h) (Or.inl ⟨by rfl, ?_⟩) ?_ ?_
     rotate_left
     ·intro w'
      go_simp
      with_reducible rfl
     rotate_left
     ·simp only [Act.put, List.setIfInBounds_toArray, List.set_cons_zero, List.set_cons_succ, i64_w, i32_w]
      rfl
     refine one_ (i := 11) (N := none) (fl 12 4095) rfl rfl (by kernel_rfl) (by decide) (fun K hK => ?_)
     refine cx_step (base := w.heap.size) rfl rfl _ _ rfl (p.1 + h).toNat (Y.set p.1.toNat (pairV a0 a1 (rootV false r) bits s mode).1) (pairV a0 a1 (rootV false r) bits s mode).2 (fun _ => True) rfl rfl (size38 (.int .i64 0) (.int .i64 0)) RG.out (by omega) ?_
     intro Wh hRh hgh hoh hbh
     refine hK.out _ _ ⟨(hoh _ n20).trans hHeld.1, (hoh _ n9).trans hHeld.2.1, (hoh _ n24).trans hHeld.2.2.1, (hoh _ n25).trans hHeld.2.2.2⟩ (fun _ => ?_)
     clear hK K hHeld
     refine done_ (by kernel_rfl) ?_
     have same : ∀ k, k < W.heap.size → k ≠ g → Wh.heap[k]? = W.heap[k]? := fun k hk hne => (hoh k hne).trans ((OG.out k hne).trans (hF.block k hk))
     have n7 : g7 ≠ g := fun e => Kd.R_ne ER.out E7.out (by decide) (by rw [e]; rfl)
     have n8 : g8 ≠ g := fun e => Kd.R_ne ER.out E8.out (by decide) (by rw [e]; rfl)
     have n10 : g10 ≠ g := fun e => Kd.R_ne ER.out E10.out (by decide) (by rw [e]; rfl)
     have n11 : g11 ≠ g := fun e => Kd.R_ne ER.out E11.out (by decide) (by rw [e]; rfl)
     have n12 : g12 ≠ g := fun e => Kd.R_ne ER.out E12.out (by decide) (by rw [e]; rfl)
     have n13 : g13 ≠ g := fun e => Kd.R_ne ER.out E13.out (by decide) (by rw [e]; rfl)
     have nn : gn ≠ g := fun e => Kd.R_ne ER.out En.out (by decide) (by rw [e]; rfl)
     have nh : gh ≠ g := fun e => Kd.R_ne ER.out Eh.out (by decide) (by rw [e]; rfl)
     have hsz : W.heap.size ≤ Wh.heap.size := Nat.le_trans hF.size (Nat.le_trans GG.out.size hgh.size)
     refine ⟨⟨hsz, fun k o hk ho => (same k (Array.getElem?_eq_some_iff.1 hk).1 (fun e => by obtain ⟨cells, hc⟩ := Kd.R_typed ER.out g rfl; rw [e, hc] at hk; cases hk; cases ho)).trans hk⟩, ⟨same _ (blk_lt En.out) nn, same _ (blk_lt Eh.out) nh⟩, ⟨(same _ (blk_lt E7.out) n7).trans E7.out, (same _ (blk_lt E8.out) n8).trans E8.out, (same _ (blk_lt E9.out) n9).trans E9.out, (same _ (blk_lt E10.out) n10).trans E10.out, (same _ (blk_lt E11.out) n11).trans E11.out, (same _ (blk_lt E12.out) n12).trans E12.out, (same _ (blk_lt E13.out) n13).trans E13.out, (same _ (blk_lt E20.out) n20).trans E20.out, (same _ (blk_lt En.out) nn).trans En.out, (same _ (blk_lt Eh.out) nh).trans Eh.out⟩, ?_, hbh _ (BG.out _ (below_drew (EB.out.trans (hF.mono EB.out.size))))⟩
     rw [HPRE.out, HQ.out Y]
     exact hRh

 case done =>
  rintro D ys W hD hys ⟨⟨h7, h8, h9, h10, h11, h12, h13, h20, hn, hh⟩, hR, hB⟩ hK
  have k20 : W.cell? ⟨g20, 0, none⟩ = some (.slice (some ⟨g, 0, none⟩) l.length cap) := (blk_cell h20 0).trans rfl
  have ER := Lib.hid hR
  have EB := Lib.hid hB
  clear h7 h8 h9 h10 h11 h12 h13 hn hh hR hB h20
  go_wp2
  refine ⟨by simp, .inl ⟨_, _, rfl, run_takeDeferred hK, ?_⟩⟩
  have gD : D ≠ g := fun e => by
   obtain ⟨cells, hc⟩ := Kd.R_typed ER.out g rfl
   rw [e, hc] at hK
   cases hK
  have hg := grownBy_putObj' W D (.deferred none)
  exact ⟨_, results_two rfl _ _ _, _, rfl, by rw [hys] at ER; exact row_own ER.out hg (fun r e => by cases e; exact ⟨_, hK, rfl⟩), EB.out.grown hg EB.out.size (fun k e => by cases e; exact Nat.le_trans (below_size HB_15.out) hD)⟩
 case stop =>
  rintro D c pre W _ _ h _
  exact h.elim
end Go.Proofs.YteieahbadclppaaGreat.P

namespace Go.Proofs.YteieahbadclppaaGreat.P
open Go.RowKit Go.Shelf Go.Proofs.YteieahbadclppaaGreatW.PrintWords Go.Proofs.YteieahbadclppaaGreatW.PrintLast Go.Proofs.YteieahbadclppaaGreatW.PrintMore
set_option linter.unusedVariables false
set_option linter.unusedSimpArgs false
attribute [local go_sem] Oper.semAt_some
theorem wp_normal_ {P : Program} {c : Code} {Q : Exit → Act → World → Prop} {a : Act} {w : World} (h : c.wp P (fun e a w => e = .normal ∧ Q .normal a w) a w) : c.wp P Q a w := Code.wp_mono (fun e a w h1 => by obtain ⟨rfl, h2⟩ := h1; exact h2) h
set_option maxRecDepth 100000 in
set_option maxHeartbeats 4000000 in
theorem states_seq (n : Nat) (hn : 1 ≤ n) (B1 B2 G : Nat) (A : Option Addr) (cc : Nat) (l : List Int) (c : Int) (hl : l.length ≤ 1000) (h0 : 0 < l.length) (w0 w : World) (hG0 : w0.heap.size ≤ G) (hG : G < w.heap.size) (hw : Below w0.heap.size w0 w) (hC : Kd.C (Kd.int .i64) w0 A l.length l)
  (hne1 : B1 ≠ G) (hne2 : B2 ≠ G) (hb1 : w.heap[B1]? = some (.cells #[.slice A l.length cc] 26 (0, 0))) (hb2 : w.heap[B2]? = some (.cells #[.int .i64 c] 3 (0, 0))) :
  SeqC Fence.wide n Tryz.prog 56 #[.pointer (some ⟨B1, 0, none⟩), .pointer (some ⟨B2, 0, none⟩)] (fun x : Int => #[Value.int .i64 x]) (KeepG G) (statesTo c l l.length) w := by
 obtain ⟨ad, o, rfl, hr⟩ := rowAt_of hC h0
 intro lY J W hW hJ hY hJ0
 have hlt := blk_lt hr.1
 refine states1_in n hn lY B1 B2 G ad o cc l c hl J W hJ ?_ (Nat.lt_of_lt_of_le hG hW.size) hne1 hne2 (by omega) (blk_below hb1 hW) (blk_below hb2 hW) (rowAt_below (rowAt_below hr hw) hW) hJ0
 intro pre x W1 h1 h2
 exact hY pre x W1 h1 (by rw [statesTo_len]; exact h2)
theorem keepG_p {G : Nat} (W : World) (l : Nat) (o o' : Obj) (h1 : W.heap[l]? = some o) (h2 : o.isCells = false) : KeepG G W (W.putObj l o') :=
 ⟨by simp [World.putObj], fun k q h4 h5 h6 => by
  have hne : k ≠ l := fun e => by subst e; rw [h1] at h4; cases h4; rw [h2] at h5; cases h5
  rw [World.putObj_heap_other hne]; exact h4⟩
def lastTwo (pre : List Int) : Int × Int := pre.foldl (fun t s => (s, t.1)) (0, 0)
theorem lastTwo_states (c : Int) (l : List Int) : ∀ k, lastTwo (statesTo c l k) = stAt c l k
 | 0 => rfl
 | k + 1 => by
  have h := lastTwo_states c l k
  unfold lastTwo at h ⊢
  rw [show statesTo c l (k + 1) = statesTo c l k ++ [(stAt c l (k + 1)).1] from rfl, List.foldl_append, h]
  rfl
theorem lastTwo_snoc (pre : List Int) (x : Int) : lastTwo (pre ++ [x]) = (x, (lastTwo pre).1) := by
 unfold lastTwo; rw [List.foldl_append]; rfl
def InvS (g4 g6 g8 : Nat) (r1 r2 : Int) (w : World) (pre : List Int) (W : World) : Prop :=
 W.heap[g4]? = some (.cells #[.int .i64 0, .int .i64 0] 38 (0, 0)) ∧ W.heap[g6]? = some (.cells #[.int .i64 r1, .int .i64 r2] 38 (0, 0)) ∧ W.heap[g8]? = some (.cells #[.int .i64 (lastTwo pre).1, .int .i64 (lastTwo pre).2] 70 (0, 0)) ∧ Below w.heap.size w W
theorem grown_blk {W W' : World} {row : Option Nat} {g B : Nat} {o : Obj} (hb : W.heap[g]? = some o) (hg : W.grownBy W' row) (hr : ∀ r, row = some r → B ≤ r) (hlt : g < B) : W'.heap[g]? = some o :=
 (hg.block g (blk_lt hb) (fun e => by have := hr g e.symm; omega)).trans hb
set_option maxRecDepth 100000 in
set_option maxHeartbeats 4000000 in
theorem Bin_yes (A : Option Addr) (c : Nat) (l : List Int) (k lg r1 r2 : Int) (kl : Nat) (hlog : flip_Log.f kl l.length = some (lg, 0)) (hf : l.any farInt = false) (hrt : roots_Root.f lg k 13 = some (r1, r2, 0)) (h0 : 0 < l.length) (h1 : l.length ≤ 64) (w : World) (hr : Kd.C (Kd.int .i64) w A l.length l) (hc : l.length ≤ c) :
  Calls Tryz.prog 11 #[.slice A l.length c, .int .i64 k] w fun e w' => e = .returned (.tuple #[.agg #[.int .i64 (wrap64 (partV (wrap64 (r1 * (stAt r1 l l.length).1)) - (stAt r1 l l.length).2)), .int .i64 (partV (wrap64 (wrap64 (-r2) * (stAt r1 l l.length).1)))], .int .i64 0]) ∧ Below w.heap.size w w' := by
 have hmx : Tryz.prog.follows .mixedOrders = true := by kernel_rfl
 have HR := Lib.hid hr
 have HC := Lib.hid hc
 have HLOG := Lib.hid hlog
 have HF := Lib.hid hf
 have HRT := Lib.hid hrt
 have HN0 := Lib.hid h0
 have HN1 := Lib.hid h1
 have HB0 := Lib.hid (Below.refl w.heap.size w)
 clear hr hc hlog hf hrt h0 h1
 refine (callsIn_wide (n := 10)).1 ?_
 refine callsIn_of_wp_marks Tryz.func11 rfl trivial ?_ rfl
 simp only [Tryz.ntmps11, List.size_toArray, List.length_cons, List.length_nil, Nat.reduceAdd, Nat.reduceSub, Array.replicate_succ, Array.replicate_zero, List.push_toArray, List.append_toArray, List.nil_append, List.cons_append]
 refine wpIn_wide.2 ?_
 go_wp2_with (first
  | ((with_reducible refine gate_dst (N := 4) rfl ?_); refine box_event ?hg (N := 4) ?hd (cs := #[.int .i64 0, .int .i64 0]) (t := 38) ?hr ?_; (case hd => rfl); (case hg => rfl); (case hr => first | (go_simp; done) | (go_simp; rfl)); intro g4 hg W1 hbox hbl; have L4 : w.heap.size ≤ g4 := (by rw [hg]; exact below_size HB0.out); have B4_1 := Lib.hid hbox; have HB_1 := Lib.hid (below_step HB0.out hbl); have Cx_1 := Lib.hid (Kd.C_below HR.out HB_1.out); have k4_0_1 : W1.cell? ⟨g4, 0, none⟩ = some (.int .i64 0) := (blk_cell B4_1.out 0).trans rfl; have k4_1_1 : W1.cell? ⟨g4, 1, none⟩ = some (.int .i64 0) := (blk_cell B4_1.out 1).trans rfl; clear hbox hbl hg)
  | (go_at_call 25; (with_reducible refine (look_yes A c l k lg r1 r2 kl HLOG.out HF.out HRT.out _ Cx_1.out HC.out).mono ?_); rintro e W2 ⟨rfl, hb⟩; have HB_2 := Lib.hid (below_step HB_1.out hb); have B4_2 := Lib.hid (blk_below B4_1.out hb); have Cx_2 := Lib.hid (Kd.C_below HR.out HB_2.out); have k4_0_2 : W2.cell? ⟨g4, 0, none⟩ = some (.int .i64 0) := (blk_cell B4_2.out 0).trans rfl; have k4_1_2 : W2.cell? ⟨g4, 1, none⟩ = some (.int .i64 0) := (blk_cell B4_2.out 1).trans rfl; clear k4_0_1 k4_1_1; clear hb)
  | ((with_reducible refine gate_dst (N := 6) rfl ?_); refine box_event ?hg (N := 6) ?hd (cs := #[.int .i64 0, .int .i64 0]) (t := 38) ?hr ?_; (case hd => rfl); (case hg => rfl); (case hr => first | (go_simp; done) | (go_simp; rfl)); intro g6 hg W3 hbox hbl; have L6 : w.heap.size ≤ g6 := (by rw [hg]; exact below_size HB_2.out); have B6_3 := Lib.hid hbox; have HB_3 := Lib.hid (below_step HB_2.out hbl); have B4_3 := Lib.hid (blk_below B4_2.out hbl); have Cx_3 := Lib.hid (Kd.C_below HR.out HB_3.out); have k4_0_3 : W3.cell? ⟨g4, 0, none⟩ = some (.int .i64 0) := (blk_cell B4_3.out 0).trans rfl; have k4_1_3 : W3.cell? ⟨g4, 1, none⟩ = some (.int .i64 0) := (blk_cell B4_3.out 1).trans rfl; clear k4_0_2 k4_1_2; have k6_0_3 : W3.cell? ⟨g6, 0, none⟩ = some (.int .i64 0) := (blk_cell B6_3.out 0).trans rfl; have k6_1_3 : W3.cell? ⟨g6, 1, none⟩ = some (.int .i64 0) := (blk_cell B6_3.out 1).trans rfl; have NE46 := Lib.hid (show g4 ≠ g6 from fun e => by have := blk_lt B4_2.out; omega); clear hbox hbl hg)
  | ((with_reducible refine gate_store (t := 38) (p := 6) rfl ?_); refine row_event rfl 38 _ _ rfl g6 #[.int .i64 r1, .int .i64 r2] rfl rfl 38 #[.int .i64 0, .int .i64 0] B6_3.out (size38 _ _) rfl (one38 _ _) ?_; intro W4 hq hoth hbel; have B6_4 := Lib.hid hq; have HB_4 := Lib.hid (hbel _ _ L6 HB_3.out); have B4_4 := Lib.hid ((hoth _ NE46.out).trans B4_3.out); have k4_0_4 : W4.cell? ⟨g4, 0, none⟩ = some (.int .i64 0) := (blk_cell B4_4.out 0).trans rfl; have k4_1_4 : W4.cell? ⟨g4, 1, none⟩ = some (.int .i64 0) := (blk_cell B4_4.out 1).trans rfl; clear k4_0_3 k4_1_3 k6_0_3 k6_1_3; have k6_0_4 : W4.cell? ⟨g6, 0, none⟩ = some (.int .i64 r1) := (blk_cell B6_4.out 0).trans rfl; have k6_1_4 : W4.cell? ⟨g6, 1, none⟩ = some (.int .i64 r2) := (blk_cell B6_4.out 1).trans rfl; have Cx_4 := Lib.hid (Kd.C_below HR.out HB_4.out); clear hq hoth hbel)
  | ((with_reducible refine gate_dst (N := 8) rfl ?_); refine box_event ?hg (N := 8) ?hd (cs := #[.int .i64 0, .int .i64 0]) (t := 70) ?hr ?_; (case hd => rfl); (case hg => rfl); (case hr => first | (go_simp; done) | (go_simp; rfl)); intro g8 hg W5 hbox hbl; have L8 : w.heap.size ≤ g8 := (by rw [hg]; exact below_size HB_4.out); have B8_5 := Lib.hid hbox; have HB_5 := Lib.hid (below_step HB_4.out hbl); have B4_5 := Lib.hid (blk_below B4_4.out hbl); have B6_5 := Lib.hid (blk_below B6_4.out hbl); have Cx_5 := Lib.hid (Kd.C_below HR.out HB_5.out); have k4_0_5 : W5.cell? ⟨g4, 0, none⟩ = some (.int .i64 0) := (blk_cell B4_5.out 0).trans rfl; have k4_1_5 : W5.cell? ⟨g4, 1, none⟩ = some (.int .i64 0) := (blk_cell B4_5.out 1).trans rfl; have k6_0_5 : W5.cell? ⟨g6, 0, none⟩ = some (.int .i64 r1) := (blk_cell B6_5.out 0).trans rfl; have k6_1_5 : W5.cell? ⟨g6, 1, none⟩ = some (.int .i64 r2) := (blk_cell B6_5.out 1).trans rfl; clear k4_0_4 k4_1_4 k6_0_4 k6_1_4; have k8_0_5 : W5.cell? ⟨g8, 0, none⟩ = some (.int .i64 0) := (blk_cell B8_5.out 0).trans rfl; have k8_1_5 : W5.cell? ⟨g8, 1, none⟩ = some (.int .i64 0) := (blk_cell B8_5.out 1).trans rfl; have NE48 := Lib.hid (show g4 < g8 from by have := blk_lt B4_4.out; omega); have NE68 := Lib.hid (show g6 < g8 from by have := blk_lt B6_4.out; omega); clear hbox hbl hg)
  | (go_at_call 26; ( refine (states_any A l.length c r1 _).mono ?_); rintro e W6 ⟨gx, gy, rfl, hx, hy, Lx, Ly, hb⟩; have HB_6 := Lib.hid (below_step HB_5.out hb); have B4_6 := Lib.hid (blk_below B4_5.out hb); have B6_6 := Lib.hid (blk_below B6_5.out hb); have B8_6 := Lib.hid (blk_below B8_5.out hb); have Cx_6 := Lib.hid (Kd.C_below HR.out HB_6.out); have k4_0_6 : W6.cell? ⟨g4, 0, none⟩ = some (.int .i64 0) := (blk_cell B4_6.out 0).trans rfl; have k4_1_6 : W6.cell? ⟨g4, 1, none⟩ = some (.int .i64 0) := (blk_cell B4_6.out 1).trans rfl; have k6_0_6 : W6.cell? ⟨g6, 0, none⟩ = some (.int .i64 r1) := (blk_cell B6_6.out 0).trans rfl; have k6_1_6 : W6.cell? ⟨g6, 1, none⟩ = some (.int .i64 r2) := (blk_cell B6_6.out 1).trans rfl; have k8_0_6 : W6.cell? ⟨g8, 0, none⟩ = some (.int .i64 0) := (blk_cell B8_6.out 0).trans rfl; have k8_1_6 : W6.cell? ⟨g8, 1, none⟩ = some (.int .i64 0) := (blk_cell B8_6.out 1).trans rfl; clear k4_0_5 k4_1_5 k6_0_5 k6_1_5 k8_0_5 k8_1_5; have Bx := Lib.hid hx; have By := Lib.hid hy; have Lx8 := Lib.hid (show gx ≠ g8 from fun e => by have := blk_lt B8_5.out; omega); have Ly8 := Lib.hid (show gy ≠ g8 from fun e => by have := blk_lt B8_5.out; omega); clear hx hy Lx Ly; clear hb))
 have L48 := Lib.hid (show g4 < W6.heap.size from blk_lt B4_6.out)
 have L68 := Lib.hid (show g6 < W6.heap.size from blk_lt B6_6.out)
 have L88 := Lib.hid (show g8 < W6.heap.size from blk_lt B8_6.out)
 refine (wpIn_wide (n := 10)).1 ?_
 refine rangeFunc_cells rfl (by decide) (gf := 56) (lb := #[.pointer (some ⟨gx, 0, none⟩), .pointer (some ⟨gy, 0, none⟩)]) rfl trivial (enters_of Tryz.func56 (by kernel_rfl) rfl)
  (states_seq 9 (by decide) gx gy g8 A c l r1 (by have := HN1.out; omega) HN0.out w W6 L8 L88.out HB_6.out HR.out Lx8.out Ly8.out Bx.out By.out) (Below.refl _ _) keepG_t keepG_p (fun _ => rfl)
  (fun pre W => InvS g4 g6 g8 r1 r2 w pre W) ?hI ⟨B4_6.out, B6_6.out, B8_6.out, HB_6.out⟩ ?a1 ?assign ?body ?done
 case hI =>
  rintro s W W' row ⟨q4, q6, q8, qb⟩ hg hrow
  exact ⟨grown_blk q4 hg hrow L48.out, grown_blk q6 hg hrow L68.out, grown_blk q8 hg hrow L88.out, qb.grown hg qb.size (fun r e => Nat.le_trans (below_size HB_6.out) (hrow r e))⟩
 case assign =>
  intro l x W K hK
  gi_wp2
  exact hK
 case body =>
  rintro lY pre x W ⟨q4, q6, q8, qb⟩
  have E4 := Lib.hid q4
  have E6 := Lib.hid q6
  have E8 := Lib.hid q8
  have EB := Lib.hid qb
  have HS := Lib.hid (lastTwo_snoc pre x)
  clear q4 q6 q8 qb
  generalize lastTwo pre = t at *
  refine wpIn_block ?_
  refine regionR_ rfl (fun h => by obtain ⟨_, _, q⟩ := h; exact nomatch q.1) ?_
  go_wp2_with (go_at_call 27; refine (push_any g8 t.1 t.2 x _ E8.out).mono ?_; rintro e W1 ⟨rfl, hq, hoth, hbel⟩; have F8 := Lib.hid hq; have OT := Lib.hid hoth; have BL := Lib.hid hbel; clear hq hoth hbel)
  refine ⟨trivial, ⟨(BL.out 0 W (Nat.zero_le _) (Below.refl _ _)).size, fun k o hk ho => ?_⟩, ⟨(BL.out 0 W (Nat.zero_le _) (Below.refl _ _)).size, fun k o hk _ hne => (OT.out k hne).trans hk⟩, ?_⟩
  ·refine (OT.out k (fun e => ?_)).trans hk
   rw [e, E8.out] at hk; cases hk; cases ho
  ·refine ⟨(OT.out g4 (Nat.ne_of_lt NE48.out)).trans E4.out, (OT.out g6 (Nat.ne_of_lt NE68.out)).trans E6.out, ?_, BL.out _ _ L8 EB.out⟩
   rw [HS.out]
   exact F8.out
 case done =>
  rintro D W hD ⟨q4, q6, q8, qb⟩ hK
  rw [lastTwo_states] at q8
  have E4 := Lib.hid q4
  have E6 := Lib.hid q6
  have E8 := Lib.hid q8
  have EB := Lib.hid qb
  have HD0 := Lib.hid hK
  have HDL := Lib.hid hD
  clear q4 q6 q8 qb hK hD k4_0_6 k4_1_6 k6_0_6 k6_1_6 k8_0_6 k8_1_6
  generalize hs0 : (stAt r1 l l.length).1 = s0 at *
  generalize hs1 : (stAt r1 l l.length).2 = s1 at *
  have HS0 := Lib.hid hs0
  have HS1 := Lib.hid hs1
  clear hs0 hs1
  have k6_0 := (blk_cell E6.out 0).trans rfl
  have k6_1 := (blk_cell E6.out 1).trans rfl
  have k8_0 := (blk_cell E8.out 0).trans rfl
  have k8_1 := (blk_cell E8.out 1).trans rfl
  go_wp2
  refine wp_normal_ ?_
  refine start_ (S := fun w' => Below W.heap.size W w') (ds := [17]) (fl 19 0) hmx rfl rfl (Below.refl _ _).drew (fun hHeld => ?_)
  refine pure_ (i := 0) (N := some 27) (v := ?_) (a' := ?_) (fl 19 1) rfl rfl (by kernel_rfl) (fun _ _ _ h => nomatch h.1) (Or.inl ⟨by rfl, ?_⟩) ?_ ?_
  rotate_left
  ·intro w'
   go_simp
   with_reducible rfl
  rotate_left
  ·simp only [Act.put, List.setIfInBounds_toArray, List.set_cons_zero, List.set_cons_succ, i64_w, i32_w]
   rfl
  refine pure_ (i := 2) (N := some 29) (v := ?_) (a' := ?_) (fl 19 5) rfl rfl (by kernel_rfl) (fun _ _ _ h => nomatch h.1) (Or.inl ⟨by rfl, ?_⟩) ?_ ?_
  rotate_left
  ·intro w'
   go_simp
   with_reducible rfl
  rotate_left
  ·simp only [Act.put, List.setIfInBounds_toArray, List.set_cons_zero, List.set_cons_succ, i64_w, i32_w]
   rfl
  refine pure_ (i := 6) (N := some 33) (v := ?_) (a' := ?_) (fl 19 69) rfl rfl (by kernel_rfl) (fun _ _ _ h => nomatch h.1) (Or.inl ⟨by rfl, ?_⟩) ?_ ?_
  rotate_left
  ·intro w'
   go_simp
   with_reducible rfl
  rotate_left
  ·simp only [Act.put, List.setIfInBounds_toArray, List.set_cons_zero, List.set_cons_succ, i64_w, i32_w]
   rfl
  refine pure_ (i := 9) (N := some 36) (v := ?_) (a' := ?_) (fl 19 581) rfl rfl (by kernel_rfl) (fun _ _ _ h => nomatch h.1) (Or.inl ⟨by rfl, ?_⟩) ?_ ?_
  rotate_left
  ·intro w'
   go_simp
   with_reducible rfl
  rotate_left
  ·simp only [Act.put, List.setIfInBounds_toArray, List.set_cons_zero, List.set_cons_succ, i64_w, i32_w]
   rfl
  refine pure_ (i := 12) (N := some 39) (v := ?_) (a' := ?_) (fl 19 4677) rfl rfl (by kernel_rfl) (fun _ _ _ h => nomatch h.1) (Or.inl ⟨by rfl, ?_⟩) ?_ ?_
  rotate_left
  ·intro w'
   go_simp
   with_reducible rfl
  rotate_left
  ·simp only [Act.put, List.setIfInBounds_toArray, List.set_cons_zero, List.set_cons_succ, i64_w, i32_w]
   rfl
  refine take_ (i := 1) (N := some 28) (v := ?_) (a' := ?_) (fl 19 4679) rfl rfl (by kernel_rfl) (fun _ _ _ h => nomatch h.1) (Or.inl ⟨by rfl, ?_⟩) hHeld ?_ ?_
  rotate_left
  ·rintro w' hs
   have j_k6_0 := bg hs k6_0
   have j_k6_1 := bg hs k6_1
   have j_k8_0 := bg hs k8_0
   have j_k8_1 := bg hs k8_1
   go_simp
   with_reducible rfl
  rotate_left
  ·simp only [Act.put, List.setIfInBounds_toArray, List.set_cons_zero, List.set_cons_succ, i64_w, i32_w]
   rfl
  refine take_ (i := 3) (N := some 30) (v := ?_) (a' := ?_) (fl 19 4687) rfl rfl (by kernel_rfl) (fun _ _ _ h => nomatch h.1) (Or.inl ⟨by rfl, ?_⟩) hHeld ?_ ?_
  rotate_left
  ·rintro w' hs
   have j_k6_0 := bg hs k6_0
   have j_k6_1 := bg hs k6_1
   have j_k8_0 := bg hs k8_0
   have j_k8_1 := bg hs k8_1
   go_simp
   with_reducible rfl
  rotate_left
  ·simp only [Act.put, List.setIfInBounds_toArray, List.set_cons_zero, List.set_cons_succ, i64_w, i32_w]
   rfl
  refine pure_ (i := 4) (N := some 31) (v := ?_) (a' := ?_) (fl 19 4703) rfl rfl (by kernel_rfl) (fun _ _ _ h => nomatch h.1) (Or.inl ⟨by rfl, ?_⟩) ?_ ?_
  rotate_left
  ·intro w'
   go_simp
   with_reducible rfl
  rotate_left
  ·simp only [Act.put, List.setIfInBounds_toArray, List.set_cons_zero, List.set_cons_succ, i64_w, i32_w]
   rfl
  refine take_ (i := 7) (N := some 34) (v := ?_) (a' := ?_) (fl 19 4831) rfl rfl (by kernel_rfl) (fun _ _ _ h => nomatch h.1) (Or.inl ⟨by rfl, ?_⟩) hHeld ?_ ?_
  rotate_left
  ·rintro w' hs
   have j_k6_0 := bg hs k6_0
   have j_k6_1 := bg hs k6_1
   have j_k8_0 := bg hs k8_0
   have j_k8_1 := bg hs k8_1
   go_simp
   with_reducible rfl
  rotate_left
  ·simp only [Act.put, List.setIfInBounds_toArray, List.set_cons_zero, List.set_cons_succ, i64_w, i32_w]
   rfl
  refine take_ (i := 10) (N := some 37) (v := ?_) (a' := ?_) (fl 19 5855) rfl rfl (by kernel_rfl) (fun _ _ _ h => nomatch h.1) (Or.inl ⟨by rfl, ?_⟩) hHeld ?_ ?_
  rotate_left
  ·rintro w' hs
   have j_k6_0 := bg hs k6_0
   have j_k6_1 := bg hs k6_1
   have j_k8_0 := bg hs k8_0
   have j_k8_1 := bg hs k8_1
   go_simp
   with_reducible rfl
  rotate_left
  ·simp only [Act.put, List.setIfInBounds_toArray, List.set_cons_zero, List.set_cons_succ, i64_w, i32_w]
   rfl
  refine pure_ (i := 11) (N := some 38) (v := ?_) (a' := ?_) (fl 19 7903) rfl rfl (by kernel_rfl) (fun _ _ _ h => nomatch h.1) (Or.inl ⟨by rfl, ?_⟩) ?_ ?_
  rotate_left
  ·intro w'
   go_simp
   with_reducible rfl
  rotate_left
  ·simp only [Act.put, List.setIfInBounds_toArray, List.set_cons_zero, List.set_cons_succ, i64_w, i32_w]
   rfl
  refine take_ (i := 13) (N := some 40) (v := ?_) (a' := ?_) (fl 19 16095) rfl rfl (by kernel_rfl) (fun _ _ _ h => nomatch h.1) (Or.inl ⟨by rfl, ?_⟩) hHeld ?_ ?_
  rotate_left
  ·rintro w' hs
   have j_k6_0 := bg hs k6_0
   have j_k6_1 := bg hs k6_1
   have j_k8_0 := bg hs k8_0
   have j_k8_1 := bg hs k8_1
   go_simp
   with_reducible rfl
  rotate_left
  ·simp only [Act.put, List.setIfInBounds_toArray, List.set_cons_zero, List.set_cons_succ, i64_w, i32_w]
   rfl
  refine pure_ (i := 14) (N := some 41) (v := ?_) (a' := ?_) (fl 19 32479) rfl rfl (by kernel_rfl) (fun _ _ _ h => nomatch h.1) (Or.inl ⟨by rfl, ?_⟩) ?_ ?_
  rotate_left
  ·intro w'
   go_simp
   with_reducible rfl
  rotate_left
  ·simp only [Act.put, List.setIfInBounds_toArray, List.set_cons_zero, List.set_cons_succ, i64_w, i32_w]
   rfl
  refine one_ (i := 5) (N := some 32) (fl 19 32511) rfl rfl (by kernel_rfl) (by decide) (fun K hK => ?_)
  refine goes_ Tryz.func28 (by kernel_rfl) rfl #[.int .i64 (wrap64 (r1 * s0))] (by rfl) rfl rfl (by go_simp) ?_
  refine (single_part.calls _ _ _ (part_f _)).mono ?_
  rintro e Wc ⟨rfl, hbl⟩
  refine ⟨_, rfl, ?_⟩
  refine hK.out _ _ (below_step hHeld hbl) (fun hHeld2 => ?_)
  clear hK K hHeld hbl
  have hHeld := hHeld2
  clear hHeld2
  refine norm_ (a' := ?_) ?_ ?_
  rotate_left
  ·show Act.put _ (some 32) _ = _
   simp only [Act.put, List.setIfInBounds_toArray, List.set_cons_zero, List.set_cons_succ, i64_w, i32_w]
   rfl
  refine pure_ (i := 8) (N := some 35) (v := ?_) (a' := ?_) (fl 19 32767) rfl rfl (by kernel_rfl) (fun _ _ _ h => nomatch h.1) (Or.inl ⟨by rfl, ?_⟩) ?_ ?_
  rotate_left
  ·intro w'
   go_simp
   with_reducible rfl
  rotate_left
  ·simp only [Act.put, List.setIfInBounds_toArray, List.set_cons_zero, List.set_cons_succ, i64_w, i32_w]
   rfl
  refine one_ (i := 15) (N := some 42) (fl 19 65535) rfl rfl (by kernel_rfl) (by decide) (fun K hK => ?_)
  refine goes_ Tryz.func28 (by kernel_rfl) rfl #[.int .i64 (wrap64 (wrap64 (-r2) * s0))] (by rfl) rfl rfl (by go_simp) ?_
  refine (single_part.calls _ _ _ (part_f _)).mono ?_
  rintro e Wc ⟨rfl, hbl⟩
  refine ⟨_, rfl, ?_⟩
  refine hK.out _ _ (below_step hHeld hbl) (fun hHeld2 => ?_)
  clear hK K hHeld hbl
  have hHeld := hHeld2
  clear hHeld2
  refine norm_ (a' := ?_) ?_ ?_
  rotate_left
  ·show Act.put _ (some 42) _ = _
   simp only [Act.put, List.setIfInBounds_toArray, List.set_cons_zero, List.set_cons_succ, i64_w, i32_w]
   rfl
  refine pure_ (i := 16) (N := some 43) (v := ?_) (a' := ?_) (fl 19 131071) rfl rfl (by kernel_rfl) (fun _ _ _ h => nomatch h.1) (Or.inl ⟨by rfl, ?_⟩) ?_ ?_
  rotate_left
  ·intro w'
   go_simp
   with_reducible rfl
  rotate_left
  ·simp only [Act.put, List.setIfInBounds_toArray, List.set_cons_zero, List.set_cons_succ, i64_w, i32_w]
   rfl
  refine last_ (i := 17) (N := none) (fl 19 262143) rfl rfl (by kernel_rfl) (by decide) (fun K hK => ?_)
  refine row_step rfl rfl 38 _ _ rfl g4 #[.int .i64 (wrap64 (partV (wrap64 (r1 * s0)) - s1)), .int .i64 (partV (wrap64 (wrap64 (-r2) * s0)))] rfl rfl 38 #[.int .i64 0, .int .i64 0] (blk_below E4.out hHeld) (size38 _ _) rfl (one38 _ _) ?_
  intro Wd hq hoth hbel
  refine hK.out _ _ ?_
  have E4d := Lib.hid hq
  have HBd := Lib.hid (hbel _ _ L4 (below_step EB.out hHeld))
  have ED := Lib.hid ((hoth D (fun e => by have := blk_lt HD0.out; have := blk_lt E4.out; have h1 := HD0.out; rw [e, E4.out] at h1; simp at h1)).trans (blk_below HD0.out hHeld))
  clear hK K hHeld hq hoth hbel
  refine pure_ (i := 18) (N := some 5) (v := ?_) (a' := ?_) (fl 19 524287) rfl rfl (by kernel_rfl) (fun _ _ _ h => nomatch h.1) (Or.inl ⟨by rfl, ?_⟩) ?_ ?_
  rotate_left
  ·intro w'
   go_simp
   with_reducible rfl
  rotate_left
  ·simp only [Act.put, List.setIfInBounds_toArray, List.set_cons_zero, List.set_cons_succ, i64_w, i32_w]
   rfl
  refine done_ (by kernel_rfl) ?_
  refine ⟨rfl, ?_⟩
  go_wp2
  refine ⟨by simp, .inl ⟨_, _, rfl, run_takeDeferred ED.out, ?_⟩⟩
  refine ⟨_, results_ct rfl _ _ g4 38 #[.int .i64 (wrap64 (partV (wrap64 (r1 * s0)) - s1)), .int .i64 (partV (wrap64 (wrap64 (-r2) * s0)))] (0, 0) _ rfl ((World.putObj_heap_other (fun e => by have := L48.out; have := HDL.out; omega)).trans E4d.out) Tryz.underlying38 rfl (size38 _ _), by rw [HS0.out, HS1.out]; rfl, HBd.out.grown (grownBy_putObj' Wd D _) HBd.out.size (fun k e => by cases e; exact Nat.le_trans (below_size HB_6.out) HDL.out)⟩
end Go.Proofs.YteieahbadclppaaGreat.P

namespace Go.Proofs.YteieahbadclppaaGreat.P
open Go.RowKit Go.Proofs.YteieahbadclppaaGreatW.PrintWords Go.Proofs.YteieahbadclppaaGreatW.PrintLast Go.Proofs.YteieahbadclppaaGreatW.PrintMore
attribute [local go_sem] max2_int min2_int max_two min_two
set_option linter.unusedVariables false
set_option linter.unusedSimpArgs false
theorem size24p (a b c d e f : Value) : (Tryz.prog.info? 24).map (·.size) = some (#[a, b, c, d, e, f] : Array Value).size := by kernel_rfl
set_option maxRecDepth 100000 in
set_option maxHeartbeats 4000000 in
theorem Ready_02f (p1 p2 p4 : Int) (p5 : Bool) (L : List S38) (A : Option Addr) (c : Nat) (l l1 : List S38) (k : Nat) (h0 : 0 ≤ p4) (h1 : p4 < 3) (q0 : 0 ≤ p1) (q1 : p1 ≤ 40) (w : World) (hr : Kd.C k38 w A l.length l) (hc : l.length ≤ c) (hl : l.length ≤ 1000) (hl1 : l1.length ≤ 1000)
  (hck : plan_Check.f 0 p1 p2 2 p4 p5 = some 0) (htw : roots_Twiddles.f p1 0 = some (L, 0)) (hn : (l.length : Int) = 2 ^ p1.toNat) (ho : l.any (oddB (-32768) 32767) = false) (hf : flip_Flip.f k l = some (l1, 0)) (h2 : (p2 != 2) = true) :
  Calls Tryz.prog 16 #[.slice A l.length c, .agg (planC 0 p1 p2 2 p4 p5)] w fun e w' => ∃ A' c', e = .returned (.tuple #[.agg #[.slice A' l1.length c', .int .i64 0, .bool false, .slice none 0 0], .int .i64 0]) ∧ Kd.R k38 38 w' w.heap.size (fun _ => True) (.slice A' l1.length c') (l1.map (shC 0 p4)) ∧ Below w.heap.size w w' := by
 have hmx : Tryz.prog.follows .mixedOrders = true := by kernel_rfl
 have HR := Lib.hid hr
 have HC := Lib.hid hc
 have HCK := Lib.hid hck
 have HBI := Lib.hid (show sat_Bits.f 0 = some (15, 0) from rfl)
 have HTW := Lib.hid htw
 have HL := Lib.hid hl1
 have HN := Lib.hid hn
 have HO := Lib.hid ho
 have HF := Lib.hid hf
 have HB0 := Lib.hid (Below.refl w.heap.size w)
 clear hr hc hl hl1 hck htw hn ho hf
 unfold planC
 go_enter Tryz.func16, Tryz.ntmps16
 go_wp2_with (first
  | ((with_reducible refine gate_dst (N := 3) rfl ?_); refine box_event ?hg (N := 3) ?hd (cs := #[.int .i64 0, .int .i64 p1, .int .i64 p2, .int .i64 2, .int .i64 p4, .bool p5]) (t := 24) ?hr ?_; (case hd => rfl); (case hg => rfl); (case hr => first | (go_simp; done) | (go_simp; rfl)); intro g3 hg W1 hbox hbl; have L3 : w.heap.size ≤ g3 := (by rw [hg]; exact below_size HB0.out); have B3_1 := Lib.hid hbox; have HB_1 := Lib.hid (below_step HB0.out hbl); have Cx_1 := Lib.hid (Kd.C_below HR.out HB_1.out); have k3_0_1 : W1.cell? ⟨g3, 0, none⟩ = some (.int .i64 0) := (blk_cell B3_1.out 0).trans rfl; have k3_1_1 : W1.cell? ⟨g3, 1, none⟩ = some (.int .i64 p1) := (blk_cell B3_1.out 1).trans rfl; have k3_2_1 : W1.cell? ⟨g3, 2, none⟩ = some (.int .i64 p2) := (blk_cell B3_1.out 2).trans rfl; have k3_3_1 : W1.cell? ⟨g3, 3, none⟩ = some (.int .i64 2) := (blk_cell B3_1.out 3).trans rfl; have k3_4_1 : W1.cell? ⟨g3, 4, none⟩ = some (.int .i64 p4) := (blk_cell B3_1.out 4).trans rfl; have k3_5_1 : W1.cell? ⟨g3, 5, none⟩ = some (.bool p5) := (blk_cell B3_1.out 5).trans rfl; clear hbox hbl hg)
  | ((with_reducible refine gate_dst (N := 4) rfl ?_); refine box_event ?hg (N := 4) ?hd (cs := #[.slice none 0 0, .int .i64 0, .bool false, .slice none 0 0]) (t := 28) ?hr ?_; (case hd => rfl); (case hg => rfl); (case hr => first | (go_simp; done) | (go_simp; rfl)); intro g4 hg W2 hbox hbl; have L4 : w.heap.size ≤ g4 := (by rw [hg]; exact below_size HB_1.out); have B4_2 := Lib.hid hbox; have HB_2 := Lib.hid (below_step HB_1.out hbl); have B3_2 := Lib.hid (blk_below B3_1.out hbl); have Cx_2 := Lib.hid (Kd.C_below HR.out HB_2.out); have k3_0_2 : W2.cell? ⟨g3, 0, none⟩ = some (.int .i64 0) := (blk_cell B3_2.out 0).trans rfl; have k3_1_2 : W2.cell? ⟨g3, 1, none⟩ = some (.int .i64 p1) := (blk_cell B3_2.out 1).trans rfl; have k3_2_2 : W2.cell? ⟨g3, 2, none⟩ = some (.int .i64 p2) := (blk_cell B3_2.out 2).trans rfl; have k3_3_2 : W2.cell? ⟨g3, 3, none⟩ = some (.int .i64 2) := (blk_cell B3_2.out 3).trans rfl; have k3_4_2 : W2.cell? ⟨g3, 4, none⟩ = some (.int .i64 p4) := (blk_cell B3_2.out 4).trans rfl; have k3_5_2 : W2.cell? ⟨g3, 5, none⟩ = some (.bool p5) := (blk_cell B3_2.out 5).trans rfl; clear k3_0_1 k3_1_1 k3_2_1 k3_3_1 k3_4_1 k3_5_1; have k4_0_2 : W2.cell? ⟨g4, 0, none⟩ = some (.slice none 0 0) := (blk_cell B4_2.out 0).trans rfl; have k4_1_2 : W2.cell? ⟨g4, 1, none⟩ = some (.int .i64 0) := (blk_cell B4_2.out 1).trans rfl; have k4_2_2 : W2.cell? ⟨g4, 2, none⟩ = some (.bool false) := (blk_cell B4_2.out 2).trans rfl; have k4_3_2 : W2.cell? ⟨g4, 3, none⟩ = some (.slice none 0 0) := (blk_cell B4_2.out 3).trans rfl; have NE34 := Lib.hid (show g3 ≠ g4 from fun e => by have := blk_lt B3_1.out; omega); clear hbox hbl hg)
  | ((with_reducible refine gate_dst (N := 9) rfl ?_); refine wpList_load_row rfl 24 _ rfl g3 rfl 24 #[.int .i64 0, .int .i64 p1, .int .i64 p2, .int .i64 2, .int .i64 p4, .bool p5] (0, 0) _ B3_2.out Tryz.underlying24 rfl (size24p _ _ _ _ _ _) ?_)
  | (go_at_call 37; (with_reducible refine (plan_Check.calls 0 p1 p2 2 p4 p5 0 _ HCK.out).mono ?_); rintro e W3 ⟨rfl, hb⟩; have HB_3 := Lib.hid (below_step HB_2.out hb); have B3_3 := Lib.hid (blk_below B3_2.out hb); have B4_3 := Lib.hid (blk_below B4_2.out hb); have Cx_3 := Lib.hid (Kd.C_below HR.out HB_3.out); have k3_0_3 : W3.cell? ⟨g3, 0, none⟩ = some (.int .i64 0) := (blk_cell B3_3.out 0).trans rfl; have k3_1_3 : W3.cell? ⟨g3, 1, none⟩ = some (.int .i64 p1) := (blk_cell B3_3.out 1).trans rfl; have k3_2_3 : W3.cell? ⟨g3, 2, none⟩ = some (.int .i64 p2) := (blk_cell B3_3.out 2).trans rfl; have k3_3_3 : W3.cell? ⟨g3, 3, none⟩ = some (.int .i64 2) := (blk_cell B3_3.out 3).trans rfl; have k3_4_3 : W3.cell? ⟨g3, 4, none⟩ = some (.int .i64 p4) := (blk_cell B3_3.out 4).trans rfl; have k3_5_3 : W3.cell? ⟨g3, 5, none⟩ = some (.bool p5) := (blk_cell B3_3.out 5).trans rfl; have k4_0_3 : W3.cell? ⟨g4, 0, none⟩ = some (.slice none 0 0) := (blk_cell B4_3.out 0).trans rfl; have k4_1_3 : W3.cell? ⟨g4, 1, none⟩ = some (.int .i64 0) := (blk_cell B4_3.out 1).trans rfl; have k4_2_3 : W3.cell? ⟨g4, 2, none⟩ = some (.bool false) := (blk_cell B4_3.out 2).trans rfl; have k4_3_3 : W3.cell? ⟨g4, 3, none⟩ = some (.slice none 0 0) := (blk_cell B4_3.out 3).trans rfl; clear k3_0_2 k3_1_2 k3_2_2 k3_3_2 k3_4_2 k3_5_2 k4_0_2 k4_1_2 k4_2_2 k4_3_2; clear hb)
  | ((with_reducible refine gate_dst (N := 15) rfl ?_); refine wpList_load_row rfl 24 _ rfl g3 rfl 24 #[.int .i64 0, .int .i64 p1, .int .i64 p2, .int .i64 2, .int .i64 p4, .bool p5] (0, 0) _ B3_3.out Tryz.underlying24 rfl (size24p _ _ _ _ _ _) ?_)
  | (go_at_call 19; refine (ready_2 0 p1 p2 p4 15 p5 L HBI.out HTW.out _).mono ?_; rintro e W4 ⟨Aw, cw, rfl, ho, hb⟩; have Rw_4 := Lib.hid (Kd.R_lower ho (below_size HB_3.out)); have HB_4 := Lib.hid (below_step HB_3.out hb); have B3_4 := Lib.hid (blk_below B3_3.out hb); have B4_4 := Lib.hid (blk_below B4_3.out hb); have Cx_4 := Lib.hid (Kd.C_below HR.out HB_4.out); have k3_0_4 : W4.cell? ⟨g3, 0, none⟩ = some (.int .i64 0) := (blk_cell B3_4.out 0).trans rfl; have k3_1_4 : W4.cell? ⟨g3, 1, none⟩ = some (.int .i64 p1) := (blk_cell B3_4.out 1).trans rfl; have k3_2_4 : W4.cell? ⟨g3, 2, none⟩ = some (.int .i64 p2) := (blk_cell B3_4.out 2).trans rfl; have k3_3_4 : W4.cell? ⟨g3, 3, none⟩ = some (.int .i64 2) := (blk_cell B3_4.out 3).trans rfl; have k3_4_4 : W4.cell? ⟨g3, 4, none⟩ = some (.int .i64 p4) := (blk_cell B3_4.out 4).trans rfl; have k3_5_4 : W4.cell? ⟨g3, 5, none⟩ = some (.bool p5) := (blk_cell B3_4.out 5).trans rfl; have k4_0_4 : W4.cell? ⟨g4, 0, none⟩ = some (.slice none 0 0) := (blk_cell B4_4.out 0).trans rfl; have k4_1_4 : W4.cell? ⟨g4, 1, none⟩ = some (.int .i64 0) := (blk_cell B4_4.out 1).trans rfl; have k4_2_4 : W4.cell? ⟨g4, 2, none⟩ = some (.bool false) := (blk_cell B4_4.out 2).trans rfl; have k4_3_4 : W4.cell? ⟨g4, 3, none⟩ = some (.slice none 0 0) := (blk_cell B4_4.out 3).trans rfl; clear k3_0_3 k3_1_3 k3_2_3 k3_3_3 k3_4_3 k3_5_3 k4_0_3 k4_1_3 k4_2_3 k4_3_3; clear hb ho)
  | ((with_reducible refine gate_dst (N := 7) rfl ?_); refine box_event ?hg (N := 7) ?hd (cs := #[.int .i64 0, .int .i64 0, .int .i64 0, .int .i64 0, .int .i64 0, .bool false, .nilIface, .int .i64 0, .slice none 0 0]) (t := 56) ?hr ?_; (case hd => rfl); (case hg => rfl); (case hr => first | (go_simp; done) | (go_simp; rfl)); intro g7 hg W5 hbox hbl; have L7 : w.heap.size ≤ g7 := (by rw [hg]; exact below_size HB_4.out); have B7_5 := Lib.hid hbox; have HB_5 := Lib.hid (below_step HB_4.out hbl); have B3_5 := Lib.hid (blk_below B3_4.out hbl); have B4_5 := Lib.hid (blk_below B4_4.out hbl); have Rw_5 := Lib.hid (Kd.R_below Rw_4.out hbl); have Cx_5 := Lib.hid (Kd.C_below HR.out HB_5.out); have k3_0_5 : W5.cell? ⟨g3, 0, none⟩ = some (.int .i64 0) := (blk_cell B3_5.out 0).trans rfl; have k3_1_5 : W5.cell? ⟨g3, 1, none⟩ = some (.int .i64 p1) := (blk_cell B3_5.out 1).trans rfl; have k3_2_5 : W5.cell? ⟨g3, 2, none⟩ = some (.int .i64 p2) := (blk_cell B3_5.out 2).trans rfl; have k3_3_5 : W5.cell? ⟨g3, 3, none⟩ = some (.int .i64 2) := (blk_cell B3_5.out 3).trans rfl; have k3_4_5 : W5.cell? ⟨g3, 4, none⟩ = some (.int .i64 p4) := (blk_cell B3_5.out 4).trans rfl; have k3_5_5 : W5.cell? ⟨g3, 5, none⟩ = some (.bool p5) := (blk_cell B3_5.out 5).trans rfl; have k4_0_5 : W5.cell? ⟨g4, 0, none⟩ = some (.slice none 0 0) := (blk_cell B4_5.out 0).trans rfl; have k4_1_5 : W5.cell? ⟨g4, 1, none⟩ = some (.int .i64 0) := (blk_cell B4_5.out 1).trans rfl; have k4_2_5 : W5.cell? ⟨g4, 2, none⟩ = some (.bool false) := (blk_cell B4_5.out 2).trans rfl; have k4_3_5 : W5.cell? ⟨g4, 3, none⟩ = some (.slice none 0 0) := (blk_cell B4_5.out 3).trans rfl; clear k3_0_4 k3_1_4 k3_2_4 k3_3_4 k3_4_4 k3_5_4 k4_0_4 k4_1_4 k4_2_4 k4_3_4; have k7_0_5 : W5.cell? ⟨g7, 0, none⟩ = some (.int .i64 0) := (blk_cell B7_5.out 0).trans rfl; have k7_1_5 : W5.cell? ⟨g7, 1, none⟩ = some (.int .i64 0) := (blk_cell B7_5.out 1).trans rfl; have k7_2_5 : W5.cell? ⟨g7, 2, none⟩ = some (.int .i64 0) := (blk_cell B7_5.out 2).trans rfl; have k7_3_5 : W5.cell? ⟨g7, 3, none⟩ = some (.int .i64 0) := (blk_cell B7_5.out 3).trans rfl; have k7_4_5 : W5.cell? ⟨g7, 4, none⟩ = some (.int .i64 0) := (blk_cell B7_5.out 4).trans rfl; have k7_5_5 : W5.cell? ⟨g7, 5, none⟩ = some (.bool false) := (blk_cell B7_5.out 5).trans rfl; have k7_6_5 : W5.cell? ⟨g7, 6, none⟩ = some (.nilIface) := (blk_cell B7_5.out 6).trans rfl; have k7_7_5 : W5.cell? ⟨g7, 7, none⟩ = some (.int .i64 0) := (blk_cell B7_5.out 7).trans rfl; have k7_8_5 : W5.cell? ⟨g7, 8, none⟩ = some (.slice none 0 0) := (blk_cell B7_5.out 8).trans rfl; have NE37 := Lib.hid (show g3 ≠ g7 from fun e => by have := blk_lt B3_4.out; omega); have NE47 := Lib.hid (show g4 ≠ g7 from fun e => by have := blk_lt B4_4.out; omega); have NR7 := Lib.hid (show some g7 ≠ _ from by rw [hg]; exact Kd.R_ne_new Rw_4.out 0); clear hbox hbl hg)
  | ((with_reducible refine gate_store (t := 56) (p := 7) rfl ?_); refine row_event rfl 56 _ _ rfl g7 #[.int .i64 0, .int .i64 p1, .int .i64 p2, .int .i64 2, .int .i64 p4, .bool p5, .iface 100 (.agg #[]), .int .i64 15, .slice Aw L.length cw] rfl rfl 56 #[.int .i64 0, .int .i64 0, .int .i64 0, .int .i64 0, .int .i64 0, .bool false, .nilIface, .int .i64 0, .slice none 0 0] B7_5.out (size56 _ _ _ _ _ _ _ _ _) rfl (one56_2 _ _ _ _ _ _ _ _ _) ?_; intro W6 hq hoth hbel; have B7_6 := Lib.hid hq; have HB_6 := Lib.hid (hbel _ _ L7 HB_5.out); have B3_6 := Lib.hid ((hoth _ NE37.out).trans B3_5.out); have B4_6 := Lib.hid ((hoth _ NE47.out).trans B4_5.out); have Rw_6 := Lib.hid (R_other Rw_5.out hoth NR7.out); have k3_0_6 : W6.cell? ⟨g3, 0, none⟩ = some (.int .i64 0) := (blk_cell B3_6.out 0).trans rfl; have k3_1_6 : W6.cell? ⟨g3, 1, none⟩ = some (.int .i64 p1) := (blk_cell B3_6.out 1).trans rfl; have k3_2_6 : W6.cell? ⟨g3, 2, none⟩ = some (.int .i64 p2) := (blk_cell B3_6.out 2).trans rfl; have k3_3_6 : W6.cell? ⟨g3, 3, none⟩ = some (.int .i64 2) := (blk_cell B3_6.out 3).trans rfl; have k3_4_6 : W6.cell? ⟨g3, 4, none⟩ = some (.int .i64 p4) := (blk_cell B3_6.out 4).trans rfl; have k3_5_6 : W6.cell? ⟨g3, 5, none⟩ = some (.bool p5) := (blk_cell B3_6.out 5).trans rfl; have k4_0_6 : W6.cell? ⟨g4, 0, none⟩ = some (.slice none 0 0) := (blk_cell B4_6.out 0).trans rfl; have k4_1_6 : W6.cell? ⟨g4, 1, none⟩ = some (.int .i64 0) := (blk_cell B4_6.out 1).trans rfl; have k4_2_6 : W6.cell? ⟨g4, 2, none⟩ = some (.bool false) := (blk_cell B4_6.out 2).trans rfl; have k4_3_6 : W6.cell? ⟨g4, 3, none⟩ = some (.slice none 0 0) := (blk_cell B4_6.out 3).trans rfl; clear k3_0_5 k3_1_5 k3_2_5 k3_3_5 k3_4_5 k3_5_5 k4_0_5 k4_1_5 k4_2_5 k4_3_5 k7_0_5 k7_1_5 k7_2_5 k7_3_5 k7_4_5 k7_5_5 k7_6_5 k7_7_5 k7_8_5; have k7_0_6 : W6.cell? ⟨g7, 0, none⟩ = some (.int .i64 0) := (blk_cell B7_6.out 0).trans rfl; have k7_1_6 : W6.cell? ⟨g7, 1, none⟩ = some (.int .i64 p1) := (blk_cell B7_6.out 1).trans rfl; have k7_2_6 : W6.cell? ⟨g7, 2, none⟩ = some (.int .i64 p2) := (blk_cell B7_6.out 2).trans rfl; have k7_3_6 : W6.cell? ⟨g7, 3, none⟩ = some (.int .i64 2) := (blk_cell B7_6.out 3).trans rfl; have k7_4_6 : W6.cell? ⟨g7, 4, none⟩ = some (.int .i64 p4) := (blk_cell B7_6.out 4).trans rfl; have k7_5_6 : W6.cell? ⟨g7, 5, none⟩ = some (.bool p5) := (blk_cell B7_6.out 5).trans rfl; have k7_6_6 : W6.cell? ⟨g7, 6, none⟩ = some (.iface 100 (.agg #[])) := (blk_cell B7_6.out 6).trans rfl; have k7_7_6 : W6.cell? ⟨g7, 7, none⟩ = some (.int .i64 15) := (blk_cell B7_6.out 7).trans rfl; have k7_8_6 : W6.cell? ⟨g7, 8, none⟩ = some (.slice Aw L.length cw) := (blk_cell B7_6.out 8).trans rfl; have Cx_6 := Lib.hid (Kd.C_below HR.out HB_6.out); clear hq hoth hbel))
 refine start_ (S := fun w' => Below W6.heap.size W6 w') (ds := []) (fl 11 0) hmx rfl rfl (Below.refl _ _).drew (fun hHeld => ?_)
 refine pure_ (i := 0) (N := some 17) (v := ?_) (a' := ?_) (fl 11 1) rfl rfl (by kernel_rfl) (fun _ _ _ h => h) (Or.inl ⟨by rfl, ?_⟩) ?_ ?_
 rotate_left
 ·intro w'
  go_simp
  with_reducible rfl
 rotate_left
 ·simp only [Act.put, List.setIfInBounds_toArray, List.set_cons_zero, List.set_cons_succ, i64_w, i32_w]
  rfl
 refine pure_ (i := 2) (N := some 19) (v := ?_) (a' := ?_) (fl 11 5) rfl rfl (by kernel_rfl) (fun _ _ _ h => h) (Or.inl ⟨by rfl, ?_⟩) ?_ ?_
 rotate_left
 ·intro w'
  go_simp
  with_reducible rfl
 rotate_left
 ·simp only [Act.put, List.setIfInBounds_toArray, List.set_cons_zero, List.set_cons_succ, i64_w, i32_w]
  rfl
 refine pure_ (i := 5) (N := some 22) (v := ?_) (a' := ?_) (fl 11 37) rfl rfl (by kernel_rfl) (fun _ _ _ h => h) (Or.inl ⟨by rfl, ?_⟩) ?_ ?_
 rotate_left
 ·intro w'
  go_simp
  with_reducible rfl
 rotate_left
 ·simp only [Act.put, List.setIfInBounds_toArray, List.set_cons_zero, List.set_cons_succ, i64_w, i32_w]
  rfl
 refine take_ (i := 1) (N := some 18) (v := ?_) (a' := ?_) (fl 11 39) rfl rfl (by kernel_rfl) (fun _ _ _ h => h) (Or.inl ⟨by rfl, ?_⟩) hHeld ?_ ?_
 rotate_left
 ·rintro w' hs
  have j_k3_0_6 := bg hs k3_0_6
  have j_k3_1_6 := bg hs k3_1_6
  have j_k3_2_6 := bg hs k3_2_6
  have j_k3_3_6 := bg hs k3_3_6
  have j_k3_4_6 := bg hs k3_4_6
  have j_k3_5_6 := bg hs k3_5_6
  have j_k7_0_6 := bg hs k7_0_6
  have j_k7_1_6 := bg hs k7_1_6
  have j_k7_2_6 := bg hs k7_2_6
  have j_k7_3_6 := bg hs k7_3_6
  have j_k7_4_6 := bg hs k7_4_6
  have j_k7_5_6 := bg hs k7_5_6
  have j_k7_6_6 := bg hs k7_6_6
  have j_k7_7_6 := bg hs k7_7_6
  have j_k7_8_6 := bg hs k7_8_6
  go_simp
  with_reducible rfl
 rotate_left
 ·simp only [Act.put, List.setIfInBounds_toArray, List.set_cons_zero, List.set_cons_succ, i64_w, i32_w]
  rfl
 refine take_ (i := 3) (N := some 20) (v := ?_) (a' := ?_) (fl 11 47) rfl rfl (by kernel_rfl) (fun _ _ _ h => h) (Or.inl ⟨by rfl, ?_⟩) hHeld ?_ ?_
 rotate_left
 ·rintro w' hs
  have j_k3_0_6 := bg hs k3_0_6
  have j_k3_1_6 := bg hs k3_1_6
  have j_k3_2_6 := bg hs k3_2_6
  have j_k3_3_6 := bg hs k3_3_6
  have j_k3_4_6 := bg hs k3_4_6
  have j_k3_5_6 := bg hs k3_5_6
  have j_k7_0_6 := bg hs k7_0_6
  have j_k7_1_6 := bg hs k7_1_6
  have j_k7_2_6 := bg hs k7_2_6
  have j_k7_3_6 := bg hs k7_3_6
  have j_k7_4_6 := bg hs k7_4_6
  have j_k7_5_6 := bg hs k7_5_6
  have j_k7_6_6 := bg hs k7_6_6
  have j_k7_7_6 := bg hs k7_7_6
  have j_k7_8_6 := bg hs k7_8_6
  go_simp
  with_reducible rfl
 rotate_left
 ·simp only [Act.put, List.setIfInBounds_toArray, List.set_cons_zero, List.set_cons_succ, i64_w, i32_w]
  rfl
 refine pure_ (i := 4) (N := some 21) (v := ?_) (a' := ?_) (fl 11 63) rfl rfl (by kernel_rfl) (fun _ _ _ h => h) (Or.inl ⟨by rfl, ?_⟩) ?_ ?_
 rotate_left
 ·intro w'
  go_simp
  with_reducible rfl
 rotate_left
 ·simp only [Act.put, List.setIfInBounds_toArray, List.set_cons_zero, List.set_cons_succ, i64_w, i32_w]
  rfl
 refine take_ (i := 6) (N := some 23) (v := ?_) (a' := ?_) (fl 11 127) rfl rfl (by kernel_rfl) (fun _ _ _ h => h) (Or.inl ⟨by rfl, ?_⟩) hHeld ?_ ?_
 rotate_left
 ·rintro w' hs
  have j_k3_0_6 := bg hs k3_0_6
  have j_k3_1_6 := bg hs k3_1_6
  have j_k3_2_6 := bg hs k3_2_6
  have j_k3_3_6 := bg hs k3_3_6
  have j_k3_4_6 := bg hs k3_4_6
  have j_k3_5_6 := bg hs k3_5_6
  have j_k7_0_6 := bg hs k7_0_6
  have j_k7_1_6 := bg hs k7_1_6
  have j_k7_2_6 := bg hs k7_2_6
  have j_k7_3_6 := bg hs k7_3_6
  have j_k7_4_6 := bg hs k7_4_6
  have j_k7_5_6 := bg hs k7_5_6
  have j_k7_6_6 := bg hs k7_6_6
  have j_k7_7_6 := bg hs k7_7_6
  have j_k7_8_6 := bg hs k7_8_6
  go_simp
  with_reducible rfl
 rotate_left
 ·simp only [Act.put, List.setIfInBounds_toArray, List.set_cons_zero, List.set_cons_succ, i64_w, i32_w]
  rfl
 refine pure_ (i := 7) (N := some 24) (v := ?_) (a' := ?_) (fl 11 255) rfl rfl (by kernel_rfl) (fun _ _ _ h => h) (Or.inl ⟨by rfl, ?_⟩) ?_ ?_
 rotate_left
 ·intro w'
  go_simp
  with_reducible rfl
 rotate_left
 ·simp only [Act.put, List.setIfInBounds_toArray, List.set_cons_zero, List.set_cons_succ, i64_w, i32_w]
  rfl
 refine pure_ (i := 8) (N := some 25) (v := ?_) (a' := ?_) (fl 11 511) rfl rfl (by kernel_rfl) (fun _ _ _ h => h) (Or.inl ⟨by rfl, ?_⟩) ?_ ?_
 rotate_left
 ·intro w'
  go_simp
  with_reducible rfl
 rotate_left
 ·simp only [Act.put, List.setIfInBounds_toArray, List.set_cons_zero, List.set_cons_succ, i64_w, i32_w]
  rfl
 refine one_ (i := 9) (N := some 26) (fl 11 1023) rfl rfl (by kernel_rfl) (by decide) (fun K hK => ?_)
 refine goes_ Tryz.func38 (by kernel_rfl) rfl #[.slice A l.length c, .agg (planC 0 p1 p2 2 p4 p5), .int .i64 (-32768), .int .i64 32767] (by rfl) rfl rfl (by go_simp; exact ⟨rfl, by unfold wrap64; omega, by unfold wrap64; omega⟩) ?_
 refine (fftMay_any false 0 p1 p2 2 p4 p5 (-32768) 32767 A c l _ (Kd.C_below Cx_6.out hHeld) HC.out q0 q1 HN.out HO.out).mono ?_
 rintro e Wc ⟨rfl, hbl⟩
 refine ⟨_, rfl, ?_⟩
 refine hK.out _ _ (below_step hHeld hbl) (fun hHeld2 => ?_)
 clear hK K hHeld hbl
 have hHeld := hHeld2
 clear hHeld2
 refine norm_ (a' := ?_) ?_ ?_
 rotate_left
 ·show Act.put _ (some 26) _ = _
  simp only [Act.put, List.setIfInBounds_toArray, List.set_cons_zero, List.set_cons_succ, i64_w, i32_w]
  rfl
 refine pure_ (i := 10) (N := some 8) (v := ?_) (a' := ?_) (fl 11 2047) rfl rfl (by kernel_rfl) (fun _ _ _ h => h) (Or.inl ⟨by rfl, ?_⟩) ?_ ?_
 rotate_left
 ·intro w'
  go_simp
  with_reducible rfl
 rotate_left
 ·simp only [Act.put, List.setIfInBounds_toArray, List.set_cons_zero, List.set_cons_succ, i64_w, i32_w]
  rfl
 refine done_ (by kernel_rfl) ?_
 have HBc := Lib.hid (below_step HB_6.out hHeld)
 have B3c := Lib.hid (blk_below B3_6.out hHeld)
 have B4c := Lib.hid (blk_below B4_6.out hHeld)
 have B7c := Lib.hid (blk_below B7_6.out hHeld)
 have Rwc := Lib.hid (Kd.R_below Rw_6.out hHeld)
 clear hHeld
 go_wp2_with (first
  | ((with_reducible refine gate_dst (N := 31) rfl ?_); refine wpList_load_row rfl 56 _ rfl g7 rfl 56 #[.int .i64 0, .int .i64 p1, .int .i64 p2, .int .i64 2, .int .i64 p4, .bool p5, .iface 100 (.agg #[]), .int .i64 15, .slice Aw L.length cw] (0, 0) _ B7c.out Tryz.underlying56 rfl (size56 _ _ _ _ _ _ _ _ _) ?_)
  | (go_at_call 39; refine (first_2f 0 p1 p2 p4 15 p5 Aw L.length cw A c l l1 k h0 h1 _ (Kd.C_below HR.out HBc.out) HC.out HL.out HF.out h2).mono ?_; rintro e We ⟨A2, c2, rfl, ho, hb⟩; have Rze := Lib.hid (Kd.R_lower ho (below_size HBc.out)); have B4e := Lib.hid (blk_below B4c.out hb); have HBe := Lib.hid (below_step HBc.out hb); clear ho hb)
  | ((with_reducible refine gate_store (t := 28) (p := 4) rfl ?_); refine row_event rfl 28 _ _ rfl g4 #[.slice A2 l1.length c2, .int .i64 0, .bool false, .slice none 0 0] rfl rfl 28 #[.slice none 0 0, .int .i64 0, .bool false, .slice none 0 0] B4e.out (size28 _ _ _ _) rfl (one28 _ _ _ _ _ _ _ _) ?_; intro Wf hq hoth hbel; have B4f := Lib.hid hq; have HBf := Lib.hid (hbel _ _ L4 HBe.out); have Rzf := Lib.hid (R_othG rfl Rze.out B4e.out (by decide) hoth); clear hq hoth hbel))
 refine bodyPost_ret (results_ct rfl _ _ g4 28 #[.slice A2 l1.length c2, .int .i64 0, .bool false, .slice none 0 0] (0, 0) _ rfl B4f.out Tryz.underlying28 rfl (size28 _ _ _ _)) rfl ?_
 exact ⟨A2, c2, rfl, Rzf.out, HBf.out⟩
end Go.Proofs.YteieahbadclppaaGreat.P

