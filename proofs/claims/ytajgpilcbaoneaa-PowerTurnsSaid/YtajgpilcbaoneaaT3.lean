/- Squares: the iterator, what collects it, and the total. -/
import Derived.Test.YtajgpilcbaoneaaT2
import Derived.Test.YtajgpilcbaoneaaPf34
import Derived.RangeFuncNested
import Derived.RangeFuncBound
import Derived.RangeFuncCalls
import Derived.RangeFuncLeaves
import Derived.RangeFuncBox
import Derived.Shelf.Abstract
import Derived.Shelf.RegionOpen
import Derived.WalkKit
import Derived.OwnWalkIn
import Derived.TacticsInMore
import Derived.LoopNIn
import Derived.LoopIn
import Derived.RegionIn
import Derived.Outline
import Derived.Lib.Hide
import Derived.Maps.AppendAt
namespace Go.Proofs.Ytajgpilcbaoneaa.P
open Go.RowKit Go.Shelf Go.Proofs.YtajgpilcbaoneaaW.PrintWords Go.Proofs.YtajgpilcbaoneaaW.PrintLast Go.Proofs.YtajgpilcbaoneaaW.PrintMore
set_option linter.unusedVariables false
set_option linter.unusedSimpArgs false
attribute [local go_sem] Oper.semAt_some
/-- What a round must keep: all below s, and the box of the numbers. -/
def KeepSq (s Bn : Nat) (W W' : World) : Prop := Below s W W' ∧ ∀ v, Boxed W Bn 37 v → Boxed W' Bn 37 v
theorem keepSq_t {s Bn : Nat} {X Y Z : World} (h : KeepSq s Bn X Y) (k : KeepSq s Bn Y Z) : KeepSq s Bn X Z := ⟨h.1.trans k.1, fun v hv => k.2 v (h.2 v hv)⟩
theorem keepSq_b {s Bn : Nat} {w : World} (hs : s ≤ w.heap.size) (hB : Bn < w.heap.size) (W : World) (l : Nat) (o o' : Obj) (hl : w.heap.size ≤ l) (h1 : W.heap[l]? = some o) (h2 : o.isCells = false) (h3 : o.isWalk = false) : KeepSq s Bn W (W.putObj l o') :=
  ⟨belowK_b hs W l o o' hl h1 h2 h3, fun v hv => (World.putObj_heap_other (by omega)).trans hv⟩
/-- The squares of numbers. -/
def sqL (l : List S45) : List Int := l.map normU
theorem sq_take {l : List S45} {k : Nat} (hk : k < l.length) : l.take (k + 1) = l.take k ++ [rd_T45 l k] := by
  unfold rd_T45
  rw [List.take_succ_eq_append_getElem hk, Int.toNat_natCast, List.getD_eq_getElem?_getD, List.getElem?_eq_getElem hk]
  rfl
set_option maxRecDepth 100000 in
set_option maxHeartbeats 2000000 in
theorem squares1_in (n : Nat) (hn : 1 ≤ n) (lY Bn s : Nat) (A : Option Addr) (c : Nat) (l : List S45) (w0 : World) (hs : s = w0.heap.size) (hC : Kd.C k45 w0 A l.length l) (hc : l.length ≤ c) (J Jx : List S45 → World → Prop)
    (hJb : ∀ pre W W', J pre W → Below W.heap.size W W' → J pre W')
    (hY : ∀ pre x W, J pre W → pre.length < l.length → YieldAt Fence.wide (n - 1) Try.prog lY #[.int .u64 (normU x)] W fun e W' =>
      (e = .returned (.bool true) ∧ J (pre ++ [x]) W' ∧ KeepSq s Bn W W') ∨ (e = .returned (.bool false) ∧ Jx (pre ++ [x]) W'))
    (W : World) (hW : Below s w0 W) (hbx : Boxed W Bn 37 (.slice A l.length c)) (h0 : J [] W) :
    CallsIn Fence.wide n Try.prog 53 #[.func (.yield lY) #[] #[], .pointer (some ⟨Bn, 0, none⟩)] W fun e W' => (∃ v, e = .returned v) ∧
      ((∃ ys, ys = l ∧ J ys W') ∨ (∃ pre, pre <+: l ∧ Jx pre W')) := by
  have hcb := hbx.cell
  have hmax := hC.2.1
  unfold maxLen at hmax
  have HC := Lib.hid hC
  clear hC
  have HW := Lib.hid hW
  clear hW
  refine callsIn_of_wp Try.func53 rfl trivial ?_ rfl
  simp only [Try.ntmps53, List.size_toArray, List.length_cons, List.length_nil, Nat.reduceAdd, Nat.reduceSub, Array.replicate_succ, Array.replicate_zero, List.push_toArray, List.append_toArray, List.nil_append, List.cons_append]
  gi_wp2
  gi_loopw [9] (fun v9 wr => ∃ (k : Nat), k ≤ l.length ∧ v9 = .int .i64 k ∧ J (l.take k) wr ∧ Below s w0 wr ∧ Boxed wr Bn 37 (.slice A l.length c)) (fun v9 _ => l.length - (intOf v9).toNat)
  case atStart => exact ⟨0, by omega, rfl, h0, HW.out, hbx⟩
  case round =>
    obtain ⟨k, hk, rfl, hJk, hbk, hbxk⟩ := hrel
    have HJ := Lib.hid hJk
    have HBK := Lib.hid hbk
    have HBX := Lib.hid hbxk
    clear hJk hbk hbxk HW h0 hcb hbx
    by_cases hlt : k < l.length
    · obtain ⟨ad, rfl, g0, g1⟩ := at_T45 HC.out (k : Int) (by omega) (by omega)
      rw [Int.toNat_natCast] at g0 g1
      replace g0 := (HBK.out.cell (by rw [hs]; exact World.block_lt_of_cell? w0 _ g0)).trans g0
      replace g1 := (HBK.out.cell (by rw [hs]; exact World.block_lt_of_cell? w0 _ g1)).trans g1
      have HS := Lib.hid (sq_take hlt)
      generalize rd_T45 l (k : Int) = x at *
      have hsw : s ≤ wr.heap.size := by rw [hs]; exact HBK.out.size
      have hlen : (l.take k).length < l.length := by simp; omega
      gi_wp2_with (refine ⟨trivial, ?_⟩; gi_at_call 51; refine (callsIn_wide.2 (Norm_any x _)).mono ?_; generalize (if narrowB x = true then (0 : Int) else 2) = ee; rintro e W1 ⟨rfl, hb1⟩; have HW1 := Lib.hid (below_step (below_alloc (Below.refl wr.heap.size wr) _) hb1); clear hb1; have HJ1 := Lib.hid (hJb _ _ _ HJ.out HW1.out); obtain ⟨fn, tmps, assign, body, hy, hR⟩ := hY _ x W1 HJ1.out hlen)
      refine hR.mono ?_
      rintro e W3 (⟨rfl, hJ3, hk3⟩ | ⟨rfl, hJx3⟩)
      · have HK3 := Lib.hid hk3
        have HJ3 := Lib.hid hJ3
        clear hR hy hk3 hJ3
        gi_wp2
        go_roundw
        case rel => exact ⟨k + 1, by omega, by go_num, by rw [HS.out]; exact HJ3.out, (HBK.out.trans (HW1.out.mono hsw)).trans HK3.out.1, HK3.out.2 _ ((HW1.out.block Bn HBX.out.lt).trans HBX.out)⟩
        case measure => simp [intOf]; omega
      · gi_wp2
        refine bodyPost_ret (results_none rfl _ _ _) rfl ?_
        refine ⟨⟨_, rfl⟩, .inr ⟨l.take k ++ [x], ?_, hJx3⟩⟩
        rw [← HS.out]
        exact ⟨l.drop (k + 1), List.take_append_drop _ _⟩
    · obtain rfl : k = l.length := by omega
      gi_wp2
      go_end0
      exact ⟨⟨_, rfl⟩, .inl ⟨_, by rw [List.take_length], HJ.out⟩⟩
theorem squares_stops (n : Nat) (hn : 1 ≤ n) (Bn s : Nat) (A : Option Addr) (c : Nat) (l : List S45) (w0 w : World) (hs : s = w0.heap.size) (hC : Kd.C k45 w0 A l.length l) (hc : l.length ≤ c) (hw : Below s w0 w) (hb : Boxed w Bn 37 (.slice A l.length c)) :
    SeqStopsK Fence.wide n Try.prog 53 #[.pointer (some ⟨Bn, 0, none⟩)] (fun x : S45 => #[Value.int .u64 (normU x)]) (KeepSq s Bn) (fun ys => ys = l) (fun pre => pre <+: l) l.length w := fun lY J Jx W hW hJ _ hY h0 =>
  squares1_in n hn lY Bn s A c l w0 hs hC hc J Jx (fun pre X Y h hXY => hJ _ _ _ none h (grown_of_below hXY none) (fun r e => by cases e)) hY W (hw.trans (hW.mono (by rw [hs]; exact hw.size))) ((hW.block Bn hb.lt).trans hb) h0
set_option maxHeartbeats 1000000 in
theorem squares_in (n : Nat) (A : Option Addr) (len c : Nat) (w : World) :
    CallsIn Fence.wide n Try.prog 39 #[.slice A len c] w fun e w' => e = .returned (.func (.func 53) #[] #[.pointer (some ⟨w.heap.size, 0, none⟩)]) ∧ w' = w.alloc (.cells #[.slice A len c] 37) := by
  refine callsIn_of_wp Try.func39 rfl trivial ?_ rfl
  simp only [Try.ntmps39, List.size_toArray, List.length_cons, List.length_nil, Nat.reduceAdd, Nat.reduceSub, Array.replicate_succ, Array.replicate_zero, List.push_toArray, List.append_toArray, List.nil_append, List.cons_append]
  gi_wp2
  go_ret
  exact ⟨rfl, rfl⟩

theorem info43' : (Try.prog.info? 43).map (fun i => (i.zero, i.size, i.bytes)) = some (some (.int .u64 0), 1, 8) := by kernel_rfl
theorem sqL_length (l : List S45) : (sqL l).length = l.length := by simp [sqL]
set_option maxRecDepth 100000 in
set_option maxHeartbeats 4000000 in
theorem appendSeq_in (n : Nat) (hn : 3 ≤ n) (Bn s : Nat) (A : Option Addr) (c : Nat) (l : List S45) (w0 w : World) (hs : s = w0.heap.size) (hC : Kd.C k45 w0 A l.length l) (hc : l.length ≤ c) (hlim : l.length * 16 ≤ 140737488351232) (hw : Below s w0 w) (hb : Boxed w Bn 37 (.slice A l.length c)) :
    CallsIn Fence.wide n Try.prog 54 #[.slice none 0 0, .func (.func 53) #[] #[.pointer (some ⟨Bn, 0, none⟩)]] w fun e W' => ∃ v, e = .returned v ∧ W'.ownsRow w.heap.size 43 1 v (sqL l).length ((sqL l).map (Value.int .u64)) ∧ Below w.heap.size w W' := by
  have h1 : 1 ≤ n := by omega
  have hmx : Try.prog.follows .mixedOrders = true := by kernel_rfl
  have hbl := hb.lt
  have hsw : s ≤ w.heap.size := by rw [hs]; exact hw.size
  obtain ⟨i0, hi, hz0, hz1, hz2⟩ := info_parts info43'
  refine callsIn_of_wp_marks Try.func54 rfl trivial ?_ rfl
  simp only [Try.ntmps54, List.size_toArray, List.length_cons, List.length_nil, Nat.reduceAdd, Nat.reduceSub, Array.replicate_succ, Array.replicate_zero, List.push_toArray, List.append_toArray, List.nil_append, List.cons_append]
  gi_wp2
  have bO := Boxed.new w 48 (.slice none 0 0)
  have hB0 : Below w.heap.size w (w.alloc (.cells #[.slice none 0 0] 48)) := (Below.refl _ w).alloc (Nat.le_refl _) _
  refine wpIn_rangeFunc_ownF rfl h1 (gf := 53) (lb := #[.pointer (some ⟨Bn, 0, none⟩)]) rfl trivial (enters_of Try.func53 (by kernel_rfl) rfl)
    (squares_stops (n - 1) (by omega) Bn s A c l w0 _ hs hC hc (hw.trans (hB0.mono hsw)) (hb.alloc _)) keepSq_t (keepSq_b (by simp; omega) (by simp; omega)) (Below.refl _ _) (fun _ => rfl)
    (fun (pre : List S45) W => (∃ v, Boxed W w.heap.size 48 v ∧ W.ownsRow w.heap.size 43 1 v pre.length (pre.map fun x => Value.int .u64 (normU x)) ∧ True) ∧ Below w.heap.size w W)
    (fun _ _ _ => False)
    (OwnFrom.and (Own.from (holdsRow_own w.heap.size w.heap.size 48 43 1 (fun (pre : List S45) => pre.length) (fun pre => pre.map fun x => Value.int .u64 (normU x)) (fun pre v => True)) _) (ownFrom_below (Nat.le_refl _) (by simp)))
    (fun _ _ _ _ _ hs _ _ => hs)
    ⟨⟨_, bO, World.ownsRow_nil _ _ _ _, trivial⟩, hB0⟩
    (fun x => { tmps := #[.slice none 0 0, .func (.func 53) #[] #[.pointer (some ⟨Bn, 0, none⟩)], .pointer (some ⟨w.heap.size, 0, none⟩), undef, .slice none 0 0, .int .u64 (normU x), .func (.func 53) #[] #[.pointer (some ⟨Bn, 0, none⟩)], .int .u64 (normU x), undef, undef, undef, undef, undef], defers := [] }) ?assign ?body ?done ?stop
  case assign =>
    intro l x W K hK
    gi_wp2
    exact hK
  case body =>
    rintro lY pre x W ⟨⟨v, hv, hrow, _⟩, hB⟩ hlt
    have hc := hv.cell
    have hbs := hB.size
    gi_wp2_with (gi_at_builtin; refine wpListIn_append_own _ rfl _ _ 48 rfl w.heap.size 43 i0 (.int .u64 0) 1 8 Try.underlying48 hi hz0 hz1 hz2 rfl (by decide) _ _ _ rfl (hrow.alloc _) ⟨W.heap.size, 0, none⟩ 1 1 [.int .u64 (normU x)] rfl rfl (cell_one_new _ _ _) (by simp [Value.oneCell']) (by rw [show maxLen = 9223372036854775807 from by decide]; omega) (by omega) (by simp; omega) ?_; intro v' w1 hown' hgrow _; obtain ⟨g', cap', rfl⟩ := ownsRow_succ hown'; obtain ⟨hv1, hv2, hr2, hk2, hb2⟩ := hv.appended (by decide) hrow hB.size (Nat.le_refl _) hown' hgrow; have hc1 := hv1.cell; have hf1 := hv1.frozen)
    exact ⟨hk2, ⟨hb2.mono hsw, fun v hv => (hb2.block Bn hbl).trans hv⟩, ⟨_, hv2, by simpa using hr2, trivial⟩, hB.trans hb2⟩
  case done =>
    rintro D ys W hD rfl ⟨⟨v, hv, hrow, _⟩, hB⟩ hK
    have hc := hv.cell
    gi_wp2
    refine ⟨by simp, .inl ⟨_, _, rfl, run_takeDeferred hK, ?_⟩⟩
    exact ⟨_, results_tmp rfl _ _ _, v, rfl, ownsRow_putObj (by unfold sqL; rw [List.length_map, List.map_map]; exact hrow) _ hK rfl, hB.trans (belowK_b (w := w) (Nat.le_refl _) W D _ _ (by simp at hD; omega) hK rfl rfl)⟩
  case stop =>
    rintro D c pre W _ _ h _
    exact h.elim
set_option maxHeartbeats 1000000 in
theorem collect_in (n : Nat) (hn : 4 ≤ n) (Bn s : Nat) (A : Option Addr) (c : Nat) (l : List S45) (w0 w : World) (hs : s = w0.heap.size) (hC : Kd.C k45 w0 A l.length l) (hc : l.length ≤ c) (hlim : l.length * 16 ≤ 140737488351232) (hw : Below s w0 w) (hb : Boxed w Bn 37 (.slice A l.length c)) :
    CallsIn Fence.wide n Try.prog 40 #[.func (.func 53) #[] #[.pointer (some ⟨Bn, 0, none⟩)]] w fun e W' => ∃ v, e = .returned v ∧ W'.ownsRow w.heap.size 43 1 v (sqL l).length ((sqL l).map (Value.int .u64)) ∧ Below w.heap.size w W' := by
  refine callsIn_of_wp Try.func40 rfl trivial ?_ rfl
  simp only [Try.ntmps40, List.size_toArray, List.length_cons, List.length_nil, Nat.reduceAdd, Nat.reduceSub, Array.replicate_succ, Array.replicate_zero, List.push_toArray, List.append_toArray, List.nil_append, List.cons_append]
  gi_wp2_with (refine ⟨trivial, by simp [Fence.wide], ?_⟩; refine (appendSeq_in (n - 1) (by omega) Bn s A c l w0 w hs hC hc hlim hw hb).mono ?_; rintro e w' ⟨v, rfl, hr, hbw⟩)
  go_ret
  exact ⟨v, rfl, hr, hbw⟩
set_option maxHeartbeats 1000000 in
theorem Spectrum_yes (n : Nat) (hn : 5 ≤ n) (A : Option Addr) (c : Nat) (l : List S45) (w : World) (hC : Kd.C k45 w A l.length l) (hc : l.length ≤ c) (hlim : l.length * 16 ≤ 140737488351232) (hm : mayE l = 0) :
    CallsIn Fence.wide n Try.prog 25 #[.slice A l.length c] w fun e W' => ∃ v, e = .returned (.tuple #[v, .int .i64 0]) ∧ W'.ownsRow w.heap.size 43 1 v (sqL l).length ((sqL l).map (Value.int .u64)) ∧ Below w.heap.size w W' := by
  have HC := Lib.hid hC
  have HM := Lib.hid hm
  clear hC hm
  refine callsIn_of_wp Try.func25 rfl trivial ?_ rfl
  simp only [Try.ntmps25, List.size_toArray, List.length_cons, List.length_nil, Nat.reduceAdd, Nat.reduceSub, Array.replicate_succ, Array.replicate_zero, List.push_toArray, List.append_toArray, List.nil_append, List.cons_append]
  gi_wp2_with (first
    | (refine ⟨trivial, by simp [Fence.wide], ?_⟩; refine (callsIn_wide.2 (may_any A c l _ HC.out hc)).mono ?_; rw [HM.out]; rintro e W1 ⟨rfl, hb⟩; have HB1 := Lib.hid hb; clear hb)
    | (refine ⟨trivial, by simp [Fence.wide], ?_⟩; refine (squares_in (n - 1) A l.length c _).mono ?_; rintro e w' ⟨rfl, rfl⟩)
    | (refine ⟨trivial, by simp [Fence.wide], ?_⟩; refine (collect_in (n - 1) (by omega) W1.heap.size w.heap.size A c l w _ rfl HC.out hc hlim (below_alloc HB1.out _) (Boxed.new W1 37 _)).mono ?_; rintro e w' ⟨v, rfl, hr, hbw⟩))
  go_ret2
  refine ⟨v, rfl, own_less hr ?_, (below_alloc HB1.out _).trans (hbw.mono ?_)⟩
  · have := HB1.out.size; simp; omega
  · have := HB1.out.size; simp; omega
set_option maxHeartbeats 1000000 in
theorem Spectrum_no (A : Option Addr) (c : Nat) (l : List S45) (w : World) (hC : Kd.C k45 w A l.length l) (hc : l.length ≤ c) (hm : mayE l = 2) :
    Calls Try.prog 25 #[.slice A l.length c] w fun e W' => e = .returned (.tuple #[.slice none 0 0, .int .i64 2]) ∧ Below w.heap.size w W' := by
  have HC := Lib.hid hC
  have HM := Lib.hid hm
  clear hC hm
  go_enter Try.func25, Try.ntmps25
  go_wp2_with (go_at_call 38; refine (may_any A c l _ HC.out hc).mono ?_; rw [HM.out]; rintro e W1 ⟨rfl, hb⟩; have HB1 := Lib.hid hb; clear hb)
  go_ret2
  exact ⟨rfl, HB1.out⟩

/-- One number more in a total of two parts. -/
def totStep (s : Int × Int) (x : S45) : Int × Int := (IntKind.u64.wrap (s.1 + (s.2 + normU x) / 18446744073709551616), (s.2 + normU x) % 18446744073709551616)
def totL (l : List S45) : Int × Int := l.foldl totStep (0, 0)
theorem normU_nn (x : S45) : 0 ≤ normU x := by
  unfold normU
  split
  · have h : ∀ a : Int, 0 ≤ a * a := fun a => by
      rcases Int.le_total 0 a with q | q
      · exact Int.mul_nonneg q q
      · exact Int.mul_nonneg_of_nonpos_of_nonpos q q
    have := h x.f0
    have := h x.f1
    omega
  · decide
theorem totL_snoc (l : List S45) (x : S45) : totL (l ++ [x]) = totStep (totL l) x := by simp [totL]
theorem totL_nn (l : List S45) : 0 ≤ (totL l).2 := by
  have key : ∀ (l : List S45) (s : Int × Int), 0 ≤ s.2 → 0 ≤ (l.foldl totStep s).2 := by
    intro l
    induction l with
    | nil => intro s h; exact h
    | cons x l ih => intro s h; exact ih _ (Int.emod_nonneg _ (by decide))
  exact key l (0, 0) (by decide)
theorem add64_run (x y : Int) (hx : 0 ≤ x) (hy : 0 ≤ y) (w : World) : (callFunc 34 #[.int .u64 x, .int .u64 y, .int .u64 0]).run Try.prog w = .ok (.value (.tuple #[.int .u64 ((x + y + 0) % 18446744073709551616), .int .u64 ((x + y + 0) / 18446744073709551616)])) w := by
  rw [run_callFunc_extern Try.func34 (by kernel_rfl) (by kernel_rfl) (by kernel_rfl) (e := add64Entry) (by kernel_rfl), run_add64 x y 0 hx hy (by decide) (by decide)]
  rfl
/-- A row of two words in a block. -/
def Row2 (W : World) (B : Nat) (s : Int × Int) : Prop := W.heap[B]? = some (.cells #[.int .u64 s.1, .int .u64 s.2] 66 (0, 0))
theorem row2_own (B : Nat) : Own (fun (pre : List S45) W => Row2 W B (totL pre)) := fun s X Y row hs hg hrow =>
  (hg.block B (Array.getElem?_eq_some_iff.1 hs).1 (fun e' => by obtain ⟨o, ho, hc⟩ := hrow B e'.symm; rw [show X.heap[B]? = _ from hs] at ho; cases ho; cases hc)).trans hs
set_option maxRecDepth 100000 in
set_option maxHeartbeats 4000000 in
theorem Total_yes (n : Nat) (hn : 4 ≤ n) (A : Option Addr) (c : Nat) (l : List S45) (w : World) (hC : Kd.C k45 w A l.length l) (hc : l.length ≤ c) (hm : mayE l = 0) :
    CallsIn Fence.wide n Try.prog 23 #[.slice A l.length c] w fun e W' => e = .returned (.tuple #[.int .u64 (totL l).1, .int .u64 (totL l).2, .int .i64 0]) ∧ Below w.heap.size w W' := by
  have h1 : 1 ≤ n := by omega
  have hmx : Try.prog.follows .mixedOrders = true := by kernel_rfl
  have HC := Lib.hid hC
  have HM := Lib.hid hm
  clear hC hm
  refine callsIn_of_wp_marks Try.func23 rfl trivial ?_ rfl
  simp only [Try.ntmps23, List.size_toArray, List.length_cons, List.length_nil, Nat.reduceAdd, Nat.reduceSub, Array.replicate_succ, Array.replicate_zero, List.push_toArray, List.append_toArray, List.nil_append, List.cons_append]
  gi_wp2_with (first
    | (refine ⟨trivial, ?_⟩; gi_at_call 38; refine (callsIn_wide.2 (may_any A c l _ HC.out hc)).mono ?_; rw [HM.out]; rintro e W1 ⟨rfl, hb⟩; have HB1 := Lib.hid hb; clear hb)
    | (refine ⟨trivial, ?_⟩; gi_at_call 39; refine (squares_in (n - 1) A l.length c _).mono ?_; rintro e w' ⟨rfl, rfl⟩))
  have hbB := Boxed.new (W1.alloc (.cells #[.int .u64 0, .int .u64 0] 66)) 37 (.slice A l.length c)
  rw [World.size_alloc] at hbB
  have hS0 : Row2 ((W1.alloc (.cells #[.int .u64 0, .int .u64 0] 66)).alloc (.cells #[.slice A l.length c] 37)) W1.heap.size (0, 0) := blk_alloc (blk_new W1 _) _
  have hB0 := below_alloc (below_alloc HB1.out (.cells #[.int .u64 0, .int .u64 0] 66)) (.cells #[.slice A l.length c] 37)
  have hsz := HB1.out.size
  refine wpIn_rangeFunc_ownF rfl h1 (gf := 53) (lb := #[.pointer (some ⟨W1.heap.size + 1, 0, none⟩)]) rfl trivial (enters_of Try.func53 (by kernel_rfl) rfl)
    (squares_stops (n - 1) (by omega) (W1.heap.size + 1) w.heap.size A c l w _ rfl HC.out hc hB0 hbB) keepSq_t (keepSq_b (by simp; omega) (by simp)) (Below.refl _ _) (fun _ => rfl)
    (fun (pre : List S45) W => Row2 W W1.heap.size (totL pre) ∧ Below w.heap.size w W)
    (fun _ _ _ => False)
    (OwnFrom.and (Own.from (row2_own W1.heap.size) _) (ownFrom_below (Nat.le_refl _) (by simp; omega)))
    (fun _ _ _ _ _ hs _ _ => hs)
    ⟨hS0, hB0⟩
    (fun x => { tmps := #[.slice A l.length c, undef, .int .u64 0, .int .u64 0, .int .i64 0, .int .i64 0, .pointer (some ⟨W1.heap.size, 0, none⟩), .int .u64 (normU x), undef, undef, .slice A l.length c, .int .i64 0, .int .i64 0, .bool false, undef, .slice A l.length c, .func (.func 53) #[] #[.pointer (some ⟨W1.heap.size + 1, 0, none⟩)], .int .u64 (normU x), undef, undef, undef, undef, undef, undef, undef, undef, undef, undef, undef, undef, undef, undef, undef, undef, undef], defers := [] }) ?assign ?body ?done ?stop
  case assign =>
    intro l x W K hK
    gi_wp2
    exact hK
  case body =>
    rintro lY pre x W ⟨hr, hB⟩ hlt
    have hc0 : W.cell? ⟨W1.heap.size, 0, none⟩ = some (.int .u64 (totL pre).1) := (blk_cell hr 0).trans rfl
    have hc1 : W.cell? ⟨W1.heap.size, 1, none⟩ = some (.int .u64 (totL pre).2) := (blk_cell hr 1).trans rfl
    have hf0 := blk_frozen hr 0
    have hf1 := blk_frozen hr 1
    have HR := Lib.hid hr
    have HBW := Lib.hid hB
    clear hr hB
    have hadd := add64_run (totL pre).2 (normU x) (totL_nn pre) (normU_nn x)
    have HT := Lib.hid (totL_snoc pre x)
    gi_wp2_with (refine ⟨trivial, ?_⟩)
    refine ⟨(KeepsOthers.setCell _ _ _).trans (KeepsOthers.setCell _ _ _), ⟨((Below.refl _ W).setCell (p := ⟨W1.heap.size, 0, none⟩) hsz _).setCell (p := ⟨W1.heap.size, 1, none⟩) hsz _, fun v hv => (Below.heap_setCell _ ⟨W1.heap.size, 1, none⟩ _ _ (by simp)).trans ((Below.heap_setCell _ ⟨W1.heap.size, 0, none⟩ _ _ (by simp)).trans hv)⟩, ?_, (HBW.out.setCell (p := ⟨W1.heap.size, 0, none⟩) hsz _).setCell (p := ⟨W1.heap.size, 1, none⟩) hsz _⟩
    rw [HT.out]
    exact blk_put (blk_put HR.out 0 _ rfl) 1 _ rfl
  case done =>
    rintro D ys W hD rfl ⟨hr, hB⟩ hK
    have hc0 : W.cell? ⟨W1.heap.size, 0, none⟩ = some (.int .u64 (totL ys).1) := (blk_cell hr 0).trans rfl
    have hc1 : W.cell? ⟨W1.heap.size, 1, none⟩ = some (.int .u64 (totL ys).2) := (blk_cell hr 1).trans rfl
    have HBW := Lib.hid hB
    clear hr hB
    gi_wp2
    gi_region
    gi_wp2
    refine ⟨by simp, .inl ⟨_, _, rfl, run_takeDeferred (w := W.drew) hK, ?_⟩⟩
    exact ⟨_, results_tmp3 rfl _ _ _, rfl, HBW.out.drew.trans (belowK_b (w := w) (Nat.le_refl _) W.drew D _ _ (by simp at hD; omega) hK rfl rfl)⟩
  case stop =>
    rintro D c pre W _ _ h _
    exact h.elim
end Go.Proofs.Ytajgpilcbaoneaa.P
