-- Printed for this claim by drive.py (a program of this session's) through the kit's print program; not trusted: Lean checks it.
import Derived.Test.YtbpanbmjkfhcgaaP0
import Derived.Test.YtbpanbmjkfhcgaaPg5
namespace Go.Proofs.Ytbpanbmjkfhcgaa.P
open Go.RowKit Go.Proofs.YtbpanbmjkfhcgaaW.PrintWords Go.Proofs.YtbpanbmjkfhcgaaW.PrintLast Go.Proofs.YtbpanbmjkfhcgaaW.PrintMore
attribute [local go_sem] max2_int min2_int max_two min_two max_three min_three max_four min_four   -- for this text's walks alone
set_option linter.unusedVariables false
set_option linter.unusedSimpArgs false

/-! ### api_Plan_int: function 54 -/
section
variable {P : Program} {ops : Array Oper} {Q : Exit → Act → World → Prop}
/-- A call through a variable that holds a function (nothing captured). -/
theorem goesV_ {oi : Oper} {N : Option Tmp} {a : Act} {w : World} {K : Act → World → Prop} {t : Tmp} {f : FuncId} {fn : Func} {xs : Array Operand} {ts : Array TypeId} (hv : a.eval (.tmp t) = .func (.func f) #[] #[]) (hf : P.funcs[f]? = some fn) (hname : (fn.name == "runtime.NumGoroutine") = false) (hb : fn.body.isSome = true) (args : Array Value)
    (hw : Region.wanted oi (yielded ops a.tmps) = true) (hN : oi.dst = N) (hop : oi.op = .call { callee := .value (.tmp t), args := xs, argTypes := ts }) (hargs : xs.map a.eval = args)
    (h : Calls P f args w fun e w' => ∃ v, e = .returned v ∧ K (a.put N v) w') : if Region.wanted oi (yielded ops a.tmps) = true then Oper.wp P oi a w K Q else K (a.put N undef) w := by
  refine call_ f args hw hN ?_ h
  have he := enters_ hf hname hb args w
  unfold execOp
  rw [hop]
  simp [hv, resolve, Deferred.ofValue, invoke, hargs, he]
theorem goesVL_ {rest : List Oper} {oi : Oper} {a : Act} {w : World} (N : Option Tmp) (hd : oi.dst = N) (hg : oi.guard = none) {t : Tmp} {f : FuncId} {fn : Func} {xs : Array Operand} {ts : Array TypeId} (hv : a.eval (.tmp t) = .func (.func f) #[] #[]) (hf : P.funcs[f]? = some fn) (hname : (fn.name == "runtime.NumGoroutine") = false) (hb : fn.body.isSome = true) (args : Array Value)
    (hop : oi.op = .call { callee := .value (.tmp t), args := xs, argTypes := ts }) (hargs : xs.map a.eval = args)
    (h : Calls P f args w fun e w' => ∃ v, e = .returned v ∧ wpList P ops Q rest (a.put N v) w') : wpList P ops Q (oi :: rest) a w := by
  refine wpList_plain hg fun K hK => ?_
  have he := enters_ hf hname hb args w
  have hrun : (execOp a.eval oi).run P w = .ok (.enter f args) w := by
    unfold execOp
    rw [hop]
    simp [hv, resolve, Deferred.ofValue, invoke, hargs, he]
  unfold Oper.wp
  rw [hrun, Oper.upon_enter]
  refine h.mono fun e w'' hh => ?_
  obtain ⟨v, rfl, hk⟩ := hh
  subst hd
  exact hK _ _ hk
end

def api_Plan_int.l0 : Nat → List (S23) → Int → Int → Int → Int → Int → Int → Int → Bool → Option (Int × Int × Int × Int × Int × Bool)
  | 0, _, _, _, _, _, _, _, _, _ => none
  | k + 1, x12, x13, x14, x387000, x387001, x387002, x387003, x387004, x387005 => if x14 < x13 then (if 0 ≤ x14 then (if x14 < (x12.length : Int) then ((choose_loss.f k ((rd_T23 x12 x14).f0) ((rd_T23 x12 x14).f1) ((rd_T23 x12 x14).f2) ((rd_T23 x12 x14).f3) ((rd_T23 x12 x14).f4) ((rd_T23 x12 x14).f5)).bind fun t393 => ((choose_loss.f k x387000 x387001 x387002 x387003 x387004 x387005).bind fun t394 => (if t393 < t394 then (api_Plan_int.l0 k x12 x13 (wrap64 (x14 + 1)) ((rd_T23 x12 x14).f0) ((rd_T23 x12 x14).f1) ((rd_T23 x12 x14).f2) ((rd_T23 x12 x14).f3) ((rd_T23 x12 x14).f4) ((rd_T23 x12 x14).f5)) else (api_Plan_int.l0 k x12 x13 (wrap64 (x14 + 1)) x387000 x387001 x387002 x387003 x387004 x387005)))) else (none)) else (none)) else (some (x387000, x387001, x387002, x387003, x387004, x387005))
def api_Plan_int.f (k : Nat) (l0 : List (S23)) : Option (Int × Int × Int × Int × Int × Bool) := if 0 < (l0.length : Int) then (if 1 ≤ (l0.length : Int) then ((some (l0.drop 1 : List (S23))).bind fun y387 => (api_Plan_int.l0 k y387 (y387.length : Int) 0 ((rd_T23 l0 0).f0) ((rd_T23 l0 0).f1) ((rd_T23 l0 0).f2) ((rd_T23 l0 0).f3) ((rd_T23 l0 0).f4) ((rd_T23 l0 0).f5))) else (none)) else (none)
theorem api_Plan_int.mono_l : ∀ k, (∀ y0 y1 y2 y3 y4 y5 y6 y7 y8, LeO (api_Plan_int.l0 k y0 y1 y2 y3 y4 y5 y6 y7 y8) (api_Plan_int.l0 (k + 1) y0 y1 y2 y3 y4 y5 y6 y7 y8))
  | 0 => fun _ _ _ _ _ _ _ _ _ r h => by simp [api_Plan_int.l0] at h
  | k + 1 => by
    have ih0 := api_Plan_int.mono_l k
    · intro y0 y1 y2 y3 y4 y5 y6 y7 y8
      unfold api_Plan_int.l0
      repeat' first
      | (with_reducible exact ih0 _ _ _ _ _ _ _ _ _)
      | (with_reducible exact choose_loss.mono _ _ _ _ _ _ _)
      | (with_reducible exact LeO.refl _)
      | (with_reducible exact LeO.none _)
      | (with_reducible refine LeO.ite ?_ ?_)
      | (with_reducible refine LeO.bind ?_ (fun _ => ?_))
      | exact ih0 _ _ _ _ _ _ _ _ _
      | exact choose_loss.mono _ _ _ _ _ _ _
      | exact LeO.none _
      | refine LeO.ite ?_ ?_
      | refine LeO.bind ?_ (fun _ => ?_)
theorem api_Plan_int.mono : ∀ a0 k, LeO (api_Plan_int.f k a0) (api_Plan_int.f (k + 1) a0) := by
  intro a0 k
  have ih0 := api_Plan_int.mono_l k
  unfold api_Plan_int.f
  repeat' first
      | (with_reducible exact ih0 _ _ _ _ _ _ _ _ _)
      | (with_reducible exact choose_loss.mono _ _ _ _ _ _ _)
      | (with_reducible exact LeO.refl _)
      | (with_reducible exact LeO.none _)
      | (with_reducible refine LeO.ite ?_ ?_)
      | (with_reducible refine LeO.bind ?_ (fun _ => ?_))
      | exact ih0 _ _ _ _ _ _ _ _ _
      | exact choose_loss.mono _ _ _ _ _ _ _
      | exact LeO.none _
      | refine LeO.ite ?_ ?_
      | refine LeO.bind ?_ (fun _ => ?_)
set_option maxHeartbeats 8000000 in
set_option maxRecDepth 100000 in
theorem api_Plan_int.calls (k : Nat) (A0 : Option Addr) (c0 : Nat) (l0 : List (S23)) (r1 : Int) (r2 : Int) (r3 : Int) (r4 : Int) (r5 : Int) (r6 : Bool) (w : World) (hr0 : Kd.C k23 w A0 l0.length l0) (hc0 : l0.length ≤ c0) (h : api_Plan_int.f k l0 = some (r1, r2, r3, r4, r5, r6)) :
    Calls Try.prog 54 #[.slice A0 l0.length c0, .func (.func 53) #[] #[]] w fun e w' => e = .returned (.agg #[.int .i64 r1, .int .i64 r2, .int .i64 r3, .int .i64 r4, .int .i64 r5, .bool r6]) ∧ Below w.heap.size w w' := by
  have hu23 := Try.underlying23
  have HR0 := Aside0.mk hr0
  have HC0 := Aside0.mk hc0
  clear hr0 hc0
  have HB := Aside0.mk (Below.refl w.heap.size w)
  have H : (if 0 < (l0.length : Int) then (if 1 ≤ (l0.length : Int) then ((some (l0.drop 1 : List (S23))).bind fun y387 => (api_Plan_int.l0 k y387 (y387.length : Int) 0 ((rd_T23 l0 0).f0) ((rd_T23 l0 0).f1) ((rd_T23 l0 0).f2) ((rd_T23 l0 0).f3) ((rd_T23 l0 0).f4) ((rd_T23 l0 0).f5))) else (none)) else (none)) = some (r1, r2, r3, r4, r5, r6) := h
  clear h
  by_cases c2 : 0 < (l0.length : Int)
  · rw [if_pos c2] at H
    have c2b0 : decide (0 < (l0.length : Int)) = true := decide_eq_true c2
    have c2b1 : decide (0 < l0.length) = true := decide_eq_true (by omega)
    clear c2
    by_cases c3 : 1 ≤ (l0.length : Int)
    · rw [if_pos c3] at H
      have c3b0 := eq_true c3
      have c3b1 : decide (1 ≤ (l0.length : Int)) = true := decide_eq_true c3
      clear c3
      obtain ⟨y387, hy387⟩ : ∃ y_ : List (S23), y_ = (l0.drop 1) := ⟨_, rfl⟩
      replace H : (api_Plan_int.l0 k y387 (y387.length : Int) 0 ((rd_T23 l0 0).f0) ((rd_T23 l0 0).f1) ((rd_T23 l0 0).f2) ((rd_T23 l0 0).f3) ((rd_T23 l0 0).f4) ((rd_T23 l0 0).f5)) = some (r1, r2, r3, r4, r5, r6) := by first | (rw [hy387]; with_reducible exact H) | (have H2_ := (Option.bind_some _ _).symm.trans H; rw [hy387]; with_reducible exact H2_) | (have H2_ := (Option.bind_some _ _).symm.trans H; with_reducible exact H2_) | with_reducible exact H | (rw [hy387]; exact H) | exact H
      have Ny387 := Aside0.mk hy387
      clear hy387
      have H' := Aside0.mk H
      clear H
      go_enter Try.func54, Try.ntmps54
      go_wp2_with (first | ((with_reducible refine gate_dst (N := 4) rfl ?_); refine box_event ?hg (N := 4) ?hd (cs := #[.int .i64 0, .int .i64 0, .int .i64 0, .int .i64 0, .int .i64 0, .bool false]) (t := 23) ?hr ?_; (case hd => rfl); (case hg => rfl); (case hr => first | (go_simp; done) | (go_simp; rfl)); intro gb384 hg w4 hbox hb; have n0_ := Aside0.mk (below_step (by repeat (first | (with_reducible first | exact HB.out | apply below_alloc | apply pw_below_drewN | apply below_drew1) | exact HB.out)) hb); have n1_ := Aside0.mk (hbox); have n2_ := Aside0.mk ((by rw [hg]; exact (below_size (by repeat (first | (with_reducible first | exact HB.out | apply below_alloc | apply pw_below_drewN | apply below_drew1) | exact HB.out))) : w.heap.size ≤ gb384)); have n3_ := Aside0.mk ((by rw [hg]; exact (below_size (by repeat (first | (with_reducible first | exact HB.out | apply below_alloc | apply pw_below_drewN | apply below_drew1) | exact HB.out))) : w.heap.size ≤ gb384)); clear HB; have HB := n0_; have BK384 := n1_; have GW384 := n2_; have GE384 := n3_; clear n0_ n1_ n2_ n3_; clear hb hbox hg; have p385 : 0 ≤ (0 : Int) := (by omega); have q385 : 0 < (l0.length : Int) := of_decide_eq_true (by first | (with_reducible assumption) | assumption); obtain ⟨ad385, e385, hx385_0, hx385_1, hx385_2, hx385_3, hx385_4, hx385_5⟩ := at_T23 HR0.out 0 p385 q385; cases e385; have qi385 : (0 < l0.length) = True := eq_true (by omega); (try rw [show ((0 : Int)).toNat = 0 from rfl] at hx385_0); (try rw [show 0 * 6 = 0 from rfl] at hx385_0); (try rw [Addr.add_zero'] at hx385_0); (try rw [show ((0 : Int)).toNat = 0 from rfl] at hx385_1); (try rw [show 0 * 6 = 0 from rfl] at hx385_1); (try rw [Addr.add_zero'] at hx385_1); (try rw [show ((0 : Int)).toNat = 0 from rfl] at hx385_2); (try rw [show 0 * 6 = 0 from rfl] at hx385_2); (try rw [Addr.add_zero'] at hx385_2); (try rw [show ((0 : Int)).toNat = 0 from rfl] at hx385_3); (try rw [show 0 * 6 = 0 from rfl] at hx385_3); (try rw [Addr.add_zero'] at hx385_3); (try rw [show ((0 : Int)).toNat = 0 from rfl] at hx385_4); (try rw [show 0 * 6 = 0 from rfl] at hx385_4); (try rw [Addr.add_zero'] at hx385_4); (try rw [show ((0 : Int)).toNat = 0 from rfl] at hx385_5); (try rw [show 0 * 6 = 0 from rfl] at hx385_5); (try rw [Addr.add_zero'] at hx385_5); replace hx385_0 := (HB.out.cell (World.block_lt_of_cell? w _ hx385_0)).trans hx385_0; replace hx385_1 := (HB.out.cell (World.block_lt_of_cell? w _ hx385_1)).trans hx385_1; replace hx385_2 := (HB.out.cell (World.block_lt_of_cell? w _ hx385_2)).trans hx385_2; replace hx385_3 := (HB.out.cell (World.block_lt_of_cell? w _ hx385_3)).trans hx385_3; replace hx385_4 := (HB.out.cell (World.block_lt_of_cell? w _ hx385_4)).trans hx385_4; replace hx385_5 := (HB.out.cell (World.block_lt_of_cell? w _ hx385_5)).trans hx385_5; replace p385 := eq_true p385; replace q385 := eq_true q385) | ((with_reducible refine gate_dst (N := 5) rfl ?_); refine box_event ?hg (N := 5) ?hd (cs := #[.int .i64 0, .int .i64 0, .int .i64 0, .int .i64 0, .int .i64 0, .bool false]) (t := 23) ?hr ?_; (case hd => rfl); (case hg => rfl); (case hr => first | (go_simp; done) | (go_simp; rfl)); intro gb386 hg w5 hbox hb; have n0_ := Aside0.mk (blk_below (g := gb384) (o := .cells #[.int .i64 0, .int .i64 0, .int .i64 0, .int .i64 0, .int .i64 0, .bool false] 23 (0, 0)) (by (with_reducible repeat (first | refine blk_drewN ?_ _ | refine blk_drew ?_ | refine blk_alloc ?_ _)); exact BK384.out) hb); have n1_ := Aside0.mk (below_step (by repeat (first | (with_reducible first | exact HB.out | apply below_alloc | apply pw_below_drewN | apply below_drew1 | refine below_set ?_ GE384.out) | exact HB.out)) hb); have n2_ := Aside0.mk (hbox); have n3_ := Aside0.mk ((by rw [hg]; exact (below_size (by repeat (first | (with_reducible first | exact HB.out | apply below_alloc | apply pw_below_drewN | apply below_drew1 | refine below_set ?_ GE384.out) | exact HB.out))) : w.heap.size ≤ gb386)); have n4_ := Aside0.mk ((by rw [hg]; exact (below_size (by repeat (first | (with_reducible first | exact HB.out | apply below_alloc | apply pw_below_drewN | apply below_drew1 | refine below_set ?_ GE384.out) | exact HB.out))) : w.heap.size ≤ gb386)); have n5_ := Aside0.mk ((by rw [hg]; exact Nat.ne_of_lt (blk_lt (g := gb384) (o := .cells #[.int .i64 0, .int .i64 0, .int .i64 0, .int .i64 0, .int .i64 0, .bool false] 23 (0, 0)) (by (with_reducible repeat (first | refine blk_drewN ?_ _ | refine blk_drew ?_ | refine blk_alloc ?_ _)); exact BK384.out)) : gb384 ≠ gb386)); have n6_ := Aside0.mk ((by rw [hg]; exact Nat.ne_of_gt (blk_lt (g := gb384) (o := .cells #[.int .i64 0, .int .i64 0, .int .i64 0, .int .i64 0, .int .i64 0, .bool false] 23 (0, 0)) (by (with_reducible repeat (first | refine blk_drewN ?_ _ | refine blk_drew ?_ | refine blk_alloc ?_ _)); exact BK384.out)) : gb386 ≠ gb384)); clear BK384; clear HB; have BK384 := n0_; have HB := n1_; have BK386 := n2_; have GW386 := n3_; have GE386 := n4_; have NB384_386 := n5_; have NB386_384 := n6_; clear n0_ n1_ n2_ n3_ n4_ n5_ n6_; clear hb hbox hg; have hnb6 := NB386_384.out; have hnc6 := NB384_386.out; have hcz7_0 : w5.cell? ⟨gb386, 0, none⟩ = some (.int .i64 0) := (blk_cell BK386.out 0).trans rfl; have hcz7_1 : w5.cell? ⟨gb386, 1, none⟩ = some (.int .i64 0) := (blk_cell BK386.out 1).trans rfl; have hcz7_2 : w5.cell? ⟨gb386, 2, none⟩ = some (.int .i64 0) := (blk_cell BK386.out 2).trans rfl; have hcz7_3 : w5.cell? ⟨gb386, 3, none⟩ = some (.int .i64 0) := (blk_cell BK386.out 3).trans rfl; have hcz7_4 : w5.cell? ⟨gb386, 4, none⟩ = some (.int .i64 0) := (blk_cell BK386.out 4).trans rfl; have hcz7_5 : w5.cell? ⟨gb386, 5, none⟩ = some (.bool false) := (blk_cell BK386.out 5).trans rfl; have hfz7_0 := blk_frozen BK386.out 0; have hfz7_1 := blk_frozen BK386.out 1; have hfz7_2 := blk_frozen BK386.out 2; have hfz7_3 := blk_frozen BK386.out 3; have hfz7_4 := blk_frozen BK386.out 4; have hfz7_5 := blk_frozen BK386.out 5) | ((with_reducible refine gate_store (t := 23) (p := 5) rfl ?_); refine store_event (t := 23) (p := 5) (v := ?vo_w8) (w1 := ((((((w5.setCell ⟨gb386, 0, none⟩ (.int .i64 ((rd_T23 l0 0).f0))).setCell ⟨gb386, 1, none⟩ (.int .i64 ((rd_T23 l0 0).f1))).setCell ⟨gb386, 2, none⟩ (.int .i64 ((rd_T23 l0 0).f2))).setCell ⟨gb386, 3, none⟩ (.int .i64 ((rd_T23 l0 0).f3))).setCell ⟨gb386, 4, none⟩ (.int .i64 ((rd_T23 l0 0).f4))).setCell ⟨gb386, 5, none⟩ (.bool ((rd_T23 l0 0).f5)))) ?hg ?ho ?hn ?hr ?_; (case ho => rfl); (case hg => rfl); (case hn => rfl); (case hr => first | (go_simp; done) | (go_simp; rfl)); intro w8 hw; have n0_ : Aside0 (w8.heap[gb384]? = some (.cells #[.int .i64 0, .int .i64 0, .int .i64 0, .int .i64 0, .int .i64 0, .bool false] 23 (0, 0))) := ⟨(by rw [hw]; exact (by (with_reducible repeat (first | refine blk_drewN ?_ _ | refine blk_drew ?_ | refine blk_alloc ?_ _)); refine blk_far ?_ NB384_386.out _; (with_reducible repeat (first | refine blk_drewN ?_ _ | refine blk_drew ?_ | refine blk_alloc ?_ _)); refine blk_far ?_ NB384_386.out _; (with_reducible repeat (first | refine blk_drewN ?_ _ | refine blk_drew ?_ | refine blk_alloc ?_ _)); refine blk_far ?_ NB384_386.out _; (with_reducible repeat (first | refine blk_drewN ?_ _ | refine blk_drew ?_ | refine blk_alloc ?_ _)); refine blk_far ?_ NB384_386.out _; (with_reducible repeat (first | refine blk_drewN ?_ _ | refine blk_drew ?_ | refine blk_alloc ?_ _)); refine blk_far ?_ NB384_386.out _; (with_reducible repeat (first | refine blk_drewN ?_ _ | refine blk_drew ?_ | refine blk_alloc ?_ _)); refine blk_far ?_ NB384_386.out _; (with_reducible repeat (first | refine blk_drewN ?_ _ | refine blk_drew ?_ | refine blk_alloc ?_ _)); exact BK384.out))⟩; have n1_ : Aside0 (w8.heap[gb386]? = some (.cells #[.int .i64 ((rd_T23 l0 0).f0), .int .i64 ((rd_T23 l0 0).f1), .int .i64 ((rd_T23 l0 0).f2), .int .i64 ((rd_T23 l0 0).f3), .int .i64 ((rd_T23 l0 0).f4), .bool ((rd_T23 l0 0).f5)] 23 (0, 0))) := ⟨(by rw [hw]; exact (by (with_reducible repeat (first | refine blk_drewN ?_ _ | refine blk_drew ?_ | refine blk_alloc ?_ _)); refine blk_put (cs := #[.int .i64 ((rd_T23 l0 0).f0), .int .i64 ((rd_T23 l0 0).f1), .int .i64 ((rd_T23 l0 0).f2), .int .i64 ((rd_T23 l0 0).f3), .int .i64 ((rd_T23 l0 0).f4), .bool false]) ?_ 5 _ rfl; (with_reducible repeat (first | refine blk_drewN ?_ _ | refine blk_drew ?_ | refine blk_alloc ?_ _)); refine blk_put (cs := #[.int .i64 ((rd_T23 l0 0).f0), .int .i64 ((rd_T23 l0 0).f1), .int .i64 ((rd_T23 l0 0).f2), .int .i64 ((rd_T23 l0 0).f3), .int .i64 0, .bool false]) ?_ 4 _ rfl; (with_reducible repeat (first | refine blk_drewN ?_ _ | refine blk_drew ?_ | refine blk_alloc ?_ _)); refine blk_put (cs := #[.int .i64 ((rd_T23 l0 0).f0), .int .i64 ((rd_T23 l0 0).f1), .int .i64 ((rd_T23 l0 0).f2), .int .i64 0, .int .i64 0, .bool false]) ?_ 3 _ rfl; (with_reducible repeat (first | refine blk_drewN ?_ _ | refine blk_drew ?_ | refine blk_alloc ?_ _)); refine blk_put (cs := #[.int .i64 ((rd_T23 l0 0).f0), .int .i64 ((rd_T23 l0 0).f1), .int .i64 0, .int .i64 0, .int .i64 0, .bool false]) ?_ 2 _ rfl; (with_reducible repeat (first | refine blk_drewN ?_ _ | refine blk_drew ?_ | refine blk_alloc ?_ _)); refine blk_put (cs := #[.int .i64 ((rd_T23 l0 0).f0), .int .i64 0, .int .i64 0, .int .i64 0, .int .i64 0, .bool false]) ?_ 1 _ rfl; (with_reducible repeat (first | refine blk_drewN ?_ _ | refine blk_drew ?_ | refine blk_alloc ?_ _)); refine blk_put (cs := #[.int .i64 0, .int .i64 0, .int .i64 0, .int .i64 0, .int .i64 0, .bool false]) ?_ 0 _ rfl; (with_reducible repeat (first | refine blk_drewN ?_ _ | refine blk_drew ?_ | refine blk_alloc ?_ _)); exact BK386.out))⟩; have n2_ : Aside0 (Below w.heap.size w w8) := ⟨(by rw [hw]; exact (by repeat (first | (with_reducible first | exact HB.out | apply below_alloc | apply pw_below_drewN | apply below_drew1 | refine below_set ?_ GE384.out | refine below_set ?_ GE386.out) | exact HB.out)))⟩; clear hw; clear BK384; clear BK386; clear HB; have BK384 := n0_; have BK386 := n1_; have HB := n2_; clear n0_ n1_ n2_; have q9 : (1 : Int) ≤ ((l0.length : Int) : Int) := of_decide_eq_true (by first | (with_reducible assumption) | assumption); obtain ⟨i09, hi09, _, hsz9, _⟩ := info_parts info23; have hroom9 : l0.length ≤ c0 := HC0.out; have hC9 : Kd.C k23 _ (some ad385) l0.length l0 := HR0.out; have hcut9 := cut_from (P := Try.prog) 36 23 .i64 Try.underlying36 hi09 6 hsz9 (some ad385) l0.length c0 1 (by omega) q9; have hr9 := Kd.C_drop (m := (1 : Int).toNat) (c := c0) hC9 (by omega) hroom9; obtain ⟨A9, hA9⟩ : ∃ A1, A1 = (if c0 = (1 : Int).toNat then (some ad385) else ((some ad385) : Option Addr).map (·.add ((1 : Int).toNat * 6))) := ⟨_, rfl⟩; obtain ⟨c9, hc9⟩ : ∃ c1, c1 = c0 - (1 : Int).toNat := ⟨_, rfl⟩; have hy9 : y387.length = l0.length - (1 : Int).toNat := (by rw [Ny387.out, List.length_drop] <;> omega); rw [show (l0).drop (1 : Int).toNat = y387 from Ny387.out.symm] at hr9; replace hr9 : Kd.C k23 _ A9 y387.length y387 := (by rw [hA9]; exact hr9); rw [← hy9, ← hA9, ← hc9] at hcut9; have HR390 := Aside0.mk hr9; have HC390 := Aside0.mk (show y387.length ≤ c9 from by rw [hy9, hc9]; exact Nat.sub_le_sub_right hroom9 _); clear hr9 hC9 hroom9 hi09 hsz9 hc9; have KY9 := Aside0.mk hy9; have KA9 := Aside0.mk hA9; clear hy9 hA9; replace q9 := eq_true q9))
      go_loopg [14] k (fun kq v14 w' => ∃ (x14_1 : Int) (x387000_1 : Int) (x387001_1 : Int) (x387002_1 : Int) (x387003_1 : Int) (x387004_1 : Int) (x387005_1 : Bool), v14 = .int .i64 x14_1 ∧ Aside0 (api_Plan_int.l0 kq y387 (y387.length : Int) x14_1 x387000_1 x387001_1 x387002_1 x387003_1 x387004_1 x387005_1 = some (r1, r2, r3, r4, r5, r6)) ∧ Aside0 (kq ≤ k) ∧ Aside0 (w'.heap[gb384]? = some (.cells #[.int .i64 0, .int .i64 0, .int .i64 0, .int .i64 0, .int .i64 0, .bool false] 23 (0, 0))) ∧ Aside0 (w'.heap[gb386]? = some (.cells #[.int .i64 x387000_1, .int .i64 x387001_1, .int .i64 x387002_1, .int .i64 x387003_1, .int .i64 x387004_1, .bool x387005_1] 23 (0, 0))) ∧ Aside0 (Below w.heap.size w w'))
      case atStart => exact ⟨(0), ((rd_T23 l0 0).f0), ((rd_T23 l0 0).f1), ((rd_T23 l0 0).f2), ((rd_T23 l0 0).f3), ((rd_T23 l0 0).f4), ((rd_T23 l0 0).f5), (by first | rfl | (simp; done) | (simp [*]; done)), H', ⟨Nat.le_refl _⟩, ⟨by (with_reducible repeat (first | refine blk_drewN ?_ _ | refine blk_drew ?_ | refine blk_alloc ?_ _)); exact BK384.out⟩, ⟨by (with_reducible repeat (first | refine blk_drewN ?_ _ | refine blk_drew ?_ | refine blk_alloc ?_ _)); exact BK386.out⟩, ⟨by repeat (first | (with_reducible first | exact HB.out | apply below_alloc | apply pw_below_drewN | apply below_drew1 | refine below_set ?_ GE384.out | refine below_set ?_ GE386.out) | exact HB.out)⟩⟩
      case round =>
        clear H'
        try clear c1
        try clear c2
        try clear c2b0
        try clear c2b1
        try clear p2
        try clear c3
        try clear c3b0
        try clear c3b1
        try clear p3
        try clear q3
        try clear hx3
        try clear qi3
        try clear c5
        try clear c6
        try clear c9
        try clear q9
        try clear hcz7_0
        try clear hcz7_1
        try clear hcz7_2
        try clear hcz7_3
        try clear hcz7_4
        try clear hcz7_5
        try clear hfz7_0
        try clear hfz7_1
        try clear hfz7_2
        try clear hfz7_3
        try clear hfz7_4
        try clear hfz7_5
        try clear hx385_0
        try clear hx385_1
        try clear hx385_2
        try clear hx385_3
        try clear hx385_4
        try clear hx385_5
        try clear p385
        try clear q385
        try clear q9
        obtain ⟨x14_1, x387000_1, x387001_1, x387002_1, x387003_1, x387004_1, x387005_1, rfl, HA, HK1, BK384, BK386, HB⟩ := hrel
        cases gk with
        | zero => exact absurd HA.out (by simp [api_Plan_int.l0])
        | succ k1 =>
          have H := HA.out
          clear HA
          simp only [api_Plan_int.l0] at H
          by_cases c10 : x14_1 < (y387.length : Int)
          · rw [if_pos c10] at H
            have c10b0 : decide (x14_1 < (y387.length : Int)) = true := decide_eq_true c10
            clear c10
            by_cases c11 : 0 ≤ x14_1
            · rw [if_pos c11] at H
              have c11b0 : decide (0 ≤ x14_1) = true := decide_eq_true c11
              clear c11
              by_cases c12 : x14_1 < (y387.length : Int)
              · rw [if_pos c12] at H
                have c12b0 : decide (x14_1 < (y387.length : Int)) = true := decide_eq_true c12
                clear c12
                replace H := Option.bind_eq_some_iff.mp H
                obtain ⟨t393, A130, H⟩ := H
                replace H : ((choose_loss.f k1 x387000_1 x387001_1 x387002_1 x387003_1 x387004_1 x387005_1).bind fun t394 => (if t393 < t394 then (api_Plan_int.l0 k1 y387 (y387.length : Int) (wrap64 (x14_1 + 1)) ((rd_T23 y387 x14_1).f0) ((rd_T23 y387 x14_1).f1) ((rd_T23 y387 x14_1).f2) ((rd_T23 y387 x14_1).f3) ((rd_T23 y387 x14_1).f4) ((rd_T23 y387 x14_1).f5)) else (api_Plan_int.l0 k1 y387 (y387.length : Int) (wrap64 (x14_1 + 1)) x387000_1 x387001_1 x387002_1 x387003_1 x387004_1 x387005_1))) = some (r1, r2, r3, r4, r5, r6) := H
                have A13 := Aside0.mk A130
                clear A130
                replace H := Option.bind_eq_some_iff.mp H
                obtain ⟨t394, A140, H⟩ := H
                replace H : (if t393 < t394 then (api_Plan_int.l0 k1 y387 (y387.length : Int) (wrap64 (x14_1 + 1)) ((rd_T23 y387 x14_1).f0) ((rd_T23 y387 x14_1).f1) ((rd_T23 y387 x14_1).f2) ((rd_T23 y387 x14_1).f3) ((rd_T23 y387 x14_1).f4) ((rd_T23 y387 x14_1).f5)) else (api_Plan_int.l0 k1 y387 (y387.length : Int) (wrap64 (x14_1 + 1)) x387000_1 x387001_1 x387002_1 x387003_1 x387004_1 x387005_1)) = some (r1, r2, r3, r4, r5, r6) := H
                have A14 := Aside0.mk A140
                clear A140
                by_cases c15 : t393 < t394
                · rw [if_pos c15] at H
                  have c15b0 : decide (t393 < t394) = true := decide_eq_true c15
                  clear c15
                  have H' := Aside0.mk H
                  clear H
                  have p391 : 0 ≤ (x14_1 : Int) := of_decide_eq_true (by first | (with_reducible assumption) | assumption)
                  have q391 : x14_1 < (y387.length : Int) := of_decide_eq_true (by first | (with_reducible assumption) | assumption)
                  obtain ⟨ad391, e391, hx391_0, hx391_1, hx391_2, hx391_3, hx391_4, hx391_5⟩ := at_T23 HR390.out x14_1 p391 q391
                  cases e391
                  replace hx391_0 := (HB.out.cell (World.block_lt_of_cell? w _ hx391_0)).trans hx391_0
                  replace hx391_1 := (HB.out.cell (World.block_lt_of_cell? w _ hx391_1)).trans hx391_1
                  replace hx391_2 := (HB.out.cell (World.block_lt_of_cell? w _ hx391_2)).trans hx391_2
                  replace hx391_3 := (HB.out.cell (World.block_lt_of_cell? w _ hx391_3)).trans hx391_3
                  replace hx391_4 := (HB.out.cell (World.block_lt_of_cell? w _ hx391_4)).trans hx391_4
                  replace hx391_5 := (HB.out.cell (World.block_lt_of_cell? w _ hx391_5)).trans hx391_5
                  replace p391 := eq_true p391
                  replace q391 := eq_true q391
                  try go_wp2_with (first | ((with_reducible refine gate_dst (N := 7) rfl ?_); refine box_event ?hg (N := 7) ?hd (cs := #[.int .i64 0, .int .i64 0, .int .i64 0, .int .i64 0, .int .i64 0, .bool false]) (t := 23) ?hr ?_; (case hd => rfl); (case hg => rfl); (case hr => first | (go_simp; done) | (go_simp; rfl)); intro gb392 hg w16 hbox hb; have n0_ := Aside0.mk (blk_below (g := gb384) (o := .cells #[.int .i64 0, .int .i64 0, .int .i64 0, .int .i64 0, .int .i64 0, .bool false] 23 (0, 0)) (by (with_reducible repeat (first | refine blk_drewN ?_ _ | refine blk_drew ?_ | refine blk_alloc ?_ _)); exact BK384.out) hb); have n1_ := Aside0.mk (blk_below (g := gb386) (o := .cells #[.int .i64 x387000_1, .int .i64 x387001_1, .int .i64 x387002_1, .int .i64 x387003_1, .int .i64 x387004_1, .bool x387005_1] 23 (0, 0)) (by (with_reducible repeat (first | refine blk_drewN ?_ _ | refine blk_drew ?_ | refine blk_alloc ?_ _)); exact BK386.out) hb); have n2_ := Aside0.mk (below_step (by repeat (first | (with_reducible first | exact HB.out | apply below_alloc | apply pw_below_drewN | apply below_drew1 | refine below_set ?_ GE384.out | refine below_set ?_ GE386.out) | exact HB.out)) hb); have n3_ := Aside0.mk (hbox); have n4_ := Aside0.mk ((by rw [hg]; exact (below_size (by repeat (first | (with_reducible first | exact HB.out | apply below_alloc | apply pw_below_drewN | apply below_drew1 | refine below_set ?_ GE384.out | refine below_set ?_ GE386.out) | exact HB.out))) : w.heap.size ≤ gb392)); have n5_ := Aside0.mk ((by rw [hg]; exact (below_size (by repeat (first | (with_reducible first | exact HB.out | apply below_alloc | apply pw_below_drewN | apply below_drew1 | refine below_set ?_ GE384.out | refine below_set ?_ GE386.out) | exact HB.out))) : w.heap.size ≤ gb392)); have n6_ := Aside0.mk ((by rw [hg]; exact Nat.ne_of_lt (blk_lt (g := gb384) (o := .cells #[.int .i64 0, .int .i64 0, .int .i64 0, .int .i64 0, .int .i64 0, .bool false] 23 (0, 0)) (by (with_reducible repeat (first | refine blk_drewN ?_ _ | refine blk_drew ?_ | refine blk_alloc ?_ _)); exact BK384.out)) : gb384 ≠ gb392)); have n7_ := Aside0.mk ((by rw [hg]; exact Nat.ne_of_gt (blk_lt (g := gb384) (o := .cells #[.int .i64 0, .int .i64 0, .int .i64 0, .int .i64 0, .int .i64 0, .bool false] 23 (0, 0)) (by (with_reducible repeat (first | refine blk_drewN ?_ _ | refine blk_drew ?_ | refine blk_alloc ?_ _)); exact BK384.out)) : gb392 ≠ gb384)); have n8_ := Aside0.mk ((by rw [hg]; exact Nat.ne_of_lt (blk_lt (g := gb386) (o := .cells #[.int .i64 x387000_1, .int .i64 x387001_1, .int .i64 x387002_1, .int .i64 x387003_1, .int .i64 x387004_1, .bool x387005_1] 23 (0, 0)) (by (with_reducible repeat (first | refine blk_drewN ?_ _ | refine blk_drew ?_ | refine blk_alloc ?_ _)); exact BK386.out)) : gb386 ≠ gb392)); have n9_ := Aside0.mk ((by rw [hg]; exact Nat.ne_of_gt (blk_lt (g := gb386) (o := .cells #[.int .i64 x387000_1, .int .i64 x387001_1, .int .i64 x387002_1, .int .i64 x387003_1, .int .i64 x387004_1, .bool x387005_1] 23 (0, 0)) (by (with_reducible repeat (first | refine blk_drewN ?_ _ | refine blk_drew ?_ | refine blk_alloc ?_ _)); exact BK386.out)) : gb392 ≠ gb386)); clear BK384; clear BK386; clear HB; have BK384 := n0_; have BK386 := n1_; have HB := n2_; have BK392 := n3_; have GW392 := n4_; have GE392 := n5_; have NB384_392 := n6_; have NB392_384 := n7_; have NB386_392 := n8_; have NB392_386 := n9_; clear n0_ n1_ n2_ n3_ n4_ n5_ n6_ n7_ n8_ n9_; clear hb hbox hg; have hnb17 := NB392_384.out; have hnc17 := NB384_392.out; have hnb18 := NB392_386.out; have hnc18 := NB386_392.out; have hcz19_0 : w16.cell? ⟨gb392, 0, none⟩ = some (.int .i64 0) := (blk_cell BK392.out 0).trans rfl; have hcz19_1 : w16.cell? ⟨gb392, 1, none⟩ = some (.int .i64 0) := (blk_cell BK392.out 1).trans rfl; have hcz19_2 : w16.cell? ⟨gb392, 2, none⟩ = some (.int .i64 0) := (blk_cell BK392.out 2).trans rfl; have hcz19_3 : w16.cell? ⟨gb392, 3, none⟩ = some (.int .i64 0) := (blk_cell BK392.out 3).trans rfl; have hcz19_4 : w16.cell? ⟨gb392, 4, none⟩ = some (.int .i64 0) := (blk_cell BK392.out 4).trans rfl; have hcz19_5 : w16.cell? ⟨gb392, 5, none⟩ = some (.bool false) := (blk_cell BK392.out 5).trans rfl; have hfz19_0 := blk_frozen BK392.out 0; have hfz19_1 := blk_frozen BK392.out 1; have hfz19_2 := blk_frozen BK392.out 2; have hfz19_3 := blk_frozen BK392.out 3; have hfz19_4 := blk_frozen BK392.out 4; have hfz19_5 := blk_frozen BK392.out 5))
                  have n0_ : Aside0 (((((((w16.setCell ⟨gb392, 0, none⟩ (.int .i64 ((rd_T23 y387 x14_1).f0))).setCell ⟨gb392, 1, none⟩ (.int .i64 ((rd_T23 y387 x14_1).f1))).setCell ⟨gb392, 2, none⟩ (.int .i64 ((rd_T23 y387 x14_1).f2))).setCell ⟨gb392, 3, none⟩ (.int .i64 ((rd_T23 y387 x14_1).f3))).setCell ⟨gb392, 4, none⟩ (.int .i64 ((rd_T23 y387 x14_1).f4))).setCell ⟨gb392, 5, none⟩ (.bool ((rd_T23 y387 x14_1).f5))).heap[gb384]? = some (.cells #[.int .i64 0, .int .i64 0, .int .i64 0, .int .i64 0, .int .i64 0, .bool false] 23 (0, 0))) := ⟨by (with_reducible repeat (first | refine blk_drewN ?_ _ | refine blk_drew ?_ | refine blk_alloc ?_ _)); refine blk_far ?_ NB384_392.out _; (with_reducible repeat (first | refine blk_drewN ?_ _ | refine blk_drew ?_ | refine blk_alloc ?_ _)); refine blk_far ?_ NB384_392.out _; (with_reducible repeat (first | refine blk_drewN ?_ _ | refine blk_drew ?_ | refine blk_alloc ?_ _)); refine blk_far ?_ NB384_392.out _; (with_reducible repeat (first | refine blk_drewN ?_ _ | refine blk_drew ?_ | refine blk_alloc ?_ _)); refine blk_far ?_ NB384_392.out _; (with_reducible repeat (first | refine blk_drewN ?_ _ | refine blk_drew ?_ | refine blk_alloc ?_ _)); refine blk_far ?_ NB384_392.out _; (with_reducible repeat (first | refine blk_drewN ?_ _ | refine blk_drew ?_ | refine blk_alloc ?_ _)); refine blk_far ?_ NB384_392.out _; (with_reducible repeat (first | refine blk_drewN ?_ _ | refine blk_drew ?_ | refine blk_alloc ?_ _)); exact BK384.out⟩
                  have n1_ : Aside0 (((((((w16.setCell ⟨gb392, 0, none⟩ (.int .i64 ((rd_T23 y387 x14_1).f0))).setCell ⟨gb392, 1, none⟩ (.int .i64 ((rd_T23 y387 x14_1).f1))).setCell ⟨gb392, 2, none⟩ (.int .i64 ((rd_T23 y387 x14_1).f2))).setCell ⟨gb392, 3, none⟩ (.int .i64 ((rd_T23 y387 x14_1).f3))).setCell ⟨gb392, 4, none⟩ (.int .i64 ((rd_T23 y387 x14_1).f4))).setCell ⟨gb392, 5, none⟩ (.bool ((rd_T23 y387 x14_1).f5))).heap[gb386]? = some (.cells #[.int .i64 x387000_1, .int .i64 x387001_1, .int .i64 x387002_1, .int .i64 x387003_1, .int .i64 x387004_1, .bool x387005_1] 23 (0, 0))) := ⟨by (with_reducible repeat (first | refine blk_drewN ?_ _ | refine blk_drew ?_ | refine blk_alloc ?_ _)); refine blk_far ?_ NB386_392.out _; (with_reducible repeat (first | refine blk_drewN ?_ _ | refine blk_drew ?_ | refine blk_alloc ?_ _)); refine blk_far ?_ NB386_392.out _; (with_reducible repeat (first | refine blk_drewN ?_ _ | refine blk_drew ?_ | refine blk_alloc ?_ _)); refine blk_far ?_ NB386_392.out _; (with_reducible repeat (first | refine blk_drewN ?_ _ | refine blk_drew ?_ | refine blk_alloc ?_ _)); refine blk_far ?_ NB386_392.out _; (with_reducible repeat (first | refine blk_drewN ?_ _ | refine blk_drew ?_ | refine blk_alloc ?_ _)); refine blk_far ?_ NB386_392.out _; (with_reducible repeat (first | refine blk_drewN ?_ _ | refine blk_drew ?_ | refine blk_alloc ?_ _)); refine blk_far ?_ NB386_392.out _; (with_reducible repeat (first | refine blk_drewN ?_ _ | refine blk_drew ?_ | refine blk_alloc ?_ _)); exact BK386.out⟩
                  have n2_ : Aside0 (((((((w16.setCell ⟨gb392, 0, none⟩ (.int .i64 ((rd_T23 y387 x14_1).f0))).setCell ⟨gb392, 1, none⟩ (.int .i64 ((rd_T23 y387 x14_1).f1))).setCell ⟨gb392, 2, none⟩ (.int .i64 ((rd_T23 y387 x14_1).f2))).setCell ⟨gb392, 3, none⟩ (.int .i64 ((rd_T23 y387 x14_1).f3))).setCell ⟨gb392, 4, none⟩ (.int .i64 ((rd_T23 y387 x14_1).f4))).setCell ⟨gb392, 5, none⟩ (.bool ((rd_T23 y387 x14_1).f5))).heap[gb392]? = some (.cells #[.int .i64 ((rd_T23 y387 x14_1).f0), .int .i64 ((rd_T23 y387 x14_1).f1), .int .i64 ((rd_T23 y387 x14_1).f2), .int .i64 ((rd_T23 y387 x14_1).f3), .int .i64 ((rd_T23 y387 x14_1).f4), .bool ((rd_T23 y387 x14_1).f5)] 23 (0, 0))) := ⟨by (with_reducible repeat (first | refine blk_drewN ?_ _ | refine blk_drew ?_ | refine blk_alloc ?_ _)); refine blk_put (cs := #[.int .i64 ((rd_T23 y387 x14_1).f0), .int .i64 ((rd_T23 y387 x14_1).f1), .int .i64 ((rd_T23 y387 x14_1).f2), .int .i64 ((rd_T23 y387 x14_1).f3), .int .i64 ((rd_T23 y387 x14_1).f4), .bool false]) ?_ 5 _ rfl; (with_reducible repeat (first | refine blk_drewN ?_ _ | refine blk_drew ?_ | refine blk_alloc ?_ _)); refine blk_put (cs := #[.int .i64 ((rd_T23 y387 x14_1).f0), .int .i64 ((rd_T23 y387 x14_1).f1), .int .i64 ((rd_T23 y387 x14_1).f2), .int .i64 ((rd_T23 y387 x14_1).f3), .int .i64 0, .bool false]) ?_ 4 _ rfl; (with_reducible repeat (first | refine blk_drewN ?_ _ | refine blk_drew ?_ | refine blk_alloc ?_ _)); refine blk_put (cs := #[.int .i64 ((rd_T23 y387 x14_1).f0), .int .i64 ((rd_T23 y387 x14_1).f1), .int .i64 ((rd_T23 y387 x14_1).f2), .int .i64 0, .int .i64 0, .bool false]) ?_ 3 _ rfl; (with_reducible repeat (first | refine blk_drewN ?_ _ | refine blk_drew ?_ | refine blk_alloc ?_ _)); refine blk_put (cs := #[.int .i64 ((rd_T23 y387 x14_1).f0), .int .i64 ((rd_T23 y387 x14_1).f1), .int .i64 0, .int .i64 0, .int .i64 0, .bool false]) ?_ 2 _ rfl; (with_reducible repeat (first | refine blk_drewN ?_ _ | refine blk_drew ?_ | refine blk_alloc ?_ _)); refine blk_put (cs := #[.int .i64 ((rd_T23 y387 x14_1).f0), .int .i64 0, .int .i64 0, .int .i64 0, .int .i64 0, .bool false]) ?_ 1 _ rfl; (with_reducible repeat (first | refine blk_drewN ?_ _ | refine blk_drew ?_ | refine blk_alloc ?_ _)); refine blk_put (cs := #[.int .i64 0, .int .i64 0, .int .i64 0, .int .i64 0, .int .i64 0, .bool false]) ?_ 0 _ rfl; (with_reducible repeat (first | refine blk_drewN ?_ _ | refine blk_drew ?_ | refine blk_alloc ?_ _)); exact BK392.out⟩
                  have n3_ : Aside0 (Below w.heap.size w ((((((w16.setCell ⟨gb392, 0, none⟩ (.int .i64 ((rd_T23 y387 x14_1).f0))).setCell ⟨gb392, 1, none⟩ (.int .i64 ((rd_T23 y387 x14_1).f1))).setCell ⟨gb392, 2, none⟩ (.int .i64 ((rd_T23 y387 x14_1).f2))).setCell ⟨gb392, 3, none⟩ (.int .i64 ((rd_T23 y387 x14_1).f3))).setCell ⟨gb392, 4, none⟩ (.int .i64 ((rd_T23 y387 x14_1).f4))).setCell ⟨gb392, 5, none⟩ (.bool ((rd_T23 y387 x14_1).f5)))) := ⟨by repeat (first | (with_reducible first | exact HB.out | apply below_alloc | apply pw_below_drewN | apply below_drew1 | refine below_set ?_ GE384.out | refine below_set ?_ GE386.out | refine below_set ?_ GE392.out) | exact HB.out)⟩
                  (try clear BK384)
                  (try clear BK386)
                  (try clear BK392)
                  (try clear HB)
                  generalize ((((((w16.setCell ⟨gb392, 0, none⟩ (.int .i64 ((rd_T23 y387 x14_1).f0))).setCell ⟨gb392, 1, none⟩ (.int .i64 ((rd_T23 y387 x14_1).f1))).setCell ⟨gb392, 2, none⟩ (.int .i64 ((rd_T23 y387 x14_1).f2))).setCell ⟨gb392, 3, none⟩ (.int .i64 ((rd_T23 y387 x14_1).f3))).setCell ⟨gb392, 4, none⟩ (.int .i64 ((rd_T23 y387 x14_1).f4))).setCell ⟨gb392, 5, none⟩ (.bool ((rd_T23 y387 x14_1).f5))) = w20 at n0_ n1_ n2_ n3_ ⊢
                  have BK384 := n0_
                  have BK386 := n1_
                  have BK392 := n2_
                  have HB := n3_
                  clear n0_ n1_ n2_ n3_
                  have n0_ := Aside0.mk (blk_drew BK384.out)
                  have n1_ := Aside0.mk (blk_drew BK386.out)
                  have n2_ := Aside0.mk (blk_drew BK392.out)
                  have n3_ := Aside0.mk (below_drew1 HB.out)
                  clear BK384
                  clear BK386
                  clear BK392
                  clear HB
                  have BK384 := n0_
                  have BK386 := n1_
                  have BK392 := n2_
                  have HB := n3_
                  clear n0_ n1_ n2_ n3_
                  refine start_ (n := 7) (S := fun w' => w'.cell? ⟨gb392, 0, none⟩ = some (.int .i64 ((rd_T23 y387 x14_1).f0)) ∧ w'.cell? ⟨gb392, 1, none⟩ = some (.int .i64 ((rd_T23 y387 x14_1).f1)) ∧ w'.cell? ⟨gb392, 2, none⟩ = some (.int .i64 ((rd_T23 y387 x14_1).f2)) ∧ w'.cell? ⟨gb392, 3, none⟩ = some (.int .i64 ((rd_T23 y387 x14_1).f3)) ∧ w'.cell? ⟨gb392, 4, none⟩ = some (.int .i64 ((rd_T23 y387 x14_1).f4)) ∧ w'.cell? ⟨gb392, 5, none⟩ = some (.bool ((rd_T23 y387 x14_1).f5)) ∧ w'.cell? ⟨gb386, 0, none⟩ = some (.int .i64 x387000_1) ∧ w'.cell? ⟨gb386, 1, none⟩ = some (.int .i64 x387001_1) ∧ w'.cell? ⟨gb386, 2, none⟩ = some (.int .i64 x387002_1) ∧ w'.cell? ⟨gb386, 3, none⟩ = some (.int .i64 x387003_1) ∧ w'.cell? ⟨gb386, 4, none⟩ = some (.int .i64 x387004_1) ∧ w'.cell? ⟨gb386, 5, none⟩ = some (.bool x387005_1)) (ds := []) #[false, false, false, false, false, false, false] (by kernel_rfl) rfl rfl ⟨(blk_cell BK392.out 0).trans rfl, (blk_cell BK392.out 1).trans rfl, (blk_cell BK392.out 2).trans rfl, (blk_cell BK392.out 3).trans rfl, (blk_cell BK392.out 4).trans rfl, (blk_cell BK392.out 5).trans rfl, (blk_cell BK386.out 0).trans rfl, (blk_cell BK386.out 1).trans rfl, (blk_cell BK386.out 2).trans rfl, (blk_cell BK386.out 3).trans rfl, (blk_cell BK386.out 4).trans rfl, (blk_cell BK386.out 5).trans rfl⟩ (fun hHeld => ?_)
                  generalize w20.drew = w21 at BK384 BK386 BK392 HB hHeld ⊢
                  refine pure_ (i := 0) (N := some 18) (v := ?_) (a' := ?_) #[true, false, false, false, false, false, false] rfl rfl (by kernel_rfl) (fun _ _ _ h => h) (Or.inl ⟨by rfl, ?_⟩) ?_ ?_
                  rotate_left
                  · intro w'
                    go_simp
                    with_reducible rfl
                  rotate_left
                  · simp only [Act.put, List.setIfInBounds_toArray, List.set_cons_zero, List.set_cons_succ, i64_w, i32_w]
                    rfl
                  refine pure_ (i := 3) (N := some 21) (v := ?_) (a' := ?_) #[true, false, false, true, false, false, false] rfl rfl (by kernel_rfl) (fun _ _ _ h => h) (Or.inl ⟨by rfl, ?_⟩) ?_ ?_
                  rotate_left
                  · intro w'
                    go_simp
                    with_reducible rfl
                  rotate_left
                  · simp only [Act.put, List.setIfInBounds_toArray, List.set_cons_zero, List.set_cons_succ, i64_w, i32_w]
                    rfl
                  refine take_ (i := 1) (N := some 19) (v := ?_) (a' := ?_) #[true, true, false, true, false, false, false] rfl rfl (by kernel_rfl) (fun _ _ _ h => h) (Or.inl ⟨by rfl, ?_⟩) hHeld ?_ ?_
                  rotate_left
                  · rintro w' ⟨s0, s1, s2, s3, s4, s5, s6, s7, s8, s9, s10, s11⟩
                    go_simp
                    with_reducible rfl
                  rotate_left
                  · simp only [Act.put, List.setIfInBounds_toArray, List.set_cons_zero, List.set_cons_succ, i64_w, i32_w]
                    rfl
                  refine take_ (i := 4) (N := some 22) (v := ?_) (a' := ?_) #[true, true, false, true, true, false, false] rfl rfl (by kernel_rfl) (fun _ _ _ h => h) (Or.inl ⟨by rfl, ?_⟩) hHeld ?_ ?_
                  rotate_left
                  · rintro w' ⟨s0, s1, s2, s3, s4, s5, s6, s7, s8, s9, s10, s11⟩
                    go_simp
                    with_reducible rfl
                  rotate_left
                  · simp only [Act.put, List.setIfInBounds_toArray, List.set_cons_zero, List.set_cons_succ, i64_w, i32_w]
                    rfl
                  refine one_ (i := 2) (N := some 20) #[true, true, true, true, true, false, false] rfl rfl (by kernel_rfl) (by decide) (fun K hK => ?_)
                  refine goesV_ rfl Try.func53 (by kernel_rfl) rfl #[.agg #[.int .i64 ((rd_T23 y387 x14_1).f0), .int .i64 ((rd_T23 y387 x14_1).f1), .int .i64 ((rd_T23 y387 x14_1).f2), .int .i64 ((rd_T23 y387 x14_1).f3), .int .i64 ((rd_T23 y387 x14_1).f4), .bool ((rd_T23 y387 x14_1).f5)]] (by rfl) rfl rfl (by (try simp only [List.map_toArray, List.map_cons, List.map_nil]); first | done | rfl | (simp only [List.length_drop, List.length_take]; rfl)) ?_
                  with_reducible refine (choose_loss.calls k1 ((rd_T23 y387 x14_1).f0) ((rd_T23 y387 x14_1).f1) ((rd_T23 y387 x14_1).f2) ((rd_T23 y387 x14_1).f3) ((rd_T23 y387 x14_1).f4) ((rd_T23 y387 x14_1).f5) t393 _ A13.out).mono ?_
                  rintro e w22 ⟨rfl, hb⟩
                  refine ⟨_, rfl, ?_⟩
                  have n0_ := Aside0.mk (blk_below (g := gb384) (o := .cells #[.int .i64 0, .int .i64 0, .int .i64 0, .int .i64 0, .int .i64 0, .bool false] 23 (0, 0)) (by (with_reducible repeat (first | refine blk_drewN ?_ _ | refine blk_drew ?_ | refine blk_alloc ?_ _)); exact BK384.out) hb)
                  have n1_ := Aside0.mk (blk_below (g := gb386) (o := .cells #[.int .i64 x387000_1, .int .i64 x387001_1, .int .i64 x387002_1, .int .i64 x387003_1, .int .i64 x387004_1, .bool x387005_1] 23 (0, 0)) (by (with_reducible repeat (first | refine blk_drewN ?_ _ | refine blk_drew ?_ | refine blk_alloc ?_ _)); exact BK386.out) hb)
                  have n2_ := Aside0.mk (blk_below (g := gb392) (o := .cells #[.int .i64 ((rd_T23 y387 x14_1).f0), .int .i64 ((rd_T23 y387 x14_1).f1), .int .i64 ((rd_T23 y387 x14_1).f2), .int .i64 ((rd_T23 y387 x14_1).f3), .int .i64 ((rd_T23 y387 x14_1).f4), .bool ((rd_T23 y387 x14_1).f5)] 23 (0, 0)) (by (with_reducible repeat (first | refine blk_drewN ?_ _ | refine blk_drew ?_ | refine blk_alloc ?_ _)); exact BK392.out) hb)
                  have n3_ := Aside0.mk (below_step (by repeat (first | (with_reducible first | exact HB.out | apply below_alloc | apply pw_below_drewN | apply below_drew1 | refine below_set ?_ GE384.out | refine below_set ?_ GE386.out | refine below_set ?_ GE392.out) | exact HB.out)) hb)
                  clear BK384
                  clear BK386
                  clear BK392
                  clear HB
                  have BK384 := n0_
                  have BK386 := n1_
                  have BK392 := n2_
                  have HB := n3_
                  clear n0_ n1_ n2_ n3_
                  (try clear hb)
                  (try clear hb2)
                  (try clear hk)
                  (try clear hi)
                  refine hK.out _ _ ⟨(blk_cell BK392.out 0).trans rfl, (blk_cell BK392.out 1).trans rfl, (blk_cell BK392.out 2).trans rfl, (blk_cell BK392.out 3).trans rfl, (blk_cell BK392.out 4).trans rfl, (blk_cell BK392.out 5).trans rfl, (blk_cell BK386.out 0).trans rfl, (blk_cell BK386.out 1).trans rfl, (blk_cell BK386.out 2).trans rfl, (blk_cell BK386.out 3).trans rfl, (blk_cell BK386.out 4).trans rfl, (blk_cell BK386.out 5).trans rfl⟩ (fun hHeld => ?_)
                  clear hK K
                  refine norm_ (a' := ?_) ?_ ?_
                  rotate_left
                  · show Act.put _ (some 20) _ = _
                    simp only [Act.put, List.setIfInBounds_toArray, List.set_cons_zero, List.set_cons_succ, i64_w, i32_w]
                    rfl
                  refine one_ (i := 5) (N := some 23) #[true, true, true, true, true, true, false] rfl rfl (by kernel_rfl) (by decide) (fun K hK => ?_)
                  refine goesV_ rfl Try.func53 (by kernel_rfl) rfl #[.agg #[.int .i64 x387000_1, .int .i64 x387001_1, .int .i64 x387002_1, .int .i64 x387003_1, .int .i64 x387004_1, .bool x387005_1]] (by rfl) rfl rfl (by (try simp only [List.map_toArray, List.map_cons, List.map_nil]); first | done | rfl | (simp only [List.length_drop, List.length_take]; rfl)) ?_
                  with_reducible refine (choose_loss.calls k1 x387000_1 x387001_1 x387002_1 x387003_1 x387004_1 x387005_1 t394 _ A14.out).mono ?_
                  rintro e w23 ⟨rfl, hb⟩
                  refine ⟨_, rfl, ?_⟩
                  have n0_ := Aside0.mk (blk_below (g := gb384) (o := .cells #[.int .i64 0, .int .i64 0, .int .i64 0, .int .i64 0, .int .i64 0, .bool false] 23 (0, 0)) (by (with_reducible repeat (first | refine blk_drewN ?_ _ | refine blk_drew ?_ | refine blk_alloc ?_ _)); exact BK384.out) hb)
                  have n1_ := Aside0.mk (blk_below (g := gb386) (o := .cells #[.int .i64 x387000_1, .int .i64 x387001_1, .int .i64 x387002_1, .int .i64 x387003_1, .int .i64 x387004_1, .bool x387005_1] 23 (0, 0)) (by (with_reducible repeat (first | refine blk_drewN ?_ _ | refine blk_drew ?_ | refine blk_alloc ?_ _)); exact BK386.out) hb)
                  have n2_ := Aside0.mk (blk_below (g := gb392) (o := .cells #[.int .i64 ((rd_T23 y387 x14_1).f0), .int .i64 ((rd_T23 y387 x14_1).f1), .int .i64 ((rd_T23 y387 x14_1).f2), .int .i64 ((rd_T23 y387 x14_1).f3), .int .i64 ((rd_T23 y387 x14_1).f4), .bool ((rd_T23 y387 x14_1).f5)] 23 (0, 0)) (by (with_reducible repeat (first | refine blk_drewN ?_ _ | refine blk_drew ?_ | refine blk_alloc ?_ _)); exact BK392.out) hb)
                  have n3_ := Aside0.mk (below_step (by repeat (first | (with_reducible first | exact HB.out | apply below_alloc | apply pw_below_drewN | apply below_drew1 | refine below_set ?_ GE384.out | refine below_set ?_ GE386.out | refine below_set ?_ GE392.out) | exact HB.out)) hb)
                  clear BK384
                  clear BK386
                  clear BK392
                  clear HB
                  have BK384 := n0_
                  have BK386 := n1_
                  have BK392 := n2_
                  have HB := n3_
                  clear n0_ n1_ n2_ n3_
                  (try clear hb)
                  (try clear hb2)
                  (try clear hk)
                  (try clear hi)
                  refine hK.out _ _ ⟨(blk_cell BK392.out 0).trans rfl, (blk_cell BK392.out 1).trans rfl, (blk_cell BK392.out 2).trans rfl, (blk_cell BK392.out 3).trans rfl, (blk_cell BK392.out 4).trans rfl, (blk_cell BK392.out 5).trans rfl, (blk_cell BK386.out 0).trans rfl, (blk_cell BK386.out 1).trans rfl, (blk_cell BK386.out 2).trans rfl, (blk_cell BK386.out 3).trans rfl, (blk_cell BK386.out 4).trans rfl, (blk_cell BK386.out 5).trans rfl⟩ (fun hHeld => ?_)
                  clear hK K
                  refine norm_ (a' := ?_) ?_ ?_
                  rotate_left
                  · show Act.put _ (some 23) _ = _
                    simp only [Act.put, List.setIfInBounds_toArray, List.set_cons_zero, List.set_cons_succ, i64_w, i32_w]
                    rfl
                  refine pure_ (i := 6) (N := some 24) (v := ?_) (a' := ?_) #[true, true, true, true, true, true, true] rfl rfl (by kernel_rfl) (fun _ _ _ h => h) (Or.inl ⟨by rfl, ?_⟩) ?_ ?_
                  rotate_left
                  · intro w'
                    go_simp
                    with_reducible rfl
                  rotate_left
                  · simp only [Act.put, List.setIfInBounds_toArray, List.set_cons_zero, List.set_cons_succ, i64_w, i32_w]
                    rfl
                  refine done_ (by kernel_rfl) ?_
                  have hcz24_0 : w23.cell? ⟨gb392, 0, none⟩ = some (.int .i64 ((rd_T23 y387 x14_1).f0)) := (blk_cell BK392.out 0).trans rfl
                  have hcz24_1 : w23.cell? ⟨gb392, 1, none⟩ = some (.int .i64 ((rd_T23 y387 x14_1).f1)) := (blk_cell BK392.out 1).trans rfl
                  have hcz24_2 : w23.cell? ⟨gb392, 2, none⟩ = some (.int .i64 ((rd_T23 y387 x14_1).f2)) := (blk_cell BK392.out 2).trans rfl
                  have hcz24_3 : w23.cell? ⟨gb392, 3, none⟩ = some (.int .i64 ((rd_T23 y387 x14_1).f3)) := (blk_cell BK392.out 3).trans rfl
                  have hcz24_4 : w23.cell? ⟨gb392, 4, none⟩ = some (.int .i64 ((rd_T23 y387 x14_1).f4)) := (blk_cell BK392.out 4).trans rfl
                  have hcz24_5 : w23.cell? ⟨gb392, 5, none⟩ = some (.bool ((rd_T23 y387 x14_1).f5)) := (blk_cell BK392.out 5).trans rfl
                  have hfz24_0 := blk_frozen BK392.out 0
                  have hfz24_1 := blk_frozen BK392.out 1
                  have hfz24_2 := blk_frozen BK392.out 2
                  have hfz24_3 := blk_frozen BK392.out 3
                  have hfz24_4 := blk_frozen BK392.out 4
                  have hfz24_5 := blk_frozen BK392.out 5
                  have hnb25 := NB386_384.out
                  have hnc25 := NB384_386.out
                  have hcz26_0 : w23.cell? ⟨gb386, 0, none⟩ = some (.int .i64 x387000_1) := (blk_cell BK386.out 0).trans rfl
                  have hcz26_1 : w23.cell? ⟨gb386, 1, none⟩ = some (.int .i64 x387001_1) := (blk_cell BK386.out 1).trans rfl
                  have hcz26_2 : w23.cell? ⟨gb386, 2, none⟩ = some (.int .i64 x387002_1) := (blk_cell BK386.out 2).trans rfl
                  have hcz26_3 : w23.cell? ⟨gb386, 3, none⟩ = some (.int .i64 x387003_1) := (blk_cell BK386.out 3).trans rfl
                  have hcz26_4 : w23.cell? ⟨gb386, 4, none⟩ = some (.int .i64 x387004_1) := (blk_cell BK386.out 4).trans rfl
                  have hcz26_5 : w23.cell? ⟨gb386, 5, none⟩ = some (.bool x387005_1) := (blk_cell BK386.out 5).trans rfl
                  have hfz26_0 := blk_frozen BK386.out 0
                  have hfz26_1 := blk_frozen BK386.out 1
                  have hfz26_2 := blk_frozen BK386.out 2
                  have hfz26_3 := blk_frozen BK386.out 3
                  have hfz26_4 := blk_frozen BK386.out 4
                  have hfz26_5 := blk_frozen BK386.out 5
                  try go_wp2
                  go_roundg k1
                  case measure => have := HK1.out; omega
                  case rel => exact ⟨(wrap64 (x14_1 + 1)), ((rd_T23 y387 x14_1).f0), ((rd_T23 y387 x14_1).f1), ((rd_T23 y387 x14_1).f2), ((rd_T23 y387 x14_1).f3), ((rd_T23 y387 x14_1).f4), ((rd_T23 y387 x14_1).f5), (by first | rfl | (simp; done) | (simp [*]; done)), H', ⟨by have := HK1.out; omega⟩, ⟨by (with_reducible repeat (first | refine blk_drewN ?_ _ | refine blk_drew ?_ | refine blk_alloc ?_ _)); refine blk_far ?_ NB384_386.out _; (with_reducible repeat (first | refine blk_drewN ?_ _ | refine blk_drew ?_ | refine blk_alloc ?_ _)); refine blk_far ?_ NB384_386.out _; (with_reducible repeat (first | refine blk_drewN ?_ _ | refine blk_drew ?_ | refine blk_alloc ?_ _)); refine blk_far ?_ NB384_386.out _; (with_reducible repeat (first | refine blk_drewN ?_ _ | refine blk_drew ?_ | refine blk_alloc ?_ _)); refine blk_far ?_ NB384_386.out _; (with_reducible repeat (first | refine blk_drewN ?_ _ | refine blk_drew ?_ | refine blk_alloc ?_ _)); refine blk_far ?_ NB384_386.out _; (with_reducible repeat (first | refine blk_drewN ?_ _ | refine blk_drew ?_ | refine blk_alloc ?_ _)); refine blk_far ?_ NB384_386.out _; (with_reducible repeat (first | refine blk_drewN ?_ _ | refine blk_drew ?_ | refine blk_alloc ?_ _)); exact BK384.out⟩, ⟨by (with_reducible repeat (first | refine blk_drewN ?_ _ | refine blk_drew ?_ | refine blk_alloc ?_ _)); refine blk_put (cs := #[.int .i64 ((rd_T23 y387 x14_1).f0), .int .i64 ((rd_T23 y387 x14_1).f1), .int .i64 ((rd_T23 y387 x14_1).f2), .int .i64 ((rd_T23 y387 x14_1).f3), .int .i64 ((rd_T23 y387 x14_1).f4), .bool x387005_1]) ?_ 5 _ rfl; (with_reducible repeat (first | refine blk_drewN ?_ _ | refine blk_drew ?_ | refine blk_alloc ?_ _)); refine blk_put (cs := #[.int .i64 ((rd_T23 y387 x14_1).f0), .int .i64 ((rd_T23 y387 x14_1).f1), .int .i64 ((rd_T23 y387 x14_1).f2), .int .i64 ((rd_T23 y387 x14_1).f3), .int .i64 x387004_1, .bool x387005_1]) ?_ 4 _ rfl; (with_reducible repeat (first | refine blk_drewN ?_ _ | refine blk_drew ?_ | refine blk_alloc ?_ _)); refine blk_put (cs := #[.int .i64 ((rd_T23 y387 x14_1).f0), .int .i64 ((rd_T23 y387 x14_1).f1), .int .i64 ((rd_T23 y387 x14_1).f2), .int .i64 x387003_1, .int .i64 x387004_1, .bool x387005_1]) ?_ 3 _ rfl; (with_reducible repeat (first | refine blk_drewN ?_ _ | refine blk_drew ?_ | refine blk_alloc ?_ _)); refine blk_put (cs := #[.int .i64 ((rd_T23 y387 x14_1).f0), .int .i64 ((rd_T23 y387 x14_1).f1), .int .i64 x387002_1, .int .i64 x387003_1, .int .i64 x387004_1, .bool x387005_1]) ?_ 2 _ rfl; (with_reducible repeat (first | refine blk_drewN ?_ _ | refine blk_drew ?_ | refine blk_alloc ?_ _)); refine blk_put (cs := #[.int .i64 ((rd_T23 y387 x14_1).f0), .int .i64 x387001_1, .int .i64 x387002_1, .int .i64 x387003_1, .int .i64 x387004_1, .bool x387005_1]) ?_ 1 _ rfl; (with_reducible repeat (first | refine blk_drewN ?_ _ | refine blk_drew ?_ | refine blk_alloc ?_ _)); refine blk_put (cs := #[.int .i64 x387000_1, .int .i64 x387001_1, .int .i64 x387002_1, .int .i64 x387003_1, .int .i64 x387004_1, .bool x387005_1]) ?_ 0 _ rfl; (with_reducible repeat (first | refine blk_drewN ?_ _ | refine blk_drew ?_ | refine blk_alloc ?_ _)); exact BK386.out⟩, ⟨by repeat (first | (with_reducible first | exact HB.out | apply below_alloc | apply pw_below_drewN | apply below_drew1 | refine below_set ?_ GE384.out | refine below_set ?_ GE386.out | refine below_set ?_ GE392.out) | exact HB.out)⟩⟩
                · rw [if_neg c15] at H
                  have c15b0 : decide (t393 < t394) = false := decide_eq_false c15
                  clear c15
                  have H' := Aside0.mk H
                  clear H
                  have p391 : 0 ≤ (x14_1 : Int) := of_decide_eq_true (by first | (with_reducible assumption) | assumption)
                  have q391 : x14_1 < (y387.length : Int) := of_decide_eq_true (by first | (with_reducible assumption) | assumption)
                  obtain ⟨ad391, e391, hx391_0, hx391_1, hx391_2, hx391_3, hx391_4, hx391_5⟩ := at_T23 HR390.out x14_1 p391 q391
                  cases e391
                  replace hx391_0 := (HB.out.cell (World.block_lt_of_cell? w _ hx391_0)).trans hx391_0
                  replace hx391_1 := (HB.out.cell (World.block_lt_of_cell? w _ hx391_1)).trans hx391_1
                  replace hx391_2 := (HB.out.cell (World.block_lt_of_cell? w _ hx391_2)).trans hx391_2
                  replace hx391_3 := (HB.out.cell (World.block_lt_of_cell? w _ hx391_3)).trans hx391_3
                  replace hx391_4 := (HB.out.cell (World.block_lt_of_cell? w _ hx391_4)).trans hx391_4
                  replace hx391_5 := (HB.out.cell (World.block_lt_of_cell? w _ hx391_5)).trans hx391_5
                  replace p391 := eq_true p391
                  replace q391 := eq_true q391
                  try go_wp2_with (first | ((with_reducible refine gate_dst (N := 7) rfl ?_); refine box_event ?hg (N := 7) ?hd (cs := #[.int .i64 0, .int .i64 0, .int .i64 0, .int .i64 0, .int .i64 0, .bool false]) (t := 23) ?hr ?_; (case hd => rfl); (case hg => rfl); (case hr => first | (go_simp; done) | (go_simp; rfl)); intro gb392 hg w27 hbox hb; have n0_ := Aside0.mk (blk_below (g := gb384) (o := .cells #[.int .i64 0, .int .i64 0, .int .i64 0, .int .i64 0, .int .i64 0, .bool false] 23 (0, 0)) (by (with_reducible repeat (first | refine blk_drewN ?_ _ | refine blk_drew ?_ | refine blk_alloc ?_ _)); exact BK384.out) hb); have n1_ := Aside0.mk (blk_below (g := gb386) (o := .cells #[.int .i64 x387000_1, .int .i64 x387001_1, .int .i64 x387002_1, .int .i64 x387003_1, .int .i64 x387004_1, .bool x387005_1] 23 (0, 0)) (by (with_reducible repeat (first | refine blk_drewN ?_ _ | refine blk_drew ?_ | refine blk_alloc ?_ _)); exact BK386.out) hb); have n2_ := Aside0.mk (below_step (by repeat (first | (with_reducible first | exact HB.out | apply below_alloc | apply pw_below_drewN | apply below_drew1 | refine below_set ?_ GE384.out | refine below_set ?_ GE386.out) | exact HB.out)) hb); have n3_ := Aside0.mk (hbox); have n4_ := Aside0.mk ((by rw [hg]; exact (below_size (by repeat (first | (with_reducible first | exact HB.out | apply below_alloc | apply pw_below_drewN | apply below_drew1 | refine below_set ?_ GE384.out | refine below_set ?_ GE386.out) | exact HB.out))) : w.heap.size ≤ gb392)); have n5_ := Aside0.mk ((by rw [hg]; exact (below_size (by repeat (first | (with_reducible first | exact HB.out | apply below_alloc | apply pw_below_drewN | apply below_drew1 | refine below_set ?_ GE384.out | refine below_set ?_ GE386.out) | exact HB.out))) : w.heap.size ≤ gb392)); have n6_ := Aside0.mk ((by rw [hg]; exact Nat.ne_of_lt (blk_lt (g := gb384) (o := .cells #[.int .i64 0, .int .i64 0, .int .i64 0, .int .i64 0, .int .i64 0, .bool false] 23 (0, 0)) (by (with_reducible repeat (first | refine blk_drewN ?_ _ | refine blk_drew ?_ | refine blk_alloc ?_ _)); exact BK384.out)) : gb384 ≠ gb392)); have n7_ := Aside0.mk ((by rw [hg]; exact Nat.ne_of_gt (blk_lt (g := gb384) (o := .cells #[.int .i64 0, .int .i64 0, .int .i64 0, .int .i64 0, .int .i64 0, .bool false] 23 (0, 0)) (by (with_reducible repeat (first | refine blk_drewN ?_ _ | refine blk_drew ?_ | refine blk_alloc ?_ _)); exact BK384.out)) : gb392 ≠ gb384)); have n8_ := Aside0.mk ((by rw [hg]; exact Nat.ne_of_lt (blk_lt (g := gb386) (o := .cells #[.int .i64 x387000_1, .int .i64 x387001_1, .int .i64 x387002_1, .int .i64 x387003_1, .int .i64 x387004_1, .bool x387005_1] 23 (0, 0)) (by (with_reducible repeat (first | refine blk_drewN ?_ _ | refine blk_drew ?_ | refine blk_alloc ?_ _)); exact BK386.out)) : gb386 ≠ gb392)); have n9_ := Aside0.mk ((by rw [hg]; exact Nat.ne_of_gt (blk_lt (g := gb386) (o := .cells #[.int .i64 x387000_1, .int .i64 x387001_1, .int .i64 x387002_1, .int .i64 x387003_1, .int .i64 x387004_1, .bool x387005_1] 23 (0, 0)) (by (with_reducible repeat (first | refine blk_drewN ?_ _ | refine blk_drew ?_ | refine blk_alloc ?_ _)); exact BK386.out)) : gb392 ≠ gb386)); clear BK384; clear BK386; clear HB; have BK384 := n0_; have BK386 := n1_; have HB := n2_; have BK392 := n3_; have GW392 := n4_; have GE392 := n5_; have NB384_392 := n6_; have NB392_384 := n7_; have NB386_392 := n8_; have NB392_386 := n9_; clear n0_ n1_ n2_ n3_ n4_ n5_ n6_ n7_ n8_ n9_; clear hb hbox hg; have hnb28 := NB392_384.out; have hnc28 := NB384_392.out; have hnb29 := NB392_386.out; have hnc29 := NB386_392.out; have hcz30_0 : w27.cell? ⟨gb392, 0, none⟩ = some (.int .i64 0) := (blk_cell BK392.out 0).trans rfl; have hcz30_1 : w27.cell? ⟨gb392, 1, none⟩ = some (.int .i64 0) := (blk_cell BK392.out 1).trans rfl; have hcz30_2 : w27.cell? ⟨gb392, 2, none⟩ = some (.int .i64 0) := (blk_cell BK392.out 2).trans rfl; have hcz30_3 : w27.cell? ⟨gb392, 3, none⟩ = some (.int .i64 0) := (blk_cell BK392.out 3).trans rfl; have hcz30_4 : w27.cell? ⟨gb392, 4, none⟩ = some (.int .i64 0) := (blk_cell BK392.out 4).trans rfl; have hcz30_5 : w27.cell? ⟨gb392, 5, none⟩ = some (.bool false) := (blk_cell BK392.out 5).trans rfl; have hfz30_0 := blk_frozen BK392.out 0; have hfz30_1 := blk_frozen BK392.out 1; have hfz30_2 := blk_frozen BK392.out 2; have hfz30_3 := blk_frozen BK392.out 3; have hfz30_4 := blk_frozen BK392.out 4; have hfz30_5 := blk_frozen BK392.out 5))
                  have n0_ : Aside0 (((((((w27.setCell ⟨gb392, 0, none⟩ (.int .i64 ((rd_T23 y387 x14_1).f0))).setCell ⟨gb392, 1, none⟩ (.int .i64 ((rd_T23 y387 x14_1).f1))).setCell ⟨gb392, 2, none⟩ (.int .i64 ((rd_T23 y387 x14_1).f2))).setCell ⟨gb392, 3, none⟩ (.int .i64 ((rd_T23 y387 x14_1).f3))).setCell ⟨gb392, 4, none⟩ (.int .i64 ((rd_T23 y387 x14_1).f4))).setCell ⟨gb392, 5, none⟩ (.bool ((rd_T23 y387 x14_1).f5))).heap[gb384]? = some (.cells #[.int .i64 0, .int .i64 0, .int .i64 0, .int .i64 0, .int .i64 0, .bool false] 23 (0, 0))) := ⟨by (with_reducible repeat (first | refine blk_drewN ?_ _ | refine blk_drew ?_ | refine blk_alloc ?_ _)); refine blk_far ?_ NB384_392.out _; (with_reducible repeat (first | refine blk_drewN ?_ _ | refine blk_drew ?_ | refine blk_alloc ?_ _)); refine blk_far ?_ NB384_392.out _; (with_reducible repeat (first | refine blk_drewN ?_ _ | refine blk_drew ?_ | refine blk_alloc ?_ _)); refine blk_far ?_ NB384_392.out _; (with_reducible repeat (first | refine blk_drewN ?_ _ | refine blk_drew ?_ | refine blk_alloc ?_ _)); refine blk_far ?_ NB384_392.out _; (with_reducible repeat (first | refine blk_drewN ?_ _ | refine blk_drew ?_ | refine blk_alloc ?_ _)); refine blk_far ?_ NB384_392.out _; (with_reducible repeat (first | refine blk_drewN ?_ _ | refine blk_drew ?_ | refine blk_alloc ?_ _)); refine blk_far ?_ NB384_392.out _; (with_reducible repeat (first | refine blk_drewN ?_ _ | refine blk_drew ?_ | refine blk_alloc ?_ _)); exact BK384.out⟩
                  have n1_ : Aside0 (((((((w27.setCell ⟨gb392, 0, none⟩ (.int .i64 ((rd_T23 y387 x14_1).f0))).setCell ⟨gb392, 1, none⟩ (.int .i64 ((rd_T23 y387 x14_1).f1))).setCell ⟨gb392, 2, none⟩ (.int .i64 ((rd_T23 y387 x14_1).f2))).setCell ⟨gb392, 3, none⟩ (.int .i64 ((rd_T23 y387 x14_1).f3))).setCell ⟨gb392, 4, none⟩ (.int .i64 ((rd_T23 y387 x14_1).f4))).setCell ⟨gb392, 5, none⟩ (.bool ((rd_T23 y387 x14_1).f5))).heap[gb386]? = some (.cells #[.int .i64 x387000_1, .int .i64 x387001_1, .int .i64 x387002_1, .int .i64 x387003_1, .int .i64 x387004_1, .bool x387005_1] 23 (0, 0))) := ⟨by (with_reducible repeat (first | refine blk_drewN ?_ _ | refine blk_drew ?_ | refine blk_alloc ?_ _)); refine blk_far ?_ NB386_392.out _; (with_reducible repeat (first | refine blk_drewN ?_ _ | refine blk_drew ?_ | refine blk_alloc ?_ _)); refine blk_far ?_ NB386_392.out _; (with_reducible repeat (first | refine blk_drewN ?_ _ | refine blk_drew ?_ | refine blk_alloc ?_ _)); refine blk_far ?_ NB386_392.out _; (with_reducible repeat (first | refine blk_drewN ?_ _ | refine blk_drew ?_ | refine blk_alloc ?_ _)); refine blk_far ?_ NB386_392.out _; (with_reducible repeat (first | refine blk_drewN ?_ _ | refine blk_drew ?_ | refine blk_alloc ?_ _)); refine blk_far ?_ NB386_392.out _; (with_reducible repeat (first | refine blk_drewN ?_ _ | refine blk_drew ?_ | refine blk_alloc ?_ _)); refine blk_far ?_ NB386_392.out _; (with_reducible repeat (first | refine blk_drewN ?_ _ | refine blk_drew ?_ | refine blk_alloc ?_ _)); exact BK386.out⟩
                  have n2_ : Aside0 (((((((w27.setCell ⟨gb392, 0, none⟩ (.int .i64 ((rd_T23 y387 x14_1).f0))).setCell ⟨gb392, 1, none⟩ (.int .i64 ((rd_T23 y387 x14_1).f1))).setCell ⟨gb392, 2, none⟩ (.int .i64 ((rd_T23 y387 x14_1).f2))).setCell ⟨gb392, 3, none⟩ (.int .i64 ((rd_T23 y387 x14_1).f3))).setCell ⟨gb392, 4, none⟩ (.int .i64 ((rd_T23 y387 x14_1).f4))).setCell ⟨gb392, 5, none⟩ (.bool ((rd_T23 y387 x14_1).f5))).heap[gb392]? = some (.cells #[.int .i64 ((rd_T23 y387 x14_1).f0), .int .i64 ((rd_T23 y387 x14_1).f1), .int .i64 ((rd_T23 y387 x14_1).f2), .int .i64 ((rd_T23 y387 x14_1).f3), .int .i64 ((rd_T23 y387 x14_1).f4), .bool ((rd_T23 y387 x14_1).f5)] 23 (0, 0))) := ⟨by (with_reducible repeat (first | refine blk_drewN ?_ _ | refine blk_drew ?_ | refine blk_alloc ?_ _)); refine blk_put (cs := #[.int .i64 ((rd_T23 y387 x14_1).f0), .int .i64 ((rd_T23 y387 x14_1).f1), .int .i64 ((rd_T23 y387 x14_1).f2), .int .i64 ((rd_T23 y387 x14_1).f3), .int .i64 ((rd_T23 y387 x14_1).f4), .bool false]) ?_ 5 _ rfl; (with_reducible repeat (first | refine blk_drewN ?_ _ | refine blk_drew ?_ | refine blk_alloc ?_ _)); refine blk_put (cs := #[.int .i64 ((rd_T23 y387 x14_1).f0), .int .i64 ((rd_T23 y387 x14_1).f1), .int .i64 ((rd_T23 y387 x14_1).f2), .int .i64 ((rd_T23 y387 x14_1).f3), .int .i64 0, .bool false]) ?_ 4 _ rfl; (with_reducible repeat (first | refine blk_drewN ?_ _ | refine blk_drew ?_ | refine blk_alloc ?_ _)); refine blk_put (cs := #[.int .i64 ((rd_T23 y387 x14_1).f0), .int .i64 ((rd_T23 y387 x14_1).f1), .int .i64 ((rd_T23 y387 x14_1).f2), .int .i64 0, .int .i64 0, .bool false]) ?_ 3 _ rfl; (with_reducible repeat (first | refine blk_drewN ?_ _ | refine blk_drew ?_ | refine blk_alloc ?_ _)); refine blk_put (cs := #[.int .i64 ((rd_T23 y387 x14_1).f0), .int .i64 ((rd_T23 y387 x14_1).f1), .int .i64 0, .int .i64 0, .int .i64 0, .bool false]) ?_ 2 _ rfl; (with_reducible repeat (first | refine blk_drewN ?_ _ | refine blk_drew ?_ | refine blk_alloc ?_ _)); refine blk_put (cs := #[.int .i64 ((rd_T23 y387 x14_1).f0), .int .i64 0, .int .i64 0, .int .i64 0, .int .i64 0, .bool false]) ?_ 1 _ rfl; (with_reducible repeat (first | refine blk_drewN ?_ _ | refine blk_drew ?_ | refine blk_alloc ?_ _)); refine blk_put (cs := #[.int .i64 0, .int .i64 0, .int .i64 0, .int .i64 0, .int .i64 0, .bool false]) ?_ 0 _ rfl; (with_reducible repeat (first | refine blk_drewN ?_ _ | refine blk_drew ?_ | refine blk_alloc ?_ _)); exact BK392.out⟩
                  have n3_ : Aside0 (Below w.heap.size w ((((((w27.setCell ⟨gb392, 0, none⟩ (.int .i64 ((rd_T23 y387 x14_1).f0))).setCell ⟨gb392, 1, none⟩ (.int .i64 ((rd_T23 y387 x14_1).f1))).setCell ⟨gb392, 2, none⟩ (.int .i64 ((rd_T23 y387 x14_1).f2))).setCell ⟨gb392, 3, none⟩ (.int .i64 ((rd_T23 y387 x14_1).f3))).setCell ⟨gb392, 4, none⟩ (.int .i64 ((rd_T23 y387 x14_1).f4))).setCell ⟨gb392, 5, none⟩ (.bool ((rd_T23 y387 x14_1).f5)))) := ⟨by repeat (first | (with_reducible first | exact HB.out | apply below_alloc | apply pw_below_drewN | apply below_drew1 | refine below_set ?_ GE384.out | refine below_set ?_ GE386.out | refine below_set ?_ GE392.out) | exact HB.out)⟩
                  (try clear BK384)
                  (try clear BK386)
                  (try clear BK392)
                  (try clear HB)
                  generalize ((((((w27.setCell ⟨gb392, 0, none⟩ (.int .i64 ((rd_T23 y387 x14_1).f0))).setCell ⟨gb392, 1, none⟩ (.int .i64 ((rd_T23 y387 x14_1).f1))).setCell ⟨gb392, 2, none⟩ (.int .i64 ((rd_T23 y387 x14_1).f2))).setCell ⟨gb392, 3, none⟩ (.int .i64 ((rd_T23 y387 x14_1).f3))).setCell ⟨gb392, 4, none⟩ (.int .i64 ((rd_T23 y387 x14_1).f4))).setCell ⟨gb392, 5, none⟩ (.bool ((rd_T23 y387 x14_1).f5))) = w31 at n0_ n1_ n2_ n3_ ⊢
                  have BK384 := n0_
                  have BK386 := n1_
                  have BK392 := n2_
                  have HB := n3_
                  clear n0_ n1_ n2_ n3_
                  have n0_ := Aside0.mk (blk_drew BK384.out)
                  have n1_ := Aside0.mk (blk_drew BK386.out)
                  have n2_ := Aside0.mk (blk_drew BK392.out)
                  have n3_ := Aside0.mk (below_drew1 HB.out)
                  clear BK384
                  clear BK386
                  clear BK392
                  clear HB
                  have BK384 := n0_
                  have BK386 := n1_
                  have BK392 := n2_
                  have HB := n3_
                  clear n0_ n1_ n2_ n3_
                  refine start_ (n := 7) (S := fun w' => w'.cell? ⟨gb392, 0, none⟩ = some (.int .i64 ((rd_T23 y387 x14_1).f0)) ∧ w'.cell? ⟨gb392, 1, none⟩ = some (.int .i64 ((rd_T23 y387 x14_1).f1)) ∧ w'.cell? ⟨gb392, 2, none⟩ = some (.int .i64 ((rd_T23 y387 x14_1).f2)) ∧ w'.cell? ⟨gb392, 3, none⟩ = some (.int .i64 ((rd_T23 y387 x14_1).f3)) ∧ w'.cell? ⟨gb392, 4, none⟩ = some (.int .i64 ((rd_T23 y387 x14_1).f4)) ∧ w'.cell? ⟨gb392, 5, none⟩ = some (.bool ((rd_T23 y387 x14_1).f5)) ∧ w'.cell? ⟨gb386, 0, none⟩ = some (.int .i64 x387000_1) ∧ w'.cell? ⟨gb386, 1, none⟩ = some (.int .i64 x387001_1) ∧ w'.cell? ⟨gb386, 2, none⟩ = some (.int .i64 x387002_1) ∧ w'.cell? ⟨gb386, 3, none⟩ = some (.int .i64 x387003_1) ∧ w'.cell? ⟨gb386, 4, none⟩ = some (.int .i64 x387004_1) ∧ w'.cell? ⟨gb386, 5, none⟩ = some (.bool x387005_1)) (ds := []) #[false, false, false, false, false, false, false] (by kernel_rfl) rfl rfl ⟨(blk_cell BK392.out 0).trans rfl, (blk_cell BK392.out 1).trans rfl, (blk_cell BK392.out 2).trans rfl, (blk_cell BK392.out 3).trans rfl, (blk_cell BK392.out 4).trans rfl, (blk_cell BK392.out 5).trans rfl, (blk_cell BK386.out 0).trans rfl, (blk_cell BK386.out 1).trans rfl, (blk_cell BK386.out 2).trans rfl, (blk_cell BK386.out 3).trans rfl, (blk_cell BK386.out 4).trans rfl, (blk_cell BK386.out 5).trans rfl⟩ (fun hHeld => ?_)
                  generalize w31.drew = w32 at BK384 BK386 BK392 HB hHeld ⊢
                  refine pure_ (i := 0) (N := some 18) (v := ?_) (a' := ?_) #[true, false, false, false, false, false, false] rfl rfl (by kernel_rfl) (fun _ _ _ h => h) (Or.inl ⟨by rfl, ?_⟩) ?_ ?_
                  rotate_left
                  · intro w'
                    go_simp
                    with_reducible rfl
                  rotate_left
                  · simp only [Act.put, List.setIfInBounds_toArray, List.set_cons_zero, List.set_cons_succ, i64_w, i32_w]
                    rfl
                  refine pure_ (i := 3) (N := some 21) (v := ?_) (a' := ?_) #[true, false, false, true, false, false, false] rfl rfl (by kernel_rfl) (fun _ _ _ h => h) (Or.inl ⟨by rfl, ?_⟩) ?_ ?_
                  rotate_left
                  · intro w'
                    go_simp
                    with_reducible rfl
                  rotate_left
                  · simp only [Act.put, List.setIfInBounds_toArray, List.set_cons_zero, List.set_cons_succ, i64_w, i32_w]
                    rfl
                  refine take_ (i := 1) (N := some 19) (v := ?_) (a' := ?_) #[true, true, false, true, false, false, false] rfl rfl (by kernel_rfl) (fun _ _ _ h => h) (Or.inl ⟨by rfl, ?_⟩) hHeld ?_ ?_
                  rotate_left
                  · rintro w' ⟨s0, s1, s2, s3, s4, s5, s6, s7, s8, s9, s10, s11⟩
                    go_simp
                    with_reducible rfl
                  rotate_left
                  · simp only [Act.put, List.setIfInBounds_toArray, List.set_cons_zero, List.set_cons_succ, i64_w, i32_w]
                    rfl
                  refine take_ (i := 4) (N := some 22) (v := ?_) (a' := ?_) #[true, true, false, true, true, false, false] rfl rfl (by kernel_rfl) (fun _ _ _ h => h) (Or.inl ⟨by rfl, ?_⟩) hHeld ?_ ?_
                  rotate_left
                  · rintro w' ⟨s0, s1, s2, s3, s4, s5, s6, s7, s8, s9, s10, s11⟩
                    go_simp
                    with_reducible rfl
                  rotate_left
                  · simp only [Act.put, List.setIfInBounds_toArray, List.set_cons_zero, List.set_cons_succ, i64_w, i32_w]
                    rfl
                  refine one_ (i := 2) (N := some 20) #[true, true, true, true, true, false, false] rfl rfl (by kernel_rfl) (by decide) (fun K hK => ?_)
                  refine goesV_ rfl Try.func53 (by kernel_rfl) rfl #[.agg #[.int .i64 ((rd_T23 y387 x14_1).f0), .int .i64 ((rd_T23 y387 x14_1).f1), .int .i64 ((rd_T23 y387 x14_1).f2), .int .i64 ((rd_T23 y387 x14_1).f3), .int .i64 ((rd_T23 y387 x14_1).f4), .bool ((rd_T23 y387 x14_1).f5)]] (by rfl) rfl rfl (by (try simp only [List.map_toArray, List.map_cons, List.map_nil]); first | done | rfl | (simp only [List.length_drop, List.length_take]; rfl)) ?_
                  with_reducible refine (choose_loss.calls k1 ((rd_T23 y387 x14_1).f0) ((rd_T23 y387 x14_1).f1) ((rd_T23 y387 x14_1).f2) ((rd_T23 y387 x14_1).f3) ((rd_T23 y387 x14_1).f4) ((rd_T23 y387 x14_1).f5) t393 _ A13.out).mono ?_
                  rintro e w33 ⟨rfl, hb⟩
                  refine ⟨_, rfl, ?_⟩
                  have n0_ := Aside0.mk (blk_below (g := gb384) (o := .cells #[.int .i64 0, .int .i64 0, .int .i64 0, .int .i64 0, .int .i64 0, .bool false] 23 (0, 0)) (by (with_reducible repeat (first | refine blk_drewN ?_ _ | refine blk_drew ?_ | refine blk_alloc ?_ _)); exact BK384.out) hb)
                  have n1_ := Aside0.mk (blk_below (g := gb386) (o := .cells #[.int .i64 x387000_1, .int .i64 x387001_1, .int .i64 x387002_1, .int .i64 x387003_1, .int .i64 x387004_1, .bool x387005_1] 23 (0, 0)) (by (with_reducible repeat (first | refine blk_drewN ?_ _ | refine blk_drew ?_ | refine blk_alloc ?_ _)); exact BK386.out) hb)
                  have n2_ := Aside0.mk (blk_below (g := gb392) (o := .cells #[.int .i64 ((rd_T23 y387 x14_1).f0), .int .i64 ((rd_T23 y387 x14_1).f1), .int .i64 ((rd_T23 y387 x14_1).f2), .int .i64 ((rd_T23 y387 x14_1).f3), .int .i64 ((rd_T23 y387 x14_1).f4), .bool ((rd_T23 y387 x14_1).f5)] 23 (0, 0)) (by (with_reducible repeat (first | refine blk_drewN ?_ _ | refine blk_drew ?_ | refine blk_alloc ?_ _)); exact BK392.out) hb)
                  have n3_ := Aside0.mk (below_step (by repeat (first | (with_reducible first | exact HB.out | apply below_alloc | apply pw_below_drewN | apply below_drew1 | refine below_set ?_ GE384.out | refine below_set ?_ GE386.out | refine below_set ?_ GE392.out) | exact HB.out)) hb)
                  clear BK384
                  clear BK386
                  clear BK392
                  clear HB
                  have BK384 := n0_
                  have BK386 := n1_
                  have BK392 := n2_
                  have HB := n3_
                  clear n0_ n1_ n2_ n3_
                  (try clear hb)
                  (try clear hb2)
                  (try clear hk)
                  (try clear hi)
                  refine hK.out _ _ ⟨(blk_cell BK392.out 0).trans rfl, (blk_cell BK392.out 1).trans rfl, (blk_cell BK392.out 2).trans rfl, (blk_cell BK392.out 3).trans rfl, (blk_cell BK392.out 4).trans rfl, (blk_cell BK392.out 5).trans rfl, (blk_cell BK386.out 0).trans rfl, (blk_cell BK386.out 1).trans rfl, (blk_cell BK386.out 2).trans rfl, (blk_cell BK386.out 3).trans rfl, (blk_cell BK386.out 4).trans rfl, (blk_cell BK386.out 5).trans rfl⟩ (fun hHeld => ?_)
                  clear hK K
                  refine norm_ (a' := ?_) ?_ ?_
                  rotate_left
                  · show Act.put _ (some 20) _ = _
                    simp only [Act.put, List.setIfInBounds_toArray, List.set_cons_zero, List.set_cons_succ, i64_w, i32_w]
                    rfl
                  refine one_ (i := 5) (N := some 23) #[true, true, true, true, true, true, false] rfl rfl (by kernel_rfl) (by decide) (fun K hK => ?_)
                  refine goesV_ rfl Try.func53 (by kernel_rfl) rfl #[.agg #[.int .i64 x387000_1, .int .i64 x387001_1, .int .i64 x387002_1, .int .i64 x387003_1, .int .i64 x387004_1, .bool x387005_1]] (by rfl) rfl rfl (by (try simp only [List.map_toArray, List.map_cons, List.map_nil]); first | done | rfl | (simp only [List.length_drop, List.length_take]; rfl)) ?_
                  with_reducible refine (choose_loss.calls k1 x387000_1 x387001_1 x387002_1 x387003_1 x387004_1 x387005_1 t394 _ A14.out).mono ?_
                  rintro e w34 ⟨rfl, hb⟩
                  refine ⟨_, rfl, ?_⟩
                  have n0_ := Aside0.mk (blk_below (g := gb384) (o := .cells #[.int .i64 0, .int .i64 0, .int .i64 0, .int .i64 0, .int .i64 0, .bool false] 23 (0, 0)) (by (with_reducible repeat (first | refine blk_drewN ?_ _ | refine blk_drew ?_ | refine blk_alloc ?_ _)); exact BK384.out) hb)
                  have n1_ := Aside0.mk (blk_below (g := gb386) (o := .cells #[.int .i64 x387000_1, .int .i64 x387001_1, .int .i64 x387002_1, .int .i64 x387003_1, .int .i64 x387004_1, .bool x387005_1] 23 (0, 0)) (by (with_reducible repeat (first | refine blk_drewN ?_ _ | refine blk_drew ?_ | refine blk_alloc ?_ _)); exact BK386.out) hb)
                  have n2_ := Aside0.mk (blk_below (g := gb392) (o := .cells #[.int .i64 ((rd_T23 y387 x14_1).f0), .int .i64 ((rd_T23 y387 x14_1).f1), .int .i64 ((rd_T23 y387 x14_1).f2), .int .i64 ((rd_T23 y387 x14_1).f3), .int .i64 ((rd_T23 y387 x14_1).f4), .bool ((rd_T23 y387 x14_1).f5)] 23 (0, 0)) (by (with_reducible repeat (first | refine blk_drewN ?_ _ | refine blk_drew ?_ | refine blk_alloc ?_ _)); exact BK392.out) hb)
                  have n3_ := Aside0.mk (below_step (by repeat (first | (with_reducible first | exact HB.out | apply below_alloc | apply pw_below_drewN | apply below_drew1 | refine below_set ?_ GE384.out | refine below_set ?_ GE386.out | refine below_set ?_ GE392.out) | exact HB.out)) hb)
                  clear BK384
                  clear BK386
                  clear BK392
                  clear HB
                  have BK384 := n0_
                  have BK386 := n1_
                  have BK392 := n2_
                  have HB := n3_
                  clear n0_ n1_ n2_ n3_
                  (try clear hb)
                  (try clear hb2)
                  (try clear hk)
                  (try clear hi)
                  refine hK.out _ _ ⟨(blk_cell BK392.out 0).trans rfl, (blk_cell BK392.out 1).trans rfl, (blk_cell BK392.out 2).trans rfl, (blk_cell BK392.out 3).trans rfl, (blk_cell BK392.out 4).trans rfl, (blk_cell BK392.out 5).trans rfl, (blk_cell BK386.out 0).trans rfl, (blk_cell BK386.out 1).trans rfl, (blk_cell BK386.out 2).trans rfl, (blk_cell BK386.out 3).trans rfl, (blk_cell BK386.out 4).trans rfl, (blk_cell BK386.out 5).trans rfl⟩ (fun hHeld => ?_)
                  clear hK K
                  refine norm_ (a' := ?_) ?_ ?_
                  rotate_left
                  · show Act.put _ (some 23) _ = _
                    simp only [Act.put, List.setIfInBounds_toArray, List.set_cons_zero, List.set_cons_succ, i64_w, i32_w]
                    rfl
                  refine pure_ (i := 6) (N := some 24) (v := ?_) (a' := ?_) #[true, true, true, true, true, true, true] rfl rfl (by kernel_rfl) (fun _ _ _ h => h) (Or.inl ⟨by rfl, ?_⟩) ?_ ?_
                  rotate_left
                  · intro w'
                    go_simp
                    with_reducible rfl
                  rotate_left
                  · simp only [Act.put, List.setIfInBounds_toArray, List.set_cons_zero, List.set_cons_succ, i64_w, i32_w]
                    rfl
                  refine done_ (by kernel_rfl) ?_
                  try go_wp2
                  go_roundg k1
                  case measure => have := HK1.out; omega
                  case rel => exact ⟨(wrap64 (x14_1 + 1)), (x387000_1), (x387001_1), (x387002_1), (x387003_1), (x387004_1), (x387005_1), (by first | rfl | (simp; done) | (simp [*]; done)), H', ⟨by have := HK1.out; omega⟩, ⟨by (with_reducible repeat (first | refine blk_drewN ?_ _ | refine blk_drew ?_ | refine blk_alloc ?_ _)); exact BK384.out⟩, ⟨by (with_reducible repeat (first | refine blk_drewN ?_ _ | refine blk_drew ?_ | refine blk_alloc ?_ _)); exact BK386.out⟩, ⟨by repeat (first | (with_reducible first | exact HB.out | apply below_alloc | apply pw_below_drewN | apply below_drew1 | refine below_set ?_ GE384.out | refine below_set ?_ GE386.out | refine below_set ?_ GE392.out) | exact HB.out)⟩⟩
              · rw [if_neg c12] at H
                exact absurd H (by simp)
            · rw [if_neg c11] at H
              exact absurd H (by simp)
          · rw [if_neg c10] at H
            have c10b0 : decide (x14_1 < (y387.length : Int)) = false := decide_eq_false c10
            clear c10
            simp only [Option.some.injEq, Prod.mk.injEq] at H
            obtain ⟨rfl, rfl, rfl, rfl, rfl, rfl⟩ := H
            have hnb35 := NB386_384.out
            have hnc35 := NB384_386.out
            have hcz36_0 : wr.cell? ⟨gb386, 0, none⟩ = some (.int .i64 x387000_1) := (blk_cell BK386.out 0).trans rfl
            have hcz36_1 : wr.cell? ⟨gb386, 1, none⟩ = some (.int .i64 x387001_1) := (blk_cell BK386.out 1).trans rfl
            have hcz36_2 : wr.cell? ⟨gb386, 2, none⟩ = some (.int .i64 x387002_1) := (blk_cell BK386.out 2).trans rfl
            have hcz36_3 : wr.cell? ⟨gb386, 3, none⟩ = some (.int .i64 x387003_1) := (blk_cell BK386.out 3).trans rfl
            have hcz36_4 : wr.cell? ⟨gb386, 4, none⟩ = some (.int .i64 x387004_1) := (blk_cell BK386.out 4).trans rfl
            have hcz36_5 : wr.cell? ⟨gb386, 5, none⟩ = some (.bool x387005_1) := (blk_cell BK386.out 5).trans rfl
            have hfz36_0 := blk_frozen BK386.out 0
            have hfz36_1 := blk_frozen BK386.out 1
            have hfz36_2 := blk_frozen BK386.out 2
            have hfz36_3 := blk_frozen BK386.out 3
            have hfz36_4 := blk_frozen BK386.out 4
            have hfz36_5 := blk_frozen BK386.out 5
            have hcz37_0 : wr.cell? ⟨gb384, 0, none⟩ = some (.int .i64 0) := (blk_cell BK384.out 0).trans rfl
            have hcz37_1 : wr.cell? ⟨gb384, 1, none⟩ = some (.int .i64 0) := (blk_cell BK384.out 1).trans rfl
            have hcz37_2 : wr.cell? ⟨gb384, 2, none⟩ = some (.int .i64 0) := (blk_cell BK384.out 2).trans rfl
            have hcz37_3 : wr.cell? ⟨gb384, 3, none⟩ = some (.int .i64 0) := (blk_cell BK384.out 3).trans rfl
            have hcz37_4 : wr.cell? ⟨gb384, 4, none⟩ = some (.int .i64 0) := (blk_cell BK384.out 4).trans rfl
            have hcz37_5 : wr.cell? ⟨gb384, 5, none⟩ = some (.bool false) := (blk_cell BK384.out 5).trans rfl
            have hfz37_0 := blk_frozen BK384.out 0
            have hfz37_1 := blk_frozen BK384.out 1
            have hfz37_2 := blk_frozen BK384.out 2
            have hfz37_3 := blk_frozen BK384.out 3
            have hfz37_4 := blk_frozen BK384.out 4
            have hfz37_5 := blk_frozen BK384.out 5
            go_wp2
            refine bodyPost_ret (results_cell_row rfl _ _ gb384 23 #[.int .i64 x387000_1, .int .i64 x387001_1, .int .i64 x387002_1, .int .i64 x387003_1, .int .i64 x387004_1, .bool x387005_1] (0, 0) _ rfl (by (with_reducible repeat (first | refine blk_drewN ?_ _ | refine blk_drew ?_ | refine blk_alloc ?_ _)); refine blk_put (cs := #[.int .i64 x387000_1, .int .i64 x387001_1, .int .i64 x387002_1, .int .i64 x387003_1, .int .i64 x387004_1, .bool false]) ?_ 5 _ rfl; (with_reducible repeat (first | refine blk_drewN ?_ _ | refine blk_drew ?_ | refine blk_alloc ?_ _)); refine blk_put (cs := #[.int .i64 x387000_1, .int .i64 x387001_1, .int .i64 x387002_1, .int .i64 x387003_1, .int .i64 0, .bool false]) ?_ 4 _ rfl; (with_reducible repeat (first | refine blk_drewN ?_ _ | refine blk_drew ?_ | refine blk_alloc ?_ _)); refine blk_put (cs := #[.int .i64 x387000_1, .int .i64 x387001_1, .int .i64 x387002_1, .int .i64 0, .int .i64 0, .bool false]) ?_ 3 _ rfl; (with_reducible repeat (first | refine blk_drewN ?_ _ | refine blk_drew ?_ | refine blk_alloc ?_ _)); refine blk_put (cs := #[.int .i64 x387000_1, .int .i64 x387001_1, .int .i64 0, .int .i64 0, .int .i64 0, .bool false]) ?_ 2 _ rfl; (with_reducible repeat (first | refine blk_drewN ?_ _ | refine blk_drew ?_ | refine blk_alloc ?_ _)); refine blk_put (cs := #[.int .i64 x387000_1, .int .i64 0, .int .i64 0, .int .i64 0, .int .i64 0, .bool false]) ?_ 1 _ rfl; (with_reducible repeat (first | refine blk_drewN ?_ _ | refine blk_drew ?_ | refine blk_alloc ?_ _)); refine blk_put (cs := #[.int .i64 0, .int .i64 0, .int .i64 0, .int .i64 0, .int .i64 0, .bool false]) ?_ 0 _ rfl; (with_reducible repeat (first | refine blk_drewN ?_ _ | refine blk_drew ?_ | refine blk_alloc ?_ _)); exact BK384.out) Try.underlying23 rfl (by kernel_rfl)) rfl ?_
            exact ⟨by first | rfl | (simp [errW_none, errW_some] <;> rfl) | (simp [*, errW_none, errW_some] <;> rfl), by repeat (first | (with_reducible first | exact HB.out | apply below_alloc | apply pw_below_drewN | apply below_drew1 | refine below_set ?_ GE384.out | refine below_set ?_ GE386.out) | exact HB.out)⟩
    · rw [if_neg c3] at H
      exact absurd H (by simp)
  · rw [if_neg c2] at H
    exact absurd H (by simp)


end Go.Proofs.Ytbpanbmjkfhcgaa.P
