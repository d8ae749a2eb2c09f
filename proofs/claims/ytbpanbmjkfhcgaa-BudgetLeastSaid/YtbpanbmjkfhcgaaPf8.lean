-- Printed for this claim by drive.py (a program of this session's) through the kit's print program; not trusted: Lean checks it.
import Derived.Test.YtbpanbmjkfhcgaaP0
import Derived.Test.YtbpanbmjkfhcgaaPf28
import Derived.Test.YtbpanbmjkfhcgaaPg1
import Derived.Test.YtbpanbmjkfhcgaaPg5
namespace Go.Proofs.Ytbpanbmjkfhcgaa.P
open Go.RowKit Go.Proofs.YtbpanbmjkfhcgaaW.PrintWords Go.Proofs.YtbpanbmjkfhcgaaW.PrintLast Go.Proofs.YtbpanbmjkfhcgaaW.PrintMore
attribute [local go_sem] max2_int min2_int max_two min_two max_three min_three max_four min_four   -- for this text's walks alone
set_option linter.unusedVariables false
set_option linter.unusedSimpArgs false

/-! ### headroomlaw14_BudgetLeast: function 8 -/
def headroomlaw14_BudgetLeast.j0 : Nat → List Int → Int → Int → Bool → Int → Int → Int → Int → Int → Bool → Option (Bool)
  | 0, _, _, _, _, _, _, _, _, _, _ => none
  | k + 1, x1, x2, x9, x79, x237000, x237001, x237002, x237003, x237004, x237005 => if x79 = true then (some false) else (if (x1.length : Int) = 0 then (some true) else ((slices_Clone_int_int.f x1).bind fun t246 => (if 0 ≤ (Int.tmod (wrap64 ((Int.tmod x2 (x1.length : Int)) + (x1.length : Int))) (x1.length : Int)) then (if (Int.tmod (wrap64 ((Int.tmod x2 (x1.length : Int)) + (x1.length : Int))) (x1.length : Int)) < (t246.length : Int) then ((budget_Of.f k x237000 x237001 x237002 x237003 x237004 x237005 (t246.set ((Int.tmod (wrap64 ((Int.tmod x2 (x1.length : Int)) + (x1.length : Int))) (x1.length : Int)) : Int).toNat (wrap64 ((rd t246 (Int.tmod (wrap64 ((Int.tmod x2 (x1.length : Int)) + (x1.length : Int))) (x1.length : Int))) + 1)))).bind fun bt251 => (if bt251.2 = 0 then (some (decide (bt251.1 ≤ x9))) else (if bt251.1 = 0 then (some true) else (some false)))) else (none)) else (none))))
def headroomlaw14_BudgetLeast.f (k : Nat) (a0_0 : Int) (a0_1 : Int) (a0_2 : Int) (a0_3 : Int) (a0_4 : Int) (a0_5 : Bool) (l1 : List Int) (a2 : Int) (a3 : Int) : Option (Bool) := if 0 ≤ (mn (l1.length : Int) 10) then (if (mn (l1.length : Int) 10) ≤ (l1.length : Int) then ((budget_Of.f k a0_0 a0_1 a0_2 a0_3 a0_4 a0_5 (l1.take ((mn (l1.length : Int) 10) : Int).toNat)).bind fun bt238 => (if bt238.2 = 0 then ((budget_Of.f k a0_0 a0_1 a0_2 a0_3 (Int.tmod (wrap64 ((Int.tmod a3 3) + 3)) 3) (!a0_5) (l1.take ((mn (l1.length : Int) 10) : Int).toNat)).bind fun bt242 => (if bt242.2 = 0 then (if bt242.1 = bt238.1 then (if a0_3 = 0 then (if bt238.1 > (wrap64 (64 * (wrap64 ((wrap64 (6 * a0_1)) + 4)))) then (headroomlaw14_BudgetLeast.j0 k (l1.take ((mn (l1.length : Int) 10) : Int).toNat) a2 bt238.1 true a0_0 a0_1 a0_2 a0_3 a0_4 a0_5) else (if bt238.1 < 0 then (headroomlaw14_BudgetLeast.j0 k (l1.take ((mn (l1.length : Int) 10) : Int).toNat) a2 bt238.1 true a0_0 a0_1 a0_2 a0_3 a0_4 a0_5) else ((headroomlaw14_alive.f k).bind fun t244 => (headroomlaw14_BudgetLeast.j0 k (l1.take ((mn (l1.length : Int) 10) : Int).toNat) a2 bt238.1 (!t244) a0_0 a0_1 a0_2 a0_3 a0_4 a0_5)))) else (if bt238.1 < 0 then (headroomlaw14_BudgetLeast.j0 k (l1.take ((mn (l1.length : Int) 10) : Int).toNat) a2 bt238.1 true a0_0 a0_1 a0_2 a0_3 a0_4 a0_5) else ((headroomlaw14_alive.f k).bind fun t245 => (headroomlaw14_BudgetLeast.j0 k (l1.take ((mn (l1.length : Int) 10) : Int).toNat) a2 bt238.1 (!t245) a0_0 a0_1 a0_2 a0_3 a0_4 a0_5)))) else (headroomlaw14_BudgetLeast.j0 k (l1.take ((mn (l1.length : Int) 10) : Int).toNat) a2 bt238.1 true a0_0 a0_1 a0_2 a0_3 a0_4 a0_5)) else (headroomlaw14_BudgetLeast.j0 k (l1.take ((mn (l1.length : Int) 10) : Int).toNat) a2 bt238.1 true a0_0 a0_1 a0_2 a0_3 a0_4 a0_5))) else ((headroomlaw14_alive.f k).bind fun t240 => (if t240 = true then (some (bt238.1 == 0)) else (some false))))) else (none)) else (none)
theorem headroomlaw14_BudgetLeast.mono_l : ∀ k, (∀ y0 y1 y2 y3 y4 y5 y6 y7 y8 y9, LeO (headroomlaw14_BudgetLeast.j0 k y0 y1 y2 y3 y4 y5 y6 y7 y8 y9) (headroomlaw14_BudgetLeast.j0 (k + 1) y0 y1 y2 y3 y4 y5 y6 y7 y8 y9))
  | 0 => fun _ _ _ _ _ _ _ _ _ _ r h => by simp [headroomlaw14_BudgetLeast.j0] at h
  | k + 1 => by
    have ih0 := headroomlaw14_BudgetLeast.mono_l k
    · intro y0 y1 y2 y3 y4 y5 y6 y7 y8 y9
      unfold headroomlaw14_BudgetLeast.j0
      repeat' first
      | (with_reducible exact ih0 _ _ _ _ _ _ _ _ _ _)
      | (with_reducible exact budget_Of.mono _ _ _ _ _ _ _ _)
      | (with_reducible exact headroomlaw14_alive.mono _)
      | (with_reducible exact LeO.refl _)
      | (with_reducible exact LeO.none _)
      | (with_reducible refine LeO.ite ?_ ?_)
      | (with_reducible refine LeO.bind ?_ (fun _ => ?_))
      | exact ih0 _ _ _ _ _ _ _ _ _ _
      | exact budget_Of.mono _ _ _ _ _ _ _ _
      | exact headroomlaw14_alive.mono _
      | exact LeO.none _
      | refine LeO.ite ?_ ?_
      | refine LeO.bind ?_ (fun _ => ?_)
theorem headroomlaw14_BudgetLeast.mono : ∀ a0 a1 a2 a3 a4 a5 a6 a7 a8 k, LeO (headroomlaw14_BudgetLeast.f k a0 a1 a2 a3 a4 a5 a6 a7 a8) (headroomlaw14_BudgetLeast.f (k + 1) a0 a1 a2 a3 a4 a5 a6 a7 a8) := by
  intro a0 a1 a2 a3 a4 a5 a6 a7 a8 k
  have ih0 := headroomlaw14_BudgetLeast.mono_l k
  unfold headroomlaw14_BudgetLeast.f
  repeat' first
      | (with_reducible exact ih0 _ _ _ _ _ _ _ _ _ _)
      | (with_reducible exact budget_Of.mono _ _ _ _ _ _ _ _)
      | (with_reducible exact headroomlaw14_alive.mono _)
      | (with_reducible exact LeO.refl _)
      | (with_reducible exact LeO.none _)
      | (with_reducible refine LeO.ite ?_ ?_)
      | (with_reducible refine LeO.bind ?_ (fun _ => ?_))
      | exact ih0 _ _ _ _ _ _ _ _ _ _
      | exact budget_Of.mono _ _ _ _ _ _ _ _
      | exact headroomlaw14_alive.mono _
      | exact LeO.none _
      | refine LeO.ite ?_ ?_
      | refine LeO.bind ?_ (fun _ => ?_)
def headroomlaw14_BudgetLeast.T6 : Bool × List (List Nat × List Nat) := (true, [([], []), ([0], [0]), ([1], [1]), ([2], [2]), ([], []), ([4], [4]), ([5], [5]), ([0, 1, 2, 3], []), ([7, 3, 0, 1, 2, 3], [3, 7]), ([0, 1, 2, 3, 4, 5, 6, 7, 8], []), ([9, 6, 8, 0, 1, 2, 3, 4, 5, 6, 7, 8], [6, 9])])
def headroomlaw14_BudgetLeast.B6 : List Nat := [0, 1, 3, 7, 0, 16, 48, 15, 143, 511, 1023]
theorem headroomlaw14_BudgetLeast.tab6 : rtab .any (opsOf Try.f8 6) = headroomlaw14_BudgetLeast.T6 := by kernel_rfl
theorem headroomlaw14_BudgetLeast.bits6 : waitsOk headroomlaw14_BudgetLeast.T6.2 headroomlaw14_BudgetLeast.B6 = true := by kernel_rfl
set_option maxHeartbeats 8000000 in
set_option maxRecDepth 100000 in
theorem headroomlaw14_BudgetLeast.calls (k : Nat) (a0_0 : Int) (a0_1 : Int) (a0_2 : Int) (a0_3 : Int) (a0_4 : Int) (a0_5 : Bool) (A1 : Option Addr) (c1 : Nat) (l1 : List Int) (a2 : Int) (a3 : Int) (r : Bool) (w : World) (hr1 : Kd.C (Kd.int .i64) w A1 l1.length l1) (hc1 : l1.length ≤ c1) (h : headroomlaw14_BudgetLeast.f k a0_0 a0_1 a0_2 a0_3 a0_4 a0_5 l1 a2 a3 = some r) :
    Calls Try.prog 8 #[.agg #[.int .i64 a0_0, .int .i64 a0_1, .int .i64 a0_2, .int .i64 a0_3, .int .i64 a0_4, .bool a0_5], .slice A1 l1.length c1, .int .i64 a2, .int .i64 a3] w fun e w' => e = .returned (.bool r) ∧ Below w.heap.size w w' := by
  have hu23 := Try.underlying23
  have HR1 := Aside0.mk hr1
  have HC1 := Aside0.mk hc1
  clear hr1 hc1
  have HB := Aside0.mk (Below.refl w.heap.size w)
  have H : (if 0 ≤ (mn (l1.length : Int) 10) then (if (mn (l1.length : Int) 10) ≤ (l1.length : Int) then ((budget_Of.f k a0_0 a0_1 a0_2 a0_3 a0_4 a0_5 (l1.take ((mn (l1.length : Int) 10) : Int).toNat)).bind fun bt238 => (if bt238.2 = 0 then ((budget_Of.f k a0_0 a0_1 a0_2 a0_3 (Int.tmod (wrap64 ((Int.tmod a3 3) + 3)) 3) (!a0_5) (l1.take ((mn (l1.length : Int) 10) : Int).toNat)).bind fun bt242 => (if bt242.2 = 0 then (if bt242.1 = bt238.1 then (if a0_3 = 0 then (if bt238.1 > (wrap64 (64 * (wrap64 ((wrap64 (6 * a0_1)) + 4)))) then (headroomlaw14_BudgetLeast.j0 k (l1.take ((mn (l1.length : Int) 10) : Int).toNat) a2 bt238.1 true a0_0 a0_1 a0_2 a0_3 a0_4 a0_5) else (if bt238.1 < 0 then (headroomlaw14_BudgetLeast.j0 k (l1.take ((mn (l1.length : Int) 10) : Int).toNat) a2 bt238.1 true a0_0 a0_1 a0_2 a0_3 a0_4 a0_5) else ((headroomlaw14_alive.f k).bind fun t244 => (headroomlaw14_BudgetLeast.j0 k (l1.take ((mn (l1.length : Int) 10) : Int).toNat) a2 bt238.1 (!t244) a0_0 a0_1 a0_2 a0_3 a0_4 a0_5)))) else (if bt238.1 < 0 then (headroomlaw14_BudgetLeast.j0 k (l1.take ((mn (l1.length : Int) 10) : Int).toNat) a2 bt238.1 true a0_0 a0_1 a0_2 a0_3 a0_4 a0_5) else ((headroomlaw14_alive.f k).bind fun t245 => (headroomlaw14_BudgetLeast.j0 k (l1.take ((mn (l1.length : Int) 10) : Int).toNat) a2 bt238.1 (!t245) a0_0 a0_1 a0_2 a0_3 a0_4 a0_5)))) else (headroomlaw14_BudgetLeast.j0 k (l1.take ((mn (l1.length : Int) 10) : Int).toNat) a2 bt238.1 true a0_0 a0_1 a0_2 a0_3 a0_4 a0_5)) else (headroomlaw14_BudgetLeast.j0 k (l1.take ((mn (l1.length : Int) 10) : Int).toNat) a2 bt238.1 true a0_0 a0_1 a0_2 a0_3 a0_4 a0_5))) else ((headroomlaw14_alive.f k).bind fun t240 => (if t240 = true then (some (bt238.1 == 0)) else (some false))))) else (none)) else (none)) = some r := h
  clear h
  obtain ⟨ji5, hji5⟩ : ∃ j_ : Int, (mn (l1.length : Int) 10) = j_ := ⟨_, rfl⟩
  replace H : (if 0 ≤ (ji5) then (if (ji5) ≤ (l1.length : Int) then ((budget_Of.f k a0_0 a0_1 a0_2 a0_3 a0_4 a0_5 (l1.take ((ji5) : Int).toNat)).bind fun bt238 => (if bt238.2 = 0 then ((budget_Of.f k a0_0 a0_1 a0_2 a0_3 (Int.tmod (wrap64 ((Int.tmod a3 3) + 3)) 3) (!a0_5) (l1.take ((ji5) : Int).toNat)).bind fun bt242 => (if bt242.2 = 0 then (if bt242.1 = bt238.1 then (if a0_3 = 0 then (if bt238.1 > (wrap64 (64 * (wrap64 ((wrap64 (6 * a0_1)) + 4)))) then (headroomlaw14_BudgetLeast.j0 k (l1.take ((ji5) : Int).toNat) a2 bt238.1 true a0_0 a0_1 a0_2 a0_3 a0_4 a0_5) else (if bt238.1 < 0 then (headroomlaw14_BudgetLeast.j0 k (l1.take ((ji5) : Int).toNat) a2 bt238.1 true a0_0 a0_1 a0_2 a0_3 a0_4 a0_5) else ((headroomlaw14_alive.f k).bind fun t244 => (headroomlaw14_BudgetLeast.j0 k (l1.take ((ji5) : Int).toNat) a2 bt238.1 (!t244) a0_0 a0_1 a0_2 a0_3 a0_4 a0_5)))) else (if bt238.1 < 0 then (headroomlaw14_BudgetLeast.j0 k (l1.take ((ji5) : Int).toNat) a2 bt238.1 true a0_0 a0_1 a0_2 a0_3 a0_4 a0_5) else ((headroomlaw14_alive.f k).bind fun t245 => (headroomlaw14_BudgetLeast.j0 k (l1.take ((ji5) : Int).toNat) a2 bt238.1 (!t245) a0_0 a0_1 a0_2 a0_3 a0_4 a0_5)))) else (headroomlaw14_BudgetLeast.j0 k (l1.take ((ji5) : Int).toNat) a2 bt238.1 true a0_0 a0_1 a0_2 a0_3 a0_4 a0_5)) else (headroomlaw14_BudgetLeast.j0 k (l1.take ((ji5) : Int).toNat) a2 bt238.1 true a0_0 a0_1 a0_2 a0_3 a0_4 a0_5))) else ((headroomlaw14_alive.f k).bind fun t240 => (if t240 = true then (some (bt238.1 == 0)) else (some false))))) else (none)) else (none)) = some r := by first | (rw [hji5] at H; exact H) | (simp only [hji5] at H ⊢; exact H)
  (try (have hji5h : ji5 ≤ 10 := by (rw [← hji5]; unfold mn; (repeat' split) <;> omega)))
  (try (have hji5g : ji5 ≤ 64 := by omega))
  (try (have hji5l : 0 ≤ ji5 := by (rw [← hji5]; unfold mn; (repeat' split) <;> omega)))
  (try (have hji5m : 0 ≤ ji5 := by omega))
  have hji5_ : (if 10 < (l1.length : Int) then 10 else (l1.length : Int)) = ji5 := hji5
  have hji5q : decide (ji5 ≤ (l1.length : Int)) = true := decide_eq_true (by rw [← hji5_]; split <;> omega)
  by_cases c6 : 0 ≤ (ji5)
  · rw [if_pos c6] at H
    have c6b0 := eq_true c6
    have c6b1 : decide (0 ≤ (ji5)) = true := decide_eq_true c6
    clear c6
    by_cases c7 : (ji5) ≤ (l1.length : Int)
    · rw [if_pos c7] at H
      have c7b0 := eq_true c7
      have c7b1 : decide ((ji5) ≤ (l1.length : Int)) = true := decide_eq_true c7
      clear c7
      replace H := Option.bind_eq_some_iff.mp H
      obtain ⟨⟨t238, t239⟩, A80, H⟩ := H
      replace H : (if t239 = 0 then ((budget_Of.f k a0_0 a0_1 a0_2 a0_3 (Int.tmod (wrap64 ((Int.tmod a3 3) + 3)) 3) (!a0_5) (l1.take ((ji5) : Int).toNat)).bind fun bt242 => (if bt242.2 = 0 then (if bt242.1 = t238 then (if a0_3 = 0 then (if t238 > (wrap64 (64 * (wrap64 ((wrap64 (6 * a0_1)) + 4)))) then (headroomlaw14_BudgetLeast.j0 k (l1.take ((ji5) : Int).toNat) a2 t238 true a0_0 a0_1 a0_2 a0_3 a0_4 a0_5) else (if t238 < 0 then (headroomlaw14_BudgetLeast.j0 k (l1.take ((ji5) : Int).toNat) a2 t238 true a0_0 a0_1 a0_2 a0_3 a0_4 a0_5) else ((headroomlaw14_alive.f k).bind fun t244 => (headroomlaw14_BudgetLeast.j0 k (l1.take ((ji5) : Int).toNat) a2 t238 (!t244) a0_0 a0_1 a0_2 a0_3 a0_4 a0_5)))) else (if t238 < 0 then (headroomlaw14_BudgetLeast.j0 k (l1.take ((ji5) : Int).toNat) a2 t238 true a0_0 a0_1 a0_2 a0_3 a0_4 a0_5) else ((headroomlaw14_alive.f k).bind fun t245 => (headroomlaw14_BudgetLeast.j0 k (l1.take ((ji5) : Int).toNat) a2 t238 (!t245) a0_0 a0_1 a0_2 a0_3 a0_4 a0_5)))) else (headroomlaw14_BudgetLeast.j0 k (l1.take ((ji5) : Int).toNat) a2 t238 true a0_0 a0_1 a0_2 a0_3 a0_4 a0_5)) else (headroomlaw14_BudgetLeast.j0 k (l1.take ((ji5) : Int).toNat) a2 t238 true a0_0 a0_1 a0_2 a0_3 a0_4 a0_5))) else ((headroomlaw14_alive.f k).bind fun t240 => (if t240 = true then (some (t238 == 0)) else (some false)))) = some r := H
      have A8 := Aside0.mk A80
      clear A80
      by_cases c9 : t239 = 0
      · rw [if_pos c9] at H
        have c9b0 : (t239 == 0) = true := beq_iff_eq.mpr c9
        have c9b1 : (t239 != 0) = false := bne_eq_false_iff_eq.mpr c9
        clear c9
        replace H := Option.bind_eq_some_iff.mp H
        obtain ⟨⟨t242, t243⟩, A100, H⟩ := H
        replace H : (if t243 = 0 then (if t242 = t238 then (if a0_3 = 0 then (if t238 > (wrap64 (64 * (wrap64 ((wrap64 (6 * a0_1)) + 4)))) then (headroomlaw14_BudgetLeast.j0 k (l1.take ((ji5) : Int).toNat) a2 t238 true a0_0 a0_1 a0_2 a0_3 a0_4 a0_5) else (if t238 < 0 then (headroomlaw14_BudgetLeast.j0 k (l1.take ((ji5) : Int).toNat) a2 t238 true a0_0 a0_1 a0_2 a0_3 a0_4 a0_5) else ((headroomlaw14_alive.f k).bind fun t244 => (headroomlaw14_BudgetLeast.j0 k (l1.take ((ji5) : Int).toNat) a2 t238 (!t244) a0_0 a0_1 a0_2 a0_3 a0_4 a0_5)))) else (if t238 < 0 then (headroomlaw14_BudgetLeast.j0 k (l1.take ((ji5) : Int).toNat) a2 t238 true a0_0 a0_1 a0_2 a0_3 a0_4 a0_5) else ((headroomlaw14_alive.f k).bind fun t245 => (headroomlaw14_BudgetLeast.j0 k (l1.take ((ji5) : Int).toNat) a2 t238 (!t245) a0_0 a0_1 a0_2 a0_3 a0_4 a0_5)))) else (headroomlaw14_BudgetLeast.j0 k (l1.take ((ji5) : Int).toNat) a2 t238 true a0_0 a0_1 a0_2 a0_3 a0_4 a0_5)) else (headroomlaw14_BudgetLeast.j0 k (l1.take ((ji5) : Int).toNat) a2 t238 true a0_0 a0_1 a0_2 a0_3 a0_4 a0_5)) = some r := H
        have A10 := Aside0.mk A100
        clear A100
        have HC11 := Aside0.mk H
        clear H
        go_enter Try.func8, Try.ntmps8
        try go_wp2_with (first | ((with_reducible refine gate_dst (N := 4) rfl ?_); refine box_event ?hg (N := 4) ?hd (cs := #[.int .i64 a0_0, .int .i64 a0_1, .int .i64 a0_2, .int .i64 a0_3, .int .i64 a0_4, .bool a0_5]) (t := 23) ?hr ?_; (case hd => rfl); (case hg => rfl); (case hr => first | (go_simp; done) | (go_simp; rfl)); intro gb236 hg w12 hbox hb; have n0_ := Aside0.mk (below_step (by repeat (first | (with_reducible first | exact HB.out | apply below_alloc | apply pw_below_drewN | apply below_drew1) | exact HB.out)) hb); have n1_ := Aside0.mk (hbox); have n2_ := Aside0.mk ((by rw [hg]; exact (below_size (by repeat (first | (with_reducible first | exact HB.out | apply below_alloc | apply pw_below_drewN | apply below_drew1) | exact HB.out))) : w.heap.size ≤ gb236)); have n3_ := Aside0.mk ((by rw [hg]; exact (below_size (by repeat (first | (with_reducible first | exact HB.out | apply below_alloc | apply pw_below_drewN | apply below_drew1) | exact HB.out))) : w.heap.size ≤ gb236)); clear HB; have HB := n0_; have BK236 := n1_; have GW236 := n2_; have GE236 := n3_; clear n0_ n1_ n2_ n3_; clear hb hbox hg; obtain ⟨i013, hi013, _, hsz13, _⟩ := info_parts info3; obtain ⟨hcut13, hA13, hC13⟩ := print_take_of (P := Try.prog) (Value.int .i64) 0 47 3 .i64 Try.underlying47 hi013 hsz13 A1 c1 l1 (ji5) (of_decide_eq_true (by first | (with_reducible assumption) | assumption)) (of_decide_eq_true (by first | (with_reducible assumption) | assumption)) HC1.out; have HR237 := Aside0.mk (Kd.C_of_reads (h1 := fun _ => rfl) (hA13 _ (Kd.reads_of_C HR1.out))); have HC237 := Aside0.mk hC13; clear hA13 hC13 hi013 hsz13; have hcz14_0 : w12.cell? ⟨gb236, 0, none⟩ = some (.int .i64 a0_0) := (blk_cell BK236.out 0).trans rfl; have hcz14_1 : w12.cell? ⟨gb236, 1, none⟩ = some (.int .i64 a0_1) := (blk_cell BK236.out 1).trans rfl; have hcz14_2 : w12.cell? ⟨gb236, 2, none⟩ = some (.int .i64 a0_2) := (blk_cell BK236.out 2).trans rfl; have hcz14_3 : w12.cell? ⟨gb236, 3, none⟩ = some (.int .i64 a0_3) := (blk_cell BK236.out 3).trans rfl; have hcz14_4 : w12.cell? ⟨gb236, 4, none⟩ = some (.int .i64 a0_4) := (blk_cell BK236.out 4).trans rfl; have hcz14_5 : w12.cell? ⟨gb236, 5, none⟩ = some (.bool a0_5) := (blk_cell BK236.out 5).trans rfl; have hfz14_0 := blk_frozen BK236.out 0; have hfz14_1 := blk_frozen BK236.out 1; have hfz14_2 := blk_frozen BK236.out 2; have hfz14_3 := blk_frozen BK236.out 3; have hfz14_4 := blk_frozen BK236.out 4; have hfz14_5 := blk_frozen BK236.out 5) | ((with_reducible refine gate_callee (f := 28) rfl ?_); refine goesL_ (some 25) rfl rfl Try.func28 (by kernel_rfl) rfl #[.agg #[.int .i64 a0_0, .int .i64 a0_1, .int .i64 a0_2, .int .i64 a0_3, .int .i64 a0_4, .bool a0_5], .slice A1 (l1.take ((ji5) : Int).toNat).length c1] rfl (by (try simp only [List.map_toArray, List.map_cons, List.map_nil]); first | done | (rw [show (l1.take ((ji5) : Int).toNat).length = (ji5).toNat from (by rw [List.length_take]; have h_ : ((ji5) : Int) ≤ (l1.length : Int) := of_decide_eq_true (by first | (with_reducible assumption) | assumption); omega)] <;> rfl) | (rw [show (l1.take ((ji5) : Int).toNat).length = (ji5).toNat from (by rw [List.length_take]; have h_ : ((ji5) : Int) ≤ (l1.length : Int) := of_decide_eq_true (by first | (with_reducible assumption) | assumption); omega)]; simp [Act.eval]; done) | (simp only [hji5]; rfl) | rfl | (simp only [List.length_drop, List.length_take]; rfl)) ?_; (with_reducible refine (budget_Of.calls k a0_0 a0_1 a0_2 a0_3 a0_4 a0_5 _ _ (l1.take ((ji5) : Int).toNat) t238 t239 _ ?side1 ?side2 A8.out).mono ?_); (case side1 => repeat (first | exact (Kd.C_below HR237.out HB.out) | (with_reducible refine Kd.C_alloc ?_ _) | (with_reducible refine Kd.C_drewN ?_ _) | (with_reducible refine Kd.C_drew ?_))); (case side2 => exact HC237.out); rintro e w15 ⟨rfl, hb⟩; refine ⟨_, rfl, ?_⟩; have n0_ := Aside0.mk (blk_below (g := gb236) (o := .cells #[.int .i64 a0_0, .int .i64 a0_1, .int .i64 a0_2, .int .i64 a0_3, .int .i64 a0_4, .bool a0_5] 23 (0, 0)) (by (with_reducible repeat (first | refine blk_drewN ?_ _ | refine blk_drew ?_ | refine blk_alloc ?_ _)); exact BK236.out) hb); have n1_ := Aside0.mk (below_step (by repeat (first | (with_reducible first | exact HB.out | apply below_alloc | apply pw_below_drewN | apply below_drew1 | refine below_set ?_ GE236.out) | exact HB.out)) hb); clear BK236; clear HB; have BK236 := n0_; have HB := n1_; clear n0_ n1_; (try clear hb); (try clear hb2); (try clear hk); (try clear hi); have hcz16_0 : w15.cell? ⟨gb236, 0, none⟩ = some (.int .i64 a0_0) := (blk_cell BK236.out 0).trans rfl; have hcz16_1 : w15.cell? ⟨gb236, 1, none⟩ = some (.int .i64 a0_1) := (blk_cell BK236.out 1).trans rfl; have hcz16_2 : w15.cell? ⟨gb236, 2, none⟩ = some (.int .i64 a0_2) := (blk_cell BK236.out 2).trans rfl; have hcz16_3 : w15.cell? ⟨gb236, 3, none⟩ = some (.int .i64 a0_3) := (blk_cell BK236.out 3).trans rfl; have hcz16_4 : w15.cell? ⟨gb236, 4, none⟩ = some (.int .i64 a0_4) := (blk_cell BK236.out 4).trans rfl; have hcz16_5 : w15.cell? ⟨gb236, 5, none⟩ = some (.bool a0_5) := (blk_cell BK236.out 5).trans rfl; have hfz16_0 := blk_frozen BK236.out 0; have hfz16_1 := blk_frozen BK236.out 1; have hfz16_2 := blk_frozen BK236.out 2; have hfz16_3 := blk_frozen BK236.out 3; have hfz16_4 := blk_frozen BK236.out 4; have hfz16_5 := blk_frozen BK236.out 5) | ((with_reducible refine gate_dst (N := 11) rfl ?_); refine box_event ?hg (N := 11) ?hd (cs := #[.int .i64 0, .int .i64 0, .int .i64 0, .int .i64 0, .int .i64 0, .bool false]) (t := 23) ?hr ?_; (case hd => rfl); (case hg => rfl); (case hr => first | (go_simp; done) | (go_simp; rfl)); intro gb241 hg w17 hbox hb; have n0_ := Aside0.mk (blk_below (g := gb236) (o := .cells #[.int .i64 a0_0, .int .i64 a0_1, .int .i64 a0_2, .int .i64 a0_3, .int .i64 a0_4, .bool a0_5] 23 (0, 0)) (by (with_reducible repeat (first | refine blk_drewN ?_ _ | refine blk_drew ?_ | refine blk_alloc ?_ _)); exact BK236.out) hb); have n1_ := Aside0.mk (below_step (by repeat (first | (with_reducible first | exact HB.out | apply below_alloc | apply pw_below_drewN | apply below_drew1 | refine below_set ?_ GE236.out) | exact HB.out)) hb); have n2_ := Aside0.mk (hbox); have n3_ := Aside0.mk ((by rw [hg]; exact (below_size (by repeat (first | (with_reducible first | exact HB.out | apply below_alloc | apply pw_below_drewN | apply below_drew1 | refine below_set ?_ GE236.out) | exact HB.out))) : w.heap.size ≤ gb241)); have n4_ := Aside0.mk ((by rw [hg]; exact (below_size (by repeat (first | (with_reducible first | exact HB.out | apply below_alloc | apply pw_below_drewN | apply below_drew1 | refine below_set ?_ GE236.out) | exact HB.out))) : w.heap.size ≤ gb241)); have n5_ := Aside0.mk ((by rw [hg]; exact Nat.ne_of_lt (blk_lt (g := gb236) (o := .cells #[.int .i64 a0_0, .int .i64 a0_1, .int .i64 a0_2, .int .i64 a0_3, .int .i64 a0_4, .bool a0_5] 23 (0, 0)) (by (with_reducible repeat (first | refine blk_drewN ?_ _ | refine blk_drew ?_ | refine blk_alloc ?_ _)); exact BK236.out)) : gb236 ≠ gb241)); have n6_ := Aside0.mk ((by rw [hg]; exact Nat.ne_of_gt (blk_lt (g := gb236) (o := .cells #[.int .i64 a0_0, .int .i64 a0_1, .int .i64 a0_2, .int .i64 a0_3, .int .i64 a0_4, .bool a0_5] 23 (0, 0)) (by (with_reducible repeat (first | refine blk_drewN ?_ _ | refine blk_drew ?_ | refine blk_alloc ?_ _)); exact BK236.out)) : gb241 ≠ gb236)); clear BK236; clear HB; have BK236 := n0_; have HB := n1_; have BK241 := n2_; have GW241 := n3_; have GE241 := n4_; have NB236_241 := n5_; have NB241_236 := n6_; clear n0_ n1_ n2_ n3_ n4_ n5_ n6_; clear hb hbox hg; have hnb18 := NB241_236.out; have hnc18 := NB236_241.out; have hcz19_0 : w17.cell? ⟨gb241, 0, none⟩ = some (.int .i64 0) := (blk_cell BK241.out 0).trans rfl; have hcz19_1 : w17.cell? ⟨gb241, 1, none⟩ = some (.int .i64 0) := (blk_cell BK241.out 1).trans rfl; have hcz19_2 : w17.cell? ⟨gb241, 2, none⟩ = some (.int .i64 0) := (blk_cell BK241.out 2).trans rfl; have hcz19_3 : w17.cell? ⟨gb241, 3, none⟩ = some (.int .i64 0) := (blk_cell BK241.out 3).trans rfl; have hcz19_4 : w17.cell? ⟨gb241, 4, none⟩ = some (.int .i64 0) := (blk_cell BK241.out 4).trans rfl; have hcz19_5 : w17.cell? ⟨gb241, 5, none⟩ = some (.bool false) := (blk_cell BK241.out 5).trans rfl; have hfz19_0 := blk_frozen BK241.out 0; have hfz19_1 := blk_frozen BK241.out 1; have hfz19_2 := blk_frozen BK241.out 2; have hfz19_3 := blk_frozen BK241.out 3; have hfz19_4 := blk_frozen BK241.out 4; have hfz19_5 := blk_frozen BK241.out 5))
        have n0_ : Aside0 (((((((w17.setCell ⟨gb241, 0, none⟩ (.int .i64 a0_0)).setCell ⟨gb241, 1, none⟩ (.int .i64 a0_1)).setCell ⟨gb241, 2, none⟩ (.int .i64 a0_2)).setCell ⟨gb241, 3, none⟩ (.int .i64 a0_3)).setCell ⟨gb241, 4, none⟩ (.int .i64 a0_4)).setCell ⟨gb241, 5, none⟩ (.bool a0_5)).heap[gb236]? = some (.cells #[.int .i64 a0_0, .int .i64 a0_1, .int .i64 a0_2, .int .i64 a0_3, .int .i64 a0_4, .bool a0_5] 23 (0, 0))) := ⟨by (with_reducible repeat (first | refine blk_drewN ?_ _ | refine blk_drew ?_ | refine blk_alloc ?_ _)); refine blk_far ?_ NB236_241.out _; (with_reducible repeat (first | refine blk_drewN ?_ _ | refine blk_drew ?_ | refine blk_alloc ?_ _)); refine blk_far ?_ NB236_241.out _; (with_reducible repeat (first | refine blk_drewN ?_ _ | refine blk_drew ?_ | refine blk_alloc ?_ _)); refine blk_far ?_ NB236_241.out _; (with_reducible repeat (first | refine blk_drewN ?_ _ | refine blk_drew ?_ | refine blk_alloc ?_ _)); refine blk_far ?_ NB236_241.out _; (with_reducible repeat (first | refine blk_drewN ?_ _ | refine blk_drew ?_ | refine blk_alloc ?_ _)); refine blk_far ?_ NB236_241.out _; (with_reducible repeat (first | refine blk_drewN ?_ _ | refine blk_drew ?_ | refine blk_alloc ?_ _)); refine blk_far ?_ NB236_241.out _; (with_reducible repeat (first | refine blk_drewN ?_ _ | refine blk_drew ?_ | refine blk_alloc ?_ _)); exact BK236.out⟩
        have n1_ : Aside0 (((((((w17.setCell ⟨gb241, 0, none⟩ (.int .i64 a0_0)).setCell ⟨gb241, 1, none⟩ (.int .i64 a0_1)).setCell ⟨gb241, 2, none⟩ (.int .i64 a0_2)).setCell ⟨gb241, 3, none⟩ (.int .i64 a0_3)).setCell ⟨gb241, 4, none⟩ (.int .i64 a0_4)).setCell ⟨gb241, 5, none⟩ (.bool a0_5)).heap[gb241]? = some (.cells #[.int .i64 a0_0, .int .i64 a0_1, .int .i64 a0_2, .int .i64 a0_3, .int .i64 a0_4, .bool a0_5] 23 (0, 0))) := ⟨by (with_reducible repeat (first | refine blk_drewN ?_ _ | refine blk_drew ?_ | refine blk_alloc ?_ _)); refine blk_put (cs := #[.int .i64 a0_0, .int .i64 a0_1, .int .i64 a0_2, .int .i64 a0_3, .int .i64 a0_4, .bool false]) ?_ 5 _ rfl; (with_reducible repeat (first | refine blk_drewN ?_ _ | refine blk_drew ?_ | refine blk_alloc ?_ _)); refine blk_put (cs := #[.int .i64 a0_0, .int .i64 a0_1, .int .i64 a0_2, .int .i64 a0_3, .int .i64 0, .bool false]) ?_ 4 _ rfl; (with_reducible repeat (first | refine blk_drewN ?_ _ | refine blk_drew ?_ | refine blk_alloc ?_ _)); refine blk_put (cs := #[.int .i64 a0_0, .int .i64 a0_1, .int .i64 a0_2, .int .i64 0, .int .i64 0, .bool false]) ?_ 3 _ rfl; (with_reducible repeat (first | refine blk_drewN ?_ _ | refine blk_drew ?_ | refine blk_alloc ?_ _)); refine blk_put (cs := #[.int .i64 a0_0, .int .i64 a0_1, .int .i64 0, .int .i64 0, .int .i64 0, .bool false]) ?_ 2 _ rfl; (with_reducible repeat (first | refine blk_drewN ?_ _ | refine blk_drew ?_ | refine blk_alloc ?_ _)); refine blk_put (cs := #[.int .i64 a0_0, .int .i64 0, .int .i64 0, .int .i64 0, .int .i64 0, .bool false]) ?_ 1 _ rfl; (with_reducible repeat (first | refine blk_drewN ?_ _ | refine blk_drew ?_ | refine blk_alloc ?_ _)); refine blk_put (cs := #[.int .i64 0, .int .i64 0, .int .i64 0, .int .i64 0, .int .i64 0, .bool false]) ?_ 0 _ rfl; (with_reducible repeat (first | refine blk_drewN ?_ _ | refine blk_drew ?_ | refine blk_alloc ?_ _)); exact BK241.out⟩
        have n2_ : Aside0 (Below w.heap.size w ((((((w17.setCell ⟨gb241, 0, none⟩ (.int .i64 a0_0)).setCell ⟨gb241, 1, none⟩ (.int .i64 a0_1)).setCell ⟨gb241, 2, none⟩ (.int .i64 a0_2)).setCell ⟨gb241, 3, none⟩ (.int .i64 a0_3)).setCell ⟨gb241, 4, none⟩ (.int .i64 a0_4)).setCell ⟨gb241, 5, none⟩ (.bool a0_5))) := ⟨by repeat (first | (with_reducible first | exact HB.out | apply below_alloc | apply pw_below_drewN | apply below_drew1 | refine below_set ?_ GE236.out | refine below_set ?_ GE241.out) | exact HB.out)⟩
        (try clear BK236)
        (try clear BK241)
        (try clear HB)
        generalize ((((((w17.setCell ⟨gb241, 0, none⟩ (.int .i64 a0_0)).setCell ⟨gb241, 1, none⟩ (.int .i64 a0_1)).setCell ⟨gb241, 2, none⟩ (.int .i64 a0_2)).setCell ⟨gb241, 3, none⟩ (.int .i64 a0_3)).setCell ⟨gb241, 4, none⟩ (.int .i64 a0_4)).setCell ⟨gb241, 5, none⟩ (.bool a0_5)) = w20 at n0_ n1_ n2_ ⊢
        have BK236 := n0_
        have BK241 := n1_
        have HB := n2_
        clear n0_ n1_ n2_
        have n0_ := Aside0.mk (blk_drew BK236.out)
        have n1_ := Aside0.mk (blk_drew BK241.out)
        have n2_ := Aside0.mk (below_drew1 HB.out)
        clear BK236
        clear BK241
        clear HB
        have BK236 := n0_
        have BK241 := n1_
        have HB := n2_
        clear n0_ n1_ n2_
        refine start_ (n := 11) (S := fun w' => w'.cell? ⟨gb236, 0, none⟩ = some (.int .i64 a0_0) ∧ w'.cell? ⟨gb236, 1, none⟩ = some (.int .i64 a0_1) ∧ w'.cell? ⟨gb236, 2, none⟩ = some (.int .i64 a0_2) ∧ w'.cell? ⟨gb236, 3, none⟩ = some (.int .i64 a0_3) ∧ w'.cell? ⟨gb236, 4, none⟩ = some (.int .i64 a0_4) ∧ w'.cell? ⟨gb236, 5, none⟩ = some (.bool a0_5)) (ds := []) #[false, false, false, false, false, false, false, false, false, false, false] (by kernel_rfl) rfl rfl ⟨(blk_cell BK236.out 0).trans rfl, (blk_cell BK236.out 1).trans rfl, (blk_cell BK236.out 2).trans rfl, (blk_cell BK236.out 3).trans rfl, (blk_cell BK236.out 4).trans rfl, (blk_cell BK236.out 5).trans rfl⟩ (fun hHeld => ?_); refine with_tabW headroomlaw14_BudgetLeast.tab6 headroomlaw14_BudgetLeast.bits6 (fun HT_ HW_ => ?_)
        generalize w20.drew = w21 at BK236 BK241 HB hHeld ⊢
        refine pure_ (i := 0) (N := some 36) (v := ?_) (a' := ?_) #[true, false, false, false, false, false, false, false, false, false, false] rfl rfl (any_of HT_.out (by kernel_rfl)) (fun _ _ _ h => h) (Or.inl ⟨by rfl, ?_⟩) ?_ ?_
        rotate_left
        · intro w'
          go_simp
          with_reducible rfl
        rotate_left
        · simp only [Act.put, List.setIfInBounds_toArray, List.set_cons_zero, List.set_cons_succ, i64_w, i32_w]
          rfl
        refine pure_ (i := 1) (N := some 37) (v := ?_) (a' := ?_) #[true, true, false, false, false, false, false, false, false, false, false] rfl rfl (any_of HT_.out (by kernel_rfl)) (fun _ _ _ h => h) (Or.inl ⟨by rfl, ?_⟩) ?_ ?_
        rotate_left
        · intro w'
          go_simp
          with_reducible rfl
        rotate_left
        · simp only [Act.put, List.setIfInBounds_toArray, List.set_cons_zero, List.set_cons_succ, i64_w, i32_w]
          rfl
        refine pure_ (i := 2) (N := some 38) (v := ?_) (a' := ?_) #[true, true, true, false, false, false, false, false, false, false, false] rfl rfl (any_of HT_.out (by kernel_rfl)) (fun _ _ _ h => h) (Or.inl ⟨by rfl, ?_⟩) ?_ ?_
        rotate_left
        · intro w'
          go_simp
          with_reducible rfl
        rotate_left
        · simp only [Act.put, List.setIfInBounds_toArray, List.set_cons_zero, List.set_cons_succ, i64_w, i32_w]
          rfl
        refine pure_ (i := 3) (N := some 39) (v := ?_) (a' := ?_) #[true, true, true, true, false, false, false, false, false, false, false] rfl rfl (any_of HT_.out (by kernel_rfl)) (fun _ _ _ h => h) (Or.inl ⟨by rfl, ?_⟩) ?_ ?_
        rotate_left
        · intro w'
          go_simp
          with_reducible rfl
        rotate_left
        · simp only [Act.put, List.setIfInBounds_toArray, List.set_cons_zero, List.set_cons_succ, i64_w, i32_w]
          rfl
        refine pure_ (i := 4) (N := some 40) (v := ?_) (a' := ?_) #[true, true, true, true, true, false, false, false, false, false, false] rfl rfl (any_of HT_.out (by kernel_rfl)) (fun _ _ _ h => h) (Or.inl ⟨by rfl, ?_⟩) ?_ ?_
        rotate_left
        · intro w'
          go_simp
          with_reducible rfl
        rotate_left
        · simp only [Act.put, List.setIfInBounds_toArray, List.set_cons_zero, List.set_cons_succ, i64_w, i32_w]
          rfl
        refine pure_ (i := 7) (N := some 43) (v := ?_) (a' := ?_) #[true, true, true, true, true, false, false, true, false, false, false] rfl rfl (any_of HT_.out (by kernel_rfl)) (fun _ _ _ h => h) (Or.inl ⟨by rfl, ?_⟩) ?_ ?_
        rotate_left
        · intro w'
          go_simp
          with_reducible rfl
        rotate_left
        · simp only [Act.put, List.setIfInBounds_toArray, List.set_cons_zero, List.set_cons_succ, i64_w, i32_w]
          rfl
        refine take_ (i := 5) (N := some 41) (v := ?_) (a' := ?_) #[true, true, true, true, true, true, false, true, false, false, false] rfl rfl (take_ofW HT_.out HW_.out (by kernel_rfl)) (fun _ _ _ h => h) (Or.inl ⟨by rfl, ?_⟩) hHeld ?_ ?_
        rotate_left
        · rintro w' ⟨s0, s1, s2, s3, s4, s5⟩
          go_simp
          with_reducible rfl
        rotate_left
        · simp only [Act.put, List.setIfInBounds_toArray, List.set_cons_zero, List.set_cons_succ, i64_w, i32_w]
          rfl
        refine pure_ (i := 6) (N := some 42) (v := ?_) (a' := ?_) #[true, true, true, true, true, true, true, true, false, false, false] rfl rfl (any_of HT_.out (by kernel_rfl)) (fun _ _ _ h => h) (Or.inl ⟨by rfl, ?_⟩) ?_ ?_
        rotate_left
        · intro w'
          go_simp
          with_reducible rfl
        rotate_left
        · simp only [Act.put, List.setIfInBounds_toArray, List.set_cons_zero, List.set_cons_succ, i64_w, i32_w]
          rfl
        refine one_ (i := 8) (N := none) #[true, true, true, true, true, true, true, true, true, false, false] rfl rfl (one_of HT_.out (by kernel_rfl)) (by decide) (fun K hK => ?_)
        have hs22 : w21.cell? ⟨gb241, 4, none⟩ = some (.int .i64 a0_4) := (blk_cell BK241.out 4).trans rfl
        have hfs22 := blk_frozen BK241.out 4
        have hns22_0 := NB236_241.out
        have hms22_0 := NB241_236.out
        refine skip_ (w1 := ?_) (by rfl) rfl ?_ ?_
        rotate_left
        · go_simp
          rfl
        refine hK.out _ _ ⟨((cell_far (p := ⟨gb241, _, none⟩) NB236_241.out _).trans (hHeld.1)), ((cell_far (p := ⟨gb241, _, none⟩) NB236_241.out _).trans (hHeld.2.1)), ((cell_far (p := ⟨gb241, _, none⟩) NB236_241.out _).trans (hHeld.2.2.1)), ((cell_far (p := ⟨gb241, _, none⟩) NB236_241.out _).trans (hHeld.2.2.2.1)), ((cell_far (p := ⟨gb241, _, none⟩) NB236_241.out _).trans (hHeld.2.2.2.2.1)), ((cell_far (p := ⟨gb241, _, none⟩) NB236_241.out _).trans (hHeld.2.2.2.2.2))⟩ (fun hHeld => ?_)
        clear hK K
        refine pure_ (i := 9) (N := some 44) (v := ?_) (a' := ?_) #[true, true, true, true, true, true, true, true, true, true, false] rfl rfl (any_of HT_.out (by kernel_rfl)) (fun _ _ _ h => h) (Or.inl ⟨by rfl, ?_⟩) ?_ ?_
        rotate_left
        · intro w'
          go_simp
          with_reducible rfl
        rotate_left
        · simp only [Act.put, List.setIfInBounds_toArray, List.set_cons_zero, List.set_cons_succ, i64_w, i32_w]
          rfl
        refine one_ (i := 10) (N := none) #[true, true, true, true, true, true, true, true, true, true, true] rfl rfl (one_of HT_.out (by kernel_rfl)) (by decide) (fun K hK => ?_)
        have hs23 : w21.cell? ⟨gb241, 5, none⟩ = some (.bool a0_5) := (blk_cell BK241.out 5).trans rfl
        have hfs23 := blk_frozen BK241.out 5
        have hns23_0 := NB236_241.out
        have hms23_0 := NB241_236.out
        refine skip_ (w1 := ?_) (by rfl) rfl ?_ ?_
        rotate_left
        · go_simp
          rfl
        refine hK.out _ _ ⟨((cell_far (p := ⟨gb241, _, none⟩) NB236_241.out _).trans (hHeld.1)), ((cell_far (p := ⟨gb241, _, none⟩) NB236_241.out _).trans (hHeld.2.1)), ((cell_far (p := ⟨gb241, _, none⟩) NB236_241.out _).trans (hHeld.2.2.1)), ((cell_far (p := ⟨gb241, _, none⟩) NB236_241.out _).trans (hHeld.2.2.2.1)), ((cell_far (p := ⟨gb241, _, none⟩) NB236_241.out _).trans (hHeld.2.2.2.2.1)), ((cell_far (p := ⟨gb241, _, none⟩) NB236_241.out _).trans (hHeld.2.2.2.2.2))⟩ (fun hHeld => ?_)
        clear hK K
        refine done_ (done_of HT_.out (by kernel_rfl)) ?_
        have hcz24_0 : w21.cell? ⟨gb241, 0, none⟩ = some (.int .i64 a0_0) := (blk_cell BK241.out 0).trans rfl
        have hcz24_1 : w21.cell? ⟨gb241, 1, none⟩ = some (.int .i64 a0_1) := (blk_cell BK241.out 1).trans rfl
        have hcz24_2 : w21.cell? ⟨gb241, 2, none⟩ = some (.int .i64 a0_2) := (blk_cell BK241.out 2).trans rfl
        have hcz24_3 : w21.cell? ⟨gb241, 3, none⟩ = some (.int .i64 a0_3) := (blk_cell BK241.out 3).trans rfl
        have hcz24_4 : w21.cell? ⟨gb241, 4, none⟩ = some (.int .i64 a0_4) := (blk_cell BK241.out 4).trans rfl
        have hcz24_5 : w21.cell? ⟨gb241, 5, none⟩ = some (.bool a0_5) := (blk_cell BK241.out 5).trans rfl
        have hfz24_0 := blk_frozen BK241.out 0
        have hfz24_1 := blk_frozen BK241.out 1
        have hfz24_2 := blk_frozen BK241.out 2
        have hfz24_3 := blk_frozen BK241.out 3
        have hfz24_4 := blk_frozen BK241.out 4
        have hfz24_5 := blk_frozen BK241.out 5
        go_upto_region 8 with (first | ((with_reducible refine gate_callee (f := 28) rfl ?_); refine goesL_ (some 48) rfl rfl Try.func28 (by kernel_rfl) rfl #[.agg #[.int .i64 a0_0, .int .i64 a0_1, .int .i64 a0_2, .int .i64 a0_3, .int .i64 (Int.tmod (wrap64 ((Int.tmod a3 3) + 3)) 3), .bool (!a0_5)], .slice A1 (l1.take ((ji5) : Int).toNat).length c1] rfl (by (try simp only [List.map_toArray, List.map_cons, List.map_nil]); first | done | (rw [show (l1.take ((ji5) : Int).toNat).length = (ji5).toNat from (by rw [List.length_take]; have h_ : ((ji5) : Int) ≤ (l1.length : Int) := of_decide_eq_true (by first | (with_reducible assumption) | assumption); omega)] <;> rfl) | (rw [show (l1.take ((ji5) : Int).toNat).length = (ji5).toNat from (by rw [List.length_take]; have h_ : ((ji5) : Int) ≤ (l1.length : Int) := of_decide_eq_true (by first | (with_reducible assumption) | assumption); omega)]; simp [Act.eval]; done) | (simp only [hji5]; rfl) | rfl | (simp only [List.length_drop, List.length_take]; rfl)) ?_; (with_reducible refine (budget_Of.calls k a0_0 a0_1 a0_2 a0_3 (Int.tmod (wrap64 ((Int.tmod a3 3) + 3)) 3) (!a0_5) _ _ (l1.take ((ji5) : Int).toNat) t242 t243 _ ?side1 ?side2 A10.out).mono ?_); (case side1 => exact Kd.C_below HR237.out (by repeat (first | (with_reducible first | exact HB.out | apply below_alloc | apply pw_below_drewN | apply below_drew1 | refine below_set ?_ GE236.out | refine below_set ?_ GE241.out) | exact HB.out))); (case side2 => exact HC237.out); rintro e w25 ⟨rfl, hb⟩; refine ⟨_, rfl, ?_⟩; have n0_ := Aside0.mk (blk_below (g := gb236) (o := .cells #[.int .i64 a0_0, .int .i64 a0_1, .int .i64 a0_2, .int .i64 a0_3, .int .i64 a0_4, .bool a0_5] 23 (0, 0)) (by (with_reducible repeat (first | refine blk_drewN ?_ _ | refine blk_drew ?_ | refine blk_alloc ?_ _)); refine blk_far ?_ NB236_241.out _; (with_reducible repeat (first | refine blk_drewN ?_ _ | refine blk_drew ?_ | refine blk_alloc ?_ _)); refine blk_far ?_ NB236_241.out _; (with_reducible repeat (first | refine blk_drewN ?_ _ | refine blk_drew ?_ | refine blk_alloc ?_ _)); exact BK236.out) hb); have n1_ := Aside0.mk (blk_below (g := gb241) (o := .cells #[.int .i64 a0_0, .int .i64 a0_1, .int .i64 a0_2, .int .i64 a0_3, .int .i64 (Int.tmod (wrap64 ((Int.tmod a3 3) + 3)) 3), .bool (!a0_5)] 23 (0, 0)) (by (with_reducible repeat (first | refine blk_drewN ?_ _ | refine blk_drew ?_ | refine blk_alloc ?_ _)); refine blk_put (cs := #[.int .i64 a0_0, .int .i64 a0_1, .int .i64 a0_2, .int .i64 a0_3, .int .i64 (Int.tmod (wrap64 ((Int.tmod a3 3) + 3)) 3), .bool a0_5]) ?_ 5 _ rfl; (with_reducible repeat (first | refine blk_drewN ?_ _ | refine blk_drew ?_ | refine blk_alloc ?_ _)); refine blk_put (cs := #[.int .i64 a0_0, .int .i64 a0_1, .int .i64 a0_2, .int .i64 a0_3, .int .i64 a0_4, .bool a0_5]) ?_ 4 _ rfl; (with_reducible repeat (first | refine blk_drewN ?_ _ | refine blk_drew ?_ | refine blk_alloc ?_ _)); exact BK241.out) hb); have n2_ := Aside0.mk (below_step (by repeat (first | (with_reducible first | exact HB.out | apply below_alloc | apply pw_below_drewN | apply below_drew1 | refine below_set ?_ GE236.out | refine below_set ?_ GE241.out) | exact HB.out)) hb); clear BK236; clear BK241; clear HB; have BK236 := n0_; have BK241 := n1_; have HB := n2_; clear n0_ n1_ n2_; (try clear hb); (try clear hb2); (try clear hk); (try clear hi)))
        (try simp only [Act.put, List.setIfInBounds_toArray, List.set_cons_zero, List.set_cons_succ])
        go_cut [79] (fun v79 wc => ∃ (kq : Nat) (x79_10 : Bool), v79 = .bool x79_10 ∧ Aside0 (headroomlaw14_BudgetLeast.j0 kq (l1.take ((ji5) : Int).toNat) a2 t238 x79_10 a0_0 a0_1 a0_2 a0_3 a0_4 a0_5 = some r) ∧ Aside0 (kq ≤ k) ∧ Aside0 (wc.heap[gb236]? = some (.cells #[.int .i64 a0_0, .int .i64 a0_1, .int .i64 a0_2, .int .i64 a0_3, .int .i64 a0_4, .bool a0_5] 23 (0, 0))) ∧ Aside0 (wc.heap[gb241]? = some (.cells #[.int .i64 a0_0, .int .i64 a0_1, .int .i64 a0_2, .int .i64 a0_3, .int .i64 (Int.tmod (wrap64 ((Int.tmod a3 3) + 3)) 3), .bool (!a0_5)] 23 (0, 0))) ∧ Aside0 (Below w.heap.size w wc))
        case first =>
          have H := HC11.out
          clear HC11
          by_cases c26 : t243 = 0
          · rw [if_pos c26] at H
            have c26b0 : (t243 == 0) = true := beq_iff_eq.mpr c26
            have c26b1 : (t243 != 0) = false := bne_eq_false_iff_eq.mpr c26
            clear c26
            (first | rw [c26b0] | (simp only [i64_w, i32_w]; rw [c26b0]) | skip)
            by_cases c27 : t242 = t238
            · rw [if_pos c27] at H
              have c27b0 : (t242 == t238) = true := beq_iff_eq.mpr c27
              have c27b1 : (t242 != t238) = false := bne_eq_false_iff_eq.mpr c27
              clear c27
              by_cases c28 : a0_3 = 0
              · rw [if_pos c28] at H
                have c28b0 : (a0_3 == 0) = true := beq_iff_eq.mpr c28
                have c28b1 : (a0_3 != 0) = false := bne_eq_false_iff_eq.mpr c28
                clear c28
                by_cases c29 : t238 > (wrap64 (64 * (wrap64 ((wrap64 (6 * a0_1)) + 4))))
                · rw [if_pos c29] at H
                  have c29b0 : decide ((wrap64 (64 * (wrap64 ((wrap64 (6 * a0_1)) + 4)))) < t238) = true := decide_eq_true c29
                  clear c29
                  have H' := Aside0.mk H
                  clear H
                  have hnb30 := NB236_241.out
                  have hnc30 := NB241_236.out
                  have hcz31_0 : w25.cell? ⟨gb236, 0, none⟩ = some (.int .i64 a0_0) := (blk_cell BK236.out 0).trans rfl
                  have hcz31_1 : w25.cell? ⟨gb236, 1, none⟩ = some (.int .i64 a0_1) := (blk_cell BK236.out 1).trans rfl
                  have hcz31_2 : w25.cell? ⟨gb236, 2, none⟩ = some (.int .i64 a0_2) := (blk_cell BK236.out 2).trans rfl
                  have hcz31_3 : w25.cell? ⟨gb236, 3, none⟩ = some (.int .i64 a0_3) := (blk_cell BK236.out 3).trans rfl
                  have hcz31_4 : w25.cell? ⟨gb236, 4, none⟩ = some (.int .i64 a0_4) := (blk_cell BK236.out 4).trans rfl
                  have hcz31_5 : w25.cell? ⟨gb236, 5, none⟩ = some (.bool a0_5) := (blk_cell BK236.out 5).trans rfl
                  have hfz31_0 := blk_frozen BK236.out 0
                  have hfz31_1 := blk_frozen BK236.out 1
                  have hfz31_2 := blk_frozen BK236.out 2
                  have hfz31_3 := blk_frozen BK236.out 3
                  have hfz31_4 := blk_frozen BK236.out 4
                  have hfz31_5 := blk_frozen BK236.out 5
                  go_wp2
                  go_meet
                  case rel => exact ⟨_, (true), (by first | rfl | (simp; done) | (simp [*]; done)), H', ⟨by first | omega | exact Nat.le_refl _⟩, ⟨by (with_reducible repeat (first | refine blk_drewN ?_ _ | refine blk_drew ?_ | refine blk_alloc ?_ _)); exact BK236.out⟩, ⟨by (with_reducible repeat (first | refine blk_drewN ?_ _ | refine blk_drew ?_ | refine blk_alloc ?_ _)); exact BK241.out⟩, ⟨by repeat (first | (with_reducible first | exact HB.out | apply below_alloc | apply pw_below_drewN | apply below_drew1 | refine below_set ?_ GE236.out | refine below_set ?_ GE241.out) | exact HB.out)⟩⟩
                · rw [if_neg c29] at H
                  have c29b0 : decide ((wrap64 (64 * (wrap64 ((wrap64 (6 * a0_1)) + 4)))) < t238) = false := decide_eq_false c29
                  clear c29
                  by_cases c32 : t238 < 0
                  · rw [if_pos c32] at H
                    have c32b0 : decide (t238 < 0) = true := decide_eq_true c32
                    clear c32
                    have H' := Aside0.mk H
                    clear H
                    have hnb33 := NB236_241.out
                    have hnc33 := NB241_236.out
                    have hcz34_0 : w25.cell? ⟨gb236, 0, none⟩ = some (.int .i64 a0_0) := (blk_cell BK236.out 0).trans rfl
                    have hcz34_1 : w25.cell? ⟨gb236, 1, none⟩ = some (.int .i64 a0_1) := (blk_cell BK236.out 1).trans rfl
                    have hcz34_2 : w25.cell? ⟨gb236, 2, none⟩ = some (.int .i64 a0_2) := (blk_cell BK236.out 2).trans rfl
                    have hcz34_3 : w25.cell? ⟨gb236, 3, none⟩ = some (.int .i64 a0_3) := (blk_cell BK236.out 3).trans rfl
                    have hcz34_4 : w25.cell? ⟨gb236, 4, none⟩ = some (.int .i64 a0_4) := (blk_cell BK236.out 4).trans rfl
                    have hcz34_5 : w25.cell? ⟨gb236, 5, none⟩ = some (.bool a0_5) := (blk_cell BK236.out 5).trans rfl
                    have hfz34_0 := blk_frozen BK236.out 0
                    have hfz34_1 := blk_frozen BK236.out 1
                    have hfz34_2 := blk_frozen BK236.out 2
                    have hfz34_3 := blk_frozen BK236.out 3
                    have hfz34_4 := blk_frozen BK236.out 4
                    have hfz34_5 := blk_frozen BK236.out 5
                    go_wp2
                    go_meet
                    case rel => exact ⟨_, (true), (by first | rfl | (simp; done) | (simp [*]; done)), H', ⟨by first | omega | exact Nat.le_refl _⟩, ⟨by (with_reducible repeat (first | refine blk_drewN ?_ _ | refine blk_drew ?_ | refine blk_alloc ?_ _)); exact BK236.out⟩, ⟨by (with_reducible repeat (first | refine blk_drewN ?_ _ | refine blk_drew ?_ | refine blk_alloc ?_ _)); exact BK241.out⟩, ⟨by repeat (first | (with_reducible first | exact HB.out | apply below_alloc | apply pw_below_drewN | apply below_drew1 | refine below_set ?_ GE236.out | refine below_set ?_ GE241.out) | exact HB.out)⟩⟩
                  · rw [if_neg c32] at H
                    have c32b0 : decide (t238 < 0) = false := decide_eq_false c32
                    clear c32
                    replace H := Option.bind_eq_some_iff.mp H
                    obtain ⟨t244, A350, H⟩ := H
                    replace H : (headroomlaw14_BudgetLeast.j0 k (l1.take ((ji5) : Int).toNat) a2 t238 (!t244) a0_0 a0_1 a0_2 a0_3 a0_4 a0_5) = some r := H
                    have A35 := Aside0.mk A350
                    clear A350
                    have H' := Aside0.mk H
                    clear H
                    have hnb36 := NB236_241.out
                    have hnc36 := NB241_236.out
                    have hcz37_0 : w25.cell? ⟨gb236, 0, none⟩ = some (.int .i64 a0_0) := (blk_cell BK236.out 0).trans rfl
                    have hcz37_1 : w25.cell? ⟨gb236, 1, none⟩ = some (.int .i64 a0_1) := (blk_cell BK236.out 1).trans rfl
                    have hcz37_2 : w25.cell? ⟨gb236, 2, none⟩ = some (.int .i64 a0_2) := (blk_cell BK236.out 2).trans rfl
                    have hcz37_3 : w25.cell? ⟨gb236, 3, none⟩ = some (.int .i64 a0_3) := (blk_cell BK236.out 3).trans rfl
                    have hcz37_4 : w25.cell? ⟨gb236, 4, none⟩ = some (.int .i64 a0_4) := (blk_cell BK236.out 4).trans rfl
                    have hcz37_5 : w25.cell? ⟨gb236, 5, none⟩ = some (.bool a0_5) := (blk_cell BK236.out 5).trans rfl
                    have hfz37_0 := blk_frozen BK236.out 0
                    have hfz37_1 := blk_frozen BK236.out 1
                    have hfz37_2 := blk_frozen BK236.out 2
                    have hfz37_3 := blk_frozen BK236.out 3
                    have hfz37_4 := blk_frozen BK236.out 4
                    have hfz37_5 := blk_frozen BK236.out 5
                    go_wp2_with (first | (go_at_call 25; (with_reducible refine (headroomlaw14_alive.calls k  t244 _ A35.out).mono ?_); rintro e w38 ⟨rfl, hb⟩; have n0_ := Aside0.mk (blk_below (g := gb236) (o := .cells #[.int .i64 a0_0, .int .i64 a0_1, .int .i64 a0_2, .int .i64 a0_3, .int .i64 a0_4, .bool a0_5] 23 (0, 0)) (by (with_reducible repeat (first | refine blk_drewN ?_ _ | refine blk_drew ?_ | refine blk_alloc ?_ _)); exact BK236.out) hb); have n1_ := Aside0.mk (blk_below (g := gb241) (o := .cells #[.int .i64 a0_0, .int .i64 a0_1, .int .i64 a0_2, .int .i64 a0_3, .int .i64 (Int.tmod (wrap64 ((Int.tmod a3 3) + 3)) 3), .bool (!a0_5)] 23 (0, 0)) (by (with_reducible repeat (first | refine blk_drewN ?_ _ | refine blk_drew ?_ | refine blk_alloc ?_ _)); exact BK241.out) hb); have n2_ := Aside0.mk (below_step (by repeat (first | (with_reducible first | exact HB.out | apply below_alloc | apply pw_below_drewN | apply below_drew1 | refine below_set ?_ GE236.out | refine below_set ?_ GE241.out) | exact HB.out)) hb); clear BK236; clear BK241; clear HB; have BK236 := n0_; have BK241 := n1_; have HB := n2_; clear n0_ n1_ n2_; (try clear hb); (try clear hb2); (try clear hk); (try clear hi)))
                    go_meet
                    case rel => exact ⟨_, (!t244), (by first | rfl | (simp; done) | (simp [*]; done)), H', ⟨by first | omega | exact Nat.le_refl _⟩, ⟨by (with_reducible repeat (first | refine blk_drewN ?_ _ | refine blk_drew ?_ | refine blk_alloc ?_ _)); exact BK236.out⟩, ⟨by (with_reducible repeat (first | refine blk_drewN ?_ _ | refine blk_drew ?_ | refine blk_alloc ?_ _)); exact BK241.out⟩, ⟨by repeat (first | (with_reducible first | exact HB.out | apply below_alloc | apply pw_below_drewN | apply below_drew1 | refine below_set ?_ GE236.out | refine below_set ?_ GE241.out) | exact HB.out)⟩⟩
              · rw [if_neg c28] at H
                have c28b0 : (a0_3 == 0) = false := beq_eq_false_iff_ne.mpr c28
                have c28b1 : (a0_3 != 0) = true := bne_iff_ne.mpr c28
                by_cases c39 : t238 < 0
                · rw [if_pos c39] at H
                  have c39b0 : decide (t238 < 0) = true := decide_eq_true c39
                  clear c39
                  have H' := Aside0.mk H
                  clear H
                  have hnb40 := NB236_241.out
                  have hnc40 := NB241_236.out
                  have hcz41_0 : w25.cell? ⟨gb236, 0, none⟩ = some (.int .i64 a0_0) := (blk_cell BK236.out 0).trans rfl
                  have hcz41_1 : w25.cell? ⟨gb236, 1, none⟩ = some (.int .i64 a0_1) := (blk_cell BK236.out 1).trans rfl
                  have hcz41_2 : w25.cell? ⟨gb236, 2, none⟩ = some (.int .i64 a0_2) := (blk_cell BK236.out 2).trans rfl
                  have hcz41_3 : w25.cell? ⟨gb236, 3, none⟩ = some (.int .i64 a0_3) := (blk_cell BK236.out 3).trans rfl
                  have hcz41_4 : w25.cell? ⟨gb236, 4, none⟩ = some (.int .i64 a0_4) := (blk_cell BK236.out 4).trans rfl
                  have hcz41_5 : w25.cell? ⟨gb236, 5, none⟩ = some (.bool a0_5) := (blk_cell BK236.out 5).trans rfl
                  have hfz41_0 := blk_frozen BK236.out 0
                  have hfz41_1 := blk_frozen BK236.out 1
                  have hfz41_2 := blk_frozen BK236.out 2
                  have hfz41_3 := blk_frozen BK236.out 3
                  have hfz41_4 := blk_frozen BK236.out 4
                  have hfz41_5 := blk_frozen BK236.out 5
                  go_wp2
                  go_meet
                  case rel => exact ⟨_, (true), (by first | rfl | (simp; done) | (simp [*]; done)), H', ⟨by first | omega | exact Nat.le_refl _⟩, ⟨by (with_reducible repeat (first | refine blk_drewN ?_ _ | refine blk_drew ?_ | refine blk_alloc ?_ _)); exact BK236.out⟩, ⟨by (with_reducible repeat (first | refine blk_drewN ?_ _ | refine blk_drew ?_ | refine blk_alloc ?_ _)); exact BK241.out⟩, ⟨by repeat (first | (with_reducible first | exact HB.out | apply below_alloc | apply pw_below_drewN | apply below_drew1 | refine below_set ?_ GE236.out | refine below_set ?_ GE241.out) | exact HB.out)⟩⟩
                · rw [if_neg c39] at H
                  have c39b0 : decide (t238 < 0) = false := decide_eq_false c39
                  clear c39
                  replace H := Option.bind_eq_some_iff.mp H
                  obtain ⟨t245, A420, H⟩ := H
                  replace H : (headroomlaw14_BudgetLeast.j0 k (l1.take ((ji5) : Int).toNat) a2 t238 (!t245) a0_0 a0_1 a0_2 a0_3 a0_4 a0_5) = some r := H
                  have A42 := Aside0.mk A420
                  clear A420
                  have H' := Aside0.mk H
                  clear H
                  have hnb43 := NB236_241.out
                  have hnc43 := NB241_236.out
                  have hcz44_0 : w25.cell? ⟨gb236, 0, none⟩ = some (.int .i64 a0_0) := (blk_cell BK236.out 0).trans rfl
                  have hcz44_1 : w25.cell? ⟨gb236, 1, none⟩ = some (.int .i64 a0_1) := (blk_cell BK236.out 1).trans rfl
                  have hcz44_2 : w25.cell? ⟨gb236, 2, none⟩ = some (.int .i64 a0_2) := (blk_cell BK236.out 2).trans rfl
                  have hcz44_3 : w25.cell? ⟨gb236, 3, none⟩ = some (.int .i64 a0_3) := (blk_cell BK236.out 3).trans rfl
                  have hcz44_4 : w25.cell? ⟨gb236, 4, none⟩ = some (.int .i64 a0_4) := (blk_cell BK236.out 4).trans rfl
                  have hcz44_5 : w25.cell? ⟨gb236, 5, none⟩ = some (.bool a0_5) := (blk_cell BK236.out 5).trans rfl
                  have hfz44_0 := blk_frozen BK236.out 0
                  have hfz44_1 := blk_frozen BK236.out 1
                  have hfz44_2 := blk_frozen BK236.out 2
                  have hfz44_3 := blk_frozen BK236.out 3
                  have hfz44_4 := blk_frozen BK236.out 4
                  have hfz44_5 := blk_frozen BK236.out 5
                  go_wp2_with (first | (go_at_call 25; (with_reducible refine (headroomlaw14_alive.calls k  t245 _ A42.out).mono ?_); rintro e w45 ⟨rfl, hb⟩; have n0_ := Aside0.mk (blk_below (g := gb236) (o := .cells #[.int .i64 a0_0, .int .i64 a0_1, .int .i64 a0_2, .int .i64 a0_3, .int .i64 a0_4, .bool a0_5] 23 (0, 0)) (by (with_reducible repeat (first | refine blk_drewN ?_ _ | refine blk_drew ?_ | refine blk_alloc ?_ _)); exact BK236.out) hb); have n1_ := Aside0.mk (blk_below (g := gb241) (o := .cells #[.int .i64 a0_0, .int .i64 a0_1, .int .i64 a0_2, .int .i64 a0_3, .int .i64 (Int.tmod (wrap64 ((Int.tmod a3 3) + 3)) 3), .bool (!a0_5)] 23 (0, 0)) (by (with_reducible repeat (first | refine blk_drewN ?_ _ | refine blk_drew ?_ | refine blk_alloc ?_ _)); exact BK241.out) hb); have n2_ := Aside0.mk (below_step (by repeat (first | (with_reducible first | exact HB.out | apply below_alloc | apply pw_below_drewN | apply below_drew1 | refine below_set ?_ GE236.out | refine below_set ?_ GE241.out) | exact HB.out)) hb); clear BK236; clear BK241; clear HB; have BK236 := n0_; have BK241 := n1_; have HB := n2_; clear n0_ n1_ n2_; (try clear hb); (try clear hb2); (try clear hk); (try clear hi)))
                  go_meet
                  case rel => exact ⟨_, (!t245), (by first | rfl | (simp; done) | (simp [*]; done)), H', ⟨by first | omega | exact Nat.le_refl _⟩, ⟨by (with_reducible repeat (first | refine blk_drewN ?_ _ | refine blk_drew ?_ | refine blk_alloc ?_ _)); exact BK236.out⟩, ⟨by (with_reducible repeat (first | refine blk_drewN ?_ _ | refine blk_drew ?_ | refine blk_alloc ?_ _)); exact BK241.out⟩, ⟨by repeat (first | (with_reducible first | exact HB.out | apply below_alloc | apply pw_below_drewN | apply below_drew1 | refine below_set ?_ GE236.out | refine below_set ?_ GE241.out) | exact HB.out)⟩⟩
            · rw [if_neg c27] at H
              have c27b0 : (t242 == t238) = false := beq_eq_false_iff_ne.mpr c27
              have c27b1 : (t242 != t238) = true := bne_iff_ne.mpr c27
              have H' := Aside0.mk H
              clear H
              go_wp2
              go_meet
              case rel => exact ⟨_, (true), (by first | rfl | (simp; done) | (simp [*]; done)), H', ⟨by first | omega | exact Nat.le_refl _⟩, ⟨by (with_reducible repeat (first | refine blk_drewN ?_ _ | refine blk_drew ?_ | refine blk_alloc ?_ _)); exact BK236.out⟩, ⟨by (with_reducible repeat (first | refine blk_drewN ?_ _ | refine blk_drew ?_ | refine blk_alloc ?_ _)); exact BK241.out⟩, ⟨by repeat (first | (with_reducible first | exact HB.out | apply below_alloc | apply pw_below_drewN | apply below_drew1 | refine below_set ?_ GE236.out | refine below_set ?_ GE241.out) | exact HB.out)⟩⟩
          · rw [if_neg c26] at H
            have c26b0 : (t243 == 0) = false := beq_eq_false_iff_ne.mpr c26
            have c26b1 : (t243 != 0) = true := bne_iff_ne.mpr c26
            (first | rw [c26b0] | (simp only [i64_w, i32_w]; rw [c26b0]) | skip)
            have H' := Aside0.mk H
            clear H
            go_wp2
            go_meet
            case rel => exact ⟨_, (true), (by first | rfl | (simp; done) | (simp [*]; done)), H', ⟨by first | omega | exact Nat.le_refl _⟩, ⟨by (with_reducible repeat (first | refine blk_drewN ?_ _ | refine blk_drew ?_ | refine blk_alloc ?_ _)); exact BK236.out⟩, ⟨by (with_reducible repeat (first | refine blk_drewN ?_ _ | refine blk_drew ?_ | refine blk_alloc ?_ _)); exact BK241.out⟩, ⟨by repeat (first | (with_reducible first | exact HB.out | apply below_alloc | apply pw_below_drewN | apply below_drew1 | refine below_set ?_ GE236.out | refine below_set ?_ GE241.out) | exact HB.out)⟩⟩
        case rest =>
          clear HC11
          try clear c1
          try clear c2
          try clear p2
          try clear c3
          try clear c4
          try clear c6
          try clear c6b0
          try clear c6b1
          try clear p6
          try clear c7
          try clear c7b0
          try clear c7b1
          try clear c8
          try clear c9
          try clear c9b0
          try clear c9b1
          try clear c18
          try clear c26
          try clear c26b0
          try clear c26b1
          try clear c27
          try clear c27b0
          try clear c27b1
          try clear c28
          try clear c28b0
          try clear c28b1
          try clear c29
          try clear c29b0
          try clear c30
          try clear c32
          try clear c32b0
          try clear c33
          try clear c36
          try clear c39
          try clear c39b0
          try clear c40
          try clear c43
          try clear hcz14_0
          try clear hcz14_1
          try clear hcz14_2
          try clear hcz14_3
          try clear hcz14_4
          try clear hcz14_5
          try clear hcz16_0
          try clear hcz16_1
          try clear hcz16_2
          try clear hcz16_3
          try clear hcz16_4
          try clear hcz16_5
          try clear hcz19_0
          try clear hcz19_1
          try clear hcz19_2
          try clear hcz19_3
          try clear hcz19_4
          try clear hcz19_5
          try clear hcz24_0
          try clear hcz24_1
          try clear hcz24_2
          try clear hcz24_3
          try clear hcz24_4
          try clear hcz24_5
          try clear hcz31_0
          try clear hcz31_1
          try clear hcz31_2
          try clear hcz31_3
          try clear hcz31_4
          try clear hcz31_5
          try clear hcz34_0
          try clear hcz34_1
          try clear hcz34_2
          try clear hcz34_3
          try clear hcz34_4
          try clear hcz34_5
          try clear hcz37_0
          try clear hcz37_1
          try clear hcz37_2
          try clear hcz37_3
          try clear hcz37_4
          try clear hcz37_5
          try clear hcz41_0
          try clear hcz41_1
          try clear hcz41_2
          try clear hcz41_3
          try clear hcz41_4
          try clear hcz41_5
          try clear hcz44_0
          try clear hcz44_1
          try clear hcz44_2
          try clear hcz44_3
          try clear hcz44_4
          try clear hcz44_5
          try clear hfz14_0
          try clear hfz14_1
          try clear hfz14_2
          try clear hfz14_3
          try clear hfz14_4
          try clear hfz14_5
          try clear hfz16_0
          try clear hfz16_1
          try clear hfz16_2
          try clear hfz16_3
          try clear hfz16_4
          try clear hfz16_5
          try clear hfz19_0
          try clear hfz19_1
          try clear hfz19_2
          try clear hfz19_3
          try clear hfz19_4
          try clear hfz19_5
          try clear hfz24_0
          try clear hfz24_1
          try clear hfz24_2
          try clear hfz24_3
          try clear hfz24_4
          try clear hfz24_5
          try clear hfz31_0
          try clear hfz31_1
          try clear hfz31_2
          try clear hfz31_3
          try clear hfz31_4
          try clear hfz31_5
          try clear hfz34_0
          try clear hfz34_1
          try clear hfz34_2
          try clear hfz34_3
          try clear hfz34_4
          try clear hfz34_5
          try clear hfz37_0
          try clear hfz37_1
          try clear hfz37_2
          try clear hfz37_3
          try clear hfz37_4
          try clear hfz37_5
          try clear hfz41_0
          try clear hfz41_1
          try clear hfz41_2
          try clear hfz41_3
          try clear hfz41_4
          try clear hfz41_5
          try clear hfz44_0
          try clear hfz44_1
          try clear hfz44_2
          try clear hfz44_3
          try clear hfz44_4
          try clear hfz44_5
          obtain ⟨kq, x79_10, rfl, HA, HJ10, BK236, BK241, HB⟩ := hcut
          cases kq with
          | zero => exact absurd HA.out (by simp [headroomlaw14_BudgetLeast.j0])
          | succ kj10 =>
            have H := HA.out
            clear HA
            simp only [headroomlaw14_BudgetLeast.j0] at H
            by_cases c46 : x79_10 = true
            · subst c46
              have H1 : (some false) = some r := by rw [if_pos rfl] at H; exact H
              clear H
              have H := H1
              clear H1
              obtain rfl := Option.some.inj H
              go_wp2
              go_ret
              exact ⟨by first | rfl | (simp [errW_none, errW_some] <;> rfl) | (simp only [← hji5]; first | rfl | (simp [errW_none, errW_some] <;> rfl)) | (simp [*, errW_none, errW_some] <;> rfl), by repeat (first | (with_reducible first | exact HB.out | apply below_alloc | apply pw_below_drewN | apply below_drew1 | refine below_set ?_ GE236.out | refine below_set ?_ GE241.out) | exact HB.out)⟩
            · replace c46 := Bool.eq_false_iff.mpr c46
              subst c46
              have H1 : (if ((l1.take ((ji5) : Int).toNat).length : Int) = 0 then (some true) else ((slices_Clone_int_int.f (l1.take ((ji5) : Int).toNat)).bind fun t246 => (if 0 ≤ (Int.tmod (wrap64 ((Int.tmod a2 ((l1.take ((ji5) : Int).toNat).length : Int)) + ((l1.take ((ji5) : Int).toNat).length : Int))) ((l1.take ((ji5) : Int).toNat).length : Int)) then (if (Int.tmod (wrap64 ((Int.tmod a2 ((l1.take ((ji5) : Int).toNat).length : Int)) + ((l1.take ((ji5) : Int).toNat).length : Int))) ((l1.take ((ji5) : Int).toNat).length : Int)) < (t246.length : Int) then ((budget_Of.f kj10 a0_0 a0_1 a0_2 a0_3 a0_4 a0_5 (t246.set ((Int.tmod (wrap64 ((Int.tmod a2 ((l1.take ((ji5) : Int).toNat).length : Int)) + ((l1.take ((ji5) : Int).toNat).length : Int))) ((l1.take ((ji5) : Int).toNat).length : Int)) : Int).toNat (wrap64 ((rd t246 (Int.tmod (wrap64 ((Int.tmod a2 ((l1.take ((ji5) : Int).toNat).length : Int)) + ((l1.take ((ji5) : Int).toNat).length : Int))) ((l1.take ((ji5) : Int).toNat).length : Int))) + 1)))).bind fun bt251 => (if bt251.2 = 0 then (some (decide (bt251.1 ≤ t238))) else (if bt251.1 = 0 then (some true) else (some false)))) else (none)) else (none)))) = some r := by rw [if_neg (show ¬ (false = true) by decide)] at H; exact H
              clear H
              have H := H1
              clear H1
              have hlen_ : (l1.take ((ji5) : Int).toNat).length = ((ji5) : Int).toNat := by rw [List.length_take]; have h_ : ((ji5) : Int) ≤ (l1.length : Int) := of_decide_eq_true (by assumption); omega
              simp only [hlen_, Int.ofNat_toNat] at H
              by_cases c47 : (max ((ji5) : Int) 0) = 0
              · rw [if_pos c47] at H
                have c47b0 : ((max ((ji5) : Int) 0) == 0) = true := beq_iff_eq.mpr c47
                have c47b1 : ((max ((ji5) : Int) 0) != 0) = false := bne_eq_false_iff_eq.mpr c47
                clear c47
                obtain rfl := Option.some.inj H
                go_wp2
                go_ret
                exact ⟨by first | rfl | (simp [errW_none, errW_some] <;> rfl) | (simp only [← hji5]; first | rfl | (simp [errW_none, errW_some] <;> rfl)) | (simp [*, errW_none, errW_some] <;> rfl), by repeat (first | (with_reducible first | exact HB.out | apply below_alloc | apply pw_below_drewN | apply below_drew1 | refine below_set ?_ GE236.out | refine below_set ?_ GE241.out) | exact HB.out)⟩
              · rw [if_neg c47] at H
                have c47b0 : ((max ((ji5) : Int) 0) == 0) = false := beq_eq_false_iff_ne.mpr c47
                have c47b1 : ((max ((ji5) : Int) 0) != 0) = true := bne_iff_ne.mpr c47
                replace H := Option.bind_eq_some_iff.mp H
                obtain ⟨t246, A480, H⟩ := H
                replace H : (if 0 ≤ (Int.tmod (wrap64 ((Int.tmod a2 (max ((ji5) : Int) 0)) + (max ((ji5) : Int) 0))) (max ((ji5) : Int) 0)) then (if (Int.tmod (wrap64 ((Int.tmod a2 (max ((ji5) : Int) 0)) + (max ((ji5) : Int) 0))) (max ((ji5) : Int) 0)) < (t246.length : Int) then ((budget_Of.f kj10 a0_0 a0_1 a0_2 a0_3 a0_4 a0_5 (t246.set ((Int.tmod (wrap64 ((Int.tmod a2 (max ((ji5) : Int) 0)) + (max ((ji5) : Int) 0))) (max ((ji5) : Int) 0)) : Int).toNat (wrap64 ((rd t246 (Int.tmod (wrap64 ((Int.tmod a2 (max ((ji5) : Int) 0)) + (max ((ji5) : Int) 0))) (max ((ji5) : Int) 0))) + 1)))).bind fun bt251 => (if bt251.2 = 0 then (some (decide (bt251.1 ≤ t238))) else (if bt251.1 = 0 then (some true) else (some false)))) else (none)) else (none)) = some r := H
                have A48 := Aside0.mk A480
                clear A480
                obtain ⟨ji49, hji49⟩ : ∃ j_ : Int, (Int.tmod (wrap64 ((Int.tmod a2 (max ((ji5) : Int) 0)) + (max ((ji5) : Int) 0))) (max ((ji5) : Int) 0)) = j_ := ⟨_, rfl⟩
                replace H : (if 0 ≤ (ji49) then (if (ji49) < (t246.length : Int) then ((budget_Of.f kj10 a0_0 a0_1 a0_2 a0_3 a0_4 a0_5 (t246.set ((ji49) : Int).toNat (wrap64 ((rd t246 (ji49)) + 1)))).bind fun bt251 => (if bt251.2 = 0 then (some (decide (bt251.1 ≤ t238))) else (if bt251.1 = 0 then (some true) else (some false)))) else (none)) else (none)) = some r := by first | (rw [hji49] at H; exact H) | (simp only [hji49] at H ⊢; exact H)
                (try rw [hji49] at A48)
                by_cases c50 : 0 ≤ (ji49)
                · rw [if_pos c50] at H
                  have c50b0 : decide (0 ≤ (ji49)) = true := decide_eq_true c50
                  clear c50
                  by_cases c51 : (ji49) < (t246.length : Int)
                  · rw [if_pos c51] at H
                    have c51b0 : decide ((ji49) < (t246.length : Int)) = true := decide_eq_true c51
                    clear c51
                    obtain ⟨y250, hy250⟩ : ∃ y_ : List Int, y_ = (t246.set ((ji49) : Int).toNat (wrap64 ((rd t246 (ji49)) + 1))) := ⟨_, rfl⟩
                    replace H : ((budget_Of.f kj10 a0_0 a0_1 a0_2 a0_3 a0_4 a0_5 y250).bind fun bt251 => (if bt251.2 = 0 then (some (decide (bt251.1 ≤ t238))) else (if bt251.1 = 0 then (some true) else (some false)))) = some r := by first | (rw [hy250]; with_reducible exact H) | (have H2_ := (Option.bind_some _ _).symm.trans H; rw [hy250]; with_reducible exact H2_) | (have H2_ := (Option.bind_some _ _).symm.trans H; with_reducible exact H2_) | with_reducible exact H | (rw [hy250]; exact H) | exact H
                    have Ny250 := Aside0.mk hy250
                    clear hy250
                    replace H := Option.bind_eq_some_iff.mp H
                    obtain ⟨⟨t251, t252⟩, A530, H⟩ := H
                    replace H : (if t252 = 0 then (some (decide (t251 ≤ t238))) else (if t251 = 0 then (some true) else (some false))) = some r := H
                    have A53 := Aside0.mk A530
                    clear A530
                    by_cases c54 : t252 = 0
                    · rw [if_pos c54] at H
                      have c54b0 : (t252 == 0) = true := beq_iff_eq.mpr c54
                      have c54b1 : (t252 != 0) = false := bne_eq_false_iff_eq.mpr c54
                      clear c54
                      obtain rfl := Option.some.inj H
                      go_wp2_with (first | ((with_reducible refine gate_callee (f := 29) rfl ?_); refine goesL_ (some 84) rfl rfl Try.func29 (by kernel_rfl) rfl #[.slice A1 (l1.take ((ji5) : Int).toNat).length c1] rfl (by (try simp only [List.map_toArray, List.map_cons, List.map_nil]); first | done | (rw [show (l1.take ((ji5) : Int).toNat).length = (ji5).toNat from (by rw [List.length_take]; have h_ : ((ji5) : Int) ≤ (l1.length : Int) := of_decide_eq_true (by first | (with_reducible assumption) | assumption); omega)] <;> rfl) | (rw [show (l1.take ((ji5) : Int).toNat).length = (ji5).toNat from (by rw [List.length_take]; have h_ : ((ji5) : Int) ≤ (l1.length : Int) := of_decide_eq_true (by first | (with_reducible assumption) | assumption); omega)]; simp [Act.eval]; done) | (simp only [hji5]; rfl) | rfl | (simp only [List.length_drop, List.length_take]; rfl)) ?_; (with_reducible refine (slices_Clone_int_int.calls _ _ (l1.take ((ji5) : Int).toNat) t246 _ ?side1 ?side2 A48.out).mono ?_); (case side1 => repeat (first | exact (Kd.C_below HR237.out HB.out) | (with_reducible refine Kd.C_alloc ?_ _) | (with_reducible refine Kd.C_drewN ?_ _) | (with_reducible refine Kd.C_drew ?_))); (case side2 => exact HC237.out); rintro e w55 ⟨v247, rfl, ho0, hb⟩; refine ⟨_, rfl, ?_⟩; have n0_ := Aside0.mk (Kd.R_lower ho0 (below_size (by repeat (first | (with_reducible first | exact HB.out | apply below_alloc | apply pw_below_drewN | apply below_drew1 | refine below_set ?_ GE236.out | refine below_set ?_ GE241.out) | exact HB.out)))); have n1_ := Aside0.mk (blk_below (g := gb236) (o := .cells #[.int .i64 a0_0, .int .i64 a0_1, .int .i64 a0_2, .int .i64 a0_3, .int .i64 a0_4, .bool a0_5] 23 (0, 0)) (by (with_reducible repeat (first | refine blk_drewN ?_ _ | refine blk_drew ?_ | refine blk_alloc ?_ _)); exact BK236.out) hb); have n2_ := Aside0.mk (blk_below (g := gb241) (o := .cells #[.int .i64 a0_0, .int .i64 a0_1, .int .i64 a0_2, .int .i64 a0_3, .int .i64 (Int.tmod (wrap64 ((Int.tmod a3 3) + 3)) 3), .bool (!a0_5)] 23 (0, 0)) (by (with_reducible repeat (first | refine blk_drewN ?_ _ | refine blk_drew ?_ | refine blk_alloc ?_ _)); exact BK241.out) hb); have n3_ := Aside0.mk (below_step (by repeat (first | (with_reducible first | exact HB.out | apply below_alloc | apply pw_below_drewN | apply below_drew1 | refine below_set ?_ GE236.out | refine below_set ?_ GE241.out) | exact HB.out)) hb); clear BK236; clear BK241; clear HB; have HO248 := n0_; have BK236 := n1_; have BK241 := n2_; have HB := n3_; clear n0_ n1_ n2_ n3_; (try clear hb); (try clear hb2); (try clear hk); (try clear hi); (try clear ho0); obtain ⟨Ao56, co56, eo56⟩ := Kd.R_slice HO248.out; subst eo56; have p249 : 0 ≤ ((ji49) : Int) := of_decide_eq_true (by first | (with_reducible assumption) | assumption); have q249 : (ji49) < (t246.length : Int) := of_decide_eq_true (by first | (with_reducible assumption) | assumption); obtain ⟨ad249, e249, hx249_0⟩ := Kd.at_int (Kd.R_reads' HO248.out).2.2 (ji49) p249 q249; cases e249; replace p249 := eq_true p249; replace q249 := eq_true q249; have p52 : 0 ≤ ((ji49) : Int) := of_decide_eq_true (by first | (with_reducible assumption) | assumption); have q52 : ((ji49) : Int) < ((t246.length : Int) : Int) := of_decide_eq_true (by first | (with_reducible assumption) | assumption); obtain ⟨go52, co52, eo52, gb52, gl52, cl52, HG52⟩ := Kd.R_form HO248.out (by omega); (first | cases eo52 | (injection eo52 with ea_ en_ ec_; (first | subst ea_ | (injection ea_ with ea_; subst ea_)); subst ec_; clear en_)); have GB52 := Aside0.mk gb52; have GG52 := Aside0.mk HG52; clear gb52 gl52 HG52; (first | simp only [add_plain] at hx249_0 | skip); obtain ⟨hx52_0, hf52_0⟩ := Kd.R_celln 0 HO248.out ((ji49) : Int) p52 q52; replace p52 := eq_true p52; replace q52 := eq_true q52; obtain ⟨hy57_, hz57_⟩ := Kd.R_celln 0 HO248.out ((ji49) : Int) (of_decide_eq_true (by first | (with_reducible assumption) | assumption)) (of_decide_eq_true (by first | (with_reducible assumption) | assumption)); have HP57 := Kd.R_putg HO248.out ((ji49) : Int) (wrap64 ((rd t246 (ji49)) + 1))) | ((with_reducible refine gate_store (t := 3) (p := 99) rfl ?_); refine store_event (t := 3) (p := 99) (v := ?vo_w58) (w1 := (w55.setCell ⟨go52, ((ji49) : Int).toNat, none⟩ (.int .i64 (wrap64 ((rd t246 (ji49)) + 1))))) ?hg ?ho ?hn ?hr ?_; (case ho => rfl); (case hg => rfl); (case hn => rfl); (case hr => first | (go_simp; done) | (go_simp; rfl)); intro w58 hw; have hg : w55.grownBy w58 (some go52) := (by rw [hw]; exact HP57.2); have hp_ : Kd.R (Kd.int .i64) 3 w58 w.heap.size (fun _ => True) (.slice (some ⟨go52, 0, none⟩) t246.length co56) y250 := (by rw [hw, Ny250.out]; exact HP57.1); clear HP57; have n0_ := Aside0.mk (blk_grown (g := gb236) (o := .cells #[.int .i64 a0_0, .int .i64 a0_1, .int .i64 a0_2, .int .i64 a0_3, .int .i64 a0_4, .bool a0_5] 23 (0, 0)) (by (with_reducible repeat (first | refine blk_drewN ?_ _ | refine blk_drew ?_ | refine blk_alloc ?_ _)); exact BK236.out) hg (Kd.R_ne HO248.out BK236.out (by decide))); have n1_ := Aside0.mk (blk_grown (g := gb241) (o := .cells #[.int .i64 a0_0, .int .i64 a0_1, .int .i64 a0_2, .int .i64 a0_3, .int .i64 (Int.tmod (wrap64 ((Int.tmod a3 3) + 3)) 3), .bool (!a0_5)] 23 (0, 0)) (by (with_reducible repeat (first | refine blk_drewN ?_ _ | refine blk_drew ?_ | refine blk_alloc ?_ _)); exact BK241.out) hg (Kd.R_ne HO248.out BK241.out (by decide))); have n2_ := Aside0.mk (hp_); have n3_ := Aside0.mk ((by rw [hw]; exact below_set (HB.out) GB52.out : Below w.heap.size w w58)); clear BK236; clear BK241; clear HO248; clear HB; have BK236 := n0_; have BK241 := n1_; have HO248 := n2_; have HB := n3_; clear n0_ n1_ n2_ n3_; clear hg hw hp_; have hnb59 := NB236_241.out; have hnc59 := NB241_236.out; have hcz60_0 : w58.cell? ⟨gb236, 0, none⟩ = some (.int .i64 a0_0) := (blk_cell BK236.out 0).trans rfl; have hcz60_1 : w58.cell? ⟨gb236, 1, none⟩ = some (.int .i64 a0_1) := (blk_cell BK236.out 1).trans rfl; have hcz60_2 : w58.cell? ⟨gb236, 2, none⟩ = some (.int .i64 a0_2) := (blk_cell BK236.out 2).trans rfl; have hcz60_3 : w58.cell? ⟨gb236, 3, none⟩ = some (.int .i64 a0_3) := (blk_cell BK236.out 3).trans rfl; have hcz60_4 : w58.cell? ⟨gb236, 4, none⟩ = some (.int .i64 a0_4) := (blk_cell BK236.out 4).trans rfl; have hcz60_5 : w58.cell? ⟨gb236, 5, none⟩ = some (.bool a0_5) := (blk_cell BK236.out 5).trans rfl; have hfz60_0 := blk_frozen BK236.out 0; have hfz60_1 := blk_frozen BK236.out 1; have hfz60_2 := blk_frozen BK236.out 2; have hfz60_3 := blk_frozen BK236.out 3; have hfz60_4 := blk_frozen BK236.out 4; have hfz60_5 := blk_frozen BK236.out 5) | ((with_reducible refine gate_callee (f := 28) rfl ?_); refine goesL_ (some 103) rfl rfl Try.func28 (by kernel_rfl) rfl #[.agg #[.int .i64 a0_0, .int .i64 a0_1, .int .i64 a0_2, .int .i64 a0_3, .int .i64 a0_4, .bool a0_5], .slice (some ⟨go52, 0, none⟩) y250.length co56] rfl (by (try simp only [List.map_toArray, List.map_cons, List.map_nil]); first | done | (rw [show y250.length = t246.length from (Kd.R_reads' HO248.out).1.symm] <;> rfl) | rfl | (simp only [List.length_drop, List.length_take]; rfl)) ?_; (with_reducible refine (budget_Of.calls kj10 a0_0 a0_1 a0_2 a0_3 a0_4 a0_5 _ _ y250 t251 t252 _ ?side1 ?side2 A53.out).mono ?_); (case side1 => repeat (first | exact (Kd.R_reads' HO248.out).2.2 | (with_reducible refine Kd.C_alloc ?_ _) | (with_reducible refine Kd.C_drewN ?_ _) | (with_reducible refine Kd.C_drew ?_))); (case side2 => rw [show y250.length = t246.length from (Kd.R_reads' HO248.out).1.symm]; exact (Kd.R_reads' HO248.out).2.1); rintro e w61 ⟨rfl, hb⟩; refine ⟨_, rfl, ?_⟩; have n0_ := Aside0.mk (Kd.R_below (by (with_reducible repeat (first | apply Kd.R_alloc | apply Kd.R_drewN | apply Kd.R_drew)); exact HO248.out) hb); have n1_ := Aside0.mk (blk_below (g := gb236) (o := .cells #[.int .i64 a0_0, .int .i64 a0_1, .int .i64 a0_2, .int .i64 a0_3, .int .i64 a0_4, .bool a0_5] 23 (0, 0)) (by (with_reducible repeat (first | refine blk_drewN ?_ _ | refine blk_drew ?_ | refine blk_alloc ?_ _)); exact BK236.out) hb); have n2_ := Aside0.mk (blk_below (g := gb241) (o := .cells #[.int .i64 a0_0, .int .i64 a0_1, .int .i64 a0_2, .int .i64 a0_3, .int .i64 (Int.tmod (wrap64 ((Int.tmod a3 3) + 3)) 3), .bool (!a0_5)] 23 (0, 0)) (by (with_reducible repeat (first | refine blk_drewN ?_ _ | refine blk_drew ?_ | refine blk_alloc ?_ _)); exact BK241.out) hb); have n3_ := Aside0.mk (below_step (by repeat (first | (with_reducible first | exact HB.out | apply below_alloc | apply pw_below_drewN | apply below_drew1 | refine below_set ?_ GE236.out | refine below_set ?_ GE241.out) | exact HB.out)) hb); clear HO248; clear BK236; clear BK241; clear HB; have HO248 := n0_; have BK236 := n1_; have BK241 := n2_; have HB := n3_; clear n0_ n1_ n2_ n3_; (try clear hb); (try clear hb2); (try clear hk); (try clear hi)))
                      go_ret
                      exact ⟨by first | rfl | (simp [errW_none, errW_some] <;> rfl) | (simp only [← hji5, ← hji49]; first | rfl | (simp [errW_none, errW_some] <;> rfl)) | (simp [*, errW_none, errW_some] <;> rfl), by repeat (first | (with_reducible first | exact HB.out | apply below_alloc | apply pw_below_drewN | apply below_drew1 | refine below_set ?_ GE236.out | refine below_set ?_ GE241.out) | exact HB.out)⟩
                    · rw [if_neg c54] at H
                      have c54b0 : (t252 == 0) = false := beq_eq_false_iff_ne.mpr c54
                      have c54b1 : (t252 != 0) = true := bne_iff_ne.mpr c54
                      by_cases c62 : t251 = 0
                      · rw [if_pos c62] at H
                        have c62b0 : (t251 == 0) = true := beq_iff_eq.mpr c62
                        have c62b1 : (t251 != 0) = false := bne_eq_false_iff_eq.mpr c62
                        clear c62
                        obtain rfl := Option.some.inj H
                        go_wp2_with (first | ((with_reducible refine gate_callee (f := 29) rfl ?_); refine goesL_ (some 84) rfl rfl Try.func29 (by kernel_rfl) rfl #[.slice A1 (l1.take ((ji5) : Int).toNat).length c1] rfl (by (try simp only [List.map_toArray, List.map_cons, List.map_nil]); first | done | (rw [show (l1.take ((ji5) : Int).toNat).length = (ji5).toNat from (by rw [List.length_take]; have h_ : ((ji5) : Int) ≤ (l1.length : Int) := of_decide_eq_true (by first | (with_reducible assumption) | assumption); omega)] <;> rfl) | (rw [show (l1.take ((ji5) : Int).toNat).length = (ji5).toNat from (by rw [List.length_take]; have h_ : ((ji5) : Int) ≤ (l1.length : Int) := of_decide_eq_true (by first | (with_reducible assumption) | assumption); omega)]; simp [Act.eval]; done) | (simp only [hji5]; rfl) | rfl | (simp only [List.length_drop, List.length_take]; rfl)) ?_; (with_reducible refine (slices_Clone_int_int.calls _ _ (l1.take ((ji5) : Int).toNat) t246 _ ?side1 ?side2 A48.out).mono ?_); (case side1 => repeat (first | exact (Kd.C_below HR237.out HB.out) | (with_reducible refine Kd.C_alloc ?_ _) | (with_reducible refine Kd.C_drewN ?_ _) | (with_reducible refine Kd.C_drew ?_))); (case side2 => exact HC237.out); rintro e w63 ⟨v247, rfl, ho0, hb⟩; refine ⟨_, rfl, ?_⟩; have n0_ := Aside0.mk (Kd.R_lower ho0 (below_size (by repeat (first | (with_reducible first | exact HB.out | apply below_alloc | apply pw_below_drewN | apply below_drew1 | refine below_set ?_ GE236.out | refine below_set ?_ GE241.out) | exact HB.out)))); have n1_ := Aside0.mk (blk_below (g := gb236) (o := .cells #[.int .i64 a0_0, .int .i64 a0_1, .int .i64 a0_2, .int .i64 a0_3, .int .i64 a0_4, .bool a0_5] 23 (0, 0)) (by (with_reducible repeat (first | refine blk_drewN ?_ _ | refine blk_drew ?_ | refine blk_alloc ?_ _)); exact BK236.out) hb); have n2_ := Aside0.mk (blk_below (g := gb241) (o := .cells #[.int .i64 a0_0, .int .i64 a0_1, .int .i64 a0_2, .int .i64 a0_3, .int .i64 (Int.tmod (wrap64 ((Int.tmod a3 3) + 3)) 3), .bool (!a0_5)] 23 (0, 0)) (by (with_reducible repeat (first | refine blk_drewN ?_ _ | refine blk_drew ?_ | refine blk_alloc ?_ _)); exact BK241.out) hb); have n3_ := Aside0.mk (below_step (by repeat (first | (with_reducible first | exact HB.out | apply below_alloc | apply pw_below_drewN | apply below_drew1 | refine below_set ?_ GE236.out | refine below_set ?_ GE241.out) | exact HB.out)) hb); clear BK236; clear BK241; clear HB; have HO248 := n0_; have BK236 := n1_; have BK241 := n2_; have HB := n3_; clear n0_ n1_ n2_ n3_; (try clear hb); (try clear hb2); (try clear hk); (try clear hi); (try clear ho0); obtain ⟨Ao64, co64, eo64⟩ := Kd.R_slice HO248.out; subst eo64; have p249 : 0 ≤ ((ji49) : Int) := of_decide_eq_true (by first | (with_reducible assumption) | assumption); have q249 : (ji49) < (t246.length : Int) := of_decide_eq_true (by first | (with_reducible assumption) | assumption); obtain ⟨ad249, e249, hx249_0⟩ := Kd.at_int (Kd.R_reads' HO248.out).2.2 (ji49) p249 q249; cases e249; replace p249 := eq_true p249; replace q249 := eq_true q249; have p52 : 0 ≤ ((ji49) : Int) := of_decide_eq_true (by first | (with_reducible assumption) | assumption); have q52 : ((ji49) : Int) < ((t246.length : Int) : Int) := of_decide_eq_true (by first | (with_reducible assumption) | assumption); obtain ⟨go52, co52, eo52, gb52, gl52, cl52, HG52⟩ := Kd.R_form HO248.out (by omega); (first | cases eo52 | (injection eo52 with ea_ en_ ec_; (first | subst ea_ | (injection ea_ with ea_; subst ea_)); subst ec_; clear en_)); have GB52 := Aside0.mk gb52; have GG52 := Aside0.mk HG52; clear gb52 gl52 HG52; (first | simp only [add_plain] at hx249_0 | skip); obtain ⟨hx52_0, hf52_0⟩ := Kd.R_celln 0 HO248.out ((ji49) : Int) p52 q52; replace p52 := eq_true p52; replace q52 := eq_true q52; obtain ⟨hy65_, hz65_⟩ := Kd.R_celln 0 HO248.out ((ji49) : Int) (of_decide_eq_true (by first | (with_reducible assumption) | assumption)) (of_decide_eq_true (by first | (with_reducible assumption) | assumption)); have HP65 := Kd.R_putg HO248.out ((ji49) : Int) (wrap64 ((rd t246 (ji49)) + 1))) | ((with_reducible refine gate_store (t := 3) (p := 99) rfl ?_); refine store_event (t := 3) (p := 99) (v := ?vo_w66) (w1 := (w63.setCell ⟨go52, ((ji49) : Int).toNat, none⟩ (.int .i64 (wrap64 ((rd t246 (ji49)) + 1))))) ?hg ?ho ?hn ?hr ?_; (case ho => rfl); (case hg => rfl); (case hn => rfl); (case hr => first | (go_simp; done) | (go_simp; rfl)); intro w66 hw; have hg : w63.grownBy w66 (some go52) := (by rw [hw]; exact HP65.2); have hp_ : Kd.R (Kd.int .i64) 3 w66 w.heap.size (fun _ => True) (.slice (some ⟨go52, 0, none⟩) t246.length co64) y250 := (by rw [hw, Ny250.out]; exact HP65.1); clear HP65; have n0_ := Aside0.mk (blk_grown (g := gb236) (o := .cells #[.int .i64 a0_0, .int .i64 a0_1, .int .i64 a0_2, .int .i64 a0_3, .int .i64 a0_4, .bool a0_5] 23 (0, 0)) (by (with_reducible repeat (first | refine blk_drewN ?_ _ | refine blk_drew ?_ | refine blk_alloc ?_ _)); exact BK236.out) hg (Kd.R_ne HO248.out BK236.out (by decide))); have n1_ := Aside0.mk (blk_grown (g := gb241) (o := .cells #[.int .i64 a0_0, .int .i64 a0_1, .int .i64 a0_2, .int .i64 a0_3, .int .i64 (Int.tmod (wrap64 ((Int.tmod a3 3) + 3)) 3), .bool (!a0_5)] 23 (0, 0)) (by (with_reducible repeat (first | refine blk_drewN ?_ _ | refine blk_drew ?_ | refine blk_alloc ?_ _)); exact BK241.out) hg (Kd.R_ne HO248.out BK241.out (by decide))); have n2_ := Aside0.mk (hp_); have n3_ := Aside0.mk ((by rw [hw]; exact below_set (HB.out) GB52.out : Below w.heap.size w w66)); clear BK236; clear BK241; clear HO248; clear HB; have BK236 := n0_; have BK241 := n1_; have HO248 := n2_; have HB := n3_; clear n0_ n1_ n2_ n3_; clear hg hw hp_; have hnb67 := NB236_241.out; have hnc67 := NB241_236.out; have hcz68_0 : w66.cell? ⟨gb236, 0, none⟩ = some (.int .i64 a0_0) := (blk_cell BK236.out 0).trans rfl; have hcz68_1 : w66.cell? ⟨gb236, 1, none⟩ = some (.int .i64 a0_1) := (blk_cell BK236.out 1).trans rfl; have hcz68_2 : w66.cell? ⟨gb236, 2, none⟩ = some (.int .i64 a0_2) := (blk_cell BK236.out 2).trans rfl; have hcz68_3 : w66.cell? ⟨gb236, 3, none⟩ = some (.int .i64 a0_3) := (blk_cell BK236.out 3).trans rfl; have hcz68_4 : w66.cell? ⟨gb236, 4, none⟩ = some (.int .i64 a0_4) := (blk_cell BK236.out 4).trans rfl; have hcz68_5 : w66.cell? ⟨gb236, 5, none⟩ = some (.bool a0_5) := (blk_cell BK236.out 5).trans rfl; have hfz68_0 := blk_frozen BK236.out 0; have hfz68_1 := blk_frozen BK236.out 1; have hfz68_2 := blk_frozen BK236.out 2; have hfz68_3 := blk_frozen BK236.out 3; have hfz68_4 := blk_frozen BK236.out 4; have hfz68_5 := blk_frozen BK236.out 5) | ((with_reducible refine gate_callee (f := 28) rfl ?_); refine goesL_ (some 103) rfl rfl Try.func28 (by kernel_rfl) rfl #[.agg #[.int .i64 a0_0, .int .i64 a0_1, .int .i64 a0_2, .int .i64 a0_3, .int .i64 a0_4, .bool a0_5], .slice (some ⟨go52, 0, none⟩) y250.length co64] rfl (by (try simp only [List.map_toArray, List.map_cons, List.map_nil]); first | done | (rw [show y250.length = t246.length from (Kd.R_reads' HO248.out).1.symm] <;> rfl) | rfl | (simp only [List.length_drop, List.length_take]; rfl)) ?_; (with_reducible refine (budget_Of.calls kj10 a0_0 a0_1 a0_2 a0_3 a0_4 a0_5 _ _ y250 t251 t252 _ ?side1 ?side2 A53.out).mono ?_); (case side1 => repeat (first | exact (Kd.R_reads' HO248.out).2.2 | (with_reducible refine Kd.C_alloc ?_ _) | (with_reducible refine Kd.C_drewN ?_ _) | (with_reducible refine Kd.C_drew ?_))); (case side2 => rw [show y250.length = t246.length from (Kd.R_reads' HO248.out).1.symm]; exact (Kd.R_reads' HO248.out).2.1); rintro e w69 ⟨rfl, hb⟩; refine ⟨_, rfl, ?_⟩; have n0_ := Aside0.mk (Kd.R_below (by (with_reducible repeat (first | apply Kd.R_alloc | apply Kd.R_drewN | apply Kd.R_drew)); exact HO248.out) hb); have n1_ := Aside0.mk (blk_below (g := gb236) (o := .cells #[.int .i64 a0_0, .int .i64 a0_1, .int .i64 a0_2, .int .i64 a0_3, .int .i64 a0_4, .bool a0_5] 23 (0, 0)) (by (with_reducible repeat (first | refine blk_drewN ?_ _ | refine blk_drew ?_ | refine blk_alloc ?_ _)); exact BK236.out) hb); have n2_ := Aside0.mk (blk_below (g := gb241) (o := .cells #[.int .i64 a0_0, .int .i64 a0_1, .int .i64 a0_2, .int .i64 a0_3, .int .i64 (Int.tmod (wrap64 ((Int.tmod a3 3) + 3)) 3), .bool (!a0_5)] 23 (0, 0)) (by (with_reducible repeat (first | refine blk_drewN ?_ _ | refine blk_drew ?_ | refine blk_alloc ?_ _)); exact BK241.out) hb); have n3_ := Aside0.mk (below_step (by repeat (first | (with_reducible first | exact HB.out | apply below_alloc | apply pw_below_drewN | apply below_drew1 | refine below_set ?_ GE236.out | refine below_set ?_ GE241.out) | exact HB.out)) hb); clear HO248; clear BK236; clear BK241; clear HB; have HO248 := n0_; have BK236 := n1_; have BK241 := n2_; have HB := n3_; clear n0_ n1_ n2_ n3_; (try clear hb); (try clear hb2); (try clear hk); (try clear hi)))
                        go_ret
                        exact ⟨by first | rfl | (simp [errW_none, errW_some] <;> rfl) | (simp only [← hji5, ← hji49]; first | rfl | (simp [errW_none, errW_some] <;> rfl)) | (simp [*, errW_none, errW_some] <;> rfl), by repeat (first | (with_reducible first | exact HB.out | apply below_alloc | apply pw_below_drewN | apply below_drew1 | refine below_set ?_ GE236.out | refine below_set ?_ GE241.out) | exact HB.out)⟩
                      · rw [if_neg c62] at H
                        have c62b0 : (t251 == 0) = false := beq_eq_false_iff_ne.mpr c62
                        have c62b1 : (t251 != 0) = true := bne_iff_ne.mpr c62
                        obtain rfl := Option.some.inj H
                        go_wp2_with (first | ((with_reducible refine gate_callee (f := 29) rfl ?_); refine goesL_ (some 84) rfl rfl Try.func29 (by kernel_rfl) rfl #[.slice A1 (l1.take ((ji5) : Int).toNat).length c1] rfl (by (try simp only [List.map_toArray, List.map_cons, List.map_nil]); first | done | (rw [show (l1.take ((ji5) : Int).toNat).length = (ji5).toNat from (by rw [List.length_take]; have h_ : ((ji5) : Int) ≤ (l1.length : Int) := of_decide_eq_true (by first | (with_reducible assumption) | assumption); omega)] <;> rfl) | (rw [show (l1.take ((ji5) : Int).toNat).length = (ji5).toNat from (by rw [List.length_take]; have h_ : ((ji5) : Int) ≤ (l1.length : Int) := of_decide_eq_true (by first | (with_reducible assumption) | assumption); omega)]; simp [Act.eval]; done) | (simp only [hji5]; rfl) | rfl | (simp only [List.length_drop, List.length_take]; rfl)) ?_; (with_reducible refine (slices_Clone_int_int.calls _ _ (l1.take ((ji5) : Int).toNat) t246 _ ?side1 ?side2 A48.out).mono ?_); (case side1 => repeat (first | exact (Kd.C_below HR237.out HB.out) | (with_reducible refine Kd.C_alloc ?_ _) | (with_reducible refine Kd.C_drewN ?_ _) | (with_reducible refine Kd.C_drew ?_))); (case side2 => exact HC237.out); rintro e w70 ⟨v247, rfl, ho0, hb⟩; refine ⟨_, rfl, ?_⟩; have n0_ := Aside0.mk (Kd.R_lower ho0 (below_size (by repeat (first | (with_reducible first | exact HB.out | apply below_alloc | apply pw_below_drewN | apply below_drew1 | refine below_set ?_ GE236.out | refine below_set ?_ GE241.out) | exact HB.out)))); have n1_ := Aside0.mk (blk_below (g := gb236) (o := .cells #[.int .i64 a0_0, .int .i64 a0_1, .int .i64 a0_2, .int .i64 a0_3, .int .i64 a0_4, .bool a0_5] 23 (0, 0)) (by (with_reducible repeat (first | refine blk_drewN ?_ _ | refine blk_drew ?_ | refine blk_alloc ?_ _)); exact BK236.out) hb); have n2_ := Aside0.mk (blk_below (g := gb241) (o := .cells #[.int .i64 a0_0, .int .i64 a0_1, .int .i64 a0_2, .int .i64 a0_3, .int .i64 (Int.tmod (wrap64 ((Int.tmod a3 3) + 3)) 3), .bool (!a0_5)] 23 (0, 0)) (by (with_reducible repeat (first | refine blk_drewN ?_ _ | refine blk_drew ?_ | refine blk_alloc ?_ _)); exact BK241.out) hb); have n3_ := Aside0.mk (below_step (by repeat (first | (with_reducible first | exact HB.out | apply below_alloc | apply pw_below_drewN | apply below_drew1 | refine below_set ?_ GE236.out | refine below_set ?_ GE241.out) | exact HB.out)) hb); clear BK236; clear BK241; clear HB; have HO248 := n0_; have BK236 := n1_; have BK241 := n2_; have HB := n3_; clear n0_ n1_ n2_ n3_; (try clear hb); (try clear hb2); (try clear hk); (try clear hi); (try clear ho0); obtain ⟨Ao71, co71, eo71⟩ := Kd.R_slice HO248.out; subst eo71; have p249 : 0 ≤ ((ji49) : Int) := of_decide_eq_true (by first | (with_reducible assumption) | assumption); have q249 : (ji49) < (t246.length : Int) := of_decide_eq_true (by first | (with_reducible assumption) | assumption); obtain ⟨ad249, e249, hx249_0⟩ := Kd.at_int (Kd.R_reads' HO248.out).2.2 (ji49) p249 q249; cases e249; replace p249 := eq_true p249; replace q249 := eq_true q249; have p52 : 0 ≤ ((ji49) : Int) := of_decide_eq_true (by first | (with_reducible assumption) | assumption); have q52 : ((ji49) : Int) < ((t246.length : Int) : Int) := of_decide_eq_true (by first | (with_reducible assumption) | assumption); obtain ⟨go52, co52, eo52, gb52, gl52, cl52, HG52⟩ := Kd.R_form HO248.out (by omega); (first | cases eo52 | (injection eo52 with ea_ en_ ec_; (first | subst ea_ | (injection ea_ with ea_; subst ea_)); subst ec_; clear en_)); have GB52 := Aside0.mk gb52; have GG52 := Aside0.mk HG52; clear gb52 gl52 HG52; (first | simp only [add_plain] at hx249_0 | skip); obtain ⟨hx52_0, hf52_0⟩ := Kd.R_celln 0 HO248.out ((ji49) : Int) p52 q52; replace p52 := eq_true p52; replace q52 := eq_true q52; obtain ⟨hy72_, hz72_⟩ := Kd.R_celln 0 HO248.out ((ji49) : Int) (of_decide_eq_true (by first | (with_reducible assumption) | assumption)) (of_decide_eq_true (by first | (with_reducible assumption) | assumption)); have HP72 := Kd.R_putg HO248.out ((ji49) : Int) (wrap64 ((rd t246 (ji49)) + 1))) | ((with_reducible refine gate_store (t := 3) (p := 99) rfl ?_); refine store_event (t := 3) (p := 99) (v := ?vo_w73) (w1 := (w70.setCell ⟨go52, ((ji49) : Int).toNat, none⟩ (.int .i64 (wrap64 ((rd t246 (ji49)) + 1))))) ?hg ?ho ?hn ?hr ?_; (case ho => rfl); (case hg => rfl); (case hn => rfl); (case hr => first | (go_simp; done) | (go_simp; rfl)); intro w73 hw; have hg : w70.grownBy w73 (some go52) := (by rw [hw]; exact HP72.2); have hp_ : Kd.R (Kd.int .i64) 3 w73 w.heap.size (fun _ => True) (.slice (some ⟨go52, 0, none⟩) t246.length co71) y250 := (by rw [hw, Ny250.out]; exact HP72.1); clear HP72; have n0_ := Aside0.mk (blk_grown (g := gb236) (o := .cells #[.int .i64 a0_0, .int .i64 a0_1, .int .i64 a0_2, .int .i64 a0_3, .int .i64 a0_4, .bool a0_5] 23 (0, 0)) (by (with_reducible repeat (first | refine blk_drewN ?_ _ | refine blk_drew ?_ | refine blk_alloc ?_ _)); exact BK236.out) hg (Kd.R_ne HO248.out BK236.out (by decide))); have n1_ := Aside0.mk (blk_grown (g := gb241) (o := .cells #[.int .i64 a0_0, .int .i64 a0_1, .int .i64 a0_2, .int .i64 a0_3, .int .i64 (Int.tmod (wrap64 ((Int.tmod a3 3) + 3)) 3), .bool (!a0_5)] 23 (0, 0)) (by (with_reducible repeat (first | refine blk_drewN ?_ _ | refine blk_drew ?_ | refine blk_alloc ?_ _)); exact BK241.out) hg (Kd.R_ne HO248.out BK241.out (by decide))); have n2_ := Aside0.mk (hp_); have n3_ := Aside0.mk ((by rw [hw]; exact below_set (HB.out) GB52.out : Below w.heap.size w w73)); clear BK236; clear BK241; clear HO248; clear HB; have BK236 := n0_; have BK241 := n1_; have HO248 := n2_; have HB := n3_; clear n0_ n1_ n2_ n3_; clear hg hw hp_; have hnb74 := NB236_241.out; have hnc74 := NB241_236.out; have hcz75_0 : w73.cell? ⟨gb236, 0, none⟩ = some (.int .i64 a0_0) := (blk_cell BK236.out 0).trans rfl; have hcz75_1 : w73.cell? ⟨gb236, 1, none⟩ = some (.int .i64 a0_1) := (blk_cell BK236.out 1).trans rfl; have hcz75_2 : w73.cell? ⟨gb236, 2, none⟩ = some (.int .i64 a0_2) := (blk_cell BK236.out 2).trans rfl; have hcz75_3 : w73.cell? ⟨gb236, 3, none⟩ = some (.int .i64 a0_3) := (blk_cell BK236.out 3).trans rfl; have hcz75_4 : w73.cell? ⟨gb236, 4, none⟩ = some (.int .i64 a0_4) := (blk_cell BK236.out 4).trans rfl; have hcz75_5 : w73.cell? ⟨gb236, 5, none⟩ = some (.bool a0_5) := (blk_cell BK236.out 5).trans rfl; have hfz75_0 := blk_frozen BK236.out 0; have hfz75_1 := blk_frozen BK236.out 1; have hfz75_2 := blk_frozen BK236.out 2; have hfz75_3 := blk_frozen BK236.out 3; have hfz75_4 := blk_frozen BK236.out 4; have hfz75_5 := blk_frozen BK236.out 5) | ((with_reducible refine gate_callee (f := 28) rfl ?_); refine goesL_ (some 103) rfl rfl Try.func28 (by kernel_rfl) rfl #[.agg #[.int .i64 a0_0, .int .i64 a0_1, .int .i64 a0_2, .int .i64 a0_3, .int .i64 a0_4, .bool a0_5], .slice (some ⟨go52, 0, none⟩) y250.length co71] rfl (by (try simp only [List.map_toArray, List.map_cons, List.map_nil]); first | done | (rw [show y250.length = t246.length from (Kd.R_reads' HO248.out).1.symm] <;> rfl) | rfl | (simp only [List.length_drop, List.length_take]; rfl)) ?_; (with_reducible refine (budget_Of.calls kj10 a0_0 a0_1 a0_2 a0_3 a0_4 a0_5 _ _ y250 t251 t252 _ ?side1 ?side2 A53.out).mono ?_); (case side1 => repeat (first | exact (Kd.R_reads' HO248.out).2.2 | (with_reducible refine Kd.C_alloc ?_ _) | (with_reducible refine Kd.C_drewN ?_ _) | (with_reducible refine Kd.C_drew ?_))); (case side2 => rw [show y250.length = t246.length from (Kd.R_reads' HO248.out).1.symm]; exact (Kd.R_reads' HO248.out).2.1); rintro e w76 ⟨rfl, hb⟩; refine ⟨_, rfl, ?_⟩; have n0_ := Aside0.mk (Kd.R_below (by (with_reducible repeat (first | apply Kd.R_alloc | apply Kd.R_drewN | apply Kd.R_drew)); exact HO248.out) hb); have n1_ := Aside0.mk (blk_below (g := gb236) (o := .cells #[.int .i64 a0_0, .int .i64 a0_1, .int .i64 a0_2, .int .i64 a0_3, .int .i64 a0_4, .bool a0_5] 23 (0, 0)) (by (with_reducible repeat (first | refine blk_drewN ?_ _ | refine blk_drew ?_ | refine blk_alloc ?_ _)); exact BK236.out) hb); have n2_ := Aside0.mk (blk_below (g := gb241) (o := .cells #[.int .i64 a0_0, .int .i64 a0_1, .int .i64 a0_2, .int .i64 a0_3, .int .i64 (Int.tmod (wrap64 ((Int.tmod a3 3) + 3)) 3), .bool (!a0_5)] 23 (0, 0)) (by (with_reducible repeat (first | refine blk_drewN ?_ _ | refine blk_drew ?_ | refine blk_alloc ?_ _)); exact BK241.out) hb); have n3_ := Aside0.mk (below_step (by repeat (first | (with_reducible first | exact HB.out | apply below_alloc | apply pw_below_drewN | apply below_drew1 | refine below_set ?_ GE236.out | refine below_set ?_ GE241.out) | exact HB.out)) hb); clear HO248; clear BK236; clear BK241; clear HB; have HO248 := n0_; have BK236 := n1_; have BK241 := n2_; have HB := n3_; clear n0_ n1_ n2_ n3_; (try clear hb); (try clear hb2); (try clear hk); (try clear hi)))
                        go_ret
                        exact ⟨by first | rfl | (simp [errW_none, errW_some] <;> rfl) | (simp only [← hji5, ← hji49]; first | rfl | (simp [errW_none, errW_some] <;> rfl)) | (simp [*, errW_none, errW_some] <;> rfl), by repeat (first | (with_reducible first | exact HB.out | apply below_alloc | apply pw_below_drewN | apply below_drew1 | refine below_set ?_ GE236.out | refine below_set ?_ GE241.out) | exact HB.out)⟩
                  · rw [if_neg c51] at H
                    exact absurd H (by simp)
                · rw [if_neg c50] at H
                  exact absurd H (by simp)
      · rw [if_neg c9] at H
        have c9b0 : (t239 == 0) = false := beq_eq_false_iff_ne.mpr c9
        have c9b1 : (t239 != 0) = true := bne_iff_ne.mpr c9
        replace H := Option.bind_eq_some_iff.mp H
        obtain ⟨t240, A770, H⟩ := H
        replace H : (if t240 = true then (some (t238 == 0)) else (some false)) = some r := H
        have A77 := Aside0.mk A770
        clear A770
        by_cases c78 : t240 = true
        · subst c78
          have H1 : (some (t238 == 0)) = some r := by rw [if_pos rfl] at H; exact H
          clear H
          have H := H1
          clear H1
          obtain rfl := Option.some.inj H
          go_enter Try.func8, Try.ntmps8
          go_wp2_with (first | ((with_reducible refine gate_dst (N := 4) rfl ?_); refine box_event ?hg (N := 4) ?hd (cs := #[.int .i64 a0_0, .int .i64 a0_1, .int .i64 a0_2, .int .i64 a0_3, .int .i64 a0_4, .bool a0_5]) (t := 23) ?hr ?_; (case hd => rfl); (case hg => rfl); (case hr => first | (go_simp; done) | (go_simp; rfl)); intro gb236 hg w79 hbox hb; have n0_ := Aside0.mk (below_step (by repeat (first | (with_reducible first | exact HB.out | apply below_alloc | apply pw_below_drewN | apply below_drew1) | exact HB.out)) hb); have n1_ := Aside0.mk (hbox); have n2_ := Aside0.mk ((by rw [hg]; exact (below_size (by repeat (first | (with_reducible first | exact HB.out | apply below_alloc | apply pw_below_drewN | apply below_drew1) | exact HB.out))) : w.heap.size ≤ gb236)); have n3_ := Aside0.mk ((by rw [hg]; exact (below_size (by repeat (first | (with_reducible first | exact HB.out | apply below_alloc | apply pw_below_drewN | apply below_drew1) | exact HB.out))) : w.heap.size ≤ gb236)); clear HB; have HB := n0_; have BK236 := n1_; have GW236 := n2_; have GE236 := n3_; clear n0_ n1_ n2_ n3_; clear hb hbox hg; obtain ⟨i080, hi080, _, hsz80, _⟩ := info_parts info3; obtain ⟨hcut80, hA80, hC80⟩ := print_take_of (P := Try.prog) (Value.int .i64) 0 47 3 .i64 Try.underlying47 hi080 hsz80 A1 c1 l1 (ji5) (of_decide_eq_true (by first | (with_reducible assumption) | assumption)) (of_decide_eq_true (by first | (with_reducible assumption) | assumption)) HC1.out; have HR237 := Aside0.mk (Kd.C_of_reads (h1 := fun _ => rfl) (hA80 _ (Kd.reads_of_C HR1.out))); have HC237 := Aside0.mk hC80; clear hA80 hC80 hi080 hsz80; have hcz81_0 : w79.cell? ⟨gb236, 0, none⟩ = some (.int .i64 a0_0) := (blk_cell BK236.out 0).trans rfl; have hcz81_1 : w79.cell? ⟨gb236, 1, none⟩ = some (.int .i64 a0_1) := (blk_cell BK236.out 1).trans rfl; have hcz81_2 : w79.cell? ⟨gb236, 2, none⟩ = some (.int .i64 a0_2) := (blk_cell BK236.out 2).trans rfl; have hcz81_3 : w79.cell? ⟨gb236, 3, none⟩ = some (.int .i64 a0_3) := (blk_cell BK236.out 3).trans rfl; have hcz81_4 : w79.cell? ⟨gb236, 4, none⟩ = some (.int .i64 a0_4) := (blk_cell BK236.out 4).trans rfl; have hcz81_5 : w79.cell? ⟨gb236, 5, none⟩ = some (.bool a0_5) := (blk_cell BK236.out 5).trans rfl; have hfz81_0 := blk_frozen BK236.out 0; have hfz81_1 := blk_frozen BK236.out 1; have hfz81_2 := blk_frozen BK236.out 2; have hfz81_3 := blk_frozen BK236.out 3; have hfz81_4 := blk_frozen BK236.out 4; have hfz81_5 := blk_frozen BK236.out 5) | ((with_reducible refine gate_callee (f := 28) rfl ?_); refine goesL_ (some 25) rfl rfl Try.func28 (by kernel_rfl) rfl #[.agg #[.int .i64 a0_0, .int .i64 a0_1, .int .i64 a0_2, .int .i64 a0_3, .int .i64 a0_4, .bool a0_5], .slice A1 (l1.take ((ji5) : Int).toNat).length c1] rfl (by (try simp only [List.map_toArray, List.map_cons, List.map_nil]); first | done | (rw [show (l1.take ((ji5) : Int).toNat).length = (ji5).toNat from (by rw [List.length_take]; have h_ : ((ji5) : Int) ≤ (l1.length : Int) := of_decide_eq_true (by first | (with_reducible assumption) | assumption); omega)] <;> rfl) | (rw [show (l1.take ((ji5) : Int).toNat).length = (ji5).toNat from (by rw [List.length_take]; have h_ : ((ji5) : Int) ≤ (l1.length : Int) := of_decide_eq_true (by first | (with_reducible assumption) | assumption); omega)]; simp [Act.eval]; done) | (simp only [hji5]; rfl) | rfl | (simp only [List.length_drop, List.length_take]; rfl)) ?_; (with_reducible refine (budget_Of.calls k a0_0 a0_1 a0_2 a0_3 a0_4 a0_5 _ _ (l1.take ((ji5) : Int).toNat) t238 t239 _ ?side1 ?side2 A8.out).mono ?_); (case side1 => repeat (first | exact (Kd.C_below HR237.out HB.out) | (with_reducible refine Kd.C_alloc ?_ _) | (with_reducible refine Kd.C_drewN ?_ _) | (with_reducible refine Kd.C_drew ?_))); (case side2 => exact HC237.out); rintro e w82 ⟨rfl, hb⟩; refine ⟨_, rfl, ?_⟩; have n0_ := Aside0.mk (blk_below (g := gb236) (o := .cells #[.int .i64 a0_0, .int .i64 a0_1, .int .i64 a0_2, .int .i64 a0_3, .int .i64 a0_4, .bool a0_5] 23 (0, 0)) (by (with_reducible repeat (first | refine blk_drewN ?_ _ | refine blk_drew ?_ | refine blk_alloc ?_ _)); exact BK236.out) hb); have n1_ := Aside0.mk (below_step (by repeat (first | (with_reducible first | exact HB.out | apply below_alloc | apply pw_below_drewN | apply below_drew1 | refine below_set ?_ GE236.out) | exact HB.out)) hb); clear BK236; clear HB; have BK236 := n0_; have HB := n1_; clear n0_ n1_; (try clear hb); (try clear hb2); (try clear hk); (try clear hi)) | ((with_reducible refine gate_callee (f := 25) rfl ?_); refine goesL_ (some 30) rfl rfl Try.func25 (by kernel_rfl) rfl #[] rfl (by (try simp only [List.map_toArray, List.map_cons, List.map_nil]); first | done | rfl | (simp only [List.length_drop, List.length_take]; rfl)) ?_; (with_reducible refine (headroomlaw14_alive.calls k  true _ A77.out).mono ?_); rintro e w83 ⟨rfl, hb⟩; refine ⟨_, rfl, ?_⟩; have n0_ := Aside0.mk (blk_below (g := gb236) (o := .cells #[.int .i64 a0_0, .int .i64 a0_1, .int .i64 a0_2, .int .i64 a0_3, .int .i64 a0_4, .bool a0_5] 23 (0, 0)) (by (with_reducible repeat (first | refine blk_drewN ?_ _ | refine blk_drew ?_ | refine blk_alloc ?_ _)); exact BK236.out) hb); have n1_ := Aside0.mk (below_step (by repeat (first | (with_reducible first | exact HB.out | apply below_alloc | apply pw_below_drewN | apply below_drew1 | refine below_set ?_ GE236.out) | exact HB.out)) hb); clear BK236; clear HB; have BK236 := n0_; have HB := n1_; clear n0_ n1_; (try clear hb); (try clear hb2); (try clear hk); (try clear hi)))
          go_ret
          exact ⟨by first | rfl | (simp [errW_none, errW_some] <;> rfl) | (simp only [← hji5]; first | rfl | (simp [errW_none, errW_some] <;> rfl)) | (simp [*, errW_none, errW_some] <;> rfl), by repeat (first | (with_reducible first | exact HB.out | apply below_alloc | apply pw_below_drewN | apply below_drew1 | refine below_set ?_ GE236.out) | exact HB.out)⟩
        · replace c78 := Bool.eq_false_iff.mpr c78
          subst c78
          have H1 : (some false) = some r := by rw [if_neg (show ¬ (false = true) by decide)] at H; exact H
          clear H
          have H := H1
          clear H1
          obtain rfl := Option.some.inj H
          go_enter Try.func8, Try.ntmps8
          go_wp2_with (first | ((with_reducible refine gate_dst (N := 4) rfl ?_); refine box_event ?hg (N := 4) ?hd (cs := #[.int .i64 a0_0, .int .i64 a0_1, .int .i64 a0_2, .int .i64 a0_3, .int .i64 a0_4, .bool a0_5]) (t := 23) ?hr ?_; (case hd => rfl); (case hg => rfl); (case hr => first | (go_simp; done) | (go_simp; rfl)); intro gb236 hg w84 hbox hb; have n0_ := Aside0.mk (below_step (by repeat (first | (with_reducible first | exact HB.out | apply below_alloc | apply pw_below_drewN | apply below_drew1) | exact HB.out)) hb); have n1_ := Aside0.mk (hbox); have n2_ := Aside0.mk ((by rw [hg]; exact (below_size (by repeat (first | (with_reducible first | exact HB.out | apply below_alloc | apply pw_below_drewN | apply below_drew1) | exact HB.out))) : w.heap.size ≤ gb236)); have n3_ := Aside0.mk ((by rw [hg]; exact (below_size (by repeat (first | (with_reducible first | exact HB.out | apply below_alloc | apply pw_below_drewN | apply below_drew1) | exact HB.out))) : w.heap.size ≤ gb236)); clear HB; have HB := n0_; have BK236 := n1_; have GW236 := n2_; have GE236 := n3_; clear n0_ n1_ n2_ n3_; clear hb hbox hg; obtain ⟨i085, hi085, _, hsz85, _⟩ := info_parts info3; obtain ⟨hcut85, hA85, hC85⟩ := print_take_of (P := Try.prog) (Value.int .i64) 0 47 3 .i64 Try.underlying47 hi085 hsz85 A1 c1 l1 (ji5) (of_decide_eq_true (by first | (with_reducible assumption) | assumption)) (of_decide_eq_true (by first | (with_reducible assumption) | assumption)) HC1.out; have HR237 := Aside0.mk (Kd.C_of_reads (h1 := fun _ => rfl) (hA85 _ (Kd.reads_of_C HR1.out))); have HC237 := Aside0.mk hC85; clear hA85 hC85 hi085 hsz85; have hcz86_0 : w84.cell? ⟨gb236, 0, none⟩ = some (.int .i64 a0_0) := (blk_cell BK236.out 0).trans rfl; have hcz86_1 : w84.cell? ⟨gb236, 1, none⟩ = some (.int .i64 a0_1) := (blk_cell BK236.out 1).trans rfl; have hcz86_2 : w84.cell? ⟨gb236, 2, none⟩ = some (.int .i64 a0_2) := (blk_cell BK236.out 2).trans rfl; have hcz86_3 : w84.cell? ⟨gb236, 3, none⟩ = some (.int .i64 a0_3) := (blk_cell BK236.out 3).trans rfl; have hcz86_4 : w84.cell? ⟨gb236, 4, none⟩ = some (.int .i64 a0_4) := (blk_cell BK236.out 4).trans rfl; have hcz86_5 : w84.cell? ⟨gb236, 5, none⟩ = some (.bool a0_5) := (blk_cell BK236.out 5).trans rfl; have hfz86_0 := blk_frozen BK236.out 0; have hfz86_1 := blk_frozen BK236.out 1; have hfz86_2 := blk_frozen BK236.out 2; have hfz86_3 := blk_frozen BK236.out 3; have hfz86_4 := blk_frozen BK236.out 4; have hfz86_5 := blk_frozen BK236.out 5) | ((with_reducible refine gate_callee (f := 28) rfl ?_); refine goesL_ (some 25) rfl rfl Try.func28 (by kernel_rfl) rfl #[.agg #[.int .i64 a0_0, .int .i64 a0_1, .int .i64 a0_2, .int .i64 a0_3, .int .i64 a0_4, .bool a0_5], .slice A1 (l1.take ((ji5) : Int).toNat).length c1] rfl (by (try simp only [List.map_toArray, List.map_cons, List.map_nil]); first | done | (rw [show (l1.take ((ji5) : Int).toNat).length = (ji5).toNat from (by rw [List.length_take]; have h_ : ((ji5) : Int) ≤ (l1.length : Int) := of_decide_eq_true (by first | (with_reducible assumption) | assumption); omega)] <;> rfl) | (rw [show (l1.take ((ji5) : Int).toNat).length = (ji5).toNat from (by rw [List.length_take]; have h_ : ((ji5) : Int) ≤ (l1.length : Int) := of_decide_eq_true (by first | (with_reducible assumption) | assumption); omega)]; simp [Act.eval]; done) | (simp only [hji5]; rfl) | rfl | (simp only [List.length_drop, List.length_take]; rfl)) ?_; (with_reducible refine (budget_Of.calls k a0_0 a0_1 a0_2 a0_3 a0_4 a0_5 _ _ (l1.take ((ji5) : Int).toNat) t238 t239 _ ?side1 ?side2 A8.out).mono ?_); (case side1 => repeat (first | exact (Kd.C_below HR237.out HB.out) | (with_reducible refine Kd.C_alloc ?_ _) | (with_reducible refine Kd.C_drewN ?_ _) | (with_reducible refine Kd.C_drew ?_))); (case side2 => exact HC237.out); rintro e w87 ⟨rfl, hb⟩; refine ⟨_, rfl, ?_⟩; have n0_ := Aside0.mk (blk_below (g := gb236) (o := .cells #[.int .i64 a0_0, .int .i64 a0_1, .int .i64 a0_2, .int .i64 a0_3, .int .i64 a0_4, .bool a0_5] 23 (0, 0)) (by (with_reducible repeat (first | refine blk_drewN ?_ _ | refine blk_drew ?_ | refine blk_alloc ?_ _)); exact BK236.out) hb); have n1_ := Aside0.mk (below_step (by repeat (first | (with_reducible first | exact HB.out | apply below_alloc | apply pw_below_drewN | apply below_drew1 | refine below_set ?_ GE236.out) | exact HB.out)) hb); clear BK236; clear HB; have BK236 := n0_; have HB := n1_; clear n0_ n1_; (try clear hb); (try clear hb2); (try clear hk); (try clear hi)) | ((with_reducible refine gate_callee (f := 25) rfl ?_); refine goesL_ (some 30) rfl rfl Try.func25 (by kernel_rfl) rfl #[] rfl (by (try simp only [List.map_toArray, List.map_cons, List.map_nil]); first | done | rfl | (simp only [List.length_drop, List.length_take]; rfl)) ?_; (with_reducible refine (headroomlaw14_alive.calls k  false _ A77.out).mono ?_); rintro e w88 ⟨rfl, hb⟩; refine ⟨_, rfl, ?_⟩; have n0_ := Aside0.mk (blk_below (g := gb236) (o := .cells #[.int .i64 a0_0, .int .i64 a0_1, .int .i64 a0_2, .int .i64 a0_3, .int .i64 a0_4, .bool a0_5] 23 (0, 0)) (by (with_reducible repeat (first | refine blk_drewN ?_ _ | refine blk_drew ?_ | refine blk_alloc ?_ _)); exact BK236.out) hb); have n1_ := Aside0.mk (below_step (by repeat (first | (with_reducible first | exact HB.out | apply below_alloc | apply pw_below_drewN | apply below_drew1 | refine below_set ?_ GE236.out) | exact HB.out)) hb); clear BK236; clear HB; have BK236 := n0_; have HB := n1_; clear n0_ n1_; (try clear hb); (try clear hb2); (try clear hk); (try clear hi)))
          go_ret
          exact ⟨by first | rfl | (simp [errW_none, errW_some] <;> rfl) | (simp only [← hji5]; first | rfl | (simp [errW_none, errW_some] <;> rfl)) | (simp [*, errW_none, errW_some] <;> rfl), by repeat (first | (with_reducible first | exact HB.out | apply below_alloc | apply pw_below_drewN | apply below_drew1 | refine below_set ?_ GE236.out) | exact HB.out)⟩
    · rw [if_neg c7] at H
      exact absurd H (by simp)
  · rw [if_neg c6] at H
    exact absurd H (by simp)

end Go.Proofs.Ytbpanbmjkfhcgaa.P
