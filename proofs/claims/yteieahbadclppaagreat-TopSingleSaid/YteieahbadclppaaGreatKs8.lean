/- Part 8 of 10 of the proof: the texts that it reaches, one behind the other. No condition. -/
import Derived.Test.YteieahbadclppaaGreatKs7
import Derived.Deep.RegionLawGrows
namespace Go.Proofs.YteieahbadclppaaGreat.P
open Go.RowKit Go.Proofs.YteieahbadclppaaGreatW.PrintWords Go.Proofs.YteieahbadclppaaGreatW.PrintLast Go.Proofs.YteieahbadclppaaGreatW.PrintMore
attribute [local go_sem] max2_int min2_int max_two min_two max_three min_three max_four min_four   -- for this text's walks alone
set_option linter.unusedVariables false
set_option linter.unusedSimpArgs false

mutual
def plan_Passes.l0 : Nat → List (S59) → Int → Int → Int → Int → Int → Int → Bool → Option ((List (S59)) × Int)
 | 0, _, _, _, _, _, _, _, _ => none
 | k + 1, x5, x6, x216000, x216001, x216002, x216003, x216004, x216005 => if 0 ≤ x216001 then (if x6 < (shl .i64 1 x216001) then (plan_Passes.j1 k x5 x6 (x216002 != 2) x216000 x216001 x216002 x216003 x216004 x216005) else (plan_Passes.j1 k x5 x6 false x216000 x216001 x216002 x216003 x216004 x216005)) else (none)
def plan_Passes.j1 : Nat → List (S59) → Int → Bool → Int → Int → Int → Int → Int → Bool → Option ((List (S59)) × Int)
 | 0, _, _, _, _, _, _, _, _, _ => none
 | k + 1, x5, x6, x22, x216000, x216001, x216002, x216003, x216004, x216005 => if x22 = true then (if x216002 = 1 then (if x6 > 1 then (if x5.length < 8796093022208 then (plan_Passes.l0 k (x5 ++ [(⟨4, x6⟩ : S59)]) (wrap64 (x6 * 4)) x216000 x216001 x216002 x216003 x216004 x216005) else (none)) else (if (Go.bits .and .i64 x216001 1) = 0 then (if x5.length < 8796093022208 then (plan_Passes.l0 k (x5 ++ [(⟨4, x6⟩ : S59)]) (wrap64 (x6 * 4)) x216000 x216001 x216002 x216003 x216004 x216005) else (none)) else (if x5.length < 8796093022208 then (plan_Passes.l0 k (x5 ++ [(⟨2, x6⟩ : S59)]) (wrap64 (x6 * 2)) x216000 x216001 x216002 x216003 x216004 x216005) else (none)))) else (if x5.length < 8796093022208 then (plan_Passes.l0 k (x5 ++ [(⟨2, x6⟩ : S59)]) (wrap64 (x6 * 2)) x216000 x216001 x216002 x216003 x216004 x216005) else (none))) else (some (x5, 0))
end
def plan_Passes.f (k : Nat) (a0_0 : Int) (a0_1 : Int) (a0_2 : Int) (a0_3 : Int) (a0_4 : Int) (a0_5 : Bool) : Option ((List (S59)) × Int) := (plan_Check.f a0_0 a0_1 a0_2 a0_3 a0_4 a0_5).bind fun t216 => (if t216 = 0 then (plan_Passes.l0 k ([] : List (S59)) 1 a0_0 a0_1 a0_2 a0_3 a0_4 a0_5) else (some (([] : List (S59)), t216)))
set_option maxHeartbeats 8000000 in
set_option maxRecDepth 100000 in
theorem plan_Passes.calls (k : Nat) (a0_0 : Int) (a0_1 : Int) (a0_2 : Int) (a0_3 : Int) (a0_4 : Int) (a0_5 : Bool) (r1 : List (S59)) (r2 : Int) (w : World) (h : plan_Passes.f k a0_0 a0_1 a0_2 a0_3 a0_4 a0_5 = some (r1, r2)) :
  Calls Tryz.prog 18 #[.agg #[.int .i64 a0_0, .int .i64 a0_1, .int .i64 a0_2, .int .i64 a0_3, .int .i64 a0_4, .bool a0_5]] w fun e w' => ∃ v0_ : Value, e = .returned (.tuple #[v0_, .int .i64 r2]) ∧ Kd.R k59 59 w' w.heap.size (fun _ => True) v0_ r1 ∧ Below w.heap.size w w' := by
 have hu24 := Tryz.underlying24
 have hu59 := Tryz.underlying59
 have HB := Aside0.mk (Below.refl w.heap.size w)
 have H : ((plan_Check.f a0_0 a0_1 a0_2 a0_3 a0_4 a0_5).bind fun t216 => (if t216 = 0 then (plan_Passes.l0 k ([] : List (S59)) 1 a0_0 a0_1 a0_2 a0_3 a0_4 a0_5) else (some (([] : List (S59)), t216)))) = some (r1, r2) := h
 clear h
 replace H := Option.bind_eq_some_iff.mp H
 obtain ⟨t216, A20, H⟩ := H
 replace H : (if t216 = 0 then (plan_Passes.l0 k ([] : List (S59)) 1 a0_0 a0_1 a0_2 a0_3 a0_4 a0_5) else (some (([] : List (S59)), t216))) = some (r1, r2) := H
 have A2 := Aside0.mk A20
 clear A20
 by_cases c3 : t216 = 0
 ·rw [if_pos c3] at H
  have c3b0 : (t216 == 0) = true := beq_iff_eq.mpr c3
  have c3b1 : (t216 != 0) = false := bne_eq_false_iff_eq.mpr c3
  clear c3
  have H' := Aside0.mk H
  clear H
  go_enter Tryz.func18, Tryz.ntmps18
  go_wp2_with (first | ((with_reducible refine gate_dst (N := 1) rfl ?_); refine box_event ?hg (N := 1) ?hd (cs := #[.int .i64 a0_0, .int .i64 a0_1, .int .i64 a0_2, .int .i64 a0_3, .int .i64 a0_4, .bool a0_5]) (t := 24) ?hr ?_; (case hd => rfl); (case hg => rfl); (case hr => first | (go_simp; done) | (go_simp; rfl)); intro gb215 hg w4 hbox hb; have n0_ := Aside0.mk (below_step (by repeat (first | (with_reducible first | exact HB.out | apply below_alloc | apply pw_below_drewN | apply below_drew1) | exact HB.out)) hb); have n1_ := Aside0.mk (hbox); have n2_ := Aside0.mk ((by rw [hg]; exact (below_size (by repeat (first | (with_reducible first | exact HB.out | apply below_alloc | apply pw_below_drewN | apply below_drew1) | exact HB.out))) : w.heap.size ≤ gb215)); have n3_ := Aside0.mk ((by rw [hg]; exact (below_size (by repeat (first | (with_reducible first | exact HB.out | apply below_alloc | apply pw_below_drewN | apply below_drew1) | exact HB.out))) : w.heap.size ≤ gb215)); clear HB; have HB := n0_; have BK215 := n1_; have GW215 := n2_; have GE215 := n3_; clear n0_ n1_ n2_ n3_; clear hb hbox hg; have hcz5_0 : w4.cell? ⟨gb215, 0, none⟩ = some (.int .i64 a0_0) := (blk_cell BK215.out 0).trans rfl; have hcz5_1 : w4.cell? ⟨gb215, 1, none⟩ = some (.int .i64 a0_1) := (blk_cell BK215.out 1).trans rfl; have hcz5_2 : w4.cell? ⟨gb215, 2, none⟩ = some (.int .i64 a0_2) := (blk_cell BK215.out 2).trans rfl; have hcz5_3 : w4.cell? ⟨gb215, 3, none⟩ = some (.int .i64 a0_3) := (blk_cell BK215.out 3).trans rfl; have hcz5_4 : w4.cell? ⟨gb215, 4, none⟩ = some (.int .i64 a0_4) := (blk_cell BK215.out 4).trans rfl; have hcz5_5 : w4.cell? ⟨gb215, 5, none⟩ = some (.bool a0_5) := (blk_cell BK215.out 5).trans rfl; have hfz5_0 := blk_frozen BK215.out 0; have hfz5_1 := blk_frozen BK215.out 1; have hfz5_2 := blk_frozen BK215.out 2; have hfz5_3 := blk_frozen BK215.out 3; have hfz5_4 := blk_frozen BK215.out 4; have hfz5_5 := blk_frozen BK215.out 5) | ((with_reducible refine gate_callee (f := 37) rfl ?_); refine goesL_ (some 9) rfl rfl Tryz.func37 (by kernel_rfl) rfl #[.agg #[.int .i64 a0_0, .int .i64 a0_1, .int .i64 a0_2, .int .i64 a0_3, .int .i64 a0_4, .bool a0_5]] rfl (by (try simp only [List.map_toArray, List.map_cons, List.map_nil]); first | done | rfl | (simp only [List.length_drop, List.length_take]; rfl)) ?_; (with_reducible refine (plan_Check.calls a0_0 a0_1 a0_2 a0_3 a0_4 a0_5 t216 _ A2.out).mono ?_); rintro e w6 ⟨rfl, hb⟩; refine ⟨_, rfl, ?_⟩; have n0_ := Aside0.mk (blk_below (g := gb215) (o := .cells #[.int .i64 a0_0, .int .i64 a0_1, .int .i64 a0_2, .int .i64 a0_3, .int .i64 a0_4, .bool a0_5] 24 (0, 0)) (by (with_reducible repeat (first | refine blk_drewN ?_ _ | refine blk_drew ?_ | refine blk_alloc ?_ _)); exact BK215.out) hb); have n1_ := Aside0.mk (below_step (by repeat (first | (with_reducible first | exact HB.out | apply below_alloc | apply pw_below_drewN | apply below_drew1 | refine below_set ?_ GE215.out) | exact HB.out)) hb); clear BK215; clear HB; have BK215 := n0_; have HB := n1_; clear n0_ n1_; (try clear hb); (try clear hb2); (try clear hk); (try clear hi)))
  go_loopg [5, 6] k (fun kq v5 v6 w' => ∃ (x5_1 : List (S59)) (x6_1 : Int), v6 = .int .i64 x6_1 ∧ Aside0 (plan_Passes.l0 kq x5_1 x6_1 a0_0 a0_1 a0_2 a0_3 a0_4 a0_5 = some (r1, r2)) ∧ Aside0 (kq ≤ k) ∧ Aside0 (Kd.R k59 59 w' w.heap.size (fun _ => True) v5 x5_1) ∧ Aside0 (w'.heap[gb215]? = some (.cells #[.int .i64 a0_0, .int .i64 a0_1, .int .i64 a0_2, .int .i64 a0_3, .int .i64 a0_4, .bool a0_5] 24 (0, 0))) ∧ Aside0 (Below w.heap.size w w'))
  case atStart => exact ⟨(([] : List (S59))), (1), (by first | rfl | (simp; done) | (simp [*]; done)), H', ⟨Nat.le_refl _⟩, ⟨by first | exact Kd.R_nil _ _ _ _ _ | exact Kd.N_nil _ _ _ _ _ | exact Kd.V_nil _ _ _ _ _ | exact Kd.Q_nil _ _ _ _ _ | exact Kd.S_nil _ _ _ _ _⟩, ⟨by (with_reducible repeat (first | refine blk_drewN ?_ _ | refine blk_drew ?_ | refine blk_alloc ?_ _)); exact BK215.out⟩, ⟨by repeat (first | (with_reducible first | exact HB.out | apply below_alloc | apply pw_below_drewN | apply below_drew1 | refine below_set ?_ GE215.out) | exact HB.out)⟩⟩
  case round =>
   clear H'
   try clear c1
   try clear p2
   try clear c3
   try clear c3b0
   try clear c3b1
   try clear hcz5_0
   try clear hcz5_1
   try clear hcz5_2
   try clear hcz5_3
   try clear hcz5_4
   try clear hcz5_5
   try clear hfz5_0
   try clear hfz5_1
   try clear hfz5_2
   try clear hfz5_3
   try clear hfz5_4
   try clear hfz5_5
   obtain ⟨x5_1, x6_1, rfl, HA, HK1, HO_5, BK215, HB⟩ := hrel
   cases gk with
   | zero => exact absurd HA.out (by simp [plan_Passes.l0])
   | succ k1 =>
    have H := HA.out
    clear HA
    simp only [plan_Passes.l0] at H
    have HC7 := Aside0.mk H
    clear H
    go_upto_region 6 with (fail)
    go_cut [22] (fun v22 wc => ∃ (kq : Nat) (x22_6 : Bool), v22 = .bool x22_6 ∧ Aside0 (plan_Passes.j1 kq x5_1 x6_1 x22_6 a0_0 a0_1 a0_2 a0_3 a0_4 a0_5 = some (r1, r2)) ∧ Aside0 (kq ≤ k1) ∧ Aside0 (Kd.R k59 59 wc w.heap.size (fun _ => True) u5 x5_1) ∧ Aside0 (wc.heap[gb215]? = some (.cells #[.int .i64 a0_0, .int .i64 a0_1, .int .i64 a0_2, .int .i64 a0_3, .int .i64 a0_4, .bool a0_5] 24 (0, 0))) ∧ Aside0 (Below w.heap.size w wc))
    case first =>
     have H := HC7.out
     clear HC7
     by_cases c8 : 0 ≤ a0_1
     ·rw [if_pos c8] at H
      have c8b0 := eq_true c8
      have c8b1 : decide (0 ≤ a0_1) = true := decide_eq_true c8
      clear c8
      obtain ⟨ji9, hji9⟩ : ∃ j_ : Int, (shl .i64 1 a0_1) = j_ := ⟨_, rfl⟩
      replace H : (if x6_1 < (ji9) then (plan_Passes.j1 k1 x5_1 x6_1 (a0_2 != 2) a0_0 a0_1 a0_2 a0_3 a0_4 a0_5) else (plan_Passes.j1 k1 x5_1 x6_1 false a0_0 a0_1 a0_2 a0_3 a0_4 a0_5)) = some (r1, r2) := by first | (rw [hji9] at H; exact H) | (simp only [hji9] at H ⊢; exact H)
      have hji9_ : (IntKind.i64.wrap (1 * 2 ^ min a0_1.toNat 64)) = ji9 := hji9
      have hji9z : a0_1 ≤ 64 → (IntKind.i64.wrap (1 * 2 ^ a0_1.toNat)) = ji9 := shl_small hji9
      have hji9u : (IntKind.i64.wrap (2 ^ min a0_1.toNat 64)) = ji9 := by have h_ := hji9_; rw [Int.one_mul] at h_; exact h_
      have hji9v : a0_1 ≤ 64 → (IntKind.i64.wrap (2 ^ a0_1.toNat)) = ji9 := fun hle_ => by have h_ := hji9z hle_; rw [Int.one_mul] at h_; exact h_
      have hji9y : (wrap64 (1 * 2 ^ min a0_1.toNat 64)) = ji9 := (i64_w _).symm.trans hji9_
      have hji9x : a0_1 ≤ 64 → (wrap64 (1 * 2 ^ a0_1.toNat)) = ji9 := fun h_ => (i64_w _).symm.trans (hji9z h_)
      by_cases c10 : x6_1 < (ji9)
      ·rw [if_pos c10] at H
       have c10b0 : decide (x6_1 < (ji9)) = true := decide_eq_true c10
       clear c10
       (first | rw [c10b0] | (simp only [i64_w, i32_w]; rw [c10b0]) | skip)
       have H' := Aside0.mk H
       clear H
       have hcz11_0 : wr.cell? ⟨gb215, 0, none⟩ = some (.int .i64 a0_0) := (blk_cell BK215.out 0).trans rfl
       have hcz11_1 : wr.cell? ⟨gb215, 1, none⟩ = some (.int .i64 a0_1) := (blk_cell BK215.out 1).trans rfl
       have hcz11_2 : wr.cell? ⟨gb215, 2, none⟩ = some (.int .i64 a0_2) := (blk_cell BK215.out 2).trans rfl
       have hcz11_3 : wr.cell? ⟨gb215, 3, none⟩ = some (.int .i64 a0_3) := (blk_cell BK215.out 3).trans rfl
       have hcz11_4 : wr.cell? ⟨gb215, 4, none⟩ = some (.int .i64 a0_4) := (blk_cell BK215.out 4).trans rfl
       have hcz11_5 : wr.cell? ⟨gb215, 5, none⟩ = some (.bool a0_5) := (blk_cell BK215.out 5).trans rfl
       have hfz11_0 := blk_frozen BK215.out 0
       have hfz11_1 := blk_frozen BK215.out 1
       have hfz11_2 := blk_frozen BK215.out 2
       have hfz11_3 := blk_frozen BK215.out 3
       have hfz11_4 := blk_frozen BK215.out 4
       have hfz11_5 := blk_frozen BK215.out 5
       go_wp2
       go_meet
       case rel => exact ⟨_, ((a0_2 != 2)), (by first | rfl | (simp; done) | (simp [*]; done)), H', ⟨by have := HK1.out; first | omega | exact Nat.le_refl _⟩, ⟨by (with_reducible repeat (first | apply Kd.R_alloc | apply Kd.R_drewN | apply Kd.R_drew)); exact HO_5.out⟩, ⟨by (with_reducible repeat (first | refine blk_drewN ?_ _ | refine blk_drew ?_ | refine blk_alloc ?_ _)); exact BK215.out⟩, ⟨by repeat (first | (with_reducible first | exact HB.out | apply below_alloc | apply pw_below_drewN | apply below_drew1 | refine below_set ?_ GE215.out) | exact HB.out)⟩⟩
      ·rw [if_neg c10] at H
       have c10b0 : decide (x6_1 < (ji9)) = false := decide_eq_false c10
       clear c10
       (first | rw [c10b0] | (simp only [i64_w, i32_w]; rw [c10b0]) | skip)
       have H' := Aside0.mk H
       clear H
       have hcz12_0 : wr.cell? ⟨gb215, 0, none⟩ = some (.int .i64 a0_0) := (blk_cell BK215.out 0).trans rfl
       have hcz12_1 : wr.cell? ⟨gb215, 1, none⟩ = some (.int .i64 a0_1) := (blk_cell BK215.out 1).trans rfl
       have hcz12_2 : wr.cell? ⟨gb215, 2, none⟩ = some (.int .i64 a0_2) := (blk_cell BK215.out 2).trans rfl
       have hcz12_3 : wr.cell? ⟨gb215, 3, none⟩ = some (.int .i64 a0_3) := (blk_cell BK215.out 3).trans rfl
       have hcz12_4 : wr.cell? ⟨gb215, 4, none⟩ = some (.int .i64 a0_4) := (blk_cell BK215.out 4).trans rfl
       have hcz12_5 : wr.cell? ⟨gb215, 5, none⟩ = some (.bool a0_5) := (blk_cell BK215.out 5).trans rfl
       have hfz12_0 := blk_frozen BK215.out 0
       have hfz12_1 := blk_frozen BK215.out 1
       have hfz12_2 := blk_frozen BK215.out 2
       have hfz12_3 := blk_frozen BK215.out 3
       have hfz12_4 := blk_frozen BK215.out 4
       have hfz12_5 := blk_frozen BK215.out 5
       go_wp2
       go_meet
       case rel => exact ⟨_, (false), (by first | rfl | (simp; done) | (simp [*]; done)), H', ⟨by have := HK1.out; first | omega | exact Nat.le_refl _⟩, ⟨by (with_reducible repeat (first | apply Kd.R_alloc | apply Kd.R_drewN | apply Kd.R_drew)); exact HO_5.out⟩, ⟨by (with_reducible repeat (first | refine blk_drewN ?_ _ | refine blk_drew ?_ | refine blk_alloc ?_ _)); exact BK215.out⟩, ⟨by repeat (first | (with_reducible first | exact HB.out | apply below_alloc | apply pw_below_drewN | apply below_drew1 | refine below_set ?_ GE215.out) | exact HB.out)⟩⟩
     ·rw [if_neg c8] at H
      exact absurd H (by simp)
    case rest =>
     clear HC7
     try clear c1
     try clear p2
     try clear c3
     try clear c3b0
     try clear c3b1
     try clear p6
     try clear c8
     try clear c8b0
     try clear c8b1
     try clear c10
     try clear c10b0
     try clear hcz11_0
     try clear hcz11_1
     try clear hcz11_2
     try clear hcz11_3
     try clear hcz11_4
     try clear hcz11_5
     try clear hcz12_0
     try clear hcz12_1
     try clear hcz12_2
     try clear hcz12_3
     try clear hcz12_4
     try clear hcz12_5
     try clear hcz5_0
     try clear hcz5_1
     try clear hcz5_2
     try clear hcz5_3
     try clear hcz5_4
     try clear hcz5_5
     try clear hfz11_0
     try clear hfz11_1
     try clear hfz11_2
     try clear hfz11_3
     try clear hfz11_4
     try clear hfz11_5
     try clear hfz12_0
     try clear hfz12_1
     try clear hfz12_2
     try clear hfz12_3
     try clear hfz12_4
     try clear hfz12_5
     try clear hfz5_0
     try clear hfz5_1
     try clear hfz5_2
     try clear hfz5_3
     try clear hfz5_4
     try clear hfz5_5
     try clear p2
     obtain ⟨kq, x22_6, rfl, HA, HJ6, HO_5, BK215, HB⟩ := hcut
     cases kq with
     | zero => exact absurd HA.out (by simp [plan_Passes.j1])
     | succ kj6 =>
      have H := HA.out
      clear HA
      simp only [plan_Passes.j1] at H
      by_cases c13 : x22_6 = true
      ·subst c13
       have H1 : (if a0_2 = 1 then (if x6_1 > 1 then (if x5_1.length < 8796093022208 then (plan_Passes.l0 kj6 (x5_1 ++ [(⟨4, x6_1⟩ : S59)]) (wrap64 (x6_1 * 4)) a0_0 a0_1 a0_2 a0_3 a0_4 a0_5) else (none)) else (if (Go.bits .and .i64 a0_1 1) = 0 then (if x5_1.length < 8796093022208 then (plan_Passes.l0 kj6 (x5_1 ++ [(⟨4, x6_1⟩ : S59)]) (wrap64 (x6_1 * 4)) a0_0 a0_1 a0_2 a0_3 a0_4 a0_5) else (none)) else (if x5_1.length < 8796093022208 then (plan_Passes.l0 kj6 (x5_1 ++ [(⟨2, x6_1⟩ : S59)]) (wrap64 (x6_1 * 2)) a0_0 a0_1 a0_2 a0_3 a0_4 a0_5) else (none)))) else (if x5_1.length < 8796093022208 then (plan_Passes.l0 kj6 (x5_1 ++ [(⟨2, x6_1⟩ : S59)]) (wrap64 (x6_1 * 2)) a0_0 a0_1 a0_2 a0_3 a0_4 a0_5) else (none))) = some (r1, r2) := by rw [if_pos rfl] at H; exact H
       clear H
       have H := H1
       clear H1
       by_cases c14 : a0_2 = 1
       ·rw [if_pos c14] at H
        have c14b0 : (a0_2 == 1) = true := beq_iff_eq.mpr c14
        have c14b1 : (a0_2 != 1) = false := bne_eq_false_iff_eq.mpr c14
        clear c14
        by_cases c15 : x6_1 > 1
        ·rw [if_pos c15] at H
         have c15b0 : decide (1 < x6_1) = true := decide_eq_true c15
         clear c15
         by_cases c16 : x5_1.length < 8796093022208
         ·rw [if_pos c16] at H
          have LMc16 := Aside0.mk c16
          clear c16
          obtain ⟨y217, hy217⟩ : ∃ y_ : List (S59), y_ = (x5_1 ++ [(⟨4, x6_1⟩ : S59)]) := ⟨_, rfl⟩
          replace H : (plan_Passes.l0 kj6 y217 (wrap64 (x6_1 * 4)) a0_0 a0_1 a0_2 a0_3 a0_4 a0_5) = some (r1, r2) := by first | (rw [hy217]; with_reducible exact H) | (have H2_ := (Option.bind_some _ _).symm.trans H; rw [hy217]; with_reducible exact H2_) | (have H2_ := (Option.bind_some _ _).symm.trans H; with_reducible exact H2_) | with_reducible exact H | (rw [hy217]; exact H) | exact H
          have Ny217 := Aside0.mk hy217
          clear hy217
          have H' := Aside0.mk H
          clear H
          have hcz17_0 : wc.cell? ⟨gb215, 0, none⟩ = some (.int .i64 a0_0) := (blk_cell BK215.out 0).trans rfl
          have hcz17_1 : wc.cell? ⟨gb215, 1, none⟩ = some (.int .i64 a0_1) := (blk_cell BK215.out 1).trans rfl
          have hcz17_2 : wc.cell? ⟨gb215, 2, none⟩ = some (.int .i64 a0_2) := (blk_cell BK215.out 2).trans rfl
          have hcz17_3 : wc.cell? ⟨gb215, 3, none⟩ = some (.int .i64 a0_3) := (blk_cell BK215.out 3).trans rfl
          have hcz17_4 : wc.cell? ⟨gb215, 4, none⟩ = some (.int .i64 a0_4) := (blk_cell BK215.out 4).trans rfl
          have hcz17_5 : wc.cell? ⟨gb215, 5, none⟩ = some (.bool a0_5) := (blk_cell BK215.out 5).trans rfl
          have hfz17_0 := blk_frozen BK215.out 0
          have hfz17_1 := blk_frozen BK215.out 1
          have hfz17_2 := blk_frozen BK215.out 2
          have hfz17_3 := blk_frozen BK215.out 3
          have hfz17_4 := blk_frozen BK215.out 4
          have hfz17_5 := blk_frozen BK215.out 5
          go_wp2_with (first | ((with_reducible refine gate_builtin (b := .append) (xs := #[.tmp 36, .tmp 40]) rfl ?_); at_builtin; refine Kd.R_append k59 (w0 := w) w.heap.size rfl (.tmp 36) (.tmp 40) 50 59 (.agg #[(.int .i64 0), (.int .i64 0)]) 16 rfl Tryz.underlying50 info59 rfl (by decide) (by omega) u5 x5_1 (⟨4, x6_1⟩ : S59) [.int .i64 4, .int .i64 x6_1] (fun _ => True) (fun _ => False) rfl rfl ?aP (fun _ hk => hk.elim) ?aF ?aO ?aB ?aS ?aL ?_; (case aP => exact k59_mkM _ _ _ (⟨4, x6_1⟩ : S59)); (case aB => exact (by repeat (first | (with_reducible first | exact HB.out | apply below_alloc | apply pw_below_drewN | apply below_drew1 | refine below_set ?_ GE215.out) | exact HB.out))); (case aF => exact (fun _ _ => trivial)); (case aO => exact (by (with_reducible repeat (first | apply Kd.R_alloc | apply Kd.R_drewN | apply Kd.R_drew)); exact HO_5.out)); (case aS => exact (below_size (by repeat (first | (with_reducible first | exact HB.out | apply below_alloc | apply pw_below_drewN | apply below_drew1 | refine below_set ?_ GE215.out) | exact HB.out)))); (case aL => have := LMc16.out; omega); intro v218 w18 ho hb hg hat; rw [← Ny217.out] at ho; have n0_ := Aside0.mk (blk_grown (g := gb215) (o := .cells #[.int .i64 a0_0, .int .i64 a0_1, .int .i64 a0_2, .int .i64 a0_3, .int .i64 a0_4, .bool a0_5] 24 (0, 0)) (by (with_reducible repeat (first | refine blk_drewN ?_ _ | refine blk_drew ?_ | refine blk_alloc ?_ _)); exact BK215.out) hg (Kd.R_ne HO_5.out BK215.out (by decide))); have n1_ := Aside0.mk (hb); have n2_ := Aside0.mk (ho); clear BK215; clear HB; clear HO_5; have BK215 := n0_; have HB := n1_; have HO219 := n2_; clear n0_ n1_ n2_; clear ho hb hg hat))
          go_roundg kj6
          case measure => have := HK1.out; have := HJ6.out; omega
          case rel => exact ⟨(y217), (wrap64 (x6_1 * 4)), (by first | rfl | (simp; done) | (simp [*]; done)), H', ⟨by have := HK1.out; have := HJ6.out; omega⟩, ⟨by (with_reducible repeat (first | apply Kd.R_alloc | apply Kd.R_drewN | apply Kd.R_drew)); exact HO219.out⟩, ⟨by (with_reducible repeat (first | refine blk_drewN ?_ _ | refine blk_drew ?_ | refine blk_alloc ?_ _)); exact BK215.out⟩, ⟨by repeat (first | (with_reducible first | exact HB.out | apply below_alloc | apply pw_below_drewN | apply below_drew1 | refine below_set ?_ GE215.out) | exact HB.out)⟩⟩
         ·rw [if_neg c16] at H
          exact absurd H (by simp)
        ·rw [if_neg c15] at H
         have c15b0 : decide (1 < x6_1) = false := decide_eq_false c15
         clear c15
         by_cases c19 : (Go.bits .and .i64 a0_1 1) = 0
         ·rw [if_pos c19] at H
          have c19b0 : ((Go.bits .and .i64 a0_1 1) == 0) = true := beq_iff_eq.mpr c19
          have c19b1 : ((Go.bits .and .i64 a0_1 1) != 0) = false := bne_eq_false_iff_eq.mpr c19
          clear c19
          by_cases c20 : x5_1.length < 8796093022208
          ·rw [if_pos c20] at H
           have LMc20 := Aside0.mk c20
           clear c20
           obtain ⟨y220, hy220⟩ : ∃ y_ : List (S59), y_ = (x5_1 ++ [(⟨4, x6_1⟩ : S59)]) := ⟨_, rfl⟩
           replace H : (plan_Passes.l0 kj6 y220 (wrap64 (x6_1 * 4)) a0_0 a0_1 a0_2 a0_3 a0_4 a0_5) = some (r1, r2) := by first | (rw [hy220]; with_reducible exact H) | (have H2_ := (Option.bind_some _ _).symm.trans H; rw [hy220]; with_reducible exact H2_) | (have H2_ := (Option.bind_some _ _).symm.trans H; with_reducible exact H2_) | with_reducible exact H | (rw [hy220]; exact H) | exact H
           have Ny220 := Aside0.mk hy220
           clear hy220
           have H' := Aside0.mk H
           clear H
           have hcz21_0 : wc.cell? ⟨gb215, 0, none⟩ = some (.int .i64 a0_0) := (blk_cell BK215.out 0).trans rfl
           have hcz21_1 : wc.cell? ⟨gb215, 1, none⟩ = some (.int .i64 a0_1) := (blk_cell BK215.out 1).trans rfl
           have hcz21_2 : wc.cell? ⟨gb215, 2, none⟩ = some (.int .i64 a0_2) := (blk_cell BK215.out 2).trans rfl
           have hcz21_3 : wc.cell? ⟨gb215, 3, none⟩ = some (.int .i64 a0_3) := (blk_cell BK215.out 3).trans rfl
           have hcz21_4 : wc.cell? ⟨gb215, 4, none⟩ = some (.int .i64 a0_4) := (blk_cell BK215.out 4).trans rfl
           have hcz21_5 : wc.cell? ⟨gb215, 5, none⟩ = some (.bool a0_5) := (blk_cell BK215.out 5).trans rfl
           have hfz21_0 := blk_frozen BK215.out 0
           have hfz21_1 := blk_frozen BK215.out 1
           have hfz21_2 := blk_frozen BK215.out 2
           have hfz21_3 := blk_frozen BK215.out 3
           have hfz21_4 := blk_frozen BK215.out 4
           have hfz21_5 := blk_frozen BK215.out 5
           go_wp2_with (first | ((with_reducible refine gate_builtin (b := .append) (xs := #[.tmp 36, .tmp 40]) rfl ?_); at_builtin; refine Kd.R_append k59 (w0 := w) w.heap.size rfl (.tmp 36) (.tmp 40) 50 59 (.agg #[(.int .i64 0), (.int .i64 0)]) 16 rfl Tryz.underlying50 info59 rfl (by decide) (by omega) u5 x5_1 (⟨4, x6_1⟩ : S59) [.int .i64 4, .int .i64 x6_1] (fun _ => True) (fun _ => False) rfl rfl ?aP (fun _ hk => hk.elim) ?aF ?aO ?aB ?aS ?aL ?_; (case aP => exact k59_mkM _ _ _ (⟨4, x6_1⟩ : S59)); (case aB => exact (by repeat (first | (with_reducible first | exact HB.out | apply below_alloc | apply pw_below_drewN | apply below_drew1 | refine below_set ?_ GE215.out) | exact HB.out))); (case aF => exact (fun _ _ => trivial)); (case aO => exact (by (with_reducible repeat (first | apply Kd.R_alloc | apply Kd.R_drewN | apply Kd.R_drew)); exact HO_5.out)); (case aS => exact (below_size (by repeat (first | (with_reducible first | exact HB.out | apply below_alloc | apply pw_below_drewN | apply below_drew1 | refine below_set ?_ GE215.out) | exact HB.out)))); (case aL => have := LMc20.out; omega); intro v221 w22 ho hb hg hat; rw [← Ny220.out] at ho; have n0_ := Aside0.mk (blk_grown (g := gb215) (o := .cells #[.int .i64 a0_0, .int .i64 a0_1, .int .i64 a0_2, .int .i64 a0_3, .int .i64 a0_4, .bool a0_5] 24 (0, 0)) (by (with_reducible repeat (first | refine blk_drewN ?_ _ | refine blk_drew ?_ | refine blk_alloc ?_ _)); exact BK215.out) hg (Kd.R_ne HO_5.out BK215.out (by decide))); have n1_ := Aside0.mk (hb); have n2_ := Aside0.mk (ho); clear BK215; clear HB; clear HO_5; have BK215 := n0_; have HB := n1_; have HO222 := n2_; clear n0_ n1_ n2_; clear ho hb hg hat))
           go_roundg kj6
           case measure => have := HK1.out; have := HJ6.out; omega
           case rel => exact ⟨(y220), (wrap64 (x6_1 * 4)), (by first | rfl | (simp; done) | (simp [*]; done)), H', ⟨by have := HK1.out; have := HJ6.out; omega⟩, ⟨by (with_reducible repeat (first | apply Kd.R_alloc | apply Kd.R_drewN | apply Kd.R_drew)); exact HO222.out⟩, ⟨by (with_reducible repeat (first | refine blk_drewN ?_ _ | refine blk_drew ?_ | refine blk_alloc ?_ _)); exact BK215.out⟩, ⟨by repeat (first | (with_reducible first | exact HB.out | apply below_alloc | apply pw_below_drewN | apply below_drew1 | refine below_set ?_ GE215.out) | exact HB.out)⟩⟩
          ·rw [if_neg c20] at H
           exact absurd H (by simp)
         ·rw [if_neg c19] at H
          have c19b0 : ((Go.bits .and .i64 a0_1 1) == 0) = false := beq_eq_false_iff_ne.mpr c19
          have c19b1 : ((Go.bits .and .i64 a0_1 1) != 0) = true := bne_iff_ne.mpr c19
          by_cases c23 : x5_1.length < 8796093022208
          ·rw [if_pos c23] at H
           have LMc23 := Aside0.mk c23
           clear c23
           obtain ⟨y223, hy223⟩ : ∃ y_ : List (S59), y_ = (x5_1 ++ [(⟨2, x6_1⟩ : S59)]) := ⟨_, rfl⟩
           replace H : (plan_Passes.l0 kj6 y223 (wrap64 (x6_1 * 2)) a0_0 a0_1 a0_2 a0_3 a0_4 a0_5) = some (r1, r2) := by first | (rw [hy223]; with_reducible exact H) | (have H2_ := (Option.bind_some _ _).symm.trans H; rw [hy223]; with_reducible exact H2_) | (have H2_ := (Option.bind_some _ _).symm.trans H; with_reducible exact H2_) | with_reducible exact H | (rw [hy223]; exact H) | exact H
           have Ny223 := Aside0.mk hy223
           clear hy223
           have H' := Aside0.mk H
           clear H
           have hcz24_0 : wc.cell? ⟨gb215, 0, none⟩ = some (.int .i64 a0_0) := (blk_cell BK215.out 0).trans rfl
           have hcz24_1 : wc.cell? ⟨gb215, 1, none⟩ = some (.int .i64 a0_1) := (blk_cell BK215.out 1).trans rfl
           have hcz24_2 : wc.cell? ⟨gb215, 2, none⟩ = some (.int .i64 a0_2) := (blk_cell BK215.out 2).trans rfl
           have hcz24_3 : wc.cell? ⟨gb215, 3, none⟩ = some (.int .i64 a0_3) := (blk_cell BK215.out 3).trans rfl
           have hcz24_4 : wc.cell? ⟨gb215, 4, none⟩ = some (.int .i64 a0_4) := (blk_cell BK215.out 4).trans rfl
           have hcz24_5 : wc.cell? ⟨gb215, 5, none⟩ = some (.bool a0_5) := (blk_cell BK215.out 5).trans rfl
           have hfz24_0 := blk_frozen BK215.out 0
           have hfz24_1 := blk_frozen BK215.out 1
           have hfz24_2 := blk_frozen BK215.out 2
           have hfz24_3 := blk_frozen BK215.out 3
           have hfz24_4 := blk_frozen BK215.out 4
           have hfz24_5 := blk_frozen BK215.out 5
           go_wp2_with (first | ((with_reducible refine gate_builtin (b := .append) (xs := #[.tmp 36, .tmp 40]) rfl ?_); at_builtin; refine Kd.R_append k59 (w0 := w) w.heap.size rfl (.tmp 36) (.tmp 40) 50 59 (.agg #[(.int .i64 0), (.int .i64 0)]) 16 rfl Tryz.underlying50 info59 rfl (by decide) (by omega) u5 x5_1 (⟨2, x6_1⟩ : S59) [.int .i64 2, .int .i64 x6_1] (fun _ => True) (fun _ => False) rfl rfl ?aP (fun _ hk => hk.elim) ?aF ?aO ?aB ?aS ?aL ?_; (case aP => exact k59_mkM _ _ _ (⟨2, x6_1⟩ : S59)); (case aB => exact (by repeat (first | (with_reducible first | exact HB.out | apply below_alloc | apply pw_below_drewN | apply below_drew1 | refine below_set ?_ GE215.out) | exact HB.out))); (case aF => exact (fun _ _ => trivial)); (case aO => exact (by (with_reducible repeat (first | apply Kd.R_alloc | apply Kd.R_drewN | apply Kd.R_drew)); exact HO_5.out)); (case aS => exact (below_size (by repeat (first | (with_reducible first | exact HB.out | apply below_alloc | apply pw_below_drewN | apply below_drew1 | refine below_set ?_ GE215.out) | exact HB.out)))); (case aL => have := LMc23.out; omega); intro v224 w25 ho hb hg hat; rw [← Ny223.out] at ho; have n0_ := Aside0.mk (blk_grown (g := gb215) (o := .cells #[.int .i64 a0_0, .int .i64 a0_1, .int .i64 a0_2, .int .i64 a0_3, .int .i64 a0_4, .bool a0_5] 24 (0, 0)) (by (with_reducible repeat (first | refine blk_drewN ?_ _ | refine blk_drew ?_ | refine blk_alloc ?_ _)); exact BK215.out) hg (Kd.R_ne HO_5.out BK215.out (by decide))); have n1_ := Aside0.mk (hb); have n2_ := Aside0.mk (ho); clear BK215; clear HB; clear HO_5; have BK215 := n0_; have HB := n1_; have HO225 := n2_; clear n0_ n1_ n2_; clear ho hb hg hat))
           go_roundg kj6
           case measure => have := HK1.out; have := HJ6.out; omega
           case rel => exact ⟨(y223), (wrap64 (x6_1 * 2)), (by first | rfl | (simp; done) | (simp [*]; done)), H', ⟨by have := HK1.out; have := HJ6.out; omega⟩, ⟨by (with_reducible repeat (first | apply Kd.R_alloc | apply Kd.R_drewN | apply Kd.R_drew)); exact HO225.out⟩, ⟨by (with_reducible repeat (first | refine blk_drewN ?_ _ | refine blk_drew ?_ | refine blk_alloc ?_ _)); exact BK215.out⟩, ⟨by repeat (first | (with_reducible first | exact HB.out | apply below_alloc | apply pw_below_drewN | apply below_drew1 | refine below_set ?_ GE215.out) | exact HB.out)⟩⟩
          ·rw [if_neg c23] at H
           exact absurd H (by simp)
       ·rw [if_neg c14] at H
        have c14b0 : (a0_2 == 1) = false := beq_eq_false_iff_ne.mpr c14
        have c14b1 : (a0_2 != 1) = true := bne_iff_ne.mpr c14
        by_cases c26 : x5_1.length < 8796093022208
        ·rw [if_pos c26] at H
         have LMc26 := Aside0.mk c26
         clear c26
         obtain ⟨y226, hy226⟩ : ∃ y_ : List (S59), y_ = (x5_1 ++ [(⟨2, x6_1⟩ : S59)]) := ⟨_, rfl⟩
         replace H : (plan_Passes.l0 kj6 y226 (wrap64 (x6_1 * 2)) a0_0 a0_1 a0_2 a0_3 a0_4 a0_5) = some (r1, r2) := by first | (rw [hy226]; with_reducible exact H) | (have H2_ := (Option.bind_some _ _).symm.trans H; rw [hy226]; with_reducible exact H2_) | (have H2_ := (Option.bind_some _ _).symm.trans H; with_reducible exact H2_) | with_reducible exact H | (rw [hy226]; exact H) | exact H
         have Ny226 := Aside0.mk hy226
         clear hy226
         have H' := Aside0.mk H
         clear H
         have hcz27_0 : wc.cell? ⟨gb215, 0, none⟩ = some (.int .i64 a0_0) := (blk_cell BK215.out 0).trans rfl
         have hcz27_1 : wc.cell? ⟨gb215, 1, none⟩ = some (.int .i64 a0_1) := (blk_cell BK215.out 1).trans rfl
         have hcz27_2 : wc.cell? ⟨gb215, 2, none⟩ = some (.int .i64 a0_2) := (blk_cell BK215.out 2).trans rfl
         have hcz27_3 : wc.cell? ⟨gb215, 3, none⟩ = some (.int .i64 a0_3) := (blk_cell BK215.out 3).trans rfl
         have hcz27_4 : wc.cell? ⟨gb215, 4, none⟩ = some (.int .i64 a0_4) := (blk_cell BK215.out 4).trans rfl
         have hcz27_5 : wc.cell? ⟨gb215, 5, none⟩ = some (.bool a0_5) := (blk_cell BK215.out 5).trans rfl
         have hfz27_0 := blk_frozen BK215.out 0
         have hfz27_1 := blk_frozen BK215.out 1
         have hfz27_2 := blk_frozen BK215.out 2
         have hfz27_3 := blk_frozen BK215.out 3
         have hfz27_4 := blk_frozen BK215.out 4
         have hfz27_5 := blk_frozen BK215.out 5
         go_wp2_with (first | ((with_reducible refine gate_builtin (b := .append) (xs := #[.tmp 36, .tmp 40]) rfl ?_); at_builtin; refine Kd.R_append k59 (w0 := w) w.heap.size rfl (.tmp 36) (.tmp 40) 50 59 (.agg #[(.int .i64 0), (.int .i64 0)]) 16 rfl Tryz.underlying50 info59 rfl (by decide) (by omega) u5 x5_1 (⟨2, x6_1⟩ : S59) [.int .i64 2, .int .i64 x6_1] (fun _ => True) (fun _ => False) rfl rfl ?aP (fun _ hk => hk.elim) ?aF ?aO ?aB ?aS ?aL ?_; (case aP => exact k59_mkM _ _ _ (⟨2, x6_1⟩ : S59)); (case aB => exact (by repeat (first | (with_reducible first | exact HB.out | apply below_alloc | apply pw_below_drewN | apply below_drew1 | refine below_set ?_ GE215.out) | exact HB.out))); (case aF => exact (fun _ _ => trivial)); (case aO => exact (by (with_reducible repeat (first | apply Kd.R_alloc | apply Kd.R_drewN | apply Kd.R_drew)); exact HO_5.out)); (case aS => exact (below_size (by repeat (first | (with_reducible first | exact HB.out | apply below_alloc | apply pw_below_drewN | apply below_drew1 | refine below_set ?_ GE215.out) | exact HB.out)))); (case aL => have := LMc26.out; omega); intro v227 w28 ho hb hg hat; rw [← Ny226.out] at ho; have n0_ := Aside0.mk (blk_grown (g := gb215) (o := .cells #[.int .i64 a0_0, .int .i64 a0_1, .int .i64 a0_2, .int .i64 a0_3, .int .i64 a0_4, .bool a0_5] 24 (0, 0)) (by (with_reducible repeat (first | refine blk_drewN ?_ _ | refine blk_drew ?_ | refine blk_alloc ?_ _)); exact BK215.out) hg (Kd.R_ne HO_5.out BK215.out (by decide))); have n1_ := Aside0.mk (hb); have n2_ := Aside0.mk (ho); clear BK215; clear HB; clear HO_5; have BK215 := n0_; have HB := n1_; have HO228 := n2_; clear n0_ n1_ n2_; clear ho hb hg hat))
         go_roundg kj6
         case measure => have := HK1.out; have := HJ6.out; omega
         case rel => exact ⟨(y226), (wrap64 (x6_1 * 2)), (by first | rfl | (simp; done) | (simp [*]; done)), H', ⟨by have := HK1.out; have := HJ6.out; omega⟩, ⟨by (with_reducible repeat (first | apply Kd.R_alloc | apply Kd.R_drewN | apply Kd.R_drew)); exact HO228.out⟩, ⟨by (with_reducible repeat (first | refine blk_drewN ?_ _ | refine blk_drew ?_ | refine blk_alloc ?_ _)); exact BK215.out⟩, ⟨by repeat (first | (with_reducible first | exact HB.out | apply below_alloc | apply pw_below_drewN | apply below_drew1 | refine below_set ?_ GE215.out) | exact HB.out)⟩⟩
        ·rw [if_neg c26] at H
         exact absurd H (by simp)
      ·replace c13 := Bool.eq_false_iff.mpr c13
       subst c13
       have H1 : (some (x5_1, 0)) = some (r1, r2) := by rw [if_neg (show ¬ (false = true) by decide)] at H; exact H
       clear H
       have H := H1
       clear H1
       simp only [Option.some.injEq, Prod.mk.injEq] at H
       obtain ⟨rfl, rfl⟩ := H
       go_wp2
       go_ret2
       exact ⟨_, by first | rfl | (simp [errW_none, errW_some] <;> rfl) | (simp [*, errW_none, errW_some] <;> rfl), by (with_reducible repeat (first | apply Kd.R_alloc | apply Kd.R_drewN | apply Kd.R_drew)); exact HO_5.out, by repeat (first | (with_reducible first | exact HB.out | apply below_alloc | apply pw_below_drewN | apply below_drew1 | refine below_set ?_ GE215.out) | exact HB.out)⟩
 ·rw [if_neg c3] at H
  have c3b0 : (t216 == 0) = false := beq_eq_false_iff_ne.mpr c3
  have c3b1 : (t216 != 0) = true := bne_iff_ne.mpr c3
  simp only [Option.some.injEq, Prod.mk.injEq] at H
  obtain ⟨rfl, rfl⟩ := H
  go_enter Tryz.func18, Tryz.ntmps18
  go_wp2_with (first | ((with_reducible refine gate_dst (N := 1) rfl ?_); refine box_event ?hg (N := 1) ?hd (cs := #[.int .i64 a0_0, .int .i64 a0_1, .int .i64 a0_2, .int .i64 a0_3, .int .i64 a0_4, .bool a0_5]) (t := 24) ?hr ?_; (case hd => rfl); (case hg => rfl); (case hr => first | (go_simp; done) | (go_simp; rfl)); intro gb215 hg w29 hbox hb; have n0_ := Aside0.mk (below_step (by repeat (first | (with_reducible first | exact HB.out | apply below_alloc | apply pw_below_drewN | apply below_drew1) | exact HB.out)) hb); have n1_ := Aside0.mk (hbox); have n2_ := Aside0.mk ((by rw [hg]; exact (below_size (by repeat (first | (with_reducible first | exact HB.out | apply below_alloc | apply pw_below_drewN | apply below_drew1) | exact HB.out))) : w.heap.size ≤ gb215)); have n3_ := Aside0.mk ((by rw [hg]; exact (below_size (by repeat (first | (with_reducible first | exact HB.out | apply below_alloc | apply pw_below_drewN | apply below_drew1) | exact HB.out))) : w.heap.size ≤ gb215)); clear HB; have HB := n0_; have BK215 := n1_; have GW215 := n2_; have GE215 := n3_; clear n0_ n1_ n2_ n3_; clear hb hbox hg; have hcz30_0 : w29.cell? ⟨gb215, 0, none⟩ = some (.int .i64 a0_0) := (blk_cell BK215.out 0).trans rfl; have hcz30_1 : w29.cell? ⟨gb215, 1, none⟩ = some (.int .i64 a0_1) := (blk_cell BK215.out 1).trans rfl; have hcz30_2 : w29.cell? ⟨gb215, 2, none⟩ = some (.int .i64 a0_2) := (blk_cell BK215.out 2).trans rfl; have hcz30_3 : w29.cell? ⟨gb215, 3, none⟩ = some (.int .i64 a0_3) := (blk_cell BK215.out 3).trans rfl; have hcz30_4 : w29.cell? ⟨gb215, 4, none⟩ = some (.int .i64 a0_4) := (blk_cell BK215.out 4).trans rfl; have hcz30_5 : w29.cell? ⟨gb215, 5, none⟩ = some (.bool a0_5) := (blk_cell BK215.out 5).trans rfl; have hfz30_0 := blk_frozen BK215.out 0; have hfz30_1 := blk_frozen BK215.out 1; have hfz30_2 := blk_frozen BK215.out 2; have hfz30_3 := blk_frozen BK215.out 3; have hfz30_4 := blk_frozen BK215.out 4; have hfz30_5 := blk_frozen BK215.out 5) | ((with_reducible refine gate_callee (f := 37) rfl ?_); refine goesL_ (some 9) rfl rfl Tryz.func37 (by kernel_rfl) rfl #[.agg #[.int .i64 a0_0, .int .i64 a0_1, .int .i64 a0_2, .int .i64 a0_3, .int .i64 a0_4, .bool a0_5]] rfl (by (try simp only [List.map_toArray, List.map_cons, List.map_nil]); first | done | rfl | (simp only [List.length_drop, List.length_take]; rfl)) ?_; (with_reducible refine (plan_Check.calls a0_0 a0_1 a0_2 a0_3 a0_4 a0_5 t216 _ A2.out).mono ?_); rintro e w31 ⟨rfl, hb⟩; refine ⟨_, rfl, ?_⟩; have n0_ := Aside0.mk (blk_below (g := gb215) (o := .cells #[.int .i64 a0_0, .int .i64 a0_1, .int .i64 a0_2, .int .i64 a0_3, .int .i64 a0_4, .bool a0_5] 24 (0, 0)) (by (with_reducible repeat (first | refine blk_drewN ?_ _ | refine blk_drew ?_ | refine blk_alloc ?_ _)); exact BK215.out) hb); have n1_ := Aside0.mk (below_step (by repeat (first | (with_reducible first | exact HB.out | apply below_alloc | apply pw_below_drewN | apply below_drew1 | refine below_set ?_ GE215.out) | exact HB.out)) hb); clear BK215; clear HB; have BK215 := n0_; have HB := n1_; clear n0_ n1_; (try clear hb); (try clear hb2); (try clear hk); (try clear hi)))
  go_ret2
  exact ⟨_, by first | rfl | (simp [errW_none, errW_some] <;> rfl) | (simp [*, errW_none, errW_some] <;> rfl), by first | exact Kd.R_nil _ _ _ _ _ | exact Kd.N_nil _ _ _ _ _ | exact Kd.V_nil _ _ _ _ _ | exact Kd.Q_nil _ _ _ _ _ | exact Kd.S_nil _ _ _ _ _, by repeat (first | (with_reducible first | exact HB.out | apply below_alloc | apply pw_below_drewN | apply below_drew1 | refine below_set ?_ GE215.out) | exact HB.out)⟩

end Go.Proofs.YteieahbadclppaaGreat.P

namespace Go.Proofs.YteieahbadclppaaGreat.P
open Go.RowKit Go.Proofs.YteieahbadclppaaGreatW.PrintWords Go.Proofs.YteieahbadclppaaGreatW.PrintLast Go.Proofs.YteieahbadclppaaGreatW.PrintMore
attribute [local go_sem] max2_int min2_int max_two min_two
set_option linter.unusedVariables false
set_option linter.unusedSimpArgs false
theorem size59p (a b : Value) : (Tryz.prog.info? 59).map (·.size) = some (#[a, b] : Array Value).size := by kernel_rfl
def NextSays (RUN : Option Addr → Nat → Array Value) (L : List S38) (n k : Nat) (Y Y' : List S38) (e e' : Int) (ps : S59) : Prop :=
 ∀ (W : World) (Ax : Option Addr) (cx : Nat) (As : Option Addr) (cs : Nat) (sh : List Int) (Aw : Option Addr) (cw : Nat), Kd.C k38 W Ax Y.length Y → Y.length ≤ cx → Kd.C (Kd.int .i64) W As sh.length sh → sh.length ≤ cs → sh.length = k → Kd.C k38 W Aw L.length L → L.length ≤ cw →
  Calls Tryz.prog 20 #[.agg (RUN Aw cw), .agg #[.slice Ax n cx, .int .i64 e, .bool false, .slice As k cs], .agg #[.int .i64 ps.f0, .int .i64 ps.f1]] W fun r w' => ∃ A' c' As' cs' sh', r = .returned (.agg #[.slice A' n c', .int .i64 e', .bool false, .slice As' (k + 1) cs']) ∧ Kd.R k38 38 w' W.heap.size (fun _ => True) (.slice A' n c') Y' ∧ Kd.R (Kd.int .i64) 3 w' W.heap.size (fun _ => True) (.slice As' (k + 1) cs') sh' ∧ Below W.heap.size W w'
theorem R_int_C {e base : Nat} {ok : Nat → Prop} {w : World} {A : Option Addr} {n c : Nat} {xs : List Int} (h : Kd.R (Kd.int .i64) e w base ok (.slice A n c) xs) : xs.length = n ∧ xs.length ≤ c ∧ Kd.C (Kd.int .i64) w A xs.length xs := by
 obtain ⟨A', c', hv, h1, h2⟩ := Kd.R_reads h
 injection hv with e1 e2 e3
 subst e1; subst e3
 exact ⟨e2.symm, h1, h2⟩
theorem R_othN {α : Type} {d : Kd α} (hE : d.E = []) {e base g : Nat} {ok : Nat → Prop} {W w1 : World} {v : Value} {xs : List α} (h : d.R e W base ok v xs) (hw : ∀ k, k ≠ g → w1.heap[k]? = W.heap[k]?) (hne : some g ≠ v.ownBlock) : d.R e w1 base ok v xs :=
 Kd.R_mono (Kd.R_step (Kd.R_tight hE h) (fun k hk _ => hw k (fun e_ => hne (by rw [← e_]; exact hk)))) (fun k hk => h.1 k hk.symm)
theorem R59_C {e base : Nat} {ok : Nat → Prop} {w : World} {A : Option Addr} {n c : Nat} {xs : List S59} (h : Kd.R k59 e w base ok (.slice A n c) xs) : Kd.C k59 w A xs.length xs := by
 obtain ⟨A', c', hv, h1, h2⟩ := Kd.R_reads h
 injection hv with e1 e2 e3
 subst e1
 exact h2
theorem R_len {e base : Nat} {ok : Nat → Prop} {w : World} {A : Option Addr} {n c : Nat} {xs : List S38} (h : Kd.R k38 e w base ok (.slice A n c) xs) : xs.length = n := by
 obtain ⟨A', c', hv, h1, h2⟩ := Kd.R_reads h
 injection hv with e1 e2 e3
 exact e2.symm
theorem NextSays.go {RUN : Option Addr → Nat → Array Value} {L : List S38} {n k : Nat} {Y Y' : List S38} {e e' : Int} {ps : S59} (h : NextSays RUN L n k Y Y' e e' ps) {b1 b2 b3 cx cs cw : Nat} {o1 o2 o3 : Nat → Prop} {W : World} {Ax As Aw : Option Addr} {sh : List Int}
  (hy : Kd.R k38 38 W b1 o1 (.slice Ax n cx) Y) (hs : Kd.R (Kd.int .i64) 3 W b2 o2 (.slice As k cs) sh) (hw : Kd.R k38 38 W b3 o3 (.slice Aw L.length cw) L) :
  Calls Tryz.prog 20 #[.agg (RUN Aw cw), .agg #[.slice Ax n cx, .int .i64 e, .bool false, .slice As k cs], .agg #[.int .i64 ps.f0, .int .i64 ps.f1]] W fun r w' => ∃ A' c' As' cs' sh', r = .returned (.agg #[.slice A' n c', .int .i64 e', .bool false, .slice As' (k + 1) cs']) ∧ Kd.R k38 38 w' W.heap.size (fun _ => True) (.slice A' n c') Y' ∧ Kd.R (Kd.int .i64) 3 w' W.heap.size (fun _ => True) (.slice As' (k + 1) cs') sh' ∧ Below W.heap.size W w' :=
 h W Ax cx As cs sh Aw cw (R_C hy).2 (R_C hy).1 (R_int_C hs).2.2 (R_int_C hs).2.1 (R_int_C hs).1 (R_C hw).2 (R_C hw).1
set_option maxRecDepth 100000 in
set_option maxHeartbeats 4000000 in
theorem Run_loop_02 (p1 p2 p4 : Int) (p5 : Bool) (L : List S38) (A : Option Addr) (c : Nat) (l : List S38) (n kp : Nat) (ps : List S59) (Y : Nat → List S38) (EX : Nat → Int) (h2 : (p2 == 2) = false) (w : World) (hr : Kd.C k38 w A l.length l) (hm : ps.length ≤ 10) (hE : EX 0 = 0)
  (htw : roots_Twiddles.f p1 0 = some (L, 0)) (hps : plan_Passes.f kp 0 p1 p2 2 p4 p5 = some (ps, 0))
  (hrd : ∀ W : World, Kd.C k38 W A l.length l → Calls Tryz.prog 16 #[.slice A l.length c, .agg #[.int .i64 0, .int .i64 p1, .int .i64 p2, .int .i64 2, .int .i64 p4, .bool p5]] W fun e w' => ∃ A' c', e = .returned (.tuple #[.agg #[.slice A' n c', .int .i64 0, .bool false, .slice none 0 0], .int .i64 0]) ∧ Kd.R k38 38 w' W.heap.size (fun _ => True) (.slice A' n c') (Y 0) ∧ Below W.heap.size W w')
  (hnx : ∀ k, k < ps.length → NextSays (fun Aw cw => #[.int .i64 0, .int .i64 p1, .int .i64 p2, .int .i64 2, .int .i64 p4, .bool p5, .iface 100 (.agg #[]), .int .i64 15, .slice Aw L.length cw]) L n k (Y k) (Y (k + 1)) (EX k) (EX (k + 1)) (ps.getD k z59)) :
  Calls Tryz.prog 7 #[.slice A l.length c, .agg (planC 0 p1 p2 2 p4 p5)] w fun e w' => ∃ A' c' As' cs', e = .returned (.tuple #[.agg #[.slice A' n c', .int .i64 (EX ps.length), .bool false, .slice As' ps.length cs'], .int .i64 0]) ∧ Kd.R k38 38 w' w.heap.size (fun _ => True) (.slice A' n c') (Y ps.length) ∧ Below w.heap.size w w' := by
 have HR := Lib.hid hr
 have HRD := Lib.hid hrd
 have HNXA := Lib.hid hnx
 have HBI := Lib.hid (show sat_Bits.f 0 = some (15, 0) from rfl)
 have HTW := Lib.hid htw
 have HPS := Lib.hid hps
 have HE := Lib.hid hE
 have HB0 := Lib.hid (Below.refl w.heap.size w)
 clear hr hrd hnx htw hps hE
 unfold planC
 go_enter Tryz.func7, Tryz.ntmps7
 go_wp2_with (first
  | ((with_reducible refine gate_dst (N := 3) rfl ?_); refine box_event ?hg (N := 3) ?hd (cs := #[.int .i64 0, .int .i64 p1, .int .i64 p2, .int .i64 2, .int .i64 p4, .bool p5]) (t := 24) ?hr ?_; (case hd => rfl); (case hg => rfl); (case hr => first | (go_simp; done) | (go_simp; rfl)); intro g3 hg W1 hbox hbl; have L3 : w.heap.size ≤ g3 := (by rw [hg]; exact below_size HB0.out); have B3_1 := Lib.hid hbox; have HB_1 := Lib.hid (below_step HB0.out hbl); have Cx_1 := Lib.hid (Kd.C_below HR.out HB_1.out); have k3_0_1 : W1.cell? ⟨g3, 0, none⟩ = some (.int .i64 0) := (blk_cell B3_1.out 0).trans rfl; have k3_1_1 : W1.cell? ⟨g3, 1, none⟩ = some (.int .i64 p1) := (blk_cell B3_1.out 1).trans rfl; have k3_2_1 : W1.cell? ⟨g3, 2, none⟩ = some (.int .i64 p2) := (blk_cell B3_1.out 2).trans rfl; have k3_3_1 : W1.cell? ⟨g3, 3, none⟩ = some (.int .i64 2) := (blk_cell B3_1.out 3).trans rfl; have k3_4_1 : W1.cell? ⟨g3, 4, none⟩ = some (.int .i64 p4) := (blk_cell B3_1.out 4).trans rfl; have k3_5_1 : W1.cell? ⟨g3, 5, none⟩ = some (.bool p5) := (blk_cell B3_1.out 5).trans rfl; clear hbox hbl hg)
  | ((with_reducible refine gate_dst (N := 4) rfl ?_); refine box_event ?hg (N := 4) ?hd (cs := #[.slice none 0 0, .int .i64 0, .bool false, .slice none 0 0]) (t := 28) ?hr ?_; (case hd => rfl); (case hg => rfl); (case hr => first | (go_simp; done) | (go_simp; rfl)); intro g4 hg W2 hbox hbl; have L4 : w.heap.size ≤ g4 := (by rw [hg]; exact below_size HB_1.out); have B4_2 := Lib.hid hbox; have HB_2 := Lib.hid (below_step HB_1.out hbl); have B3_2 := Lib.hid (blk_below B3_1.out hbl); have Cx_2 := Lib.hid (Kd.C_below HR.out HB_2.out); have k3_0_2 : W2.cell? ⟨g3, 0, none⟩ = some (.int .i64 0) := (blk_cell B3_2.out 0).trans rfl; have k3_1_2 : W2.cell? ⟨g3, 1, none⟩ = some (.int .i64 p1) := (blk_cell B3_2.out 1).trans rfl; have k3_2_2 : W2.cell? ⟨g3, 2, none⟩ = some (.int .i64 p2) := (blk_cell B3_2.out 2).trans rfl; have k3_3_2 : W2.cell? ⟨g3, 3, none⟩ = some (.int .i64 2) := (blk_cell B3_2.out 3).trans rfl; have k3_4_2 : W2.cell? ⟨g3, 4, none⟩ = some (.int .i64 p4) := (blk_cell B3_2.out 4).trans rfl; have k3_5_2 : W2.cell? ⟨g3, 5, none⟩ = some (.bool p5) := (blk_cell B3_2.out 5).trans rfl; clear k3_0_1 k3_1_1 k3_2_1 k3_3_1 k3_4_1 k3_5_1; have k4_0_2 : W2.cell? ⟨g4, 0, none⟩ = some (.slice none 0 0) := (blk_cell B4_2.out 0).trans rfl; have k4_1_2 : W2.cell? ⟨g4, 1, none⟩ = some (.int .i64 0) := (blk_cell B4_2.out 1).trans rfl; have k4_2_2 : W2.cell? ⟨g4, 2, none⟩ = some (.bool false) := (blk_cell B4_2.out 2).trans rfl; have k4_3_2 : W2.cell? ⟨g4, 3, none⟩ = some (.slice none 0 0) := (blk_cell B4_2.out 3).trans rfl; have NE3_4 := Lib.hid (show g3 ≠ g4 from fun e => by have := blk_lt B3_1.out; omega); clear hbox hbl hg)
  | ((with_reducible refine gate_dst (N := 15) rfl ?_); refine wpList_load_row rfl 24 _ rfl g3 rfl 24 #[.int .i64 0, .int .i64 p1, .int .i64 p2, .int .i64 2, .int .i64 p4, .bool p5] (0, 0) _ B3_2.out Tryz.underlying24 rfl (size24p _ _ _ _ _ _) ?_)
  | (go_at_call 16; refine (HRD.out _ Cx_2.out).mono ?_; rintro e W3 ⟨A1, c1, rfl, ho, hb⟩; have Ry_3 := Lib.hid (Kd.R_lower ho (below_size HB_2.out)); have HB_3 := Lib.hid (below_step HB_2.out hb); have B3_3 := Lib.hid (blk_below B3_2.out hb); have B4_3 := Lib.hid (blk_below B4_2.out hb); have Cx_3 := Lib.hid (Kd.C_below HR.out HB_3.out); have k3_0_3 : W3.cell? ⟨g3, 0, none⟩ = some (.int .i64 0) := (blk_cell B3_3.out 0).trans rfl; have k3_1_3 : W3.cell? ⟨g3, 1, none⟩ = some (.int .i64 p1) := (blk_cell B3_3.out 1).trans rfl; have k3_2_3 : W3.cell? ⟨g3, 2, none⟩ = some (.int .i64 p2) := (blk_cell B3_3.out 2).trans rfl; have k3_3_3 : W3.cell? ⟨g3, 3, none⟩ = some (.int .i64 2) := (blk_cell B3_3.out 3).trans rfl; have k3_4_3 : W3.cell? ⟨g3, 4, none⟩ = some (.int .i64 p4) := (blk_cell B3_3.out 4).trans rfl; have k3_5_3 : W3.cell? ⟨g3, 5, none⟩ = some (.bool p5) := (blk_cell B3_3.out 5).trans rfl; have k4_0_3 : W3.cell? ⟨g4, 0, none⟩ = some (.slice none 0 0) := (blk_cell B4_3.out 0).trans rfl; have k4_1_3 : W3.cell? ⟨g4, 1, none⟩ = some (.int .i64 0) := (blk_cell B4_3.out 1).trans rfl; have k4_2_3 : W3.cell? ⟨g4, 2, none⟩ = some (.bool false) := (blk_cell B4_3.out 2).trans rfl; have k4_3_3 : W3.cell? ⟨g4, 3, none⟩ = some (.slice none 0 0) := (blk_cell B4_3.out 3).trans rfl; clear k3_0_2 k3_1_2 k3_2_2 k3_3_2 k3_4_2 k3_5_2 k4_0_2 k4_1_2 k4_2_2 k4_3_2; clear hb ho)
  | ((with_reducible refine gate_dst (N := 6) rfl ?_); refine box_event ?hg (N := 6) ?hd (cs := #[.slice none 0 0, .int .i64 0, .bool false, .slice none 0 0]) (t := 28) ?hr ?_; (case hd => rfl); (case hg => rfl); (case hr => first | (go_simp; done) | (go_simp; rfl)); intro g6 hg W4 hbox hbl; have L6 : w.heap.size ≤ g6 := (by rw [hg]; exact below_size HB_3.out); have B6_4 := Lib.hid hbox; have HB_4 := Lib.hid (below_step HB_3.out hbl); have B3_4 := Lib.hid (blk_below B3_3.out hbl); have B4_4 := Lib.hid (blk_below B4_3.out hbl); have Ry_4 := Lib.hid (Kd.R_below Ry_3.out hbl); have Cx_4 := Lib.hid (Kd.C_below HR.out HB_4.out); have k3_0_4 : W4.cell? ⟨g3, 0, none⟩ = some (.int .i64 0) := (blk_cell B3_4.out 0).trans rfl; have k3_1_4 : W4.cell? ⟨g3, 1, none⟩ = some (.int .i64 p1) := (blk_cell B3_4.out 1).trans rfl; have k3_2_4 : W4.cell? ⟨g3, 2, none⟩ = some (.int .i64 p2) := (blk_cell B3_4.out 2).trans rfl; have k3_3_4 : W4.cell? ⟨g3, 3, none⟩ = some (.int .i64 2) := (blk_cell B3_4.out 3).trans rfl; have k3_4_4 : W4.cell? ⟨g3, 4, none⟩ = some (.int .i64 p4) := (blk_cell B3_4.out 4).trans rfl; have k3_5_4 : W4.cell? ⟨g3, 5, none⟩ = some (.bool p5) := (blk_cell B3_4.out 5).trans rfl; have k4_0_4 : W4.cell? ⟨g4, 0, none⟩ = some (.slice none 0 0) := (blk_cell B4_4.out 0).trans rfl; have k4_1_4 : W4.cell? ⟨g4, 1, none⟩ = some (.int .i64 0) := (blk_cell B4_4.out 1).trans rfl; have k4_2_4 : W4.cell? ⟨g4, 2, none⟩ = some (.bool false) := (blk_cell B4_4.out 2).trans rfl; have k4_3_4 : W4.cell? ⟨g4, 3, none⟩ = some (.slice none 0 0) := (blk_cell B4_4.out 3).trans rfl; clear k3_0_3 k3_1_3 k3_2_3 k3_3_3 k3_4_3 k3_5_3 k4_0_3 k4_1_3 k4_2_3 k4_3_3; have k6_0_4 : W4.cell? ⟨g6, 0, none⟩ = some (.slice none 0 0) := (blk_cell B6_4.out 0).trans rfl; have k6_1_4 : W4.cell? ⟨g6, 1, none⟩ = some (.int .i64 0) := (blk_cell B6_4.out 1).trans rfl; have k6_2_4 : W4.cell? ⟨g6, 2, none⟩ = some (.bool false) := (blk_cell B6_4.out 2).trans rfl; have k6_3_4 : W4.cell? ⟨g6, 3, none⟩ = some (.slice none 0 0) := (blk_cell B6_4.out 3).trans rfl; have NE3_6 := Lib.hid (show g3 ≠ g6 from fun e => by have := blk_lt B3_3.out; omega); have NE4_6 := Lib.hid (show g4 ≠ g6 from fun e => by have := blk_lt B4_3.out; omega); clear hbox hbl hg)
  | ((with_reducible refine gate_store (t := 28) (p := 6) rfl ?_); refine row_event rfl 28 _ _ rfl g6 #[.slice A1 n c1, .int .i64 0, .bool false, .slice none 0 0] rfl rfl 28 #[.slice none 0 0, .int .i64 0, .bool false, .slice none 0 0] B6_4.out (size28 _ _ _ _) rfl (one28 _ _ _ _ _ _ _ _) ?_; intro W5 hq hoth hbel; have B6_5 := Lib.hid hq; have HB_5 := Lib.hid (hbel _ _ L6 HB_4.out); have B3_5 := Lib.hid ((hoth _ NE3_6.out).trans B3_4.out); have B4_5 := Lib.hid ((hoth _ NE4_6.out).trans B4_4.out); have Ry_5 := Lib.hid (R_othG rfl Ry_4.out B6_4.out (by decide) hoth); have k3_0_5 : W5.cell? ⟨g3, 0, none⟩ = some (.int .i64 0) := (blk_cell B3_5.out 0).trans rfl; have k3_1_5 : W5.cell? ⟨g3, 1, none⟩ = some (.int .i64 p1) := (blk_cell B3_5.out 1).trans rfl; have k3_2_5 : W5.cell? ⟨g3, 2, none⟩ = some (.int .i64 p2) := (blk_cell B3_5.out 2).trans rfl; have k3_3_5 : W5.cell? ⟨g3, 3, none⟩ = some (.int .i64 2) := (blk_cell B3_5.out 3).trans rfl; have k3_4_5 : W5.cell? ⟨g3, 4, none⟩ = some (.int .i64 p4) := (blk_cell B3_5.out 4).trans rfl; have k3_5_5 : W5.cell? ⟨g3, 5, none⟩ = some (.bool p5) := (blk_cell B3_5.out 5).trans rfl; have k4_0_5 : W5.cell? ⟨g4, 0, none⟩ = some (.slice none 0 0) := (blk_cell B4_5.out 0).trans rfl; have k4_1_5 : W5.cell? ⟨g4, 1, none⟩ = some (.int .i64 0) := (blk_cell B4_5.out 1).trans rfl; have k4_2_5 : W5.cell? ⟨g4, 2, none⟩ = some (.bool false) := (blk_cell B4_5.out 2).trans rfl; have k4_3_5 : W5.cell? ⟨g4, 3, none⟩ = some (.slice none 0 0) := (blk_cell B4_5.out 3).trans rfl; clear k3_0_4 k3_1_4 k3_2_4 k3_3_4 k3_4_4 k3_5_4 k4_0_4 k4_1_4 k4_2_4 k4_3_4 k6_0_4 k6_1_4 k6_2_4 k6_3_4; have k6_0_5 : W5.cell? ⟨g6, 0, none⟩ = some (.slice A1 n c1) := (blk_cell B6_5.out 0).trans rfl; have k6_1_5 : W5.cell? ⟨g6, 1, none⟩ = some (.int .i64 0) := (blk_cell B6_5.out 1).trans rfl; have k6_2_5 : W5.cell? ⟨g6, 2, none⟩ = some (.bool false) := (blk_cell B6_5.out 2).trans rfl; have k6_3_5 : W5.cell? ⟨g6, 3, none⟩ = some (.slice none 0 0) := (blk_cell B6_5.out 3).trans rfl; have Cx_5 := Lib.hid (Kd.C_below HR.out HB_5.out); clear hq hoth hbel)
  | ((with_reducible refine gate_dst (N := 47) rfl ?_); refine wpList_load_row rfl 24 _ rfl g3 rfl 24 #[.int .i64 0, .int .i64 p1, .int .i64 p2, .int .i64 2, .int .i64 p4, .bool p5] (0, 0) _ B3_5.out Tryz.underlying24 rfl (size24p _ _ _ _ _ _) ?_)
  | (go_at_call 18; (with_reducible refine (plan_Passes.calls kp 0 p1 p2 2 p4 p5 ps 0 _ HPS.out).mono ?_); rintro e W6 ⟨vp, rfl, ho, hb⟩; obtain ⟨Ap, cp, ev⟩ := Kd.R_slice ho; subst ev; have Rp_6 := Lib.hid (Kd.R_lower ho (below_size HB_5.out)); have HB_6 := Lib.hid (below_step HB_5.out hb); have B3_6 := Lib.hid (blk_below B3_5.out hb); have B4_6 := Lib.hid (blk_below B4_5.out hb); have B6_6 := Lib.hid (blk_below B6_5.out hb); have Ry_6 := Lib.hid (Kd.R_below Ry_5.out hb); have Cx_6 := Lib.hid (Kd.C_below HR.out HB_6.out); have k3_0_6 : W6.cell? ⟨g3, 0, none⟩ = some (.int .i64 0) := (blk_cell B3_6.out 0).trans rfl; have k3_1_6 : W6.cell? ⟨g3, 1, none⟩ = some (.int .i64 p1) := (blk_cell B3_6.out 1).trans rfl; have k3_2_6 : W6.cell? ⟨g3, 2, none⟩ = some (.int .i64 p2) := (blk_cell B3_6.out 2).trans rfl; have k3_3_6 : W6.cell? ⟨g3, 3, none⟩ = some (.int .i64 2) := (blk_cell B3_6.out 3).trans rfl; have k3_4_6 : W6.cell? ⟨g3, 4, none⟩ = some (.int .i64 p4) := (blk_cell B3_6.out 4).trans rfl; have k3_5_6 : W6.cell? ⟨g3, 5, none⟩ = some (.bool p5) := (blk_cell B3_6.out 5).trans rfl; have k4_0_6 : W6.cell? ⟨g4, 0, none⟩ = some (.slice none 0 0) := (blk_cell B4_6.out 0).trans rfl; have k4_1_6 : W6.cell? ⟨g4, 1, none⟩ = some (.int .i64 0) := (blk_cell B4_6.out 1).trans rfl; have k4_2_6 : W6.cell? ⟨g4, 2, none⟩ = some (.bool false) := (blk_cell B4_6.out 2).trans rfl; have k4_3_6 : W6.cell? ⟨g4, 3, none⟩ = some (.slice none 0 0) := (blk_cell B4_6.out 3).trans rfl; have k6_0_6 : W6.cell? ⟨g6, 0, none⟩ = some (.slice A1 n c1) := (blk_cell B6_6.out 0).trans rfl; have k6_1_6 : W6.cell? ⟨g6, 1, none⟩ = some (.int .i64 0) := (blk_cell B6_6.out 1).trans rfl; have k6_2_6 : W6.cell? ⟨g6, 2, none⟩ = some (.bool false) := (blk_cell B6_6.out 2).trans rfl; have k6_3_6 : W6.cell? ⟨g6, 3, none⟩ = some (.slice none 0 0) := (blk_cell B6_6.out 3).trans rfl; clear k3_0_5 k3_1_5 k3_2_5 k3_3_5 k3_4_5 k3_5_5 k4_0_5 k4_1_5 k4_2_5 k4_3_5 k6_0_5 k6_1_5 k6_2_5 k6_3_5; clear hb ho)
  | ((with_reducible refine gate_dst (N := 51) rfl ?_); refine wpList_load_row rfl 24 _ rfl g3 rfl 24 #[.int .i64 0, .int .i64 p1, .int .i64 p2, .int .i64 2, .int .i64 p4, .bool p5] (0, 0) _ B3_6.out Tryz.underlying24 rfl (size24p _ _ _ _ _ _) ?_)
  | (go_at_call 19; refine (ready_2 0 p1 p2 p4 15 p5 L HBI.out HTW.out _).mono ?_; rintro e W7 ⟨Aw, cw, rfl, ho, hb⟩; have Rw_7 := Lib.hid (Kd.R_lower ho (below_size HB_6.out)); have HB_7 := Lib.hid (below_step HB_6.out hb); have B3_7 := Lib.hid (blk_below B3_6.out hb); have B4_7 := Lib.hid (blk_below B4_6.out hb); have B6_7 := Lib.hid (blk_below B6_6.out hb); have Ry_7 := Lib.hid (Kd.R_below Ry_6.out hb); have Rp_7 := Lib.hid (Kd.R_below Rp_6.out hb); have Cx_7 := Lib.hid (Kd.C_below HR.out HB_7.out); have k3_0_7 : W7.cell? ⟨g3, 0, none⟩ = some (.int .i64 0) := (blk_cell B3_7.out 0).trans rfl; have k3_1_7 : W7.cell? ⟨g3, 1, none⟩ = some (.int .i64 p1) := (blk_cell B3_7.out 1).trans rfl; have k3_2_7 : W7.cell? ⟨g3, 2, none⟩ = some (.int .i64 p2) := (blk_cell B3_7.out 2).trans rfl; have k3_3_7 : W7.cell? ⟨g3, 3, none⟩ = some (.int .i64 2) := (blk_cell B3_7.out 3).trans rfl; have k3_4_7 : W7.cell? ⟨g3, 4, none⟩ = some (.int .i64 p4) := (blk_cell B3_7.out 4).trans rfl; have k3_5_7 : W7.cell? ⟨g3, 5, none⟩ = some (.bool p5) := (blk_cell B3_7.out 5).trans rfl; have k4_0_7 : W7.cell? ⟨g4, 0, none⟩ = some (.slice none 0 0) := (blk_cell B4_7.out 0).trans rfl; have k4_1_7 : W7.cell? ⟨g4, 1, none⟩ = some (.int .i64 0) := (blk_cell B4_7.out 1).trans rfl; have k4_2_7 : W7.cell? ⟨g4, 2, none⟩ = some (.bool false) := (blk_cell B4_7.out 2).trans rfl; have k4_3_7 : W7.cell? ⟨g4, 3, none⟩ = some (.slice none 0 0) := (blk_cell B4_7.out 3).trans rfl; have k6_0_7 : W7.cell? ⟨g6, 0, none⟩ = some (.slice A1 n c1) := (blk_cell B6_7.out 0).trans rfl; have k6_1_7 : W7.cell? ⟨g6, 1, none⟩ = some (.int .i64 0) := (blk_cell B6_7.out 1).trans rfl; have k6_2_7 : W7.cell? ⟨g6, 2, none⟩ = some (.bool false) := (blk_cell B6_7.out 2).trans rfl; have k6_3_7 : W7.cell? ⟨g6, 3, none⟩ = some (.slice none 0 0) := (blk_cell B6_7.out 3).trans rfl; clear k3_0_6 k3_1_6 k3_2_6 k3_3_6 k3_4_6 k3_5_6 k4_0_6 k4_1_6 k4_2_6 k4_3_6 k6_0_6 k6_1_6 k6_2_6 k6_3_6; clear hb ho)
  | ((with_reducible refine gate_dst (N := 10) rfl ?_); refine box_event ?hg (N := 10) ?hd (cs := #[.int .i64 0, .int .i64 0, .int .i64 0, .int .i64 0, .int .i64 0, .bool false, .nilIface, .int .i64 0, .slice none 0 0]) (t := 56) ?hr ?_; (case hd => rfl); (case hg => rfl); (case hr => first | (go_simp; done) | (go_simp; rfl)); intro g10 hg W8 hbox hbl; have L10 : w.heap.size ≤ g10 := (by rw [hg]; exact below_size HB_7.out); have B10_8 := Lib.hid hbox; have HB_8 := Lib.hid (below_step HB_7.out hbl); have B3_8 := Lib.hid (blk_below B3_7.out hbl); have B4_8 := Lib.hid (blk_below B4_7.out hbl); have B6_8 := Lib.hid (blk_below B6_7.out hbl); have Ry_8 := Lib.hid (Kd.R_below Ry_7.out hbl); have Rp_8 := Lib.hid (Kd.R_below Rp_7.out hbl); have Rw_8 := Lib.hid (Kd.R_below Rw_7.out hbl); have Cx_8 := Lib.hid (Kd.C_below HR.out HB_8.out); have k3_0_8 : W8.cell? ⟨g3, 0, none⟩ = some (.int .i64 0) := (blk_cell B3_8.out 0).trans rfl; have k3_1_8 : W8.cell? ⟨g3, 1, none⟩ = some (.int .i64 p1) := (blk_cell B3_8.out 1).trans rfl; have k3_2_8 : W8.cell? ⟨g3, 2, none⟩ = some (.int .i64 p2) := (blk_cell B3_8.out 2).trans rfl; have k3_3_8 : W8.cell? ⟨g3, 3, none⟩ = some (.int .i64 2) := (blk_cell B3_8.out 3).trans rfl; have k3_4_8 : W8.cell? ⟨g3, 4, none⟩ = some (.int .i64 p4) := (blk_cell B3_8.out 4).trans rfl; have k3_5_8 : W8.cell? ⟨g3, 5, none⟩ = some (.bool p5) := (blk_cell B3_8.out 5).trans rfl; have k4_0_8 : W8.cell? ⟨g4, 0, none⟩ = some (.slice none 0 0) := (blk_cell B4_8.out 0).trans rfl; have k4_1_8 : W8.cell? ⟨g4, 1, none⟩ = some (.int .i64 0) := (blk_cell B4_8.out 1).trans rfl; have k4_2_8 : W8.cell? ⟨g4, 2, none⟩ = some (.bool false) := (blk_cell B4_8.out 2).trans rfl; have k4_3_8 : W8.cell? ⟨g4, 3, none⟩ = some (.slice none 0 0) := (blk_cell B4_8.out 3).trans rfl; have k6_0_8 : W8.cell? ⟨g6, 0, none⟩ = some (.slice A1 n c1) := (blk_cell B6_8.out 0).trans rfl; have k6_1_8 : W8.cell? ⟨g6, 1, none⟩ = some (.int .i64 0) := (blk_cell B6_8.out 1).trans rfl; have k6_2_8 : W8.cell? ⟨g6, 2, none⟩ = some (.bool false) := (blk_cell B6_8.out 2).trans rfl; have k6_3_8 : W8.cell? ⟨g6, 3, none⟩ = some (.slice none 0 0) := (blk_cell B6_8.out 3).trans rfl; clear k3_0_7 k3_1_7 k3_2_7 k3_3_7 k3_4_7 k3_5_7 k4_0_7 k4_1_7 k4_2_7 k4_3_7 k6_0_7 k6_1_7 k6_2_7 k6_3_7; have k10_0_8 : W8.cell? ⟨g10, 0, none⟩ = some (.int .i64 0) := (blk_cell B10_8.out 0).trans rfl; have k10_1_8 : W8.cell? ⟨g10, 1, none⟩ = some (.int .i64 0) := (blk_cell B10_8.out 1).trans rfl; have k10_2_8 : W8.cell? ⟨g10, 2, none⟩ = some (.int .i64 0) := (blk_cell B10_8.out 2).trans rfl; have k10_3_8 : W8.cell? ⟨g10, 3, none⟩ = some (.int .i64 0) := (blk_cell B10_8.out 3).trans rfl; have k10_4_8 : W8.cell? ⟨g10, 4, none⟩ = some (.int .i64 0) := (blk_cell B10_8.out 4).trans rfl; have k10_5_8 : W8.cell? ⟨g10, 5, none⟩ = some (.bool false) := (blk_cell B10_8.out 5).trans rfl; have k10_6_8 : W8.cell? ⟨g10, 6, none⟩ = some (.nilIface) := (blk_cell B10_8.out 6).trans rfl; have k10_7_8 : W8.cell? ⟨g10, 7, none⟩ = some (.int .i64 0) := (blk_cell B10_8.out 7).trans rfl; have k10_8_8 : W8.cell? ⟨g10, 8, none⟩ = some (.slice none 0 0) := (blk_cell B10_8.out 8).trans rfl; have NE3_10 := Lib.hid (show g3 ≠ g10 from fun e => by have := blk_lt B3_7.out; omega); have NE4_10 := Lib.hid (show g4 ≠ g10 from fun e => by have := blk_lt B4_7.out; omega); have NE6_10 := Lib.hid (show g6 ≠ g10 from fun e => by have := blk_lt B6_7.out; omega); clear hbox hbl hg)
  | ((with_reducible refine gate_store (t := 56) (p := 10) rfl ?_); refine row_event rfl 56 _ _ rfl g10 #[.int .i64 0, .int .i64 p1, .int .i64 p2, .int .i64 2, .int .i64 p4, .bool p5, .iface 100 (.agg #[]), .int .i64 15, .slice Aw L.length cw] rfl rfl 56 #[.int .i64 0, .int .i64 0, .int .i64 0, .int .i64 0, .int .i64 0, .bool false, .nilIface, .int .i64 0, .slice none 0 0] B10_8.out (size56 _ _ _ _ _ _ _ _ _) rfl (one56_2 _ _ _ _ _ _ _ _ _) ?_; intro W9 hq hoth hbel; have B10_9 := Lib.hid hq; have HB_9 := Lib.hid (hbel _ _ L10 HB_8.out); have B3_9 := Lib.hid ((hoth _ NE3_10.out).trans B3_8.out); have B4_9 := Lib.hid ((hoth _ NE4_10.out).trans B4_8.out); have B6_9 := Lib.hid ((hoth _ NE6_10.out).trans B6_8.out); have Ry_9 := Lib.hid (R_othG rfl Ry_8.out B10_8.out (by decide) hoth); have Rp_9 := Lib.hid (R_othG rfl Rp_8.out B10_8.out (by decide) hoth); have Rw_9 := Lib.hid (R_othG rfl Rw_8.out B10_8.out (by decide) hoth); have k3_0_9 : W9.cell? ⟨g3, 0, none⟩ = some (.int .i64 0) := (blk_cell B3_9.out 0).trans rfl; have k3_1_9 : W9.cell? ⟨g3, 1, none⟩ = some (.int .i64 p1) := (blk_cell B3_9.out 1).trans rfl; have k3_2_9 : W9.cell? ⟨g3, 2, none⟩ = some (.int .i64 p2) := (blk_cell B3_9.out 2).trans rfl; have k3_3_9 : W9.cell? ⟨g3, 3, none⟩ = some (.int .i64 2) := (blk_cell B3_9.out 3).trans rfl; have k3_4_9 : W9.cell? ⟨g3, 4, none⟩ = some (.int .i64 p4) := (blk_cell B3_9.out 4).trans rfl; have k3_5_9 : W9.cell? ⟨g3, 5, none⟩ = some (.bool p5) := (blk_cell B3_9.out 5).trans rfl; have k4_0_9 : W9.cell? ⟨g4, 0, none⟩ = some (.slice none 0 0) := (blk_cell B4_9.out 0).trans rfl; have k4_1_9 : W9.cell? ⟨g4, 1, none⟩ = some (.int .i64 0) := (blk_cell B4_9.out 1).trans rfl; have k4_2_9 : W9.cell? ⟨g4, 2, none⟩ = some (.bool false) := (blk_cell B4_9.out 2).trans rfl; have k4_3_9 : W9.cell? ⟨g4, 3, none⟩ = some (.slice none 0 0) := (blk_cell B4_9.out 3).trans rfl; have k6_0_9 : W9.cell? ⟨g6, 0, none⟩ = some (.slice A1 n c1) := (blk_cell B6_9.out 0).trans rfl; have k6_1_9 : W9.cell? ⟨g6, 1, none⟩ = some (.int .i64 0) := (blk_cell B6_9.out 1).trans rfl; have k6_2_9 : W9.cell? ⟨g6, 2, none⟩ = some (.bool false) := (blk_cell B6_9.out 2).trans rfl; have k6_3_9 : W9.cell? ⟨g6, 3, none⟩ = some (.slice none 0 0) := (blk_cell B6_9.out 3).trans rfl; clear k3_0_8 k3_1_8 k3_2_8 k3_3_8 k3_4_8 k3_5_8 k4_0_8 k4_1_8 k4_2_8 k4_3_8 k6_0_8 k6_1_8 k6_2_8 k6_3_8 k10_0_8 k10_1_8 k10_2_8 k10_3_8 k10_4_8 k10_5_8 k10_6_8 k10_7_8 k10_8_8; have k10_0_9 : W9.cell? ⟨g10, 0, none⟩ = some (.int .i64 0) := (blk_cell B10_9.out 0).trans rfl; have k10_1_9 : W9.cell? ⟨g10, 1, none⟩ = some (.int .i64 p1) := (blk_cell B10_9.out 1).trans rfl; have k10_2_9 : W9.cell? ⟨g10, 2, none⟩ = some (.int .i64 p2) := (blk_cell B10_9.out 2).trans rfl; have k10_3_9 : W9.cell? ⟨g10, 3, none⟩ = some (.int .i64 2) := (blk_cell B10_9.out 3).trans rfl; have k10_4_9 : W9.cell? ⟨g10, 4, none⟩ = some (.int .i64 p4) := (blk_cell B10_9.out 4).trans rfl; have k10_5_9 : W9.cell? ⟨g10, 5, none⟩ = some (.bool p5) := (blk_cell B10_9.out 5).trans rfl; have k10_6_9 : W9.cell? ⟨g10, 6, none⟩ = some (.iface 100 (.agg #[])) := (blk_cell B10_9.out 6).trans rfl; have k10_7_9 : W9.cell? ⟨g10, 7, none⟩ = some (.int .i64 15) := (blk_cell B10_9.out 7).trans rfl; have k10_8_9 : W9.cell? ⟨g10, 8, none⟩ = some (.slice Aw L.length cw) := (blk_cell B10_9.out 8).trans rfl; have Cx_9 := Lib.hid (Kd.C_below HR.out HB_9.out); clear hq hoth hbel))
 have N36 := NE3_6
 have N46 := NE4_6
 have N106 := Lib.hid (show g10 ≠ g6 from fun e => NE6_10.out e.symm)
 have ER0 := Lib.hid (Kd.R_nil (Kd.int .i64) 3 W9 w.heap.size (fun _ => True))
 go_loopw [55] (fun s55 wr => ∃ k : Nat, k ≤ ps.length ∧ s55 = .int .i64 k ∧ ∃ Ax cx As cs sh, wr.heap[g3]? = some (.cells #[.int .i64 0, .int .i64 p1, .int .i64 p2, .int .i64 2, .int .i64 p4, .bool p5] 24 (0, 0)) ∧ wr.heap[g4]? = some (.cells #[.slice none 0 0, .int .i64 0, .bool false, .slice none 0 0] 28 (0, 0)) ∧ wr.heap[g10]? = some (.cells #[.int .i64 0, .int .i64 p1, .int .i64 p2, .int .i64 2, .int .i64 p4, .bool p5, .iface 100 (.agg #[]), .int .i64 15, .slice Aw L.length cw] 56 (0, 0)) ∧ wr.heap[g6]? = some (.cells #[.slice Ax n cx, .int .i64 (EX k), .bool false, .slice As k cs] 28 (0, 0)) ∧ Kd.R k38 38 wr w.heap.size (fun _ => True) (.slice Ax n cx) (Y k) ∧ Kd.R (Kd.int .i64) 3 wr w.heap.size (fun _ => True) (.slice As k cs) sh ∧ Kd.R k59 59 wr w.heap.size (fun _ => True) (.slice Ap ps.length cp) ps ∧ Kd.R k38 38 wr w.heap.size (fun _ => True) (.slice Aw L.length cw) L ∧ Below w.heap.size w wr) (fun i _ => ps.length - (intOf i).toNat)
 case atStart => exact ⟨0, by omega, rfl, A1, c1, none, 0, [], B3_9.out, B4_9.out, B10_9.out, by rw [HE.out]; exact B6_9.out, Ry_9.out, ER0.out, Rp_9.out, Rw_9.out, HB_9.out⟩
 case round =>
  obtain ⟨k, hk, rfl, Ax, cx, As, cs, sh, e3, e4, e10, e6, ry, rs, rp, rw_, hb⟩ := hrel
  have E3 := Lib.hid e3
  have E4 := Lib.hid e4
  have E10 := Lib.hid e10
  have E6 := Lib.hid e6
  have ERy := Lib.hid ry
  have ERs := Lib.hid rs
  have ERp := Lib.hid rp
  have ERw := Lib.hid rw_
  have HBr := Lib.hid hb
  clear e3 e4 e10 e6 ry rs rp rw_ hb B3_9 B4_9 B10_9 B6_9 Ry_9 Rp_9 Rw_9 HB_9 k3_0_9 k3_1_9 k3_2_9 k3_3_9 k3_4_9 k3_5_9 k4_0_9 k4_1_9 k4_2_9 k4_3_9 k6_0_9 k6_1_9 k6_2_9 k6_3_9 k10_0_9 k10_1_9 k10_2_9 k10_3_9 k10_4_9 k10_5_9 k10_6_9 k10_7_9 k10_8_9 ER0
  by_cases hlt : k < ps.length
  ·have HNX := Lib.hid (HNXA.out k hlt)
   obtain ⟨ad, rfl, h0, h1⟩ := at_T59 (R59_C ERp.out) (k : Int) (by omega) (by omega)
   rw [Int.toNat_natCast] at h0 h1
   have hx : rd_T59 ps k = ps.getD k z59 := by unfold rd_T59; rw [Int.toNat_natCast]
   rw [hx] at h0 h1
   generalize ps.getD k z59 = x at *
   clear hx
   go_wp2_with (first
    | ((with_reducible refine gate_dst (N := 12) rfl ?_); refine box_event ?hg (N := 12) ?hd (cs := #[.int .i64 0, .int .i64 0]) (t := 59) ?hr ?_; (case hd => rfl); (case hg => rfl); (case hr => first | (go_simp; done) | (go_simp; rfl)); intro g12 hg W1 hbox hbl; have L12 : w.heap.size ≤ g12 := (by rw [hg]; exact below_size HBr.out); have B12_1 := Lib.hid hbox; have HB_1 := Lib.hid (below_step HBr.out hbl); have B3_1 := Lib.hid (blk_below E3.out hbl); have B4_1 := Lib.hid (blk_below E4.out hbl); have B6_1 := Lib.hid (blk_below E6.out hbl); have B10_1 := Lib.hid (blk_below E10.out hbl); have Ry_1 := Lib.hid (Kd.R_below ERy.out hbl); have Rp_1 := Lib.hid (Kd.R_below ERp.out hbl); have Rw_1 := Lib.hid (Kd.R_below ERw.out hbl); have Rs_1 := Lib.hid (Kd.R_below ERs.out hbl); have k3_0_1 : W1.cell? ⟨g3, 0, none⟩ = some (.int .i64 0) := (blk_cell B3_1.out 0).trans rfl; have k3_1_1 : W1.cell? ⟨g3, 1, none⟩ = some (.int .i64 p1) := (blk_cell B3_1.out 1).trans rfl; have k3_2_1 : W1.cell? ⟨g3, 2, none⟩ = some (.int .i64 p2) := (blk_cell B3_1.out 2).trans rfl; have k3_3_1 : W1.cell? ⟨g3, 3, none⟩ = some (.int .i64 2) := (blk_cell B3_1.out 3).trans rfl; have k3_4_1 : W1.cell? ⟨g3, 4, none⟩ = some (.int .i64 p4) := (blk_cell B3_1.out 4).trans rfl; have k3_5_1 : W1.cell? ⟨g3, 5, none⟩ = some (.bool p5) := (blk_cell B3_1.out 5).trans rfl; have k4_0_1 : W1.cell? ⟨g4, 0, none⟩ = some (.slice none 0 0) := (blk_cell B4_1.out 0).trans rfl; have k4_1_1 : W1.cell? ⟨g4, 1, none⟩ = some (.int .i64 0) := (blk_cell B4_1.out 1).trans rfl; have k4_2_1 : W1.cell? ⟨g4, 2, none⟩ = some (.bool false) := (blk_cell B4_1.out 2).trans rfl; have k4_3_1 : W1.cell? ⟨g4, 3, none⟩ = some (.slice none 0 0) := (blk_cell B4_1.out 3).trans rfl; have k6_0_1 : W1.cell? ⟨g6, 0, none⟩ = some (.slice Ax n cx) := (blk_cell B6_1.out 0).trans rfl; have k6_1_1 : W1.cell? ⟨g6, 1, none⟩ = some (.int .i64 (EX k)) := (blk_cell B6_1.out 1).trans rfl; have k6_2_1 : W1.cell? ⟨g6, 2, none⟩ = some (.bool false) := (blk_cell B6_1.out 2).trans rfl; have k6_3_1 : W1.cell? ⟨g6, 3, none⟩ = some (.slice As k cs) := (blk_cell B6_1.out 3).trans rfl; have k10_0_1 : W1.cell? ⟨g10, 0, none⟩ = some (.int .i64 0) := (blk_cell B10_1.out 0).trans rfl; have k10_1_1 : W1.cell? ⟨g10, 1, none⟩ = some (.int .i64 p1) := (blk_cell B10_1.out 1).trans rfl; have k10_2_1 : W1.cell? ⟨g10, 2, none⟩ = some (.int .i64 p2) := (blk_cell B10_1.out 2).trans rfl; have k10_3_1 : W1.cell? ⟨g10, 3, none⟩ = some (.int .i64 2) := (blk_cell B10_1.out 3).trans rfl; have k10_4_1 : W1.cell? ⟨g10, 4, none⟩ = some (.int .i64 p4) := (blk_cell B10_1.out 4).trans rfl; have k10_5_1 : W1.cell? ⟨g10, 5, none⟩ = some (.bool p5) := (blk_cell B10_1.out 5).trans rfl; have k10_6_1 : W1.cell? ⟨g10, 6, none⟩ = some (.iface 100 (.agg #[])) := (blk_cell B10_1.out 6).trans rfl; have k10_7_1 : W1.cell? ⟨g10, 7, none⟩ = some (.int .i64 15) := (blk_cell B10_1.out 7).trans rfl; have k10_8_1 : W1.cell? ⟨g10, 8, none⟩ = some (.slice Aw L.length cw) := (blk_cell B10_1.out 8).trans rfl; have k12_0_1 : W1.cell? ⟨g12, 0, none⟩ = some (.int .i64 0) := (blk_cell B12_1.out 0).trans rfl; have k12_1_1 : W1.cell? ⟨g12, 1, none⟩ = some (.int .i64 0) := (blk_cell B12_1.out 1).trans rfl; have NE3_12 := Lib.hid (show g3 ≠ g12 from fun e => by have := blk_lt E3.out; omega); have NE4_12 := Lib.hid (show g4 ≠ g12 from fun e => by have := blk_lt E4.out; omega); have NRp12 := Lib.hid (show some g12 ≠ _ from by rw [hg]; exact Kd.R_ne_new ERp.out 0); have N126 := Lib.hid (show g12 ≠ g6 from fun e => by have := blk_lt E6.out; omega); have NE6_12 := Lib.hid (show g6 ≠ g12 from fun e => by have := blk_lt E6.out; omega); have NE10_12 := Lib.hid (show g10 ≠ g12 from fun e => by have := blk_lt E10.out; omega); clear hbox hbl hg)
    | ((with_reducible refine gate_store (t := 59) (p := 12) rfl ?_); refine row_event rfl 59 _ _ rfl g12 #[.int .i64 x.f0, .int .i64 x.f1] rfl rfl 59 #[.int .i64 0, .int .i64 0] B12_1.out (size59p _ _) rfl (one38 _ _) ?_; intro W2 hq hoth hbel; have B12_2 := Lib.hid hq; have HB_2 := Lib.hid (hbel _ _ L12 HB_1.out); have B3_2 := Lib.hid ((hoth _ NE3_12.out).trans B3_1.out); have B4_2 := Lib.hid ((hoth _ NE4_12.out).trans B4_1.out); have B6_2 := Lib.hid ((hoth _ NE6_12.out).trans B6_1.out); have B10_2 := Lib.hid ((hoth _ NE10_12.out).trans B10_1.out); have Ry_2 := Lib.hid (R_othG rfl Ry_1.out B12_1.out (by decide) hoth); have Rp_2 := Lib.hid (R_othN rfl Rp_1.out hoth NRp12.out); have Rw_2 := Lib.hid (R_othG rfl Rw_1.out B12_1.out (by decide) hoth); have Rs_2 := Lib.hid (R_othG rfl Rs_1.out B12_1.out (by decide) hoth); have k3_0_2 : W2.cell? ⟨g3, 0, none⟩ = some (.int .i64 0) := (blk_cell B3_2.out 0).trans rfl; have k3_1_2 : W2.cell? ⟨g3, 1, none⟩ = some (.int .i64 p1) := (blk_cell B3_2.out 1).trans rfl; have k3_2_2 : W2.cell? ⟨g3, 2, none⟩ = some (.int .i64 p2) := (blk_cell B3_2.out 2).trans rfl; have k3_3_2 : W2.cell? ⟨g3, 3, none⟩ = some (.int .i64 2) := (blk_cell B3_2.out 3).trans rfl; have k3_4_2 : W2.cell? ⟨g3, 4, none⟩ = some (.int .i64 p4) := (blk_cell B3_2.out 4).trans rfl; have k3_5_2 : W2.cell? ⟨g3, 5, none⟩ = some (.bool p5) := (blk_cell B3_2.out 5).trans rfl; have k4_0_2 : W2.cell? ⟨g4, 0, none⟩ = some (.slice none 0 0) := (blk_cell B4_2.out 0).trans rfl; have k4_1_2 : W2.cell? ⟨g4, 1, none⟩ = some (.int .i64 0) := (blk_cell B4_2.out 1).trans rfl; have k4_2_2 : W2.cell? ⟨g4, 2, none⟩ = some (.bool false) := (blk_cell B4_2.out 2).trans rfl; have k4_3_2 : W2.cell? ⟨g4, 3, none⟩ = some (.slice none 0 0) := (blk_cell B4_2.out 3).trans rfl; have k6_0_2 : W2.cell? ⟨g6, 0, none⟩ = some (.slice Ax n cx) := (blk_cell B6_2.out 0).trans rfl; have k6_1_2 : W2.cell? ⟨g6, 1, none⟩ = some (.int .i64 (EX k)) := (blk_cell B6_2.out 1).trans rfl; have k6_2_2 : W2.cell? ⟨g6, 2, none⟩ = some (.bool false) := (blk_cell B6_2.out 2).trans rfl; have k6_3_2 : W2.cell? ⟨g6, 3, none⟩ = some (.slice As k cs) := (blk_cell B6_2.out 3).trans rfl; have k10_0_2 : W2.cell? ⟨g10, 0, none⟩ = some (.int .i64 0) := (blk_cell B10_2.out 0).trans rfl; have k10_1_2 : W2.cell? ⟨g10, 1, none⟩ = some (.int .i64 p1) := (blk_cell B10_2.out 1).trans rfl; have k10_2_2 : W2.cell? ⟨g10, 2, none⟩ = some (.int .i64 p2) := (blk_cell B10_2.out 2).trans rfl; have k10_3_2 : W2.cell? ⟨g10, 3, none⟩ = some (.int .i64 2) := (blk_cell B10_2.out 3).trans rfl; have k10_4_2 : W2.cell? ⟨g10, 4, none⟩ = some (.int .i64 p4) := (blk_cell B10_2.out 4).trans rfl; have k10_5_2 : W2.cell? ⟨g10, 5, none⟩ = some (.bool p5) := (blk_cell B10_2.out 5).trans rfl; have k10_6_2 : W2.cell? ⟨g10, 6, none⟩ = some (.iface 100 (.agg #[])) := (blk_cell B10_2.out 6).trans rfl; have k10_7_2 : W2.cell? ⟨g10, 7, none⟩ = some (.int .i64 15) := (blk_cell B10_2.out 7).trans rfl; have k10_8_2 : W2.cell? ⟨g10, 8, none⟩ = some (.slice Aw L.length cw) := (blk_cell B10_2.out 8).trans rfl; clear k3_0_1 k3_1_1 k3_2_1 k3_3_1 k3_4_1 k3_5_1 k4_0_1 k4_1_1 k4_2_1 k4_3_1 k6_0_1 k6_1_1 k6_2_1 k6_3_1 k10_0_1 k10_1_1 k10_2_1 k10_3_1 k10_4_1 k10_5_1 k10_6_1 k10_7_1 k10_8_1 k12_0_1 k12_1_1; have k12_0_2 : W2.cell? ⟨g12, 0, none⟩ = some (.int .i64 x.f0) := (blk_cell B12_2.out 0).trans rfl; have k12_1_2 : W2.cell? ⟨g12, 1, none⟩ = some (.int .i64 x.f1) := (blk_cell B12_2.out 1).trans rfl; clear hq hoth hbel)
    | ((with_reducible refine gate_dst (N := 59) rfl ?_); refine wpList_load_row rfl 56 _ rfl g10 rfl 56 #[.int .i64 0, .int .i64 p1, .int .i64 p2, .int .i64 2, .int .i64 p4, .bool p5, .iface 100 (.agg #[]), .int .i64 15, .slice Aw L.length cw] (0, 0) _ B10_2.out Tryz.underlying56 rfl (size56 _ _ _ _ _ _ _ _ _) ?_)
    | ((with_reducible refine gate_dst (N := 60) rfl ?_); refine wpList_load_row rfl 28 _ rfl g6 rfl 28 #[.slice Ax n cx, .int .i64 (EX k), .bool false, .slice As k cs] (0, 0) _ B6_2.out Tryz.underlying28 rfl (size28 _ _ _ _) ?_)
    | ((with_reducible refine gate_dst (N := 61) rfl ?_); refine wpList_load_row rfl 59 _ rfl g12 rfl 59 #[.int .i64 x.f0, .int .i64 x.f1] (0, 0) _ B12_2.out Tryz.underlying59 rfl (size59p _ _) ?_)
    | (go_at_call 20; refine (HNX.out.go Ry_2.out Rs_2.out Rw_2.out).mono ?_; rintro e W3 ⟨A3, c3, A4, c4, sh4, rfl, ho, hs, hb⟩; have Ry_3 := Lib.hid (Kd.R_lower ho (below_size HB_2.out)); have Rs_3 := Lib.hid (Kd.R_lower hs (below_size HB_2.out)); have HB_3 := Lib.hid (below_step HB_2.out hb); have B3_3 := Lib.hid (blk_below B3_2.out hb); have B4_3 := Lib.hid (blk_below B4_2.out hb); have B6_3 := Lib.hid (blk_below B6_2.out hb); have B10_3 := Lib.hid (blk_below B10_2.out hb); have B12_3 := Lib.hid (blk_below B12_2.out hb); have Rp_3 := Lib.hid (Kd.R_below Rp_2.out hb); have Rw_3 := Lib.hid (Kd.R_below Rw_2.out hb); have k3_0_3 : W3.cell? ⟨g3, 0, none⟩ = some (.int .i64 0) := (blk_cell B3_3.out 0).trans rfl; have k3_1_3 : W3.cell? ⟨g3, 1, none⟩ = some (.int .i64 p1) := (blk_cell B3_3.out 1).trans rfl; have k3_2_3 : W3.cell? ⟨g3, 2, none⟩ = some (.int .i64 p2) := (blk_cell B3_3.out 2).trans rfl; have k3_3_3 : W3.cell? ⟨g3, 3, none⟩ = some (.int .i64 2) := (blk_cell B3_3.out 3).trans rfl; have k3_4_3 : W3.cell? ⟨g3, 4, none⟩ = some (.int .i64 p4) := (blk_cell B3_3.out 4).trans rfl; have k3_5_3 : W3.cell? ⟨g3, 5, none⟩ = some (.bool p5) := (blk_cell B3_3.out 5).trans rfl; have k4_0_3 : W3.cell? ⟨g4, 0, none⟩ = some (.slice none 0 0) := (blk_cell B4_3.out 0).trans rfl; have k4_1_3 : W3.cell? ⟨g4, 1, none⟩ = some (.int .i64 0) := (blk_cell B4_3.out 1).trans rfl; have k4_2_3 : W3.cell? ⟨g4, 2, none⟩ = some (.bool false) := (blk_cell B4_3.out 2).trans rfl; have k4_3_3 : W3.cell? ⟨g4, 3, none⟩ = some (.slice none 0 0) := (blk_cell B4_3.out 3).trans rfl; have k6_0_3 : W3.cell? ⟨g6, 0, none⟩ = some (.slice Ax n cx) := (blk_cell B6_3.out 0).trans rfl; have k6_1_3 : W3.cell? ⟨g6, 1, none⟩ = some (.int .i64 (EX k)) := (blk_cell B6_3.out 1).trans rfl; have k6_2_3 : W3.cell? ⟨g6, 2, none⟩ = some (.bool false) := (blk_cell B6_3.out 2).trans rfl; have k6_3_3 : W3.cell? ⟨g6, 3, none⟩ = some (.slice As k cs) := (blk_cell B6_3.out 3).trans rfl; have k10_0_3 : W3.cell? ⟨g10, 0, none⟩ = some (.int .i64 0) := (blk_cell B10_3.out 0).trans rfl; have k10_1_3 : W3.cell? ⟨g10, 1, none⟩ = some (.int .i64 p1) := (blk_cell B10_3.out 1).trans rfl; have k10_2_3 : W3.cell? ⟨g10, 2, none⟩ = some (.int .i64 p2) := (blk_cell B10_3.out 2).trans rfl; have k10_3_3 : W3.cell? ⟨g10, 3, none⟩ = some (.int .i64 2) := (blk_cell B10_3.out 3).trans rfl; have k10_4_3 : W3.cell? ⟨g10, 4, none⟩ = some (.int .i64 p4) := (blk_cell B10_3.out 4).trans rfl; have k10_5_3 : W3.cell? ⟨g10, 5, none⟩ = some (.bool p5) := (blk_cell B10_3.out 5).trans rfl; have k10_6_3 : W3.cell? ⟨g10, 6, none⟩ = some (.iface 100 (.agg #[])) := (blk_cell B10_3.out 6).trans rfl; have k10_7_3 : W3.cell? ⟨g10, 7, none⟩ = some (.int .i64 15) := (blk_cell B10_3.out 7).trans rfl; have k10_8_3 : W3.cell? ⟨g10, 8, none⟩ = some (.slice Aw L.length cw) := (blk_cell B10_3.out 8).trans rfl; have k12_0_3 : W3.cell? ⟨g12, 0, none⟩ = some (.int .i64 x.f0) := (blk_cell B12_3.out 0).trans rfl; have k12_1_3 : W3.cell? ⟨g12, 1, none⟩ = some (.int .i64 x.f1) := (blk_cell B12_3.out 1).trans rfl; clear k3_0_2 k3_1_2 k3_2_2 k3_3_2 k3_4_2 k3_5_2 k4_0_2 k4_1_2 k4_2_2 k4_3_2 k6_0_2 k6_1_2 k6_2_2 k6_3_2 k10_0_2 k10_1_2 k10_2_2 k10_3_2 k10_4_2 k10_5_2 k10_6_2 k10_7_2 k10_8_2 k12_0_2 k12_1_2; clear hb ho hs)
    | ((with_reducible refine gate_store (t := 28) (p := 6) rfl ?_); refine row_event rfl 28 _ _ rfl g6 #[.slice A3 n c3, .int .i64 (EX (k + 1)), .bool false, .slice A4 (k + 1) c4] rfl rfl 28 #[.slice Ax n cx, .int .i64 (EX k), .bool false, .slice As k cs] B6_3.out (size28 _ _ _ _) rfl (one28 _ _ _ _ _ _ _ _) ?_; intro W4 hq hoth hbel; have B6_4 := Lib.hid hq; have HB_4 := Lib.hid (hbel _ _ L6 HB_3.out); have B3_4 := Lib.hid ((hoth _ N36.out).trans B3_3.out); have B4_4 := Lib.hid ((hoth _ N46.out).trans B4_3.out); have B10_4 := Lib.hid ((hoth _ N106.out).trans B10_3.out); have B12_4 := Lib.hid ((hoth _ N126.out).trans B12_3.out); have Rp_4 := Lib.hid (R_othG rfl Rp_3.out B6_3.out (by decide) hoth); have Rw_4 := Lib.hid (R_othG rfl Rw_3.out B6_3.out (by decide) hoth); have Ry_4 := Lib.hid (R_othG rfl Ry_3.out B6_3.out (by decide) hoth); have Rs_4 := Lib.hid (R_othG rfl Rs_3.out B6_3.out (by decide) hoth); have k3_0_4 : W4.cell? ⟨g3, 0, none⟩ = some (.int .i64 0) := (blk_cell B3_4.out 0).trans rfl; have k3_1_4 : W4.cell? ⟨g3, 1, none⟩ = some (.int .i64 p1) := (blk_cell B3_4.out 1).trans rfl; have k3_2_4 : W4.cell? ⟨g3, 2, none⟩ = some (.int .i64 p2) := (blk_cell B3_4.out 2).trans rfl; have k3_3_4 : W4.cell? ⟨g3, 3, none⟩ = some (.int .i64 2) := (blk_cell B3_4.out 3).trans rfl; have k3_4_4 : W4.cell? ⟨g3, 4, none⟩ = some (.int .i64 p4) := (blk_cell B3_4.out 4).trans rfl; have k3_5_4 : W4.cell? ⟨g3, 5, none⟩ = some (.bool p5) := (blk_cell B3_4.out 5).trans rfl; have k4_0_4 : W4.cell? ⟨g4, 0, none⟩ = some (.slice none 0 0) := (blk_cell B4_4.out 0).trans rfl; have k4_1_4 : W4.cell? ⟨g4, 1, none⟩ = some (.int .i64 0) := (blk_cell B4_4.out 1).trans rfl; have k4_2_4 : W4.cell? ⟨g4, 2, none⟩ = some (.bool false) := (blk_cell B4_4.out 2).trans rfl; have k4_3_4 : W4.cell? ⟨g4, 3, none⟩ = some (.slice none 0 0) := (blk_cell B4_4.out 3).trans rfl; have k10_0_4 : W4.cell? ⟨g10, 0, none⟩ = some (.int .i64 0) := (blk_cell B10_4.out 0).trans rfl; have k10_1_4 : W4.cell? ⟨g10, 1, none⟩ = some (.int .i64 p1) := (blk_cell B10_4.out 1).trans rfl; have k10_2_4 : W4.cell? ⟨g10, 2, none⟩ = some (.int .i64 p2) := (blk_cell B10_4.out 2).trans rfl; have k10_3_4 : W4.cell? ⟨g10, 3, none⟩ = some (.int .i64 2) := (blk_cell B10_4.out 3).trans rfl; have k10_4_4 : W4.cell? ⟨g10, 4, none⟩ = some (.int .i64 p4) := (blk_cell B10_4.out 4).trans rfl; have k10_5_4 : W4.cell? ⟨g10, 5, none⟩ = some (.bool p5) := (blk_cell B10_4.out 5).trans rfl; have k10_6_4 : W4.cell? ⟨g10, 6, none⟩ = some (.iface 100 (.agg #[])) := (blk_cell B10_4.out 6).trans rfl; have k10_7_4 : W4.cell? ⟨g10, 7, none⟩ = some (.int .i64 15) := (blk_cell B10_4.out 7).trans rfl; have k10_8_4 : W4.cell? ⟨g10, 8, none⟩ = some (.slice Aw L.length cw) := (blk_cell B10_4.out 8).trans rfl; have k12_0_4 : W4.cell? ⟨g12, 0, none⟩ = some (.int .i64 x.f0) := (blk_cell B12_4.out 0).trans rfl; have k12_1_4 : W4.cell? ⟨g12, 1, none⟩ = some (.int .i64 x.f1) := (blk_cell B12_4.out 1).trans rfl; clear k3_0_3 k3_1_3 k3_2_3 k3_3_3 k3_4_3 k3_5_3 k4_0_3 k4_1_3 k4_2_3 k4_3_3 k6_0_3 k6_1_3 k6_2_3 k6_3_3 k10_0_3 k10_1_3 k10_2_3 k10_3_3 k10_4_3 k10_5_3 k10_6_3 k10_7_3 k10_8_3 k12_0_3 k12_1_3; have k6_0_4 : W4.cell? ⟨g6, 0, none⟩ = some (.slice A3 n c3) := (blk_cell B6_4.out 0).trans rfl; have k6_1_4 : W4.cell? ⟨g6, 1, none⟩ = some (.int .i64 (EX (k + 1))) := (blk_cell B6_4.out 1).trans rfl; have k6_2_4 : W4.cell? ⟨g6, 2, none⟩ = some (.bool false) := (blk_cell B6_4.out 2).trans rfl; have k6_3_4 : W4.cell? ⟨g6, 3, none⟩ = some (.slice A4 (k + 1) c4) := (blk_cell B6_4.out 3).trans rfl; clear hq hoth hbel))
   go_roundw
   case rel => exact ⟨k + 1, by omega, by go_num, A3, c3, A4, c4, sh4, B3_4.out, B4_4.out, B10_4.out, B6_4.out, Ry_4.out, Rs_4.out, Rp_4.out, Rw_4.out, HB_4.out⟩
   case measure => simp [intOf]; omega
  ·obtain rfl : k = ps.length := by omega
   have j6 := E6
   go_wp2_with (first
    | ((with_reducible refine gate_dst (N := 64) rfl ?_); refine wpList_load_row rfl 28 _ rfl g6 rfl 28 #[.slice Ax n cx, .int .i64 (EX ps.length), .bool false, .slice As ps.length cs] (0, 0) _ E6.out Tryz.underlying28 rfl (size28 _ _ _ _) ?_)
    | ((with_reducible refine gate_store (t := 28) (p := 4) rfl ?_); refine row_event rfl 28 _ _ rfl g4 #[.slice Ax n cx, .int .i64 (EX ps.length), .bool false, .slice As ps.length cs] rfl rfl 28 #[.slice none 0 0, .int .i64 0, .bool false, .slice none 0 0] E4.out (size28 _ _ _ _) rfl (one28 _ _ _ _ _ _ _ _) ?_; intro We hq hoth hbel; have B4e := Lib.hid hq; have HBe := Lib.hid (hbel _ _ L4 HBr.out); have Rye := Lib.hid (R_othG rfl ERy.out E4.out (by decide) hoth); clear hq hoth hbel))
   refine bodyPost_ret (results_ct rfl _ _ g4 28 #[.slice Ax n cx, .int .i64 (EX ps.length), .bool false, .slice As ps.length cs] (0, 0) _ rfl B4e.out Tryz.underlying28 rfl (size28 _ _ _ _)) rfl ?_
   exact ⟨Ax, cx, As, cs, rfl, Rye.out, HBe.out⟩
end Go.Proofs.YteieahbadclppaaGreat.P

namespace Go.Proofs.YteieahbadclppaaGreat.P
open Go.RowKit Go.Shelf Go.Proofs.YteieahbadclppaaGreatW.PrintWords Go.Proofs.YteieahbadclppaaGreatW.PrintLast Go.Proofs.YteieahbadclppaaGreatW.PrintMore
set_option linter.unusedVariables false
set_option linter.unusedSimpArgs false
set_option maxRecDepth 100000 in
set_option maxHeartbeats 4000000 in
theorem dftBin_yes (A : Option Addr) (c : Nat) (l WL : List S38) (k : Int) (kp : Nat) (h0 : 0 < l.length) (h1 : l.length ≤ 64) (hm : dft_may.f kp l = some (WL, 0)) (hn : WL.length = l.length) (w : World) (hr : Kd.C k38 w A l.length l) (hc : l.length ≤ c) :
  Calls Tryz.prog 12 #[.slice A l.length c, .int .i64 k, .bool false] w fun e w' => e = .returned (.tuple #[.agg #[.int .i64 (downV (binAt l WL (Go.bits .and .i64 k (l.length - 1)) l.length).1.1 (binAt l WL (Go.bits .and .i64 k (l.length - 1)) l.length).1.2), .int .i64 (downV (binAt l WL (Go.bits .and .i64 k (l.length - 1)) l.length).2.1 (binAt l WL (Go.bits .and .i64 k (l.length - 1)) l.length).2.2)], .int .i64 0]) ∧ Below w.heap.size w w' := by
 have HR := Lib.hid hr
 have HC := Lib.hid hc
 have HM := Lib.hid hm
 have HBIN0 := fun (A1 : Option Addr) (c1 : Nat) (W : World) (h2 : Kd.C k38 W A l.length l) (h3 : Kd.C k38 W A1 WL.length WL) => bin_any A c l A1 c1 WL (Go.bits .and .i64 k (l.length - 1)) hn h0 h1 W h2 h3
 generalize hb1 : downV (binAt l WL (Go.bits .and .i64 k (l.length - 1)) l.length).1.1 (binAt l WL (Go.bits .and .i64 k (l.length - 1)) l.length).1.2 = b1 at *
 generalize hb2 : downV (binAt l WL (Go.bits .and .i64 k (l.length - 1)) l.length).2.1 (binAt l WL (Go.bits .and .i64 k (l.length - 1)) l.length).2.2 = b2 at *
 have HBIN := Lib.hid HBIN0
 have HB0 := Lib.hid (Below.refl w.heap.size w)
 clear hr hc hm hn h0 HBIN0 hb1 hb2
 go_enter Tryz.func12, Tryz.ntmps12
 go_wp2_with (first
  | ((with_reducible refine gate_dst (N := 6) rfl ?_); refine box_event ?hg (N := 6) ?hd (cs := #[.int .i64 0, .int .i64 0]) (t := 38) ?hr ?_; (case hd => rfl); (case hg => rfl); (case hr => first | (go_simp; done) | (go_simp; rfl)); intro g6 hg W1 hbox hbl; have L6 : w.heap.size ≤ g6 := (by rw [hg]; exact below_size HB0.out); have B6_1 := Lib.hid hbox; have HB_1 := Lib.hid (below_step HB0.out hbl); have Cx_1 := Lib.hid (Kd.C_below HR.out HB_1.out); have k6_0_1 : W1.cell? ⟨g6, 0, none⟩ = some (.int .i64 0) := (blk_cell B6_1.out 0).trans rfl; have k6_1_1 : W1.cell? ⟨g6, 1, none⟩ = some (.int .i64 0) := (blk_cell B6_1.out 1).trans rfl; clear hbox hbl hg)
  | (go_at_call 29; (with_reducible refine (dft_may.calls kp A c l WL 0 _ Cx_1.out HC.out HM.out).mono ?_); rintro e W2 ⟨vt, rfl, ho, hb⟩; obtain ⟨A1, c1, ev⟩ := Kd.R_slice ho; subst ev; have Ry := Lib.hid ho; have HB_2 := Lib.hid (below_step HB_1.out hb); have B6_2 := Lib.hid (blk_below B6_1.out hb); have Cx_2 := Lib.hid (Kd.C_below HR.out HB_2.out); have k6_0_2 : W2.cell? ⟨g6, 0, none⟩ = some (.int .i64 0) := (blk_cell B6_2.out 0).trans rfl; have k6_1_2 : W2.cell? ⟨g6, 1, none⟩ = some (.int .i64 0) := (blk_cell B6_2.out 1).trans rfl; clear k6_0_1 k6_1_1; clear hb ho)
  | (go_at_call 30; refine (HBIN.out A1 c1 _ Cx_2.out (R_C Ry.out).2).mono ?_; rintro e W3 ⟨rfl, hb⟩; have HB_3 := Lib.hid (below_step HB_2.out hb); have B6_3 := Lib.hid (blk_below B6_2.out hb); have Cx_3 := Lib.hid (Kd.C_below HR.out HB_3.out); have k6_0_3 : W3.cell? ⟨g6, 0, none⟩ = some (.int .i64 0) := (blk_cell B6_3.out 0).trans rfl; have k6_1_3 : W3.cell? ⟨g6, 1, none⟩ = some (.int .i64 0) := (blk_cell B6_3.out 1).trans rfl; clear k6_0_2 k6_1_2; clear hb)
  | ((with_reducible refine gate_store (t := 38) (p := 6) rfl ?_); refine row_event rfl 38 _ _ rfl g6 #[.int .i64 b1, .int .i64 b2] rfl rfl 38 #[.int .i64 0, .int .i64 0] B6_3.out (size38 _ _) rfl (one38 _ _) ?_; intro W4 hq hoth hbel; have B6_4 := Lib.hid hq; have HB_4 := Lib.hid (hbel _ _ L6 HB_3.out); clear k6_0_3 k6_1_3; have k6_0_4 : W4.cell? ⟨g6, 0, none⟩ = some (.int .i64 b1) := (blk_cell B6_4.out 0).trans rfl; have k6_1_4 : W4.cell? ⟨g6, 1, none⟩ = some (.int .i64 b2) := (blk_cell B6_4.out 1).trans rfl; have Cx_4 := Lib.hid (Kd.C_below HR.out HB_4.out); clear hq hoth hbel))
 refine bodyPost_ret (results_ct rfl _ _ g6 38 #[.int .i64 b1, .int .i64 b2] (0, 0) _ rfl B6_4.out Tryz.underlying38 rfl (size38 _ _)) rfl ?_
 exact ⟨rfl, HB_4.out⟩
set_option maxRecDepth 100000 in
set_option maxHeartbeats 4000000 in
theorem dftBin_no (A : Option Addr) (c : Nat) (l WL : List S38) (k r : Int) (kp : Nat) (hm : dft_may.f kp l = some (WL, r)) (hne : (r != 0) = true) (w : World) (hr : Kd.C k38 w A l.length l) (hc : l.length ≤ c) :
  Calls Tryz.prog 12 #[.slice A l.length c, .int .i64 k, .bool false] w fun e w' => e = .returned (.tuple #[.agg #[.int .i64 0, .int .i64 0], .int .i64 r]) ∧ Below w.heap.size w w' := by
 have HR := Lib.hid hr
 have HC := Lib.hid hc
 have HM := Lib.hid hm
 have HB0 := Lib.hid (Below.refl w.heap.size w)
 clear hr hc hm
 go_enter Tryz.func12, Tryz.ntmps12
 go_wp2_with (first
  | ((with_reducible refine gate_dst (N := 6) rfl ?_); refine box_event ?hg (N := 6) ?hd (cs := #[.int .i64 0, .int .i64 0]) (t := 38) ?hr ?_; (case hd => rfl); (case hg => rfl); (case hr => first | (go_simp; done) | (go_simp; rfl)); intro g6 hg W1 hbox hbl; have L6 : w.heap.size ≤ g6 := (by rw [hg]; exact below_size HB0.out); have B6_1 := Lib.hid hbox; have HB_1 := Lib.hid (below_step HB0.out hbl); have Cx_1 := Lib.hid (Kd.C_below HR.out HB_1.out); have k6_0_1 : W1.cell? ⟨g6, 0, none⟩ = some (.int .i64 0) := (blk_cell B6_1.out 0).trans rfl; have k6_1_1 : W1.cell? ⟨g6, 1, none⟩ = some (.int .i64 0) := (blk_cell B6_1.out 1).trans rfl; clear hbox hbl hg)
  | (go_at_call 29; (with_reducible refine (dft_may.calls kp A c l WL r _ Cx_1.out HC.out HM.out).mono ?_); rintro e W2 ⟨vt, rfl, ho, hb⟩; obtain ⟨A1, c1, ev⟩ := Kd.R_slice ho; subst ev; have Ry := Lib.hid ho; have HB_2 := Lib.hid (below_step HB_1.out hb); have B6_2 := Lib.hid (blk_below B6_1.out hb); have Cx_2 := Lib.hid (Kd.C_below HR.out HB_2.out); have k6_0_2 : W2.cell? ⟨g6, 0, none⟩ = some (.int .i64 0) := (blk_cell B6_2.out 0).trans rfl; have k6_1_2 : W2.cell? ⟨g6, 1, none⟩ = some (.int .i64 0) := (blk_cell B6_2.out 1).trans rfl; clear k6_0_1 k6_1_1; clear hb ho)
  | ((with_reducible refine gate_store (t := 38) (p := 6) rfl ?_); refine row_event rfl 38 _ _ rfl g6 #[.int .i64 0, .int .i64 0] rfl rfl 38 #[.int .i64 0, .int .i64 0] B6_2.out (size38 _ _) rfl (one38 _ _) ?_; intro W3 hq hoth hbel; have B6_3 := Lib.hid hq; have HB_3 := Lib.hid (hbel _ _ L6 HB_2.out); clear k6_0_2 k6_1_2; have k6_0_3 : W3.cell? ⟨g6, 0, none⟩ = some (.int .i64 0) := (blk_cell B6_3.out 0).trans rfl; have k6_1_3 : W3.cell? ⟨g6, 1, none⟩ = some (.int .i64 0) := (blk_cell B6_3.out 1).trans rfl; have Cx_3 := Lib.hid (Kd.C_below HR.out HB_3.out); clear hq hoth hbel))
 refine bodyPost_ret (results_ct rfl _ _ g6 38 #[.int .i64 0, .int .i64 0] (0, 0) _ rfl B6_3.out Tryz.underlying38 rfl (size38 _ _)) rfl ?_
 exact ⟨rfl, HB_3.out⟩
set_option maxRecDepth 100000 in
set_option maxHeartbeats 4000000 in
theorem Bin_no (A : Option Addr) (c : Nat) (l : List Int) (k r : Int) (hne : (r != 0) = true) (w : World) (hr : Kd.C (Kd.int .i64) w A l.length l)
  (hlk : ∀ W : World, Kd.C (Kd.int .i64) W A l.length l → Calls Tryz.prog 25 #[.slice A l.length c, .int .i64 k] W fun e w' => e = .returned (.tuple #[.agg #[.int .i64 0, .int .i64 0], .int .i64 r]) ∧ Below W.heap.size W w') :
  Calls Tryz.prog 11 #[.slice A l.length c, .int .i64 k] w fun e w' => e = .returned (.tuple #[.agg #[.int .i64 0, .int .i64 0], .int .i64 r]) ∧ Below w.heap.size w w' := by
 have HR := Lib.hid hr
 have HLK := Lib.hid hlk
 have HB0 := Lib.hid (Below.refl w.heap.size w)
 clear hr hlk
 go_enter Tryz.func11, Tryz.ntmps11
 go_wp2_with (first
  | ((with_reducible refine gate_dst (N := 4) rfl ?_); refine box_event ?hg (N := 4) ?hd (cs := #[.int .i64 0, .int .i64 0]) (t := 38) ?hr ?_; (case hd => rfl); (case hg => rfl); (case hr => first | (go_simp; done) | (go_simp; rfl)); intro g4 hg W1 hbox hbl; have L4 : w.heap.size ≤ g4 := (by rw [hg]; exact below_size HB0.out); have B4_1 := Lib.hid hbox; have HB_1 := Lib.hid (below_step HB0.out hbl); have Cx_1 := Lib.hid (Kd.C_below HR.out HB_1.out); have k4_0_1 : W1.cell? ⟨g4, 0, none⟩ = some (.int .i64 0) := (blk_cell B4_1.out 0).trans rfl; have k4_1_1 : W1.cell? ⟨g4, 1, none⟩ = some (.int .i64 0) := (blk_cell B4_1.out 1).trans rfl; clear hbox hbl hg)
  | (go_at_call 25; refine (HLK.out _ Cx_1.out).mono ?_; rintro e W2 ⟨rfl, hb⟩; have HB_2 := Lib.hid (below_step HB_1.out hb); have B4_2 := Lib.hid (blk_below B4_1.out hb); have Cx_2 := Lib.hid (Kd.C_below HR.out HB_2.out); have k4_0_2 : W2.cell? ⟨g4, 0, none⟩ = some (.int .i64 0) := (blk_cell B4_2.out 0).trans rfl; have k4_1_2 : W2.cell? ⟨g4, 1, none⟩ = some (.int .i64 0) := (blk_cell B4_2.out 1).trans rfl; clear k4_0_1 k4_1_1; clear hb)
  | ((with_reducible refine gate_dst (N := 6) rfl ?_); refine box_event ?hg (N := 6) ?hd (cs := #[.int .i64 0, .int .i64 0]) (t := 38) ?hr ?_; (case hd => rfl); (case hg => rfl); (case hr => first | (go_simp; done) | (go_simp; rfl)); intro g6 hg W3 hbox hbl; have L6 : w.heap.size ≤ g6 := (by rw [hg]; exact below_size HB_2.out); have B6_3 := Lib.hid hbox; have HB_3 := Lib.hid (below_step HB_2.out hbl); have B4_3 := Lib.hid (blk_below B4_2.out hbl); have Cx_3 := Lib.hid (Kd.C_below HR.out HB_3.out); have k4_0_3 : W3.cell? ⟨g4, 0, none⟩ = some (.int .i64 0) := (blk_cell B4_3.out 0).trans rfl; have k4_1_3 : W3.cell? ⟨g4, 1, none⟩ = some (.int .i64 0) := (blk_cell B4_3.out 1).trans rfl; clear k4_0_2 k4_1_2; have k6_0_3 : W3.cell? ⟨g6, 0, none⟩ = some (.int .i64 0) := (blk_cell B6_3.out 0).trans rfl; have k6_1_3 : W3.cell? ⟨g6, 1, none⟩ = some (.int .i64 0) := (blk_cell B6_3.out 1).trans rfl; have NE46 := Lib.hid (show g4 ≠ g6 from fun e => by have := blk_lt B4_2.out; omega); have NE64 := Lib.hid (show g6 ≠ g4 from fun e => NE46.out e.symm); clear hbox hbl hg)
  | ((with_reducible refine gate_store (t := 38) (p := 6) rfl ?_); refine row_event rfl 38 _ _ rfl g6 #[.int .i64 0, .int .i64 0] rfl rfl 38 #[.int .i64 0, .int .i64 0] B6_3.out (size38 _ _) rfl (one38 _ _) ?_; intro W4 hq hoth hbel; have B6_4 := Lib.hid hq; have HB_4 := Lib.hid (hbel _ _ L6 HB_3.out); have B4_4 := Lib.hid ((hoth _ NE46.out).trans B4_3.out); have k4_0_4 : W4.cell? ⟨g4, 0, none⟩ = some (.int .i64 0) := (blk_cell B4_4.out 0).trans rfl; have k4_1_4 : W4.cell? ⟨g4, 1, none⟩ = some (.int .i64 0) := (blk_cell B4_4.out 1).trans rfl; clear k4_0_3 k4_1_3 k6_0_3 k6_1_3; have k6_0_4 : W4.cell? ⟨g6, 0, none⟩ = some (.int .i64 0) := (blk_cell B6_4.out 0).trans rfl; have k6_1_4 : W4.cell? ⟨g6, 1, none⟩ = some (.int .i64 0) := (blk_cell B6_4.out 1).trans rfl; have Cx_4 := Lib.hid (Kd.C_below HR.out HB_4.out); clear hq hoth hbel)
  | ((with_reducible refine gate_store (t := 38) (p := 4) rfl ?_); refine row_event rfl 38 _ _ rfl g4 #[.int .i64 0, .int .i64 0] rfl rfl 38 #[.int .i64 0, .int .i64 0] B4_4.out (size38 _ _) rfl (one38 _ _) ?_; intro W5 hq hoth hbel; have B4_5 := Lib.hid hq; have HB_5 := Lib.hid (hbel _ _ L4 HB_4.out); have B6_5 := Lib.hid ((hoth _ NE64.out).trans B6_4.out); have k6_0_5 : W5.cell? ⟨g6, 0, none⟩ = some (.int .i64 0) := (blk_cell B6_5.out 0).trans rfl; have k6_1_5 : W5.cell? ⟨g6, 1, none⟩ = some (.int .i64 0) := (blk_cell B6_5.out 1).trans rfl; clear k4_0_4 k4_1_4 k6_0_4 k6_1_4; have k4_0_5 : W5.cell? ⟨g4, 0, none⟩ = some (.int .i64 0) := (blk_cell B4_5.out 0).trans rfl; have k4_1_5 : W5.cell? ⟨g4, 1, none⟩ = some (.int .i64 0) := (blk_cell B4_5.out 1).trans rfl; have Cx_5 := Lib.hid (Kd.C_below HR.out HB_5.out); clear hq hoth hbel))
 refine bodyPost_ret (results_ct rfl _ _ g4 38 #[.int .i64 0, .int .i64 0] (0, 0) _ rfl B4_5.out Tryz.underlying38 rfl (size38 _ _)) rfl ?_
 exact ⟨rfl, HB_5.out⟩
end Go.Proofs.YteieahbadclppaaGreat.P

namespace Go.Proofs.YteieahbadclppaaGreat.P
open Go.RowKit Go.Proofs.YteieahbadclppaaGreatW.PrintWords Go.Proofs.YteieahbadclppaaGreatW.PrintLast Go.Proofs.YteieahbadclppaaGreatW.PrintMore
attribute [local go_sem] max2_int min2_int max_two min_two
set_option linter.unusedVariables false
set_option linter.unusedSimpArgs false
set_option maxRecDepth 100000 in
set_option maxHeartbeats 4000000 in
theorem next_22 (p0 p1 p2 p4 b : Int) (p5 : Bool) (Aw : Option Addr) (wl : List S38) (cw : Nat) (Ax : Option Addr) (cx : Nat) (l y : List S38) (exp h : Int) (As : Option Addr) (cs : Nat) (sh : List Int) (w : World) (hy0 : 0 < y.length) (hy1 : y.length ≤ 64) (hyy : ∀ x, x ∈ y → in15 x = true)
  (hx : Kd.C k38 w Ax l.length l) (hw : Kd.C k38 w Aw wl.length wl) (hs : Kd.C (Kd.int .i64) w As sh.length sh) (hcs : sh.length ≤ cs) (hls : sh.length ≤ 100) (hly : y.length = l.length) (he0 : -1000 ≤ exp) (he1 : exp ≤ 1000) (hb0 : 2 ≤ b) (hb1 : b ≤ 31)
  (hp : ∀ W : World, Kd.C k38 W Ax l.length l → Kd.C k38 W Aw wl.length wl → Calls Tryz.prog 49 #[.slice Ax l.length cx, .slice Aw wl.length cw, .int .i64 h, .int .i64 (b - 2), .int .i64 0, .int .i64 p4, .bool p5] W fun e w' => ∃ v, e = .returned (.tuple #[v, .int .i64 0]) ∧ Kd.R k38 38 w' W.heap.size (fun _ => True) v y ∧ Below W.heap.size W w') :
  Calls Tryz.prog 20 #[.agg #[.int .i64 0, .int .i64 p1, .int .i64 p2, .int .i64 2, .int .i64 p4, .bool p5, .iface 100 (.agg #[]), .int .i64 b, .slice Aw wl.length cw], .agg #[.slice Ax l.length cx, .int .i64 0, .bool false, .slice As sh.length cs], .agg #[.int .i64 2, .int .i64 h]] w fun e w' => ∃ A' c' As' cs', e = .returned (.agg #[.slice A' l.length c', .int .i64 0, .bool false, .slice As' (sh.length + 1) cs']) ∧ Kd.R k38 38 w' w.heap.size (fun _ => True) (.slice A' l.length c') y ∧ Kd.R (Kd.int .i64) 3 w' w.heap.size (fun _ => True) (.slice As' (sh.length + 1) cs') (sh ++ [0]) ∧ Below w.heap.size w w' := by
 have hmx : Tryz.prog.follows .mixedOrders = true := by kernel_rfl
 have hm : ∀ w, (method 294 100 (.agg #[]) "headroom/fft.pass").run Tryz.prog w = .ok (152, .agg #[]) w := fun _ => by kernel_rfl
 have HR := Lib.hid hx
 have HS := Lib.hid hw
 have HT := Lib.hid hs
 have HCS := Lib.hid hcs
 have HLS := Lib.hid (show sh.length ≤ 1000 by omega)
 have HLY := Lib.hid hly
 have HP := Lib.hid hp
 have HEX := Lib.hid (show wrap64 0 = 0 by unfold wrap64; omega)
 have HB0 := Lib.hid (Below.refl w.heap.size w)
 have HK := Lib.hid (fun (A : Option Addr) (c : Nat) (W : World) (hr : Kd.C k38 W A y.length y) (hc : y.length ≤ c) => hly ▸ clamped_ok p1 p2 p4 b p5 Aw wl.length cw A c y W hr hc hy0 hy1 hyy)
 clear hyy
 clear hx hw hs hcs hls hly hp
 go_enter Tryz.func20, Tryz.ntmps20
 go_wp2_with (first
  | ((with_reducible refine gate_dst (N := 3) rfl ?_); refine box_event ?hg (N := 3) ?hd (cs := #[.int .i64 0, .int .i64 p1, .int .i64 p2, .int .i64 2, .int .i64 p4, .bool p5, .iface 100 (.agg #[]), .int .i64 b, .slice Aw wl.length cw]) (t := 56) ?hr ?_; (case hd => rfl); (case hg => rfl); (case hr => first | (go_simp; done) | (go_simp; rfl)); intro g3 hg W1 hbox hbl; have L3 : w.heap.size ≤ g3 := (by rw [hg]; exact below_size HB0.out); have B3_1 := Lib.hid hbox; have HB_1 := Lib.hid (below_step HB0.out hbl); have Cx_1 := Lib.hid (Kd.C_below HR.out HB_1.out); have Cw_1 := Lib.hid (Kd.C_below HS.out HB_1.out); have Cs_1 := Lib.hid (Kd.C_below HT.out HB_1.out); have k3_0_1 : W1.cell? ⟨g3, 0, none⟩ = some (.int .i64 0) := (blk_cell B3_1.out 0).trans rfl; have k3_1_1 : W1.cell? ⟨g3, 1, none⟩ = some (.int .i64 p1) := (blk_cell B3_1.out 1).trans rfl; have k3_2_1 : W1.cell? ⟨g3, 2, none⟩ = some (.int .i64 p2) := (blk_cell B3_1.out 2).trans rfl; have k3_3_1 : W1.cell? ⟨g3, 3, none⟩ = some (.int .i64 2) := (blk_cell B3_1.out 3).trans rfl; have k3_4_1 : W1.cell? ⟨g3, 4, none⟩ = some (.int .i64 p4) := (blk_cell B3_1.out 4).trans rfl; have k3_5_1 : W1.cell? ⟨g3, 5, none⟩ = some (.bool p5) := (blk_cell B3_1.out 5).trans rfl; have k3_6_1 : W1.cell? ⟨g3, 6, none⟩ = some (.iface 100 (.agg #[])) := (blk_cell B3_1.out 6).trans rfl; have k3_7_1 : W1.cell? ⟨g3, 7, none⟩ = some (.int .i64 b) := (blk_cell B3_1.out 7).trans rfl; have k3_8_1 : W1.cell? ⟨g3, 8, none⟩ = some (.slice Aw wl.length cw) := (blk_cell B3_1.out 8).trans rfl; clear hbox hbl hg)
  | ((with_reducible refine gate_dst (N := 4) rfl ?_); refine box_event ?hg (N := 4) ?hd (cs := #[.slice Ax l.length cx, .int .i64 0, .bool false, .slice As sh.length cs]) (t := 28) ?hr ?_; (case hd => rfl); (case hg => rfl); (case hr => first | (go_simp; done) | (go_simp; rfl)); intro g4 hg W2 hbox hbl; have L4 : w.heap.size ≤ g4 := (by rw [hg]; exact below_size HB_1.out); have B4_2 := Lib.hid hbox; have HB_2 := Lib.hid (below_step HB_1.out hbl); have B3_2 := Lib.hid (blk_below B3_1.out hbl); have Cx_2 := Lib.hid (Kd.C_below HR.out HB_2.out); have Cw_2 := Lib.hid (Kd.C_below HS.out HB_2.out); have Cs_2 := Lib.hid (Kd.C_below HT.out HB_2.out); have k3_0_2 : W2.cell? ⟨g3, 0, none⟩ = some (.int .i64 0) := (blk_cell B3_2.out 0).trans rfl; have k3_1_2 : W2.cell? ⟨g3, 1, none⟩ = some (.int .i64 p1) := (blk_cell B3_2.out 1).trans rfl; have k3_2_2 : W2.cell? ⟨g3, 2, none⟩ = some (.int .i64 p2) := (blk_cell B3_2.out 2).trans rfl; have k3_3_2 : W2.cell? ⟨g3, 3, none⟩ = some (.int .i64 2) := (blk_cell B3_2.out 3).trans rfl; have k3_4_2 : W2.cell? ⟨g3, 4, none⟩ = some (.int .i64 p4) := (blk_cell B3_2.out 4).trans rfl; have k3_5_2 : W2.cell? ⟨g3, 5, none⟩ = some (.bool p5) := (blk_cell B3_2.out 5).trans rfl; have k3_6_2 : W2.cell? ⟨g3, 6, none⟩ = some (.iface 100 (.agg #[])) := (blk_cell B3_2.out 6).trans rfl; have k3_7_2 : W2.cell? ⟨g3, 7, none⟩ = some (.int .i64 b) := (blk_cell B3_2.out 7).trans rfl; have k3_8_2 : W2.cell? ⟨g3, 8, none⟩ = some (.slice Aw wl.length cw) := (blk_cell B3_2.out 8).trans rfl; clear k3_0_1 k3_1_1 k3_2_1 k3_3_1 k3_4_1 k3_5_1 k3_6_1 k3_7_1 k3_8_1; have k4_0_2 : W2.cell? ⟨g4, 0, none⟩ = some (.slice Ax l.length cx) := (blk_cell B4_2.out 0).trans rfl; have k4_1_2 : W2.cell? ⟨g4, 1, none⟩ = some (.int .i64 0) := (blk_cell B4_2.out 1).trans rfl; have k4_2_2 : W2.cell? ⟨g4, 2, none⟩ = some (.bool false) := (blk_cell B4_2.out 2).trans rfl; have k4_3_2 : W2.cell? ⟨g4, 3, none⟩ = some (.slice As sh.length cs) := (blk_cell B4_2.out 3).trans rfl; clear hbox hbl hg)
  | ((with_reducible refine gate_dst (N := 5) rfl ?_); refine box_event ?hg (N := 5) ?hd (cs := #[.int .i64 2, .int .i64 h]) (t := 59) ?hr ?_; (case hd => rfl); (case hg => rfl); (case hr => first | (go_simp; done) | (go_simp; rfl)); intro g5 hg W3 hbox hbl; have L5 : w.heap.size ≤ g5 := (by rw [hg]; exact below_size HB_2.out); have B5_3 := Lib.hid hbox; have HB_3 := Lib.hid (below_step HB_2.out hbl); have B3_3 := Lib.hid (blk_below B3_2.out hbl); have B4_3 := Lib.hid (blk_below B4_2.out hbl); have Cx_3 := Lib.hid (Kd.C_below HR.out HB_3.out); have Cw_3 := Lib.hid (Kd.C_below HS.out HB_3.out); have Cs_3 := Lib.hid (Kd.C_below HT.out HB_3.out); have k3_0_3 : W3.cell? ⟨g3, 0, none⟩ = some (.int .i64 0) := (blk_cell B3_3.out 0).trans rfl; have k3_1_3 : W3.cell? ⟨g3, 1, none⟩ = some (.int .i64 p1) := (blk_cell B3_3.out 1).trans rfl; have k3_2_3 : W3.cell? ⟨g3, 2, none⟩ = some (.int .i64 p2) := (blk_cell B3_3.out 2).trans rfl; have k3_3_3 : W3.cell? ⟨g3, 3, none⟩ = some (.int .i64 2) := (blk_cell B3_3.out 3).trans rfl; have k3_4_3 : W3.cell? ⟨g3, 4, none⟩ = some (.int .i64 p4) := (blk_cell B3_3.out 4).trans rfl; have k3_5_3 : W3.cell? ⟨g3, 5, none⟩ = some (.bool p5) := (blk_cell B3_3.out 5).trans rfl; have k3_6_3 : W3.cell? ⟨g3, 6, none⟩ = some (.iface 100 (.agg #[])) := (blk_cell B3_3.out 6).trans rfl; have k3_7_3 : W3.cell? ⟨g3, 7, none⟩ = some (.int .i64 b) := (blk_cell B3_3.out 7).trans rfl; have k3_8_3 : W3.cell? ⟨g3, 8, none⟩ = some (.slice Aw wl.length cw) := (blk_cell B3_3.out 8).trans rfl; have k4_0_3 : W3.cell? ⟨g4, 0, none⟩ = some (.slice Ax l.length cx) := (blk_cell B4_3.out 0).trans rfl; have k4_1_3 : W3.cell? ⟨g4, 1, none⟩ = some (.int .i64 0) := (blk_cell B4_3.out 1).trans rfl; have k4_2_3 : W3.cell? ⟨g4, 2, none⟩ = some (.bool false) := (blk_cell B4_3.out 2).trans rfl; have k4_3_3 : W3.cell? ⟨g4, 3, none⟩ = some (.slice As sh.length cs) := (blk_cell B4_3.out 3).trans rfl; clear k3_0_2 k3_1_2 k3_2_2 k3_3_2 k3_4_2 k3_5_2 k3_6_2 k3_7_2 k3_8_2 k4_0_2 k4_1_2 k4_2_2 k4_3_2; have k5_0_3 : W3.cell? ⟨g5, 0, none⟩ = some (.int .i64 2) := (blk_cell B5_3.out 0).trans rfl; have k5_1_3 : W3.cell? ⟨g5, 1, none⟩ = some (.int .i64 h) := (blk_cell B5_3.out 1).trans rfl; clear hbox hbl hg)
  | ((with_reducible refine gate_dst (N := 6) rfl ?_); refine box_event ?hg (N := 6) ?hd (cs := #[.slice none 0 0, .int .i64 0, .bool false, .slice none 0 0]) (t := 28) ?hr ?_; (case hd => rfl); (case hg => rfl); (case hr => first | (go_simp; done) | (go_simp; rfl)); intro g6 hg W4 hbox hbl; have L6 : w.heap.size ≤ g6 := (by rw [hg]; exact below_size HB_3.out); have B6_4 := Lib.hid hbox; have HB_4 := Lib.hid (below_step HB_3.out hbl); have B3_4 := Lib.hid (blk_below B3_3.out hbl); have B4_4 := Lib.hid (blk_below B4_3.out hbl); have B5_4 := Lib.hid (blk_below B5_3.out hbl); have Cx_4 := Lib.hid (Kd.C_below HR.out HB_4.out); have Cw_4 := Lib.hid (Kd.C_below HS.out HB_4.out); have Cs_4 := Lib.hid (Kd.C_below HT.out HB_4.out); have k3_0_4 : W4.cell? ⟨g3, 0, none⟩ = some (.int .i64 0) := (blk_cell B3_4.out 0).trans rfl; have k3_1_4 : W4.cell? ⟨g3, 1, none⟩ = some (.int .i64 p1) := (blk_cell B3_4.out 1).trans rfl; have k3_2_4 : W4.cell? ⟨g3, 2, none⟩ = some (.int .i64 p2) := (blk_cell B3_4.out 2).trans rfl; have k3_3_4 : W4.cell? ⟨g3, 3, none⟩ = some (.int .i64 2) := (blk_cell B3_4.out 3).trans rfl; have k3_4_4 : W4.cell? ⟨g3, 4, none⟩ = some (.int .i64 p4) := (blk_cell B3_4.out 4).trans rfl; have k3_5_4 : W4.cell? ⟨g3, 5, none⟩ = some (.bool p5) := (blk_cell B3_4.out 5).trans rfl; have k3_6_4 : W4.cell? ⟨g3, 6, none⟩ = some (.iface 100 (.agg #[])) := (blk_cell B3_4.out 6).trans rfl; have k3_7_4 : W4.cell? ⟨g3, 7, none⟩ = some (.int .i64 b) := (blk_cell B3_4.out 7).trans rfl; have k3_8_4 : W4.cell? ⟨g3, 8, none⟩ = some (.slice Aw wl.length cw) := (blk_cell B3_4.out 8).trans rfl; have k4_0_4 : W4.cell? ⟨g4, 0, none⟩ = some (.slice Ax l.length cx) := (blk_cell B4_4.out 0).trans rfl; have k4_1_4 : W4.cell? ⟨g4, 1, none⟩ = some (.int .i64 0) := (blk_cell B4_4.out 1).trans rfl; have k4_2_4 : W4.cell? ⟨g4, 2, none⟩ = some (.bool false) := (blk_cell B4_4.out 2).trans rfl; have k4_3_4 : W4.cell? ⟨g4, 3, none⟩ = some (.slice As sh.length cs) := (blk_cell B4_4.out 3).trans rfl; have k5_0_4 : W4.cell? ⟨g5, 0, none⟩ = some (.int .i64 2) := (blk_cell B5_4.out 0).trans rfl; have k5_1_4 : W4.cell? ⟨g5, 1, none⟩ = some (.int .i64 h) := (blk_cell B5_4.out 1).trans rfl; clear k3_0_3 k3_1_3 k3_2_3 k3_3_3 k3_4_3 k3_5_3 k3_6_3 k3_7_3 k3_8_3 k4_0_3 k4_1_3 k4_2_3 k4_3_3 k5_0_3 k5_1_3; have k6_0_4 : W4.cell? ⟨g6, 0, none⟩ = some (.slice none 0 0) := (blk_cell B6_4.out 0).trans rfl; have k6_1_4 : W4.cell? ⟨g6, 1, none⟩ = some (.int .i64 0) := (blk_cell B6_4.out 1).trans rfl; have k6_2_4 : W4.cell? ⟨g6, 2, none⟩ = some (.bool false) := (blk_cell B6_4.out 2).trans rfl; have k6_3_4 : W4.cell? ⟨g6, 3, none⟩ = some (.slice none 0 0) := (blk_cell B6_4.out 3).trans rfl; have NE36 := Lib.hid (show g3 ≠ g6 from fun e => by have := blk_lt B3_3.out; omega); have NE46 := Lib.hid (show g4 ≠ g6 from fun e => by have := blk_lt B4_3.out; omega); have NE56 := Lib.hid (show g5 ≠ g6 from fun e => by have := blk_lt B5_3.out; omega); clear hbox hbl hg)
  | (go_at_call 152; (with_reducible refine (scale152 2 Ax l.length cx _).mono ?_); rintro e W5 ⟨rfl, hb⟩; have HB_5 := Lib.hid (below_step HB_4.out hb); have B3_5 := Lib.hid (blk_below B3_4.out hb); have B4_5 := Lib.hid (blk_below B4_4.out hb); have B5_5 := Lib.hid (blk_below B5_4.out hb); have B6_5 := Lib.hid (blk_below B6_4.out hb); have Cx_5 := Lib.hid (Kd.C_below HR.out HB_5.out); have Cw_5 := Lib.hid (Kd.C_below HS.out HB_5.out); have Cs_5 := Lib.hid (Kd.C_below HT.out HB_5.out); have k3_0_5 : W5.cell? ⟨g3, 0, none⟩ = some (.int .i64 0) := (blk_cell B3_5.out 0).trans rfl; have k3_1_5 : W5.cell? ⟨g3, 1, none⟩ = some (.int .i64 p1) := (blk_cell B3_5.out 1).trans rfl; have k3_2_5 : W5.cell? ⟨g3, 2, none⟩ = some (.int .i64 p2) := (blk_cell B3_5.out 2).trans rfl; have k3_3_5 : W5.cell? ⟨g3, 3, none⟩ = some (.int .i64 2) := (blk_cell B3_5.out 3).trans rfl; have k3_4_5 : W5.cell? ⟨g3, 4, none⟩ = some (.int .i64 p4) := (blk_cell B3_5.out 4).trans rfl; have k3_5_5 : W5.cell? ⟨g3, 5, none⟩ = some (.bool p5) := (blk_cell B3_5.out 5).trans rfl; have k3_6_5 : W5.cell? ⟨g3, 6, none⟩ = some (.iface 100 (.agg #[])) := (blk_cell B3_5.out 6).trans rfl; have k3_7_5 : W5.cell? ⟨g3, 7, none⟩ = some (.int .i64 b) := (blk_cell B3_5.out 7).trans rfl; have k3_8_5 : W5.cell? ⟨g3, 8, none⟩ = some (.slice Aw wl.length cw) := (blk_cell B3_5.out 8).trans rfl; have k4_0_5 : W5.cell? ⟨g4, 0, none⟩ = some (.slice Ax l.length cx) := (blk_cell B4_5.out 0).trans rfl; have k4_1_5 : W5.cell? ⟨g4, 1, none⟩ = some (.int .i64 0) := (blk_cell B4_5.out 1).trans rfl; have k4_2_5 : W5.cell? ⟨g4, 2, none⟩ = some (.bool false) := (blk_cell B4_5.out 2).trans rfl; have k4_3_5 : W5.cell? ⟨g4, 3, none⟩ = some (.slice As sh.length cs) := (blk_cell B4_5.out 3).trans rfl; have k5_0_5 : W5.cell? ⟨g5, 0, none⟩ = some (.int .i64 2) := (blk_cell B5_5.out 0).trans rfl; have k5_1_5 : W5.cell? ⟨g5, 1, none⟩ = some (.int .i64 h) := (blk_cell B5_5.out 1).trans rfl; have k6_0_5 : W5.cell? ⟨g6, 0, none⟩ = some (.slice none 0 0) := (blk_cell B6_5.out 0).trans rfl; have k6_1_5 : W5.cell? ⟨g6, 1, none⟩ = some (.int .i64 0) := (blk_cell B6_5.out 1).trans rfl; have k6_2_5 : W5.cell? ⟨g6, 2, none⟩ = some (.bool false) := (blk_cell B6_5.out 2).trans rfl; have k6_3_5 : W5.cell? ⟨g6, 3, none⟩ = some (.slice none 0 0) := (blk_cell B6_5.out 3).trans rfl; clear k3_0_4 k3_1_4 k3_2_4 k3_3_4 k3_4_4 k3_5_4 k3_6_4 k3_7_4 k3_8_4 k4_0_4 k4_1_4 k4_2_4 k4_3_4 k5_0_4 k5_1_4 k6_0_4 k6_1_4 k6_2_4 k6_3_4; clear hb)
  | (go_at_call 49; refine (HP.out _ Cx_5.out Cw_5.out).mono ?_; rintro e W6 ⟨vt, rfl, ho, hb⟩; obtain ⟨A2, c2, ev⟩ := Kd.R_slice ho; rw [HLY.out] at ev; subst ev; have Ry_6 := Lib.hid (Kd.R_lower ho (below_size HB_5.out)); have NR6 := Lib.hid (show some g6 ≠ (Value.slice A2 _ c2).ownBlock from fun e => Nat.lt_irrefl _ (Nat.lt_of_lt_of_le (blk_lt B6_5.out) (Kd.R_base ho g6 e.symm))); have HB_6 := Lib.hid (below_step HB_5.out hb); have B3_6 := Lib.hid (blk_below B3_5.out hb); have B4_6 := Lib.hid (blk_below B4_5.out hb); have B5_6 := Lib.hid (blk_below B5_5.out hb); have B6_6 := Lib.hid (blk_below B6_5.out hb); have Cx_6 := Lib.hid (Kd.C_below HR.out HB_6.out); have Cw_6 := Lib.hid (Kd.C_below HS.out HB_6.out); have Cs_6 := Lib.hid (Kd.C_below HT.out HB_6.out); have k3_0_6 : W6.cell? ⟨g3, 0, none⟩ = some (.int .i64 0) := (blk_cell B3_6.out 0).trans rfl; have k3_1_6 : W6.cell? ⟨g3, 1, none⟩ = some (.int .i64 p1) := (blk_cell B3_6.out 1).trans rfl; have k3_2_6 : W6.cell? ⟨g3, 2, none⟩ = some (.int .i64 p2) := (blk_cell B3_6.out 2).trans rfl; have k3_3_6 : W6.cell? ⟨g3, 3, none⟩ = some (.int .i64 2) := (blk_cell B3_6.out 3).trans rfl; have k3_4_6 : W6.cell? ⟨g3, 4, none⟩ = some (.int .i64 p4) := (blk_cell B3_6.out 4).trans rfl; have k3_5_6 : W6.cell? ⟨g3, 5, none⟩ = some (.bool p5) := (blk_cell B3_6.out 5).trans rfl; have k3_6_6 : W6.cell? ⟨g3, 6, none⟩ = some (.iface 100 (.agg #[])) := (blk_cell B3_6.out 6).trans rfl; have k3_7_6 : W6.cell? ⟨g3, 7, none⟩ = some (.int .i64 b) := (blk_cell B3_6.out 7).trans rfl; have k3_8_6 : W6.cell? ⟨g3, 8, none⟩ = some (.slice Aw wl.length cw) := (blk_cell B3_6.out 8).trans rfl; have k4_0_6 : W6.cell? ⟨g4, 0, none⟩ = some (.slice Ax l.length cx) := (blk_cell B4_6.out 0).trans rfl; have k4_1_6 : W6.cell? ⟨g4, 1, none⟩ = some (.int .i64 0) := (blk_cell B4_6.out 1).trans rfl; have k4_2_6 : W6.cell? ⟨g4, 2, none⟩ = some (.bool false) := (blk_cell B4_6.out 2).trans rfl; have k4_3_6 : W6.cell? ⟨g4, 3, none⟩ = some (.slice As sh.length cs) := (blk_cell B4_6.out 3).trans rfl; have k5_0_6 : W6.cell? ⟨g5, 0, none⟩ = some (.int .i64 2) := (blk_cell B5_6.out 0).trans rfl; have k5_1_6 : W6.cell? ⟨g5, 1, none⟩ = some (.int .i64 h) := (blk_cell B5_6.out 1).trans rfl; have k6_0_6 : W6.cell? ⟨g6, 0, none⟩ = some (.slice none 0 0) := (blk_cell B6_6.out 0).trans rfl; have k6_1_6 : W6.cell? ⟨g6, 1, none⟩ = some (.int .i64 0) := (blk_cell B6_6.out 1).trans rfl; have k6_2_6 : W6.cell? ⟨g6, 2, none⟩ = some (.bool false) := (blk_cell B6_6.out 2).trans rfl; have k6_3_6 : W6.cell? ⟨g6, 3, none⟩ = some (.slice none 0 0) := (blk_cell B6_6.out 3).trans rfl; clear k3_0_5 k3_1_5 k3_2_5 k3_3_5 k3_4_5 k3_5_5 k3_6_5 k3_7_5 k3_8_5 k4_0_5 k4_1_5 k4_2_5 k4_3_5 k5_0_5 k5_1_5 k6_0_5 k6_1_5 k6_2_5 k6_3_5; clear hb ho))
 refine start_ (S := fun w' => Below W6.heap.size W6 w') (ds := []) (fl 16 0) hmx rfl rfl (Below.refl _ _).drew (fun hHeld => ?_)
 refine pure_ (i := 0) (N := some 44) (v := ?_) (a' := ?_) (fl 16 1) rfl rfl (by kernel_rfl) (fun _ _ _ h => h) (Or.inl ⟨by rfl, ?_⟩) ?_ ?_
 rotate_left
 ·intro w'
  go_simp
  with_reducible rfl
 rotate_left
 ·simp only [Act.put, List.setIfInBounds_toArray, List.set_cons_zero, List.set_cons_succ, i64_w, i32_w]
  rfl
 refine pure_ (i := 1) (N := some 45) (v := ?_) (a' := ?_) (fl 16 3) rfl rfl (by kernel_rfl) (fun _ _ _ h => h) (Or.inl ⟨by rfl, ?_⟩) ?_ ?_
 rotate_left
 ·intro w'
  go_simp
  with_reducible rfl
 rotate_left
 ·simp only [Act.put, List.setIfInBounds_toArray, List.set_cons_zero, List.set_cons_succ, i64_w, i32_w]
  rfl
 refine pure_ (i := 3) (N := some 47) (v := ?_) (a' := ?_) (fl 16 11) rfl rfl (by kernel_rfl) (fun _ _ _ h => h) (Or.inl ⟨by rfl, ?_⟩) ?_ ?_
 rotate_left
 ·intro w'
  go_simp
  with_reducible rfl
 rotate_left
 ·simp only [Act.put, List.setIfInBounds_toArray, List.set_cons_zero, List.set_cons_succ, i64_w, i32_w]
  rfl
 refine pure_ (i := 5) (N := some 49) (v := ?_) (a' := ?_) (fl 16 43) rfl rfl (by kernel_rfl) (fun _ _ _ h => h) (Or.inl ⟨by rfl, ?_⟩) ?_ ?_
 rotate_left
 ·intro w'
  go_simp
  with_reducible rfl
 rotate_left
 ·simp only [Act.put, List.setIfInBounds_toArray, List.set_cons_zero, List.set_cons_succ, i64_w, i32_w]
  rfl
 refine pure_ (i := 7) (N := some 51) (v := ?_) (a' := ?_) (fl 16 171) rfl rfl (by kernel_rfl) (fun _ _ _ h => h) (Or.inl ⟨by rfl, ?_⟩) ?_ ?_
 rotate_left
 ·intro w'
  go_simp
  with_reducible rfl
 rotate_left
 ·simp only [Act.put, List.setIfInBounds_toArray, List.set_cons_zero, List.set_cons_succ, i64_w, i32_w]
  rfl
 refine pure_ (i := 10) (N := some 54) (v := ?_) (a' := ?_) (fl 16 1195) rfl rfl (by kernel_rfl) (fun _ _ _ h => h) (Or.inl ⟨by rfl, ?_⟩) ?_ ?_
 rotate_left
 ·intro w'
  go_simp
  with_reducible rfl
 rotate_left
 ·simp only [Act.put, List.setIfInBounds_toArray, List.set_cons_zero, List.set_cons_succ, i64_w, i32_w]
  rfl
 refine take_ (i := 2) (N := some 46) (v := ?_) (a' := ?_) (fl 16 1199) rfl rfl (by kernel_rfl) (fun _ _ _ h => h) (Or.inl ⟨by rfl, ?_⟩) hHeld ?_ ?_
 rotate_left
 ·rintro w' hs
  have j_k4_0_6 := bg hs k4_0_6
  have j_k4_1_6 := bg hs k4_1_6
  have j_k4_2_6 := bg hs k4_2_6
  have j_k4_3_6 := bg hs k4_3_6
  go_simp
  with_reducible rfl
 rotate_left
 ·simp only [Act.put, List.setIfInBounds_toArray, List.set_cons_zero, List.set_cons_succ, i64_w, i32_w]
  rfl
 refine pure_ (i := 4) (N := some 48) (v := ?_) (a' := ?_) (fl 16 1215) rfl rfl (by kernel_rfl) (fun _ _ _ h => h) (Or.inl ⟨by rfl, ?_⟩) ?_ ?_
 rotate_left
 ·intro w'
  go_simp
  with_reducible rfl
 rotate_left
 ·simp only [Act.put, List.setIfInBounds_toArray, List.set_cons_zero, List.set_cons_succ, i64_w, i32_w]
  rfl
 refine take_ (i := 6) (N := some 50) (v := ?_) (a' := ?_) (fl 16 1279) rfl rfl (by kernel_rfl) (fun _ _ _ h => h) (Or.inl ⟨by rfl, ?_⟩) hHeld ?_ ?_
 rotate_left
 ·rintro w' hs
  have j_k4_0_6 := bg hs k4_0_6
  have j_k4_1_6 := bg hs k4_1_6
  have j_k4_2_6 := bg hs k4_2_6
  have j_k4_3_6 := bg hs k4_3_6
  go_simp
  with_reducible rfl
 rotate_left
 ·simp only [Act.put, List.setIfInBounds_toArray, List.set_cons_zero, List.set_cons_succ, i64_w, i32_w]
  rfl
 refine take_ (i := 8) (N := some 52) (v := ?_) (a' := ?_) (fl 16 1535) rfl rfl (by kernel_rfl) (fun _ _ _ h => h) (Or.inl ⟨by rfl, ?_⟩) hHeld ?_ ?_
 rotate_left
 ·rintro w' hs
  have j_k4_0_6 := bg hs k4_0_6
  have j_k4_1_6 := bg hs k4_1_6
  have j_k4_2_6 := bg hs k4_2_6
  have j_k4_3_6 := bg hs k4_3_6
  go_simp
  with_reducible rfl
 rotate_left
 ·simp only [Act.put, List.setIfInBounds_toArray, List.set_cons_zero, List.set_cons_succ, i64_w, i32_w]
  rfl
 refine three_ (i := 9) (j := 11) (k := 14) (Ni := some 53) (Nj := some 55) (Nk := some 11) (fl 16 2047) (fl 16 3583) (fl 16 17919) rfl rfl rfl rfl rfl rfl (by kernel_rfl) (by decide) (by decide) (by decide) (fun K hK => ?e1_9) (fun K hK => ?e1_11) (fun K hK => ?e1_14)
 case' e1_9 =>
  refine goes_ Tryz.func51 (by kernel_rfl) rfl #[.slice As sh.length cs] (by rfl) rfl rfl (by go_simp) ?_
  refine (Clip_any As sh.length cs HCS.out HLS.out _).mono ?_
  rintro e Wc ⟨rfl, rfl⟩
  refine ⟨_, rfl, ?_⟩
  refine hK.out _ _ hHeld (fun _ => ?_)
  clear hK K
  refine norm_ (a' := ?_) ?_ ?_
  rotate_left
  ·show Act.put _ (some 53) _ = _
   simp only [Act.put, List.setIfInBounds_toArray, List.set_cons_zero, List.set_cons_succ, i64_w, i32_w]
   rfl
  refine two_ (i := 11) (j := 14) (Ni := some 55) (Nj := some 11) (fl 16 4095) (fl 16 18431) rfl rfl rfl rfl (by kernel_rfl) (by decide) (by decide) (fun K hK => ?e2_11) (fun K hK => ?e2_14)
  case' e2_11 =>
   refine lit1_step rfl rfl 0 (by first | (go_simp; done) | (go_simp; rfl)) ?_
   intro g55 hg Wc hbox hbl
   refine hK.out _ _ (below_step hHeld hbl) (fun hHeld2 => ?_)
   have B55 := Lib.hid hbox
   clear hK K hHeld hbl hbox hg
   have hHeld := hHeld2
   clear hHeld2
   refine norm_ (a' := ?_) ?_ ?_
   rotate_left
   ·show Act.put _ (some 55) _ = _
    simp only [Act.put, List.setIfInBounds_toArray, List.set_cons_zero, List.set_cons_succ, i64_w, i32_w]
    rfl
   refine two_ (i := 12) (j := 14) (Ni := some 56) (Nj := some 11) (fl 16 8191) (fl 16 20479) rfl rfl rfl rfl (by kernel_rfl) (by decide) (by decide) (fun K hK => ?e3_12) (fun K hK => ?e3_14)
   case' e3_12 =>
    refine app1_step rfl rfl rfl _ _ rfl As sh g55 0 rfl rfl (Kd.C_below Cs_6.out hHeld) B55.out HLS.out ?_
    intro v56 Wc hrow hbl
    obtain ⟨A56, c56, ev⟩ := Kd.R_slice hrow
    rw [List.length_append, List.length_singleton] at ev
    subst ev
    refine hK.out _ _ (below_step hHeld hbl) (fun hHeld2 => ?_)
    replace B55 := Lib.hid (blk_below B55.out hbl)
    have L56 : W6.heap.size ≤ _ := hHeld.size
    have R56 := Lib.hid (Kd.R_lower hrow hHeld.size)
    clear hK K hHeld hbl hrow
    have hHeld := hHeld2
    clear hHeld2
    refine norm_ (a' := ?_) ?_ ?_
    rotate_left
    ·show Act.put _ (some 56) _ = _
     simp only [Act.put, List.setIfInBounds_toArray, List.set_cons_zero, List.set_cons_succ, i64_w, i32_w]
     rfl
    refine pure_ (i := 13) (N := some 57) (v := ?_) (a' := ?_) (fl 16 16383) rfl rfl (by kernel_rfl) (fun _ _ _ h => h) (Or.inl ⟨by rfl, ?_⟩) ?_ ?_
    rotate_left
    ·intro w'
     go_simp
     with_reducible rfl
    rotate_left
    ·simp only [Act.put, List.setIfInBounds_toArray, List.set_cons_zero, List.set_cons_succ, i64_w, i32_w]
     rfl
    refine one_ (i := 14) (N := some 11) (fl 16 32767) rfl rfl (by kernel_rfl) (by decide) (fun K hK => ?_)
    refine box_step rfl rfl (cs := #[.slice none 0 0, .int .i64 0, .bool false, .slice none 0 0]) (t := 28) (by first | (go_simp; done) | (go_simp; rfl)) ?_
    intro g11 hg Wc hbox hbl
    refine hK.out _ _ (below_step hHeld hbl) (fun hHeld2 => ?_)
    replace B55 := Lib.hid (blk_below B55.out hbl)
    replace R56 := Lib.hid (Kd.R_below R56.out hbl)
    have L11 : W6.heap.size ≤ g11 := by rw [hg]; exact hHeld.size
    have B11 := Lib.hid hbox
    clear hK K hHeld hbl hbox hg
    have hHeld := hHeld2
    clear hHeld2
    refine norm_ (a' := ?_) ?_ ?_
    rotate_left
    ·show Act.put _ (some 11) _ = _
     simp only [Act.put, List.setIfInBounds_toArray, List.set_cons_zero, List.set_cons_succ, i64_w, i32_w]
     rfl
    refine one_ (i := 15) (N := none) (fl 16 65535) rfl rfl (by kernel_rfl) (by decide) (fun K hK => ?_)
    refine row_step rfl rfl 28 _ _ rfl g11 #[.slice A2 l.length c2, .int .i64 (wrap64 0), .bool false, .slice A56 (sh.length + 1) c56] rfl rfl 28 #[.slice none 0 0, .int .i64 0, .bool false, .slice none 0 0] B11.out (size28 _ _ _ _) rfl (one28 _ _ _ _ _ _ _ _) ?_
    intro Wd hq hoth hbel
    have HBd := Lib.hid (hbel _ _ (Nat.le_trans (below_size HB_6.out) L11) (below_step HB_6.out hHeld))
    have D3_d := Lib.hid ((hoth _ (fun e => by have := blk_lt B3_6.out; omega)).trans (blk_below B3_6.out hHeld))
    have D4_d := Lib.hid ((hoth _ (fun e => by have := blk_lt B4_6.out; omega)).trans (blk_below B4_6.out hHeld))
    have D6_d := Lib.hid ((hoth _ (fun e => by have := blk_lt B6_6.out; omega)).trans (blk_below B6_6.out hHeld))
    have N6 := Lib.hid (show g6 ≠ g11 from fun e => by have := blk_lt B6_6.out; omega)
    have N4 := Lib.hid (show g4 ≠ g11 from fun e => by have := blk_lt B4_6.out; omega)
    have Ry_d := Lib.hid (R_other (Kd.R_below Ry_6.out hHeld) hoth (fun e => by have h1 := Kd.R_lt Ry_6.out g11 e.symm; omega))
    have R56_d := Lib.hid (R_othG rfl R56.out B11.out (by decide) hoth)
    refine hK.out _ _ (hbel _ _ L11 hHeld) (fun hHeld2 => ?_)
    replace B11 := Lib.hid hq
    clear hK K hq hoth hbel hHeld
    have hHeld := hHeld2
    clear hHeld2
    refine done_ (by kernel_rfl) ?_
   case' e3_14 =>
    refine box_step rfl rfl (cs := #[.slice none 0 0, .int .i64 0, .bool false, .slice none 0 0]) (t := 28) (by first | (go_simp; done) | (go_simp; rfl)) ?_
    intro g11 hg Wc hbox hbl
    refine hK.out _ _ (below_step hHeld hbl) (fun hHeld2 => ?_)
    replace B55 := Lib.hid (blk_below B55.out hbl)
    have L11 : W6.heap.size ≤ g11 := by rw [hg]; exact hHeld.size
    have B11 := Lib.hid hbox
    clear hK K hHeld hbl hbox hg
    have hHeld := hHeld2
    clear hHeld2
    refine norm_ (a' := ?_) ?_ ?_
    rotate_left
    ·show Act.put _ (some 11) _ = _
     simp only [Act.put, List.setIfInBounds_toArray, List.set_cons_zero, List.set_cons_succ, i64_w, i32_w]
     rfl
    refine one_ (i := 12) (N := some 56) (fl 16 24575) rfl rfl (by kernel_rfl) (by decide) (fun K hK => ?_)
    refine app1_step rfl rfl rfl _ _ rfl As sh g55 0 rfl rfl (Kd.C_below Cs_6.out hHeld) B55.out HLS.out ?_
    intro v56 Wc hrow hbl
    obtain ⟨A56, c56, ev⟩ := Kd.R_slice hrow
    rw [List.length_append, List.length_singleton] at ev
    subst ev
    refine hK.out _ _ (below_step hHeld hbl) (fun hHeld2 => ?_)
    replace B55 := Lib.hid (blk_below B55.out hbl)
    replace B11 := Lib.hid (blk_below B11.out hbl)
    have L56 : W6.heap.size ≤ _ := hHeld.size
    have R56 := Lib.hid (Kd.R_lower hrow hHeld.size)
    clear hK K hHeld hbl hrow
    have hHeld := hHeld2
    clear hHeld2
    refine norm_ (a' := ?_) ?_ ?_
    rotate_left
    ·show Act.put _ (some 56) _ = _
     simp only [Act.put, List.setIfInBounds_toArray, List.set_cons_zero, List.set_cons_succ, i64_w, i32_w]
     rfl
    refine pure_ (i := 13) (N := some 57) (v := ?_) (a' := ?_) (fl 16 32767) rfl rfl (by kernel_rfl) (fun _ _ _ h => h) (Or.inl ⟨by rfl, ?_⟩) ?_ ?_
    rotate_left
    ·intro w'
     go_simp
     with_reducible rfl
    rotate_left
    ·simp only [Act.put, List.setIfInBounds_toArray, List.set_cons_zero, List.set_cons_succ, i64_w, i32_w]
     rfl
    refine one_ (i := 15) (N := none) (fl 16 65535) rfl rfl (by kernel_rfl) (by decide) (fun K hK => ?_)
    refine row_step rfl rfl 28 _ _ rfl g11 #[.slice A2 l.length c2, .int .i64 (wrap64 0), .bool false, .slice A56 (sh.length + 1) c56] rfl rfl 28 #[.slice none 0 0, .int .i64 0, .bool false, .slice none 0 0] B11.out (size28 _ _ _ _) rfl (one28 _ _ _ _ _ _ _ _) ?_
    intro Wd hq hoth hbel
    have HBd := Lib.hid (hbel _ _ (Nat.le_trans (below_size HB_6.out) L11) (below_step HB_6.out hHeld))
    have D3_d := Lib.hid ((hoth _ (fun e => by have := blk_lt B3_6.out; omega)).trans (blk_below B3_6.out hHeld))
    have D4_d := Lib.hid ((hoth _ (fun e => by have := blk_lt B4_6.out; omega)).trans (blk_below B4_6.out hHeld))
    have D6_d := Lib.hid ((hoth _ (fun e => by have := blk_lt B6_6.out; omega)).trans (blk_below B6_6.out hHeld))
    have N6 := Lib.hid (show g6 ≠ g11 from fun e => by have := blk_lt B6_6.out; omega)
    have N4 := Lib.hid (show g4 ≠ g11 from fun e => by have := blk_lt B4_6.out; omega)
    have Ry_d := Lib.hid (R_other (Kd.R_below Ry_6.out hHeld) hoth (fun e => by have h1 := Kd.R_lt Ry_6.out g11 e.symm; omega))
    have R56_d := Lib.hid (R_othG rfl R56.out B11.out (by decide) hoth)
    refine hK.out _ _ (hbel _ _ L11 hHeld) (fun hHeld2 => ?_)
    replace B11 := Lib.hid hq
    clear hK K hq hoth hbel hHeld
    have hHeld := hHeld2
    clear hHeld2
    refine done_ (by kernel_rfl) ?_
  case' e2_14 =>
   refine box_step rfl rfl (cs := #[.slice none 0 0, .int .i64 0, .bool false, .slice none 0 0]) (t := 28) (by first | (go_simp; done) | (go_simp; rfl)) ?_
   intro g11 hg Wc hbox hbl
   refine hK.out _ _ (below_step hHeld hbl) (fun hHeld2 => ?_)
   have L11 : W6.heap.size ≤ g11 := by rw [hg]; exact hHeld.size
   have B11 := Lib.hid hbox
   clear hK K hHeld hbl hbox hg
   have hHeld := hHeld2
   clear hHeld2
   refine norm_ (a' := ?_) ?_ ?_
   rotate_left
   ·show Act.put _ (some 11) _ = _
    simp only [Act.put, List.setIfInBounds_toArray, List.set_cons_zero, List.set_cons_succ, i64_w, i32_w]
    rfl
   refine one_ (i := 11) (N := some 55) (fl 16 20479) rfl rfl (by kernel_rfl) (by decide) (fun K hK => ?_)
   refine lit1_step rfl rfl 0 (by first | (go_simp; done) | (go_simp; rfl)) ?_
   intro g55 hg Wc hbox hbl
   refine hK.out _ _ (below_step hHeld hbl) (fun hHeld2 => ?_)
   replace B11 := Lib.hid (blk_below B11.out hbl)
   have B55 := Lib.hid hbox
   clear hK K hHeld hbl hbox hg
   have hHeld := hHeld2
   clear hHeld2
   refine norm_ (a' := ?_) ?_ ?_
   rotate_left
   ·show Act.put _ (some 55) _ = _
    simp only [Act.put, List.setIfInBounds_toArray, List.set_cons_zero, List.set_cons_succ, i64_w, i32_w]
    rfl
   refine one_ (i := 12) (N := some 56) (fl 16 24575) rfl rfl (by kernel_rfl) (by decide) (fun K hK => ?_)
   refine app1_step rfl rfl rfl _ _ rfl As sh g55 0 rfl rfl (Kd.C_below Cs_6.out hHeld) B55.out HLS.out ?_
   intro v56 Wc hrow hbl
   obtain ⟨A56, c56, ev⟩ := Kd.R_slice hrow
   rw [List.length_append, List.length_singleton] at ev
   subst ev
   refine hK.out _ _ (below_step hHeld hbl) (fun hHeld2 => ?_)
   replace B11 := Lib.hid (blk_below B11.out hbl)
   replace B55 := Lib.hid (blk_below B55.out hbl)
   have L56 : W6.heap.size ≤ _ := hHeld.size
   have R56 := Lib.hid (Kd.R_lower hrow hHeld.size)
   clear hK K hHeld hbl hrow
   have hHeld := hHeld2
   clear hHeld2
   refine norm_ (a' := ?_) ?_ ?_
   rotate_left
   ·show Act.put _ (some 56) _ = _
    simp only [Act.put, List.setIfInBounds_toArray, List.set_cons_zero, List.set_cons_succ, i64_w, i32_w]
    rfl
   refine pure_ (i := 13) (N := some 57) (v := ?_) (a' := ?_) (fl 16 32767) rfl rfl (by kernel_rfl) (fun _ _ _ h => h) (Or.inl ⟨by rfl, ?_⟩) ?_ ?_
   rotate_left
   ·intro w'
    go_simp
    with_reducible rfl
   rotate_left
   ·simp only [Act.put, List.setIfInBounds_toArray, List.set_cons_zero, List.set_cons_succ, i64_w, i32_w]
    rfl
   refine one_ (i := 15) (N := none) (fl 16 65535) rfl rfl (by kernel_rfl) (by decide) (fun K hK => ?_)
   refine row_step rfl rfl 28 _ _ rfl g11 #[.slice A2 l.length c2, .int .i64 (wrap64 0), .bool false, .slice A56 (sh.length + 1) c56] rfl rfl 28 #[.slice none 0 0, .int .i64 0, .bool false, .slice none 0 0] B11.out (size28 _ _ _ _) rfl (one28 _ _ _ _ _ _ _ _) ?_
   intro Wd hq hoth hbel
   have HBd := Lib.hid (hbel _ _ (Nat.le_trans (below_size HB_6.out) L11) (below_step HB_6.out hHeld))
   have D3_d := Lib.hid ((hoth _ (fun e => by have := blk_lt B3_6.out; omega)).trans (blk_below B3_6.out hHeld))
   have D4_d := Lib.hid ((hoth _ (fun e => by have := blk_lt B4_6.out; omega)).trans (blk_below B4_6.out hHeld))
   have D6_d := Lib.hid ((hoth _ (fun e => by have := blk_lt B6_6.out; omega)).trans (blk_below B6_6.out hHeld))
   have N6 := Lib.hid (show g6 ≠ g11 from fun e => by have := blk_lt B6_6.out; omega)
   have N4 := Lib.hid (show g4 ≠ g11 from fun e => by have := blk_lt B4_6.out; omega)
   have Ry_d := Lib.hid (R_other (Kd.R_below Ry_6.out hHeld) hoth (fun e => by have h1 := Kd.R_lt Ry_6.out g11 e.symm; omega))
   have R56_d := Lib.hid (R_othG rfl R56.out B11.out (by decide) hoth)
   refine hK.out _ _ (hbel _ _ L11 hHeld) (fun hHeld2 => ?_)
   replace B11 := Lib.hid hq
   clear hK K hq hoth hbel hHeld
   have hHeld := hHeld2
   clear hHeld2
   refine done_ (by kernel_rfl) ?_
 case' e1_11 =>
  refine lit1_step rfl rfl 0 (by first | (go_simp; done) | (go_simp; rfl)) ?_
  intro g55 hg Wc hbox hbl
  refine hK.out _ _ (below_step hHeld hbl) (fun hHeld2 => ?_)
  have B55 := Lib.hid hbox
  clear hK K hHeld hbl hbox hg
  have hHeld := hHeld2
  clear hHeld2
  refine norm_ (a' := ?_) ?_ ?_
  rotate_left
  ·show Act.put _ (some 55) _ = _
   simp only [Act.put, List.setIfInBounds_toArray, List.set_cons_zero, List.set_cons_succ, i64_w, i32_w]
   rfl
  refine two_ (i := 9) (j := 14) (Ni := some 53) (Nj := some 11) (fl 16 4095) (fl 16 19967) rfl rfl rfl rfl (by kernel_rfl) (by decide) (by decide) (fun K hK => ?e4_9) (fun K hK => ?e4_14)
  case' e4_9 =>
   refine goes_ Tryz.func51 (by kernel_rfl) rfl #[.slice As sh.length cs] (by rfl) rfl rfl (by go_simp) ?_
   refine (Clip_any As sh.length cs HCS.out HLS.out _).mono ?_
   rintro e Wc ⟨rfl, rfl⟩
   refine ⟨_, rfl, ?_⟩
   refine hK.out _ _ hHeld (fun _ => ?_)
   clear hK K
   refine norm_ (a' := ?_) ?_ ?_
   rotate_left
   ·show Act.put _ (some 53) _ = _
    simp only [Act.put, List.setIfInBounds_toArray, List.set_cons_zero, List.set_cons_succ, i64_w, i32_w]
    rfl
   refine two_ (i := 12) (j := 14) (Ni := some 56) (Nj := some 11) (fl 16 8191) (fl 16 20479) rfl rfl rfl rfl (by kernel_rfl) (by decide) (by decide) (fun K hK => ?e5_12) (fun K hK => ?e5_14)
   case' e5_12 =>
    refine app1_step rfl rfl rfl _ _ rfl As sh g55 0 rfl rfl (Kd.C_below Cs_6.out hHeld) B55.out HLS.out ?_
    intro v56 Wc hrow hbl
    obtain ⟨A56, c56, ev⟩ := Kd.R_slice hrow
    rw [List.length_append, List.length_singleton] at ev
    subst ev
    refine hK.out _ _ (below_step hHeld hbl) (fun hHeld2 => ?_)
    replace B55 := Lib.hid (blk_below B55.out hbl)
    have L56 : W6.heap.size ≤ _ := hHeld.size
    have R56 := Lib.hid (Kd.R_lower hrow hHeld.size)
    clear hK K hHeld hbl hrow
    have hHeld := hHeld2
    clear hHeld2
    refine norm_ (a' := ?_) ?_ ?_
    rotate_left
    ·show Act.put _ (some 56) _ = _
     simp only [Act.put, List.setIfInBounds_toArray, List.set_cons_zero, List.set_cons_succ, i64_w, i32_w]
     rfl
    refine pure_ (i := 13) (N := some 57) (v := ?_) (a' := ?_) (fl 16 16383) rfl rfl (by kernel_rfl) (fun _ _ _ h => h) (Or.inl ⟨by rfl, ?_⟩) ?_ ?_
    rotate_left
    ·intro w'
     go_simp
     with_reducible rfl
    rotate_left
    ·simp only [Act.put, List.setIfInBounds_toArray, List.set_cons_zero, List.set_cons_succ, i64_w, i32_w]
     rfl
    refine one_ (i := 14) (N := some 11) (fl 16 32767) rfl rfl (by kernel_rfl) (by decide) (fun K hK => ?_)
    refine box_step rfl rfl (cs := #[.slice none 0 0, .int .i64 0, .bool false, .slice none 0 0]) (t := 28) (by first | (go_simp; done) | (go_simp; rfl)) ?_
    intro g11 hg Wc hbox hbl
    refine hK.out _ _ (below_step hHeld hbl) (fun hHeld2 => ?_)
    replace B55 := Lib.hid (blk_below B55.out hbl)
    replace R56 := Lib.hid (Kd.R_below R56.out hbl)
    have L11 : W6.heap.size ≤ g11 := by rw [hg]; exact hHeld.size
    have B11 := Lib.hid hbox
    clear hK K hHeld hbl hbox hg
    have hHeld := hHeld2
    clear hHeld2
    refine norm_ (a' := ?_) ?_ ?_
    rotate_left
    ·show Act.put _ (some 11) _ = _
     simp only [Act.put, List.setIfInBounds_toArray, List.set_cons_zero, List.set_cons_succ, i64_w, i32_w]
     rfl
    refine one_ (i := 15) (N := none) (fl 16 65535) rfl rfl (by kernel_rfl) (by decide) (fun K hK => ?_)
    refine row_step rfl rfl 28 _ _ rfl g11 #[.slice A2 l.length c2, .int .i64 (wrap64 0), .bool false, .slice A56 (sh.length + 1) c56] rfl rfl 28 #[.slice none 0 0, .int .i64 0, .bool false, .slice none 0 0] B11.out (size28 _ _ _ _) rfl (one28 _ _ _ _ _ _ _ _) ?_
    intro Wd hq hoth hbel
    have HBd := Lib.hid (hbel _ _ (Nat.le_trans (below_size HB_6.out) L11) (below_step HB_6.out hHeld))
    have D3_d := Lib.hid ((hoth _ (fun e => by have := blk_lt B3_6.out; omega)).trans (blk_below B3_6.out hHeld))
    have D4_d := Lib.hid ((hoth _ (fun e => by have := blk_lt B4_6.out; omega)).trans (blk_below B4_6.out hHeld))
    have D6_d := Lib.hid ((hoth _ (fun e => by have := blk_lt B6_6.out; omega)).trans (blk_below B6_6.out hHeld))
    have N6 := Lib.hid (show g6 ≠ g11 from fun e => by have := blk_lt B6_6.out; omega)
    have N4 := Lib.hid (show g4 ≠ g11 from fun e => by have := blk_lt B4_6.out; omega)
    have Ry_d := Lib.hid (R_other (Kd.R_below Ry_6.out hHeld) hoth (fun e => by have h1 := Kd.R_lt Ry_6.out g11 e.symm; omega))
    have R56_d := Lib.hid (R_othG rfl R56.out B11.out (by decide) hoth)
    refine hK.out _ _ (hbel _ _ L11 hHeld) (fun hHeld2 => ?_)
    replace B11 := Lib.hid hq
    clear hK K hq hoth hbel hHeld
    have hHeld := hHeld2
    clear hHeld2
    refine done_ (by kernel_rfl) ?_
   case' e5_14 =>
    refine box_step rfl rfl (cs := #[.slice none 0 0, .int .i64 0, .bool false, .slice none 0 0]) (t := 28) (by first | (go_simp; done) | (go_simp; rfl)) ?_
    intro g11 hg Wc hbox hbl
    refine hK.out _ _ (below_step hHeld hbl) (fun hHeld2 => ?_)
    replace B55 := Lib.hid (blk_below B55.out hbl)
    have L11 : W6.heap.size ≤ g11 := by rw [hg]; exact hHeld.size
    have B11 := Lib.hid hbox
    clear hK K hHeld hbl hbox hg
    have hHeld := hHeld2
    clear hHeld2
    refine norm_ (a' := ?_) ?_ ?_
    rotate_left
    ·show Act.put _ (some 11) _ = _
     simp only [Act.put, List.setIfInBounds_toArray, List.set_cons_zero, List.set_cons_succ, i64_w, i32_w]
     rfl
    refine one_ (i := 12) (N := some 56) (fl 16 24575) rfl rfl (by kernel_rfl) (by decide) (fun K hK => ?_)
    refine app1_step rfl rfl rfl _ _ rfl As sh g55 0 rfl rfl (Kd.C_below Cs_6.out hHeld) B55.out HLS.out ?_
    intro v56 Wc hrow hbl
    obtain ⟨A56, c56, ev⟩ := Kd.R_slice hrow
    rw [List.length_append, List.length_singleton] at ev
    subst ev
    refine hK.out _ _ (below_step hHeld hbl) (fun hHeld2 => ?_)
    replace B55 := Lib.hid (blk_below B55.out hbl)
    replace B11 := Lib.hid (blk_below B11.out hbl)
    have L56 : W6.heap.size ≤ _ := hHeld.size
    have R56 := Lib.hid (Kd.R_lower hrow hHeld.size)
    clear hK K hHeld hbl hrow
    have hHeld := hHeld2
    clear hHeld2
    refine norm_ (a' := ?_) ?_ ?_
    rotate_left
    ·show Act.put _ (some 56) _ = _
     simp only [Act.put, List.setIfInBounds_toArray, List.set_cons_zero, List.set_cons_succ, i64_w, i32_w]
     rfl
    refine pure_ (i := 13) (N := some 57) (v := ?_) (a' := ?_) (fl 16 32767) rfl rfl (by kernel_rfl) (fun _ _ _ h => h) (Or.inl ⟨by rfl, ?_⟩) ?_ ?_
    rotate_left
    ·intro w'
     go_simp
     with_reducible rfl
    rotate_left
    ·simp only [Act.put, List.setIfInBounds_toArray, List.set_cons_zero, List.set_cons_succ, i64_w, i32_w]
     rfl
    refine one_ (i := 15) (N := none) (fl 16 65535) rfl rfl (by kernel_rfl) (by decide) (fun K hK => ?_)
    refine row_step rfl rfl 28 _ _ rfl g11 #[.slice A2 l.length c2, .int .i64 (wrap64 0), .bool false, .slice A56 (sh.length + 1) c56] rfl rfl 28 #[.slice none 0 0, .int .i64 0, .bool false, .slice none 0 0] B11.out (size28 _ _ _ _) rfl (one28 _ _ _ _ _ _ _ _) ?_
    intro Wd hq hoth hbel
    have HBd := Lib.hid (hbel _ _ (Nat.le_trans (below_size HB_6.out) L11) (below_step HB_6.out hHeld))
    have D3_d := Lib.hid ((hoth _ (fun e => by have := blk_lt B3_6.out; omega)).trans (blk_below B3_6.out hHeld))
    have D4_d := Lib.hid ((hoth _ (fun e => by have := blk_lt B4_6.out; omega)).trans (blk_below B4_6.out hHeld))
    have D6_d := Lib.hid ((hoth _ (fun e => by have := blk_lt B6_6.out; omega)).trans (blk_below B6_6.out hHeld))
    have N6 := Lib.hid (show g6 ≠ g11 from fun e => by have := blk_lt B6_6.out; omega)
    have N4 := Lib.hid (show g4 ≠ g11 from fun e => by have := blk_lt B4_6.out; omega)
    have Ry_d := Lib.hid (R_other (Kd.R_below Ry_6.out hHeld) hoth (fun e => by have h1 := Kd.R_lt Ry_6.out g11 e.symm; omega))
    have R56_d := Lib.hid (R_othG rfl R56.out B11.out (by decide) hoth)
    refine hK.out _ _ (hbel _ _ L11 hHeld) (fun hHeld2 => ?_)
    replace B11 := Lib.hid hq
    clear hK K hq hoth hbel hHeld
    have hHeld := hHeld2
    clear hHeld2
    refine done_ (by kernel_rfl) ?_
  case' e4_14 =>
   refine box_step rfl rfl (cs := #[.slice none 0 0, .int .i64 0, .bool false, .slice none 0 0]) (t := 28) (by first | (go_simp; done) | (go_simp; rfl)) ?_
   intro g11 hg Wc hbox hbl
   refine hK.out _ _ (below_step hHeld hbl) (fun hHeld2 => ?_)
   replace B55 := Lib.hid (blk_below B55.out hbl)
   have L11 : W6.heap.size ≤ g11 := by rw [hg]; exact hHeld.size
   have B11 := Lib.hid hbox
   clear hK K hHeld hbl hbox hg
   have hHeld := hHeld2
   clear hHeld2
   refine norm_ (a' := ?_) ?_ ?_
   rotate_left
   ·show Act.put _ (some 11) _ = _
    simp only [Act.put, List.setIfInBounds_toArray, List.set_cons_zero, List.set_cons_succ, i64_w, i32_w]
    rfl
   refine one_ (i := 9) (N := some 53) (fl 16 20479) rfl rfl (by kernel_rfl) (by decide) (fun K hK => ?_)
   refine goes_ Tryz.func51 (by kernel_rfl) rfl #[.slice As sh.length cs] (by rfl) rfl rfl (by go_simp) ?_
   refine (Clip_any As sh.length cs HCS.out HLS.out _).mono ?_
   rintro e Wc ⟨rfl, rfl⟩
   refine ⟨_, rfl, ?_⟩
   refine hK.out _ _ hHeld (fun _ => ?_)
   clear hK K
   refine norm_ (a' := ?_) ?_ ?_
   rotate_left
   ·show Act.put _ (some 53) _ = _
    simp only [Act.put, List.setIfInBounds_toArray, List.set_cons_zero, List.set_cons_succ, i64_w, i32_w]
    rfl
   refine one_ (i := 12) (N := some 56) (fl 16 24575) rfl rfl (by kernel_rfl) (by decide) (fun K hK => ?_)
   refine app1_step rfl rfl rfl _ _ rfl As sh g55 0 rfl rfl (Kd.C_below Cs_6.out hHeld) B55.out HLS.out ?_
   intro v56 Wc hrow hbl
   obtain ⟨A56, c56, ev⟩ := Kd.R_slice hrow
   rw [List.length_append, List.length_singleton] at ev
   subst ev
   refine hK.out _ _ (below_step hHeld hbl) (fun hHeld2 => ?_)
   replace B55 := Lib.hid (blk_below B55.out hbl)
   replace B11 := Lib.hid (blk_below B11.out hbl)
   have L56 : W6.heap.size ≤ _ := hHeld.size
   have R56 := Lib.hid (Kd.R_lower hrow hHeld.size)
   clear hK K hHeld hbl hrow
   have hHeld := hHeld2
   clear hHeld2
   refine norm_ (a' := ?_) ?_ ?_
   rotate_left
   ·show Act.put _ (some 56) _ = _
    simp only [Act.put, List.setIfInBounds_toArray, List.set_cons_zero, List.set_cons_succ, i64_w, i32_w]
    rfl
   refine pure_ (i := 13) (N := some 57) (v := ?_) (a' := ?_) (fl 16 32767) rfl rfl (by kernel_rfl) (fun _ _ _ h => h) (Or.inl ⟨by rfl, ?_⟩) ?_ ?_
   rotate_left
   ·intro w'
    go_simp
    with_reducible rfl
   rotate_left
   ·simp only [Act.put, List.setIfInBounds_toArray, List.set_cons_zero, List.set_cons_succ, i64_w, i32_w]
    rfl
   refine one_ (i := 15) (N := none) (fl 16 65535) rfl rfl (by kernel_rfl) (by decide) (fun K hK => ?_)
   refine row_step rfl rfl 28 _ _ rfl g11 #[.slice A2 l.length c2, .int .i64 (wrap64 0), .bool false, .slice A56 (sh.length + 1) c56] rfl rfl 28 #[.slice none 0 0, .int .i64 0, .bool false, .slice none 0 0] B11.out (size28 _ _ _ _) rfl (one28 _ _ _ _ _ _ _ _) ?_
   intro Wd hq hoth hbel
   have HBd := Lib.hid (hbel _ _ (Nat.le_trans (below_size HB_6.out) L11) (below_step HB_6.out hHeld))
   have D3_d := Lib.hid ((hoth _ (fun e => by have := blk_lt B3_6.out; omega)).trans (blk_below B3_6.out hHeld))
   have D4_d := Lib.hid ((hoth _ (fun e => by have := blk_lt B4_6.out; omega)).trans (blk_below B4_6.out hHeld))
   have D6_d := Lib.hid ((hoth _ (fun e => by have := blk_lt B6_6.out; omega)).trans (blk_below B6_6.out hHeld))
   have N6 := Lib.hid (show g6 ≠ g11 from fun e => by have := blk_lt B6_6.out; omega)
   have N4 := Lib.hid (show g4 ≠ g11 from fun e => by have := blk_lt B4_6.out; omega)
   have Ry_d := Lib.hid (R_other (Kd.R_below Ry_6.out hHeld) hoth (fun e => by have h1 := Kd.R_lt Ry_6.out g11 e.symm; omega))
   have R56_d := Lib.hid (R_othG rfl R56.out B11.out (by decide) hoth)
   refine hK.out _ _ (hbel _ _ L11 hHeld) (fun hHeld2 => ?_)
   replace B11 := Lib.hid hq
   clear hK K hq hoth hbel hHeld
   have hHeld := hHeld2
   clear hHeld2
   refine done_ (by kernel_rfl) ?_
 case' e1_14 =>
  refine box_step rfl rfl (cs := #[.slice none 0 0, .int .i64 0, .bool false, .slice none 0 0]) (t := 28) (by first | (go_simp; done) | (go_simp; rfl)) ?_
  intro g11 hg Wc hbox hbl
  refine hK.out _ _ (below_step hHeld hbl) (fun hHeld2 => ?_)
  have L11 : W6.heap.size ≤ g11 := by rw [hg]; exact hHeld.size
  have B11 := Lib.hid hbox
  clear hK K hHeld hbl hbox hg
  have hHeld := hHeld2
  clear hHeld2
  refine norm_ (a' := ?_) ?_ ?_
  rotate_left
  ·show Act.put _ (some 11) _ = _
   simp only [Act.put, List.setIfInBounds_toArray, List.set_cons_zero, List.set_cons_succ, i64_w, i32_w]
   rfl
  refine two_ (i := 9) (j := 11) (Ni := some 53) (Nj := some 55) (fl 16 18431) (fl 16 19967) rfl rfl rfl rfl (by kernel_rfl) (by decide) (by decide) (fun K hK => ?e6_9) (fun K hK => ?e6_11)
  case' e6_9 =>
   refine goes_ Tryz.func51 (by kernel_rfl) rfl #[.slice As sh.length cs] (by rfl) rfl rfl (by go_simp) ?_
   refine (Clip_any As sh.length cs HCS.out HLS.out _).mono ?_
   rintro e Wc ⟨rfl, rfl⟩
   refine ⟨_, rfl, ?_⟩
   refine hK.out _ _ hHeld (fun _ => ?_)
   clear hK K
   refine norm_ (a' := ?_) ?_ ?_
   rotate_left
   ·show Act.put _ (some 53) _ = _
    simp only [Act.put, List.setIfInBounds_toArray, List.set_cons_zero, List.set_cons_succ, i64_w, i32_w]
    rfl
   refine one_ (i := 11) (N := some 55) (fl 16 20479) rfl rfl (by kernel_rfl) (by decide) (fun K hK => ?_)
   refine lit1_step rfl rfl 0 (by first | (go_simp; done) | (go_simp; rfl)) ?_
   intro g55 hg Wc hbox hbl
   refine hK.out _ _ (below_step hHeld hbl) (fun hHeld2 => ?_)
   replace B11 := Lib.hid (blk_below B11.out hbl)
   have B55 := Lib.hid hbox
   clear hK K hHeld hbl hbox hg
   have hHeld := hHeld2
   clear hHeld2
   refine norm_ (a' := ?_) ?_ ?_
   rotate_left
   ·show Act.put _ (some 55) _ = _
    simp only [Act.put, List.setIfInBounds_toArray, List.set_cons_zero, List.set_cons_succ, i64_w, i32_w]
    rfl
   refine one_ (i := 12) (N := some 56) (fl 16 24575) rfl rfl (by kernel_rfl) (by decide) (fun K hK => ?_)
   refine app1_step rfl rfl rfl _ _ rfl As sh g55 0 rfl rfl (Kd.C_below Cs_6.out hHeld) B55.out HLS.out ?_
   intro v56 Wc hrow hbl
   obtain ⟨A56, c56, ev⟩ := Kd.R_slice hrow
   rw [List.length_append, List.length_singleton] at ev
   subst ev
   refine hK.out _ _ (below_step hHeld hbl) (fun hHeld2 => ?_)
   replace B11 := Lib.hid (blk_below B11.out hbl)
   replace B55 := Lib.hid (blk_below B55.out hbl)
   have L56 : W6.heap.size ≤ _ := hHeld.size
   have R56 := Lib.hid (Kd.R_lower hrow hHeld.size)
   clear hK K hHeld hbl hrow
   have hHeld := hHeld2
   clear hHeld2
   refine norm_ (a' := ?_) ?_ ?_
   rotate_left
   ·show Act.put _ (some 56) _ = _
    simp only [Act.put, List.setIfInBounds_toArray, List.set_cons_zero, List.set_cons_succ, i64_w, i32_w]
    rfl
   refine pure_ (i := 13) (N := some 57) (v := ?_) (a' := ?_) (fl 16 32767) rfl rfl (by kernel_rfl) (fun _ _ _ h => h) (Or.inl ⟨by rfl, ?_⟩) ?_ ?_
   rotate_left
   ·intro w'
    go_simp
    with_reducible rfl
   rotate_left
   ·simp only [Act.put, List.setIfInBounds_toArray, List.set_cons_zero, List.set_cons_succ, i64_w, i32_w]
    rfl
   refine one_ (i := 15) (N := none) (fl 16 65535) rfl rfl (by kernel_rfl) (by decide) (fun K hK => ?_)
   refine row_step rfl rfl 28 _ _ rfl g11 #[.slice A2 l.length c2, .int .i64 (wrap64 0), .bool false, .slice A56 (sh.length + 1) c56] rfl rfl 28 #[.slice none 0 0, .int .i64 0, .bool false, .slice none 0 0] B11.out (size28 _ _ _ _) rfl (one28 _ _ _ _ _ _ _ _) ?_
   intro Wd hq hoth hbel
   have HBd := Lib.hid (hbel _ _ (Nat.le_trans (below_size HB_6.out) L11) (below_step HB_6.out hHeld))
   have D3_d := Lib.hid ((hoth _ (fun e => by have := blk_lt B3_6.out; omega)).trans (blk_below B3_6.out hHeld))
   have D4_d := Lib.hid ((hoth _ (fun e => by have := blk_lt B4_6.out; omega)).trans (blk_below B4_6.out hHeld))
   have D6_d := Lib.hid ((hoth _ (fun e => by have := blk_lt B6_6.out; omega)).trans (blk_below B6_6.out hHeld))
   have N6 := Lib.hid (show g6 ≠ g11 from fun e => by have := blk_lt B6_6.out; omega)
   have N4 := Lib.hid (show g4 ≠ g11 from fun e => by have := blk_lt B4_6.out; omega)
   have Ry_d := Lib.hid (R_other (Kd.R_below Ry_6.out hHeld) hoth (fun e => by have h1 := Kd.R_lt Ry_6.out g11 e.symm; omega))
   have R56_d := Lib.hid (R_othG rfl R56.out B11.out (by decide) hoth)
   refine hK.out _ _ (hbel _ _ L11 hHeld) (fun hHeld2 => ?_)
   replace B11 := Lib.hid hq
   clear hK K hq hoth hbel hHeld
   have hHeld := hHeld2
   clear hHeld2
   refine done_ (by kernel_rfl) ?_
  case' e6_11 =>
   refine lit1_step rfl rfl 0 (by first | (go_simp; done) | (go_simp; rfl)) ?_
   intro g55 hg Wc hbox hbl
   refine hK.out _ _ (below_step hHeld hbl) (fun hHeld2 => ?_)
   replace B11 := Lib.hid (blk_below B11.out hbl)
   have B55 := Lib.hid hbox
   clear hK K hHeld hbl hbox hg
   have hHeld := hHeld2
   clear hHeld2
   refine norm_ (a' := ?_) ?_ ?_
   rotate_left
   ·show Act.put _ (some 55) _ = _
    simp only [Act.put, List.setIfInBounds_toArray, List.set_cons_zero, List.set_cons_succ, i64_w, i32_w]
    rfl
   refine one_ (i := 9) (N := some 53) (fl 16 20479) rfl rfl (by kernel_rfl) (by decide) (fun K hK => ?_)
   refine goes_ Tryz.func51 (by kernel_rfl) rfl #[.slice As sh.length cs] (by rfl) rfl rfl (by go_simp) ?_
   refine (Clip_any As sh.length cs HCS.out HLS.out _).mono ?_
   rintro e Wc ⟨rfl, rfl⟩
   refine ⟨_, rfl, ?_⟩
   refine hK.out _ _ hHeld (fun _ => ?_)
   clear hK K
   refine norm_ (a' := ?_) ?_ ?_
   rotate_left
   ·show Act.put _ (some 53) _ = _
    simp only [Act.put, List.setIfInBounds_toArray, List.set_cons_zero, List.set_cons_succ, i64_w, i32_w]
    rfl
   refine one_ (i := 12) (N := some 56) (fl 16 24575) rfl rfl (by kernel_rfl) (by decide) (fun K hK => ?_)
   refine app1_step rfl rfl rfl _ _ rfl As sh g55 0 rfl rfl (Kd.C_below Cs_6.out hHeld) B55.out HLS.out ?_
   intro v56 Wc hrow hbl
   obtain ⟨A56, c56, ev⟩ := Kd.R_slice hrow
   rw [List.length_append, List.length_singleton] at ev
   subst ev
   refine hK.out _ _ (below_step hHeld hbl) (fun hHeld2 => ?_)
   replace B11 := Lib.hid (blk_below B11.out hbl)
   replace B55 := Lib.hid (blk_below B55.out hbl)
   have L56 : W6.heap.size ≤ _ := hHeld.size
   have R56 := Lib.hid (Kd.R_lower hrow hHeld.size)
   clear hK K hHeld hbl hrow
   have hHeld := hHeld2
   clear hHeld2
   refine norm_ (a' := ?_) ?_ ?_
   rotate_left
   ·show Act.put _ (some 56) _ = _
    simp only [Act.put, List.setIfInBounds_toArray, List.set_cons_zero, List.set_cons_succ, i64_w, i32_w]
    rfl
   refine pure_ (i := 13) (N := some 57) (v := ?_) (a' := ?_) (fl 16 32767) rfl rfl (by kernel_rfl) (fun _ _ _ h => h) (Or.inl ⟨by rfl, ?_⟩) ?_ ?_
   rotate_left
   ·intro w'
    go_simp
    with_reducible rfl
   rotate_left
   ·simp only [Act.put, List.setIfInBounds_toArray, List.set_cons_zero, List.set_cons_succ, i64_w, i32_w]
    rfl
   refine one_ (i := 15) (N := none) (fl 16 65535) rfl rfl (by kernel_rfl) (by decide) (fun K hK => ?_)
   refine row_step rfl rfl 28 _ _ rfl g11 #[.slice A2 l.length c2, .int .i64 (wrap64 0), .bool false, .slice A56 (sh.length + 1) c56] rfl rfl 28 #[.slice none 0 0, .int .i64 0, .bool false, .slice none 0 0] B11.out (size28 _ _ _ _) rfl (one28 _ _ _ _ _ _ _ _) ?_
   intro Wd hq hoth hbel
   have HBd := Lib.hid (hbel _ _ (Nat.le_trans (below_size HB_6.out) L11) (below_step HB_6.out hHeld))
   have D3_d := Lib.hid ((hoth _ (fun e => by have := blk_lt B3_6.out; omega)).trans (blk_below B3_6.out hHeld))
   have D4_d := Lib.hid ((hoth _ (fun e => by have := blk_lt B4_6.out; omega)).trans (blk_below B4_6.out hHeld))
   have D6_d := Lib.hid ((hoth _ (fun e => by have := blk_lt B6_6.out; omega)).trans (blk_below B6_6.out hHeld))
   have N6 := Lib.hid (show g6 ≠ g11 from fun e => by have := blk_lt B6_6.out; omega)
   have N4 := Lib.hid (show g4 ≠ g11 from fun e => by have := blk_lt B4_6.out; omega)
   have Ry_d := Lib.hid (R_other (Kd.R_below Ry_6.out hHeld) hoth (fun e => by have h1 := Kd.R_lt Ry_6.out g11 e.symm; omega))
   have R56_d := Lib.hid (R_othG rfl R56.out B11.out (by decide) hoth)
   refine hK.out _ _ (hbel _ _ L11 hHeld) (fun hHeld2 => ?_)
   replace B11 := Lib.hid hq
   clear hK K hq hoth hbel hHeld
   have hHeld := hHeld2
   clear hHeld2
   refine done_ (by kernel_rfl) ?_
 all_goals
  have kk := (blk_cell D3_d.out 3).trans rfl
  clear hHeld
  go_wp2_with (first
   | ((with_reducible refine gate_dst (N := 63) rfl ?_); refine wpList_load_row rfl 56 _ rfl g3 rfl 56 #[.int .i64 0, .int .i64 p1, .int .i64 p2, .int .i64 2, .int .i64 p4, .bool p5, .iface 100 (.agg #[]), .int .i64 b, .slice Aw wl.length cw] (0, 0) _ D3_d.out Tryz.underlying56 rfl (size56 _ _ _ _ _ _ _ _ _) ?_)
   | (go_at_call 52; refine (HK.out _ _ _ (R_C Ry_d.out).2 (R_C Ry_d.out).1).mono ?_; rintro e We ⟨A3, c3, rfl, ho, hb⟩; have Ry_1 := Lib.hid (Kd.R_lower ho (below_size HBd.out)); have B11_1 := Lib.hid (blk_below B11.out hb); have D6_1 := Lib.hid (blk_below D6_d.out hb); have D3_1 := Lib.hid (blk_below D3_d.out hb); have B4_1 := Lib.hid (blk_below D4_d.out hb); have R56_1 := Lib.hid (Kd.R_below R56_d.out hb); have HB_1 := Lib.hid (below_step HBd.out hb); have q41 := (blk_cell B4_1.out 2).trans rfl; have q31 := (blk_cell D3_1.out 3).trans rfl; clear ho hb)
   | ((with_reducible refine gate_store (t := 22) (p := 68) rfl ?_); refine cellj_event rfl rfl 22 _ _ rfl g11 0 (.slice A3 l.length c3) rfl rfl 28 _ B11_1.out (show (0 : Nat) < 4 from by decide) sizeOf22' rfl rfl #[.slice A3 l.length c3, .int .i64 (wrap64 0), .bool false, .slice A56 (sh.length + 1) c56] rfl ?_; intro Wf hq hoth hbel; have B11_2 := Lib.hid hq; have D6_2 := Lib.hid ((hoth _ (N6.out)).trans D6_1.out); have q42 : Wf.cell? ⟨g4, 2, none⟩ = some (.bool false) := (blk_cell ((hoth _ (N4.out)).trans B4_1.out) 2).trans rfl; have R56_2 := Lib.hid (R_othG rfl R56_1.out B11_1.out (by decide) hoth); have Ry_2 := Lib.hid (R_othG rfl Ry_1.out B11_1.out (by decide) hoth); have HB_2 := Lib.hid (hbel _ _ (Nat.le_trans (below_size HB_6.out) L11) HB_1.out); clear q41 q31 hq hoth hbel)
   | ((with_reducible refine gate_store (t := 4) (p := 74) rfl ?_); refine cellj_event rfl rfl 4 _ _ rfl g11 2 (.bool false) rfl rfl 28 _ B11_2.out (show (2 : Nat) < 4 from by decide) sizeOf4 rfl rfl #[.slice A3 l.length c3, .int .i64 (wrap64 0), .bool false, .slice A56 (sh.length + 1) c56] rfl ?_; intro Wg hq hoth hbel; have B11_3 := Lib.hid hq; have D6_3 := Lib.hid ((hoth _ (N6.out)).trans D6_2.out); have R56_3 := Lib.hid (R_othG rfl R56_2.out B11_2.out (by decide) hoth); have Ry_3 := Lib.hid (R_othG rfl Ry_2.out B11_2.out (by decide) hoth); have HB_3 := Lib.hid (hbel _ _ (Nat.le_trans (below_size HB_6.out) L11) HB_2.out); clear q42 hq hoth hbel)
   | ((with_reducible refine gate_dst (N := 75) rfl ?_); refine wpList_load_row rfl 28 _ rfl g11 rfl 28 #[.slice A3 l.length c3, .int .i64 (wrap64 0), .bool false, .slice A56 (sh.length + 1) c56] (0, 0) _ B11_3.out Tryz.underlying28 rfl (size28 _ _ _ _) ?_)
   | ((with_reducible refine gate_store (t := 28) (p := 6) rfl ?_); refine row_event rfl 28 _ _ rfl g6 #[.slice A3 l.length c3, .int .i64 (wrap64 0), .bool false, .slice A56 (sh.length + 1) c56] rfl rfl 28 #[.slice none 0 0, .int .i64 0, .bool false, .slice none 0 0] D6_3.out (size28 _ _ _ _) rfl (one28 _ _ _ _ _ _ _ _) ?_; intro Wh hq hoth hbel; have D6_e := Lib.hid hq; have HB_e := Lib.hid (hbel _ _ L6 HB_3.out); have Ry_e := Lib.hid (R_othG rfl Ry_3.out D6_3.out (by decide) hoth); have R56_e := Lib.hid (R_othG rfl R56_3.out D6_3.out (by decide) hoth); clear hq hoth hbel))
  have HV := Lib.hid HEX.out
  clear kk
  refine bodyPost_ret (results_cell_row rfl _ _ g6 28 #[.slice A3 l.length c3, .int .i64 (wrap64 0), .bool false, .slice A56 (sh.length + 1) c56] (0, 0) _ rfl D6_e.out Tryz.underlying28 rfl (size28 _ _ _ _)) rfl ?_
  refine ⟨A3, c3, A56, c56, ?_, Ry_e.out, Kd.R_lower R56_e.out (below_size HB_6.out), HB_e.out⟩
  rw [HEX.out]
end Go.Proofs.YteieahbadclppaaGreat.P

namespace Go.Proofs.YteieahbadclppaaGreat.P
open Go.RowKit Go.Proofs.YteieahbadclppaaGreatW.PrintWords Go.Proofs.YteieahbadclppaaGreatW.PrintLast Go.Proofs.YteieahbadclppaaGreatW.PrintMore
set_option linter.unusedVariables false
set_option linter.unusedSimpArgs false
def mulC (x y : S38) : S38 := ⟨x.f0 * y.f0 - x.f1 * y.f1, x.f0 * y.f1 + x.f1 * y.f0⟩
def upC (bits : Int) (x : S38) : S38 := ⟨x.f0 * 2 ^ bits.toNat, x.f1 * 2 ^ bits.toNat⟩
def plusC (x y : S38) : S38 := ⟨x.f0 + y.f0, x.f1 + y.f1⟩
def lessC (x y : S38) : S38 := ⟨x.f0 - y.f0, x.f1 - y.f1⟩
theorem mul_le {a b m n : Int} (hm : 0 ≤ m) (ha : a ≤ m) (ha' : -m ≤ a) (hb : b ≤ n) (hb' : -n ≤ b) (hn : 0 ≤ n) : a * b ≤ m * n ∧ -(m * n) ≤ a * b := by
 have h1 : 0 ≤ (m - a) * (n - b) := Int.mul_nonneg (by omega) (by omega)
 have h2 : 0 ≤ (m + a) * (n + b) := Int.mul_nonneg (by omega) (by omega)
 have h3 : 0 ≤ (m - a) * (n + b) := Int.mul_nonneg (by omega) (by omega)
 have h4 : 0 ≤ (m + a) * (n - b) := Int.mul_nonneg (by omega) (by omega)
 constructor <;> grind
theorem wrap_id {x : Int} (h0 : -9223372036854775808 ≤ x) (h1 : x ≤ 9223372036854775807) : wrap64 x = x := by unfold wrap64; omega
theorem mulC_eq (x y : S38) (hx : inB 2147483648 x = true) (hy : inB 1073741824 y = true) : (⟨mulRe x y, mulIm x y⟩ : S38) = mulC x y := by
 obtain ⟨a1, a2, a3, a4⟩ := inB_of hx
 obtain ⟨b1, b2, b3, b4⟩ := inB_of hy
 have m1 := mul_le (by decide) a1 a3 b1 b3 (by decide)
 have m2 := mul_le (by decide) a2 a4 b2 b4 (by decide)
 have m3 := mul_le (by decide) a1 a3 b2 b4 (by decide)
 have m4 := mul_le (by decide) a2 a4 b1 b3 (by decide)
 unfold mulRe mulIm mulC
 rw [wrap_id (x := x.f0 * y.f0) (by omega) (by omega), wrap_id (x := x.f1 * y.f1) (by omega) (by omega), wrap_id (x := x.f0 * y.f1) (by omega) (by omega), wrap_id (x := x.f1 * y.f0) (by omega) (by omega), wrap_id (by omega) (by omega), wrap_id (by omega) (by omega)]
theorem pow_le29 {bits : Int} (h0 : 0 ≤ bits) (h1 : bits ≤ 29) : 1 ≤ (2 : Int) ^ bits.toNat ∧ (2 : Int) ^ bits.toNat ≤ 536870912 := by
 constructor
 ·have := int_pow_le (a := 0) (b := bits.toNat) (by omega); simpa using this
 ·have := int_pow_le (a := bits.toNat) (b := 29) (by omega)
  have e : (2 : Int) ^ 29 = 536870912 := by decide
  omega
theorem pairV_eq (a b w : S38) (bits s mode : Int) (ha : inB 2147483648 a = true) (hb : inB 2147483648 b = true) (hw : inB 1073741824 w = true) (h0 : 0 ≤ bits) (h1 : bits ≤ 29) (h2 : 0 ≤ s) (h3 : s ≤ 3) (h4 : 0 ≤ mode) (h5 : mode < 3) :
  pairV a b w bits s mode = (shC (bits + s) mode (plusC (upC bits a) (mulC b w)), shC (bits + s) mode (lessC (upC bits a) (mulC b w))) := by
 obtain ⟨p0, p1⟩ := pow_le29 h0 h1
 obtain ⟨a1, a2, a3, a4⟩ := inB_of ha
 obtain ⟨b1, b2, b3, b4⟩ := inB_of hb
 obtain ⟨w1, w2, w3, w4⟩ := inB_of hw
 have m1 := mul_le (by decide) b1 b3 w1 w3 (by decide)
 have m2 := mul_le (by decide) b2 b4 w2 w4 (by decide)
 have m3 := mul_le (by decide) b1 b3 w2 w4 (by decide)
 have m4 := mul_le (by decide) b2 b4 w1 w3 (by decide)
 have n1 := mul_le (by decide) a1 a3 p1 (by omega) (by decide)
 have n2 := mul_le (by decide) a2 a4 p1 (by omega) (by decide)
 have e : wrap64 (bits + s) = bits + s := wrap_id (by omega) (by omega)
 have hS : ∀ x y : Int, cx_Shift.f x y (bits + s) mode = some (shV x (bits + s) mode, shV y (bits + s) mode, 0) := fun x y => shiftC_f ⟨x, y⟩ (bits + s) mode (by omega) (by omega) h4 h5
 have hmin : min bits.toNat IntKind.i64.bits = bits.toNat := by
  have : IntKind.i64.bits = 64 := rfl
  omega
 have q1 : shl .i64 a.f0 bits = a.f0 * 2 ^ bits.toNat := by unfold shl; rw [hmin, i64_w]; exact wrap_id (by omega) (by omega)
 have q2 : shl .i64 a.f1 bits = a.f1 * 2 ^ bits.toNat := by unfold shl; rw [hmin, i64_w]; exact wrap_id (by omega) (by omega)
 have hm := mulC_eq b w hb hw
 have r1 : mulRe b w = (mulC b w).f0 := congrArg S38.f0 hm
 have r2 : mulIm b w = (mulC b w).f1 := congrArg S38.f1 hm
 have h : two_pair.f a.f0 a.f1 b.f0 b.f1 w.f0 w.f1 bits s mode = some ((shC (bits + s) mode (plusC (upC bits a) (mulC b w))).f0, (shC (bits + s) mode (plusC (upC bits a) (mulC b w))).f1, (shC (bits + s) mode (lessC (upC bits a) (mulC b w))).f0, (shC (bits + s) mode (lessC (upC bits a) (mulC b w))).f1) := by
  unfold two_pair.f cx_Times.f
  rw [show inB 2147483648 ⟨b.f0, b.f1⟩ = true from hb, show inB 1073741824 ⟨w.f0, w.f1⟩ = true from hw, if_pos rfl, if_pos rfl, Option.bind_some, if_pos h0, e, hS, Option.bind_some, hS, Option.bind_some]
  show some _ = _
  rw [q1, q2, show (mulRe ⟨b.f0, b.f1⟩ ⟨w.f0, w.f1⟩) = (mulC b w).f0 from r1, show (mulIm ⟨b.f0, b.f1⟩ ⟨w.f0, w.f1⟩) = (mulC b w).f1 from r2]
  unfold shC plusC lessC upC mulC
  dsimp only
  rw [wrap_id (by omega) (by omega), wrap_id (by omega) (by omega), wrap_id (by omega) (by omega), wrap_id (by omega) (by omega)]
 unfold pairV
 rw [h]
theorem shV_exact (x S : Int) (h0 : 0 ≤ S) : shV (x * 2 ^ S.toNat) S 0 = x := by
 have hu : ∀ y, upV y S 0 = false := fun y => by
  unfold upV
  rw [if_neg (show ¬ (0 : Int) = 1 by decide), if_neg (show ¬ (0 : Int) = 2 by decide)]
 unfold shV
 by_cases h : S = 0
 ·subst h; simp
 ·rw [if_neg h, hu, if_neg (by decide)]
  exact Int.mul_ediv_cancel _ (Int.ne_of_gt (Int.pow_pos (by decide)))
theorem shV_zero (x mode : Int) : shV x 0 mode = x := by
 unfold shV
 rw [if_pos rfl]
theorem shC_zero (mode : Int) (x : S38) : shC 0 mode x = x := by
 unfold shC
 rw [shV_zero, shV_zero]
def tw2 : List S38 := [⟨8192, 0⟩, ⟨0, -8192⟩, ⟨-8192, 0⟩, ⟨0, 8192⟩]
theorem tw_ok : roots_Twiddles.f 2 0 = some (tw2, 0) := by kernel_rfl
theorem ps_ok : plan_Passes.f 10 0 2 0 2 0 false = some ([⟨2, 1⟩, ⟨2, 2⟩], 0) := by kernel_rfl
theorem ck_ok : plan_Check.f 0 2 0 2 0 false = some 0 := by kernel_rfl
theorem fl_ok (a b c d : S38) : flip_Flip.f 10 [a, b, c, d] = some ([a, c, b, d], 0) := by kernel_rfl
theorem lg_ok : flip_Log.f 10 4 = some (2, 0) := by kernel_rfl
theorem st_ok : two_settings.f 13 0 0 = some true := by kernel_rfl
theorem in15_B {x : S38} (h : in15 x = true) : inB 2147483648 x = true := by
 obtain ⟨h0, h1, h2, h3⟩ := in15_of h
 exact inB_to (by omega)
theorem idx1 : ∀ p ∈ pairsTo 1 2 4, 0 ≤ p.1 ∧ p.1 + 1 < ((4 : Nat) : Int) ∧ 0 ≤ p.2 ∧ p.2 < ((4 : Nat) : Int) := by decide +kernel
theorem idx2 : ∀ p ∈ pairsTo 2 1 4, 0 ≤ p.1 ∧ p.1 + 2 < ((4 : Nat) : Int) ∧ 0 ≤ p.2 ∧ p.2 < ((4 : Nat) : Int) := by decide +kernel
theorem tw2_in : ∀ x, x ∈ tw2 → inB 8192 x = true := by decide +kernel
theorem says22 (y : List S38) (h m : Int) (k : Nat) (hk : k ≤ 10) (hl : y.length = 4) (hy : ∀ x, x ∈ y → in15 x = true) (hh : h = 1 ∧ m = 2 ∨ h = 2 ∧ m = 1) (hy2 : ∀ x, x ∈ twoL y tw2 h 13 0 0 false m 4 → in15 x = true) :
  NextSays (fun Aw cw => #[.int .i64 0, .int .i64 2, .int .i64 0, .int .i64 2, .int .i64 0, .bool false, .iface 100 (.agg #[]), .int .i64 15, .slice Aw tw2.length cw]) tw2 4 k y (twoL y tw2 h 13 0 0 false m 4) 0 0 ⟨2, h⟩ := by
 intro W Ax cx As cs sh Aw cw hx hcx hs hcs hks hw hcw
 subst hks
 have hlen : (twoL y tw2 h 13 0 0 false m 4).length = y.length := twoFold_len y tw2 h 13 0 0 false (pairsTo h m 4) y
 have hp : ∀ W : World, Kd.C k38 W Ax y.length y → Kd.C k38 W Aw tw2.length tw2 → Calls Tryz.prog 49 #[.slice Ax y.length cx, .slice Aw tw2.length cw, .int .i64 h, .int .i64 (15 - 2), .int .i64 0, .int .i64 0, .bool false] W fun e w' => ∃ v, e = .returned (.tuple #[v, .int .i64 0]) ∧ Kd.R k38 38 w' W.heap.size (fun _ => True) v (twoL y tw2 h 13 0 0 false m 4) ∧ Below W.heap.size W w' := by
  intro W2 h1 h2
  have hq := twoPass_yes Ax Aw cx cw y tw2 h 13 0 0 m 8192 2 false W2 h1 hcx h2 hcw hl.symm (by omega) (by omega) (by rw [hl]; exact lg_ok) (by omega) (by rw [hl]; omega) (by rcases hh with ⟨rfl, _⟩ | ⟨rfl, _⟩ <;> decide +kernel) st_ok (by decide) (by decide) (by decide) (by decide) (by decide) (by decide) (by decide) (by decide) (fun x hx => in15_B (hy x hx)) tw2_in (by rw [hl]; rcases hh with ⟨rfl, rfl⟩ | ⟨rfl, rfl⟩ <;> decide) (by rw [hl]; rcases hh with ⟨rfl, rfl⟩ | ⟨rfl, rfl⟩; exact idx1; exact idx2)
  rw [hl] at hq
  rw [hl]
  exact hq
 have hn := next_22 0 2 0 0 15 false Aw tw2 cw Ax cx y (twoL y tw2 h 13 0 0 false m 4) 0 h As cs sh W (by rw [hlen]; omega) (by rw [hlen]; omega) hy2 hx hw hs hcs (by omega) hlen (by decide) (by decide) (by decide) (by decide) hp
 rw [hl] at hn
 refine hn.mono ?_
 rintro e w' ⟨A', c', As', cs', rfl, q1, q2, q3⟩
 exact ⟨A', c', As', cs', _, rfl, q1, q2, q3⟩
def quad4 (a b c d : S38) : Nat → List S38
 | 0 => [a, c, b, d]
 | 1 => twoL [a, c, b, d] tw2 1 13 0 0 false 2 4
 | _ => twoL (twoL [a, c, b, d] tw2 1 13 0 0 false 2 4) tw2 2 13 0 0 false 1 4
theorem Run4 (a b c d : S38) (A : Option Addr) (cc : Nat) (hcc : 4 ≤ cc) (h0 : ∀ x, x ∈ [a, b, c, d] → in15 x = true) (h1 : ∀ x, x ∈ quad4 a b c d 1 → in15 x = true) (h2 : ∀ x, x ∈ quad4 a b c d 2 → in15 x = true) (w : World) (hr : Kd.C k38 w A 4 [a, b, c, d]) :
  Calls Tryz.prog 7 #[.slice A 4 cc, .agg (planC 0 2 0 2 0 false)] w fun e w' => ∃ A' c' As' cs', e = .returned (.tuple #[.agg #[.slice A' 4 c', .int .i64 0, .bool false, .slice As' 2 cs'], .int .i64 0]) ∧ Kd.R k38 38 w' w.heap.size (fun _ => True) (.slice A' 4 c') (quad4 a b c d 2) ∧ Below w.heap.size w w' := by
 have hlen : (quad4 a b c d 1).length = 4 := twoFold_len _ tw2 1 13 0 0 false (pairsTo 1 2 4) [a, c, b, d]
 have hodd : [a, b, c, d].any (oddB (-32768) 32767) = false := by
  rw [List.any_eq_false]
  intro x hx
  obtain ⟨q0, q1, q2, q3⟩ := in15_of (h0 x hx)
  unfold oddB
  simp
  omega
 have hmap : [a, c, b, d].map (shC 0 0) = [a, c, b, d] := by simp [shC_zero]
 refine Run_loop_02 2 0 0 false tw2 A cc [a, b, c, d] 4 10 [⟨2, 1⟩, ⟨2, 2⟩] (quad4 a b c d) (fun _ => 0) (by decide) w hr (by decide) rfl tw_ok ps_ok ?_ ?_
 ·intro W hC
  have h := Ready_02f 2 0 0 false tw2 A cc [a, b, c, d] [a, c, b, d] 10 (by decide) (by decide) (by decide) (by decide) W hC hcc (by simp) (by simp) ck_ok tw_ok rfl hodd (fl_ok a b c d) (by decide)
  rw [hmap] at h
  exact h
 ·intro k hk
  have hk2 : k = 0 ∨ k = 1 := by simp at hk; omega
  rcases hk2 with rfl | rfl
  ·exact says22 [a, c, b, d] 1 2 0 (by decide) rfl (fun x hx => h0 x (by simp at hx ⊢; rcases hx with h | h | h | h <;> simp [h])) (.inl ⟨rfl, rfl⟩) h1
  ·exact says22 (quad4 a b c d 1) 2 1 1 (by decide) hlen h1 (.inr ⟨rfl, rfl⟩) h2
end Go.Proofs.YteieahbadclppaaGreat.P

namespace Go.Proofs.YteieahbadclppaaGreat.P
open Go.RowKit Go.Proofs.YteieahbadclppaaGreatW.PrintWords Go.Proofs.YteieahbadclppaaGreatW.PrintLast Go.Proofs.YteieahbadclppaaGreatW.PrintMore
set_option linter.unusedVariables false
set_option linter.unusedSimpArgs false
theorem pair_w0 (p q : S38) (hp : inB 2147483648 p = true) (hq : inB 2147483648 q = true) : pairV p q ⟨8192, 0⟩ 13 0 0 = (plusC p q, lessC p q) := by
 rw [pairV_eq p q ⟨8192, 0⟩ 13 0 0 hp hq (by decide) (by decide) (by decide) (by decide) (by decide) (by decide) (by decide)]
 have e : ((2 : Int) ^ ((13 : Int) + 0).toNat) = 8192 := by decide
 have e2 : ((2 : Int) ^ (13 : Int).toNat) = 8192 := by decide
 have h : ∀ x : Int, shV (x * 8192) (13 + 0) 0 = x := fun x => by have := shV_exact x (13 + 0) (by decide); rwa [e] at this
 unfold shC plusC lessC upC mulC
 dsimp only
 rw [e2, show p.f0 * 8192 + (q.f0 * 8192 - q.f1 * 0) = (p.f0 + q.f0) * 8192 by omega, show p.f1 * 8192 + (q.f0 * 0 + q.f1 * 8192) = (p.f1 + q.f1) * 8192 by omega, show p.f0 * 8192 - (q.f0 * 8192 - q.f1 * 0) = (p.f0 - q.f0) * 8192 by omega, show p.f1 * 8192 - (q.f0 * 0 + q.f1 * 8192) = (p.f1 - q.f1) * 8192 by omega, h, h, h, h]
theorem pair_w1 (p q : S38) (hp : inB 2147483648 p = true) (hq : inB 2147483648 q = true) : pairV p q ⟨0, -8192⟩ 13 0 0 = (⟨p.f0 + q.f1, p.f1 - q.f0⟩, ⟨p.f0 - q.f1, p.f1 + q.f0⟩) := by
 rw [pairV_eq p q ⟨0, -8192⟩ 13 0 0 hp hq (by decide) (by decide) (by decide) (by decide) (by decide) (by decide) (by decide)]
 have e : ((2 : Int) ^ ((13 : Int) + 0).toNat) = 8192 := by decide
 have e2 : ((2 : Int) ^ (13 : Int).toNat) = 8192 := by decide
 have h : ∀ x : Int, shV (x * 8192) (13 + 0) 0 = x := fun x => by have := shV_exact x (13 + 0) (by decide); rwa [e] at this
 unfold shC plusC lessC upC mulC
 dsimp only
 rw [e2, show p.f0 * 8192 + (q.f0 * 0 - q.f1 * -8192) = (p.f0 + q.f1) * 8192 by omega, show p.f1 * 8192 + (q.f0 * -8192 + q.f1 * 0) = (p.f1 - q.f0) * 8192 by omega, show p.f0 * 8192 - (q.f0 * 0 - q.f1 * -8192) = (p.f0 - q.f1) * 8192 by omega, show p.f1 * 8192 - (q.f0 * -8192 + q.f1 * 0) = (p.f1 + q.f0) * 8192 by omega, h, h, h, h]
def four1 (a b c d : S38) : List S38 := [plusC a c, lessC a c, plusC b d, lessC b d]
def four2 (a b c d : S38) : List S38 := [plusC (plusC a c) (plusC b d), ⟨(a.f0 - c.f0) + (b.f1 - d.f1), (a.f1 - c.f1) - (b.f0 - d.f0)⟩, lessC (plusC a c) (plusC b d), ⟨(a.f0 - c.f0) - (b.f1 - d.f1), (a.f1 - c.f1) + (b.f0 - d.f0)⟩]
theorem quad_1 (a b c d : S38) (ha : inB 8000 a = true) (hb : inB 8000 b = true) (hc : inB 8000 c = true) (hd : inB 8000 d = true) : quad4 a b c d 1 = four1 a b c d := by
 have big : ∀ x, inB 8000 x = true → inB 2147483648 x = true := fun x h => by obtain ⟨h0, h1, h2, h3⟩ := inB_of h; exact inB_to (by omega)
 have e : quad4 a b c d 1 = [(pairV a c ⟨8192, 0⟩ 13 0 0).1, (pairV a c ⟨8192, 0⟩ 13 0 0).2, (pairV b d ⟨8192, 0⟩ 13 0 0).1, (pairV b d ⟨8192, 0⟩ 13 0 0).2] := by kernel_rfl
 rw [e, pair_w0 a c (big a ha) (big c hc), pair_w0 b d (big b hb) (big d hd)]
 rfl
theorem quad_2 (a b c d : S38) (ha : inB 8000 a = true) (hb : inB 8000 b = true) (hc : inB 8000 c = true) (hd : inB 8000 d = true) : quad4 a b c d 2 = four2 a b c d := by
 have h1 := quad_1 a b c d ha hb hc hd
 obtain ⟨a0, a1, a2, a3⟩ := inB_of ha
 obtain ⟨b0, b1, b2, b3⟩ := inB_of hb
 obtain ⟨c0, c1, c2, c3⟩ := inB_of hc
 obtain ⟨d0, d1, d2, d3⟩ := inB_of hd
 have e : ∀ p q r s : S38, twoL [p, q, r, s] tw2 2 13 0 0 false 1 4 = [(pairV p r ⟨8192, 0⟩ 13 0 0).1, (pairV q s ⟨0, -8192⟩ 13 0 0).1, (pairV p r ⟨8192, 0⟩ 13 0 0).2, (pairV q s ⟨0, -8192⟩ 13 0 0).2] := fun p q r s => by kernel_rfl
 have h2 : quad4 a b c d 2 = twoL (quad4 a b c d 1) tw2 2 13 0 0 false 1 4 := rfl
 rw [h2, h1]
 unfold four1
 rw [e, pair_w0 _ _ (inB_to (by unfold plusC; dsimp only; omega)) (inB_to (by unfold plusC; dsimp only; omega)), pair_w1 _ _ (inB_to (by unfold lessC; dsimp only; omega)) (inB_to (by unfold lessC; dsimp only; omega))]
 rfl
theorem four_in (a b c d : S38) (ha : inB 8000 a = true) (hb : inB 8000 b = true) (hc : inB 8000 c = true) (hd : inB 8000 d = true) : (∀ x, x ∈ [a, b, c, d] → in15 x = true) ∧ (∀ x, x ∈ four1 a b c d → in15 x = true) := by
 obtain ⟨a0, a1, a2, a3⟩ := inB_of ha
 obtain ⟨b0, b1, b2, b3⟩ := inB_of hb
 obtain ⟨c0, c1, c2, c3⟩ := inB_of hc
 obtain ⟨d0, d1, d2, d3⟩ := inB_of hd
 constructor
 ·intro x hx
  simp at hx
  rcases hx with rfl | rfl | rfl | rfl <;> exact decide_eq_true (by omega)
 ·intro x hx
  simp [four1] at hx
  rcases hx with rfl | rfl | rfl | rfl <;> exact decide_eq_true (by simp only [plusC, lessC]; omega)
theorem eqA38 (n : Nat) (w : World) (a b c d : Int) : (Op.equalIn (n + 2) 38 (.agg #[.int .i64 a, .int .i64 b]) (.agg #[.int .i64 c, .int .i64 d])).run Tryz.prog w = .ok (a == c && (b == d)) w := by
 refine eqA_of Tryz.underlying38 (by kernel_rfl) ?_
 refine eqf_cons (by rfl) (by go_simp; rfl) (by go_simp; rfl) (by go_simp) ?_
 exact eqf_last (by rfl) (by go_simp; rfl) (by go_simp; rfl) (by go_simp)
def four0 : List S38 := [⟨1, 0⟩, ⟨2, 0⟩, ⟨3, 0⟩, ⟨4, 0⟩]
theorem four0_reps (W : World) (base : Nat) : Reps (k38.M W base fun _ => True) k38.sz four0 [.int .i64 1, .int .i64 0, .int .i64 2, .int .i64 0, .int .i64 3, .int .i64 0, .int .i64 4, .int .i64 0] := by
 refine ⟨rfl, fun j p hj => ?_⟩
 match j, hj with
 | 0, hj => obtain rfl := Option.some.inj hj; exact k38_mkM W base _ ⟨1, 0⟩
 | 1, hj => obtain rfl := Option.some.inj hj; exact k38_mkM W base _ ⟨2, 0⟩
 | 2, hj => obtain rfl := Option.some.inj hj; exact k38_mkM W base _ ⟨3, 0⟩
 | 3, hj => obtain rfl := Option.some.inj hj; exact k38_mkM W base _ ⟨4, 0⟩
 | n + 4, hj => simp [four0] at hj
theorem form4 {base : Nat} {ok : Nat → Prop} {W : World} {A : Option Addr} {c : Nat} {p q r s : S38} (h : Kd.R k38 38 W base ok (.slice A 4 c) [p, q, r, s]) : ∃ g, A = some ⟨g, 0, none⟩ := by
 obtain ⟨g, cap, hv, _⟩ := Kd.R_form h (Nat.succ_pos _)
 injection hv with h1 h2 h3
 exact ⟨g, h1⟩
theorem cells4 {base : Nat} {ok : Nat → Prop} {W : World} {g c : Nat} {p q r s : S38} (h : Kd.R k38 38 W base ok (.slice (some ⟨g, 0, none⟩) 4 c) [p, q, r, s]) :
  W.cell? ⟨g, 0, none⟩ = some (.int .i64 p.f0) ∧ W.cell? ⟨g, 1, none⟩ = some (.int .i64 p.f1) ∧ W.cell? ⟨g, 2, none⟩ = some (.int .i64 q.f0) ∧ W.cell? ⟨g, 3, none⟩ = some (.int .i64 q.f1) ∧ W.cell? ⟨g, 4, none⟩ = some (.int .i64 r.f0) ∧ W.cell? ⟨g, 5, none⟩ = some (.int .i64 r.f1) ∧ W.cell? ⟨g, 6, none⟩ = some (.int .i64 s.f0) ∧ W.cell? ⟨g, 7, none⟩ = some (.int .i64 s.f1) :=
 ⟨(R_cells h 0 (by simp)).1, (R_cells h 0 (by simp)).2, (R_cells h 1 (by simp)).1, (R_cells h 1 (by simp)).2, (R_cells h 2 (by simp)).1, (R_cells h 2 (by simp)).2, (R_cells h 3 (by simp)).1, (R_cells h 3 (by simp)).2⟩
theorem al0 : ∀ x, x ∈ ([⟨1, 0⟩, ⟨2, 0⟩, ⟨3, 0⟩, ⟨4, 0⟩] : List S38) → in15 x = true := by decide +kernel
theorem al1 : ∀ x, x ∈ quad4 ⟨1, 0⟩ ⟨2, 0⟩ ⟨3, 0⟩ ⟨4, 0⟩ 1 → in15 x = true := by decide +kernel
theorem al2 : ∀ x, x ∈ quad4 ⟨1, 0⟩ ⟨2, 0⟩ ⟨3, 0⟩ ⟨4, 0⟩ 2 → in15 x = true := by decide +kernel
theorem al3 : quad4 ⟨1, 0⟩ ⟨2, 0⟩ ⟨3, 0⟩ ⟨4, 0⟩ 2 = [⟨10, 0⟩, ⟨-2, 2⟩, ⟨-2, 0⟩, ⟨-2, -2⟩] := by kernel_rfl
attribute [local go_sem high] eqA38
set_option maxRecDepth 100000 in
set_option maxHeartbeats 4000000 in
theorem alive_any (w : World) : Calls Tryz.prog 8 #[] w fun e w' => e = .returned (.bool true) ∧ Below w.heap.size w w' := by
 have HB0 := Lib.hid (Below.refl w.heap.size w)
 go_enter Tryz.func8, Tryz.ntmps8
 go_wp2_with (first
  | ((with_reducible refine gate_dst (N := 8) rfl ?_); refine Kd.R_lit k38 _ 38 ?hg (N := 8) ?hd (xs := four0) (inner := [.int .i64 1, .int .i64 0, .int .i64 2, .int .i64 0, .int .i64 3, .int .i64 0, .int .i64 4, .int .i64 0]) (ok := fun _ => True) (okp := fun _ => True) ?hr (four0_reps _ _) (fun _ hk => hk) trivial (Below.refl _ _) (Nat.le_refl _) (by decide) ?_; (case hd => rfl); (case hg => rfl); (case hr => first | (go_simp; done) | (go_simp; rfl)); intro v8 W1 ho hb hg_ hnew_; clear hg_ hnew_; obtain ⟨A8, c8, ev, hc8, hC8⟩ := Kd.R_reads ho; subst ev; have R8 := Lib.hid hC8; have HC8 := Lib.hid hc8; have HB_1 := Lib.hid hb; clear ho hb hc8 hC8)
  | (go_at_call 7; refine (Run4 ⟨1, 0⟩ ⟨2, 0⟩ ⟨3, 0⟩ ⟨4, 0⟩ A8 c8 HC8.out al0 al1 al2 _ R8.out).mono ?_; rintro e W2 ⟨A2, c2, As, cs, he, ho, hb⟩; rw [al3] at ho; obtain ⟨gq, hA⟩ := form4 ho; subst hA; subst he; have Rr_2 := Lib.hid (Kd.R_lower ho (below_size HB_1.out)); have HB_2 := Lib.hid (below_step HB_1.out hb); clear ho hb)
  | ((with_reducible refine gate_dst (N := 1) rfl ?_); refine box_event ?hg (N := 1) ?hd (cs := #[.slice none 0 0, .int .i64 0, .bool false, .slice none 0 0]) (t := 28) ?hr ?_; (case hd => rfl); (case hg => rfl); (case hr => first | (go_simp; done) | (go_simp; rfl)); intro g1 hg W3 hbox hbl; have L1 : w.heap.size ≤ g1 := (by rw [hg]; exact below_size HB_2.out); have B1_3 := Lib.hid hbox; have HB_3 := Lib.hid (below_step HB_2.out hbl); have Rr_3 := Lib.hid (Kd.R_below Rr_2.out hbl); have k1_0_3 : W3.cell? ⟨g1, 0, none⟩ = some (.slice none 0 0) := (blk_cell B1_3.out 0).trans rfl; have k1_1_3 : W3.cell? ⟨g1, 1, none⟩ = some (.int .i64 0) := (blk_cell B1_3.out 1).trans rfl; have k1_2_3 : W3.cell? ⟨g1, 2, none⟩ = some (.bool false) := (blk_cell B1_3.out 2).trans rfl; have k1_3_3 : W3.cell? ⟨g1, 3, none⟩ = some (.slice none 0 0) := (blk_cell B1_3.out 3).trans rfl; clear hbox hbl hg)
  | ((with_reducible refine gate_store (t := 28) (p := 1) rfl ?_); refine row_event rfl 28 _ _ rfl g1 #[.slice (some ⟨gq, 0, none⟩) 4 c2, .int .i64 0, .bool false, .slice As 2 cs] rfl rfl 28 #[.slice none 0 0, .int .i64 0, .bool false, .slice none 0 0] B1_3.out (size28 _ _ _ _) rfl (one28 _ _ _ _ _ _ _ _) ?_; intro W4 hq hoth hbel; have B1_4 := Lib.hid hq; have HB_4 := Lib.hid (hbel _ _ L1 HB_3.out); have Rr_4 := Lib.hid (R_othG rfl Rr_3.out B1_3.out (by decide) hoth); clear k1_0_3 k1_1_3 k1_2_3 k1_3_3; have k1_0_4 : W4.cell? ⟨g1, 0, none⟩ = some (.slice (some ⟨gq, 0, none⟩) 4 c2) := (blk_cell B1_4.out 0).trans rfl; have k1_1_4 : W4.cell? ⟨g1, 1, none⟩ = some (.int .i64 0) := (blk_cell B1_4.out 1).trans rfl; have k1_2_4 : W4.cell? ⟨g1, 2, none⟩ = some (.bool false) := (blk_cell B1_4.out 2).trans rfl; have k1_3_4 : W4.cell? ⟨g1, 3, none⟩ = some (.slice As 2 cs) := (blk_cell B1_4.out 3).trans rfl; clear hq hoth hbel; obtain ⟨y0, y1, y2, y3, _⟩ := cells4 Rr_4.out; dsimp only at y0 y1 y2 y3))
 go_ret
 exact ⟨rfl, HB_4.out⟩
end Go.Proofs.YteieahbadclppaaGreat.P

namespace Go.Proofs.YteieahbadclppaaGreat.P
open Go.RowKit Go.Proofs.YteieahbadclppaaGreatW.PrintWords Go.Proofs.YteieahbadclppaaGreatW.PrintLast Go.Proofs.YteieahbadclppaaGreatW.PrintMore
attribute [local go_sem] max2_int min2_int max_two min_two
attribute [local go_sem high] eqA38
set_option linter.unusedVariables false
set_option linter.unusedSimpArgs false
def cxOf (n : Int) : S38 := ⟨n, 0⟩
def NotAt (v : Value) (g : Nat) : Prop := v.ownBlock ≠ some g
theorem tmod4 (q : Int) : -4 < q.tmod 4 ∧ q.tmod 4 < 4 := by
 rw [Int.tmod_eq_emod]
 split <;> omega
theorem map_take_snoc (l : List Int) (k : Nat) (h : k < l.length) : (l.take (k + 1)).map cxOf = (l.take k).map cxOf ++ [cxOf (rd l k)] := by
 rw [List.take_succ_eq_append_getElem h, List.map_append]
 unfold rd
 rw [Int.toNat_natCast, List.getD_eq_getElem?_getD, List.getElem?_eq_getElem h]
 rfl
set_option maxRecDepth 100000 in
set_option maxHeartbeats 4000000 in
theorem law4_no (A : Option Addr) (c : Nat) (l0 l : List Int) (m : Nat) (q qq : Int) (a0 a1 ra b0 b1 rb : Int) (w : World) (hr : Kd.C (Kd.int .i64) w A l0.length l0) (hc : l0.length ≤ c) (hm : m = min l0.length 70) (hl : l = l0.take m) (hq : (q.tmod 4 + 4).tmod 4 = qq)
  (hbin : ∀ W : World, Kd.C (Kd.int .i64) W A l.length l → Calls Tryz.prog 11 #[.slice A m c, .int .i64 (wrap64 (qq * (m / 4)))] W fun e w' => e = .returned (.tuple #[.agg #[.int .i64 a0, .int .i64 a1], .int .i64 ra]) ∧ Below W.heap.size W w')
  (hdft : ∀ (W : World) (A1 : Option Addr) (c1 : Nat), Kd.C k38 W A1 m (l.map cxOf) → m ≤ c1 → Calls Tryz.prog 12 #[.slice A1 m c1, .int .i64 (wrap64 (qq * (m / 4))), .bool false] W fun e w' => e = .returned (.tuple #[.agg #[.int .i64 b0, .int .i64 b1], .int .i64 rb]) ∧ Below W.heap.size W w') (hra : (ra != 0) = true) (hrb : rb = ra) :
  Calls Tryz.prog 4 #[.slice A l0.length c, .int .i64 q] w fun e w' => e = .returned (.bool true) ∧ Below w.heap.size w w' := by
 subst hrb
 have HR := Lib.hid hr
 have HC := Lib.hid hc
 have HB1 := Lib.hid hbin
 have HB2 := Lib.hid hdft
 have HM := Lib.hid hm
 have HB0 := Lib.hid (Below.refl w.heap.size w)
 have hml : l.length = m := by rw [hl]; simp; omega
 have HML := Lib.hid hml
 have HMN := Lib.hid (show m ≤ 70 by omega)
 have hrl : Kd.C (Kd.int .i64) w A l.length l := by have h := Kd.C_take (m := m) hr (by omega); rw [← hl] at h; exact h
 have HRL := Lib.hid hrl
 obtain ⟨i06, hi06, _, hsz6, _⟩ := info_parts info3
 have hmin : (if 70 < (l0.length : Int) then 70 else (l0.length : Int)) = (m : Int) := by split <;> omega
 have hcut := cut_to (P := Tryz.prog) 26 3 .i64 Tryz.underlying26 hi06 A l0.length c (m : Int) (by omega) (by omega) hc
 rw [Int.toNat_natCast] at hcut
 have hqle : ((m : Int) ≤ (l0.length : Int)) = True := eq_true (by omega)
 have t1 : wrap64 (q.tmod 4 + 4) = q.tmod 4 + 4 := by have := tmod4 q; unfold wrap64; omega
 have t2 : (q.tmod 4 + 4).tmod 4 = qq := by rw [hq]
 clear hi06 hsz6 hl hml hr hrl hc hbin hdft hm hq
 go_enter Tryz.func4, Tryz.ntmps4
 go_wp2_with (first
  | (go_at_call 11; refine (HB1.out _ HRL.out).mono ?_; rintro e W1 ⟨rfl, hb⟩; have HB_1 := Lib.hid (below_step HB0.out hb); have Cx_1 := Lib.hid (Kd.C_below HRL.out HB_1.out); clear hb)
  | ((with_reducible refine gate_dst (N := 5) rfl ?_); refine box_event ?hg (N := 5) ?hd (cs := #[.int .i64 0, .int .i64 0]) (t := 38) ?hr ?_; (case hd => rfl); (case hg => rfl); (case hr => first | (go_simp; done) | (go_simp; rfl)); intro g5 hg W2 hbox hbl; have L5 : w.heap.size ≤ g5 := (by rw [hg]; exact below_size HB_1.out); have B5_2 := Lib.hid hbox; have HB_2 := Lib.hid (below_step HB_1.out hbl); have Cx_2 := Lib.hid (Kd.C_below HRL.out HB_2.out); have k5_0_2 : W2.cell? ⟨g5, 0, none⟩ = some (.int .i64 0) := (blk_cell B5_2.out 0).trans rfl; have k5_1_2 : W2.cell? ⟨g5, 1, none⟩ = some (.int .i64 0) := (blk_cell B5_2.out 1).trans rfl; clear hbox hbl hg)
  | ((with_reducible refine gate_store (t := 38) (p := 5) rfl ?_); refine row_event rfl 38 _ _ rfl g5 #[.int .i64 a0, .int .i64 a1] rfl rfl 38 #[.int .i64 0, .int .i64 0] B5_2.out (size38 _ _) rfl (one38 _ _) ?_; intro W3 hq hoth hbel; have B5_3 := Lib.hid hq; have HB_3 := Lib.hid (hbel _ _ L5 HB_2.out); clear k5_0_2 k5_1_2; have k5_0_3 : W3.cell? ⟨g5, 0, none⟩ = some (.int .i64 a0) := (blk_cell B5_3.out 0).trans rfl; have k5_1_3 : W3.cell? ⟨g5, 1, none⟩ = some (.int .i64 a1) := (blk_cell B5_3.out 1).trans rfl; have Cx_3 := Lib.hid (Kd.C_below HRL.out HB_3.out); clear hq hoth hbel))
 have HY0 := Lib.hid (Kd.R_nil k38 38 W3 w.heap.size (fun _ => True))
 clear k5_0_3 k5_1_3
 go_loopw [7, 37] (fun s7 s37 wr => ∃ k : Nat, k ≤ m ∧ s37 = .int .i64 k ∧ Kd.R k38 38 wr w.heap.size (fun _ => True) s7 ((l.take k).map cxOf) ∧ wr.heap[g5]? = some (.cells #[.int .i64 a0, .int .i64 a1] 38 (0, 0)) ∧ NotAt s7 g5 ∧ Below w.heap.size w wr) (fun _ i _ => m - (intOf i).toNat)
 case atStart => exact ⟨0, by omega, rfl, HY0.out, B5_3.out, (fun h => by cases h), HB_3.out⟩
 case round =>
  obtain ⟨k, hk, rfl, ho, h5, hne, hb⟩ := hrel
  have Rn_0 := Lib.hid ho
  have B5_0 := Lib.hid h5
  have HBr := Lib.hid hb
  have NE5 := Lib.hid (show some g5 ≠ _ from fun e => hne e.symm)
  clear ho h5 hne hb HY0 B5_3 HB_3
  by_cases hlt : k < m
  ·obtain ⟨ad, rfl, h0⟩ := Kd.at_int HRL.out (k : Int) (by omega) (by have := HML.out; omega)
   rw [Int.toNat_natCast] at h0
   replace h0 := (HBr.out.cell (World.block_lt_of_cell? w _ h0)).trans h0
   have HT := Lib.hid (map_take_snoc l k (by have := HML.out; omega))
   have HLn := Lib.hid (show ((l.take k).map cxOf).length ≤ 1000 by simp; omega)
   generalize rd l k = x at *
   generalize (l.take k).map cxOf = Y at *
   go_wp2_with (first
    | ((with_reducible refine gate_builtin (b := .append) (xs := #[.tmp 41, .tmp 44]) rfl ?_); at_builtin; refine Kd.R_append k38 (w0 := w) w.heap.size rfl (.tmp 41) (.tmp 44) 22 38 (.agg #[(.int .i64 0), (.int .i64 0)]) 16 rfl Tryz.underlying22 info38 rfl (by decide) (by omega) _ Y (cxOf x) [.int .i64 x, .int .i64 0] (fun _ => True) (fun _ => False) rfl rfl ?aP (fun _ hk => hk.elim) ?aF ?aO ?aB ?aS ?aL ?_; (case aP => exact k38_mkM _ _ _ (cxOf x)); (case aB => exact HBr.out); (case aF => exact (fun _ _ => trivial)); (case aO => exact Rn_0.out); (case aS => exact below_size HBr.out); (case aL => have := HLn.out; omega); intro v45 W16 ho hb hg hat; have HO16 := Lib.hid ho; have HB16 := Lib.hid hb; have B16 := Lib.hid ((hg.block g5 (blk_lt B5_0.out) (NE5.out)).trans B5_0.out); have NEX : NotAt v45 g5 := (fun h5 => by rcases hat with h6 | ⟨bq, h6, h7⟩; exact NE5.out (h5.symm.trans h6); rw [h5] at h6; cases h6; have := blk_lt B5_0.out; omega); clear ho hb hg hat))
   have NE16 := Lib.hid NEX
   go_roundw
   case rel => exact ⟨k + 1, by omega, by go_num, by rw [HT.out]; exact HO16.out, B16.out, NE16.out, HB16.out⟩
   case measure => simp [intOf]; omega
  ·obtain rfl : k = m := by omega
   have hfull : (l.take k).map cxOf = l.map cxOf := by rw [← HML.out, List.take_length]
   rw [hfull] at Rn_0
   obtain ⟨A7, c7, ev, hc7, _⟩ := Kd.R_reads Rn_0.out
   rw [List.length_map, HML.out] at ev hc7
   subst ev
   have HC7 := Lib.hid hc7
   have HR7 := Lib.hid (fun (W : World) (h : Kd.R k38 38 W w.heap.size (fun _ => True) (.slice A7 k c7) (l.map cxOf)) => show Kd.C k38 W A7 k (l.map cxOf) from by have h2 := (R_C h).2; rwa [List.length_map, HML.out] at h2)
   have k5_0 := (blk_cell B5_0.out 0).trans rfl
   have k5_1 := (blk_cell B5_0.out 1).trans rfl
   clear hfull hc7
   go_wp2_with (first
    | (go_at_call 12; refine (HB2.out _ A7 c7 (HR7.out _ Rn_0.out) HC7.out).mono ?_; rintro e W1 ⟨rfl, hb⟩; have HB_1 := Lib.hid (below_step HBr.out hb); have B5_1 := Lib.hid (blk_below B5_0.out hb); have Rn_1 := Lib.hid (Kd.R_below Rn_0.out hb); have k5_0_1 : W1.cell? ⟨g5, 0, none⟩ = some (.int .i64 a0) := (blk_cell B5_1.out 0).trans rfl; have k5_1_1 : W1.cell? ⟨g5, 1, none⟩ = some (.int .i64 a1) := (blk_cell B5_1.out 1).trans rfl; clear k5_0 k5_1; clear hb)
    | ((with_reducible refine gate_dst (N := 10) rfl ?_); refine box_event ?hg (N := 10) ?hd (cs := #[.int .i64 0, .int .i64 0]) (t := 38) ?hr ?_; (case hd => rfl); (case hg => rfl); (case hr => first | (go_simp; done) | (go_simp; rfl)); intro g10 hg W2 hbox hbl; have L10 : w.heap.size ≤ g10 := (by rw [hg]; exact below_size HB_1.out); have B10_2 := Lib.hid hbox; have HB_2 := Lib.hid (below_step HB_1.out hbl); have B5_2 := Lib.hid (blk_below B5_1.out hbl); have Rn_2 := Lib.hid (Kd.R_below Rn_1.out hbl); have k5_0_2 : W2.cell? ⟨g5, 0, none⟩ = some (.int .i64 a0) := (blk_cell B5_2.out 0).trans rfl; have k5_1_2 : W2.cell? ⟨g5, 1, none⟩ = some (.int .i64 a1) := (blk_cell B5_2.out 1).trans rfl; clear k5_0_1 k5_1_1; have k10_0_2 : W2.cell? ⟨g10, 0, none⟩ = some (.int .i64 0) := (blk_cell B10_2.out 0).trans rfl; have k10_1_2 : W2.cell? ⟨g10, 1, none⟩ = some (.int .i64 0) := (blk_cell B10_2.out 1).trans rfl; have NE510 := Lib.hid (show g5 ≠ g10 from fun e => by have := blk_lt B5_1.out; omega); have NRn10 := Lib.hid (show some g10 ≠ _ from by rw [hg]; exact Kd.R_ne_new Rn_1.out 0); clear hbox hbl hg)
    | ((with_reducible refine gate_store (t := 38) (p := 10) rfl ?_); refine row_event rfl 38 _ _ rfl g10 #[.int .i64 b0, .int .i64 b1] rfl rfl 38 #[.int .i64 0, .int .i64 0] B10_2.out (size38 _ _) rfl (one38 _ _) ?_; intro W3 hq hoth hbel; have B10_3 := Lib.hid hq; have HB_3 := Lib.hid (hbel _ _ L10 HB_2.out); have B5_3 := Lib.hid ((hoth _ NE510.out).trans B5_2.out); have Rn_3 := Lib.hid (R_othN rfl Rn_2.out hoth NRn10.out); have k5_0_3 : W3.cell? ⟨g5, 0, none⟩ = some (.int .i64 a0) := (blk_cell B5_3.out 0).trans rfl; have k5_1_3 : W3.cell? ⟨g5, 1, none⟩ = some (.int .i64 a1) := (blk_cell B5_3.out 1).trans rfl; clear k5_0_2 k5_1_2 k10_0_2 k10_1_2; have k10_0_3 : W3.cell? ⟨g10, 0, none⟩ = some (.int .i64 b0) := (blk_cell B10_3.out 0).trans rfl; have k10_1_3 : W3.cell? ⟨g10, 1, none⟩ = some (.int .i64 b1) := (blk_cell B10_3.out 1).trans rfl; clear hq hoth hbel)
    | (go_at_call 8; (with_reducible refine (alive_any _).mono ?_); rintro e W4 ⟨rfl, hb⟩; have HB_4 := Lib.hid (below_step HB_3.out hb); have B5_4 := Lib.hid (blk_below B5_3.out hb); have B10_4 := Lib.hid (blk_below B10_3.out hb); have Rn_4 := Lib.hid (Kd.R_below Rn_3.out hb); have k5_0_4 : W4.cell? ⟨g5, 0, none⟩ = some (.int .i64 a0) := (blk_cell B5_4.out 0).trans rfl; have k5_1_4 : W4.cell? ⟨g5, 1, none⟩ = some (.int .i64 a1) := (blk_cell B5_4.out 1).trans rfl; have k10_0_4 : W4.cell? ⟨g10, 0, none⟩ = some (.int .i64 b0) := (blk_cell B10_4.out 0).trans rfl; have k10_1_4 : W4.cell? ⟨g10, 1, none⟩ = some (.int .i64 b1) := (blk_cell B10_4.out 1).trans rfl; clear k5_0_3 k5_1_3 k10_0_3 k10_1_3; clear hb))
   go_ret
   exact ⟨by simp, HB_4.out⟩
set_option maxRecDepth 100000 in
set_option maxHeartbeats 4000000 in
theorem law4_big (A : Option Addr) (c : Nat) (l0 l : List Int) (m : Nat) (q qq : Int) (a0 a1 ra b0 b1 rb : Int) (mx : Int) (w : World) (hr : Kd.C (Kd.int .i64) w A l0.length l0) (hc : l0.length ≤ c) (hm : m = min l0.length 70) (hl : l = l0.take m) (hq : (q.tmod 4 + 4).tmod 4 = qq)
  (hbin : ∀ W : World, Kd.C (Kd.int .i64) W A l.length l → Calls Tryz.prog 11 #[.slice A m c, .int .i64 (wrap64 (qq * (m / 4)))] W fun e w' => e = .returned (.tuple #[.agg #[.int .i64 a0, .int .i64 a1], .int .i64 ra]) ∧ Below W.heap.size W w')
  (hdft : ∀ (W : World) (A1 : Option Addr) (c1 : Nat), Kd.C k38 W A1 m (l.map cxOf) → m ≤ c1 → Calls Tryz.prog 12 #[.slice A1 m c1, .int .i64 (wrap64 (qq * (m / 4))), .bool false] W fun e w' => e = .returned (.tuple #[.agg #[.int .i64 b0, .int .i64 b1], .int .i64 rb]) ∧ Below W.heap.size W w')
  (hra : ra = 0) (hrb : rb = 0) (hb0 : b0 = wrap64 (a0 * 256)) (hb1 : b1 = wrap64 (a1 * 256)) (hmx : ∀ (W : World) (A1 : Option Addr) (c1 : Nat), Kd.C k38 W A1 m (l.map cxOf) → m ≤ c1 → Calls Tryz.prog 13 #[.slice A1 m c1] W fun e w' => e = .returned (.tuple #[.int .i64 mx, .int .i64 0]) ∧ Below W.heap.size W w') (h4 : 4 < m) :
  Calls Tryz.prog 4 #[.slice A l0.length c, .int .i64 q] w fun e w' => e = .returned (.bool true) ∧ Below w.heap.size w w' := by
 subst hra; subst hrb; subst hb0; subst hb1
 have HMX := Lib.hid hmx
 clear hmx
 have h4a : ((4 : Int) < (m : Int)) = True := eq_true (by omega)
 have h4b : decide ((4 : Int) < (m : Int)) = true := decide_eq_true (by omega)
 have h4c : decide (4 < m) = true := decide_eq_true h4
 have HR := Lib.hid hr
 have HC := Lib.hid hc
 have HB1 := Lib.hid hbin
 have HB2 := Lib.hid hdft
 have HM := Lib.hid hm
 have HB0 := Lib.hid (Below.refl w.heap.size w)
 have hml : l.length = m := by rw [hl]; simp; omega
 have HML := Lib.hid hml
 have HMN := Lib.hid (show m ≤ 70 by omega)
 have hrl : Kd.C (Kd.int .i64) w A l.length l := by have h := Kd.C_take (m := m) hr (by omega); rw [← hl] at h; exact h
 have HRL := Lib.hid hrl
 obtain ⟨i06, hi06, _, hsz6, _⟩ := info_parts info3
 have hmin : (if 70 < (l0.length : Int) then 70 else (l0.length : Int)) = (m : Int) := by split <;> omega
 have hcut := cut_to (P := Tryz.prog) 26 3 .i64 Tryz.underlying26 hi06 A l0.length c (m : Int) (by omega) (by omega) hc
 rw [Int.toNat_natCast] at hcut
 have hqle : ((m : Int) ≤ (l0.length : Int)) = True := eq_true (by omega)
 have t1 : wrap64 (q.tmod 4 + 4) = q.tmod 4 + 4 := by have := tmod4 q; unfold wrap64; omega
 have t2 : (q.tmod 4 + 4).tmod 4 = qq := by rw [hq]
 clear hi06 hsz6 hl hml hr hrl hc hbin hdft hm hq
 go_enter Tryz.func4, Tryz.ntmps4
 go_wp2_with (first
  | (go_at_call 11; refine (HB1.out _ HRL.out).mono ?_; rintro e W1 ⟨rfl, hb⟩; have HB_1 := Lib.hid (below_step HB0.out hb); have Cx_1 := Lib.hid (Kd.C_below HRL.out HB_1.out); clear hb)
  | ((with_reducible refine gate_dst (N := 5) rfl ?_); refine box_event ?hg (N := 5) ?hd (cs := #[.int .i64 0, .int .i64 0]) (t := 38) ?hr ?_; (case hd => rfl); (case hg => rfl); (case hr => first | (go_simp; done) | (go_simp; rfl)); intro g5 hg W2 hbox hbl; have L5 : w.heap.size ≤ g5 := (by rw [hg]; exact below_size HB_1.out); have B5_2 := Lib.hid hbox; have HB_2 := Lib.hid (below_step HB_1.out hbl); have Cx_2 := Lib.hid (Kd.C_below HRL.out HB_2.out); have k5_0_2 : W2.cell? ⟨g5, 0, none⟩ = some (.int .i64 0) := (blk_cell B5_2.out 0).trans rfl; have k5_1_2 : W2.cell? ⟨g5, 1, none⟩ = some (.int .i64 0) := (blk_cell B5_2.out 1).trans rfl; clear hbox hbl hg)
  | ((with_reducible refine gate_store (t := 38) (p := 5) rfl ?_); refine row_event rfl 38 _ _ rfl g5 #[.int .i64 a0, .int .i64 a1] rfl rfl 38 #[.int .i64 0, .int .i64 0] B5_2.out (size38 _ _) rfl (one38 _ _) ?_; intro W3 hq hoth hbel; have B5_3 := Lib.hid hq; have HB_3 := Lib.hid (hbel _ _ L5 HB_2.out); clear k5_0_2 k5_1_2; have k5_0_3 : W3.cell? ⟨g5, 0, none⟩ = some (.int .i64 a0) := (blk_cell B5_3.out 0).trans rfl; have k5_1_3 : W3.cell? ⟨g5, 1, none⟩ = some (.int .i64 a1) := (blk_cell B5_3.out 1).trans rfl; have Cx_3 := Lib.hid (Kd.C_below HRL.out HB_3.out); clear hq hoth hbel))
 have HY0 := Lib.hid (Kd.R_nil k38 38 W3 w.heap.size (fun _ => True))
 clear k5_0_3 k5_1_3
 go_loopw [7, 37] (fun s7 s37 wr => ∃ k : Nat, k ≤ m ∧ s37 = .int .i64 k ∧ Kd.R k38 38 wr w.heap.size (fun _ => True) s7 ((l.take k).map cxOf) ∧ wr.heap[g5]? = some (.cells #[.int .i64 a0, .int .i64 a1] 38 (0, 0)) ∧ NotAt s7 g5 ∧ Below w.heap.size w wr) (fun _ i _ => m - (intOf i).toNat)
 case atStart => exact ⟨0, by omega, rfl, HY0.out, B5_3.out, (fun h => by cases h), HB_3.out⟩
 case round =>
  obtain ⟨k, hk, rfl, ho, h5, hne, hb⟩ := hrel
  have Rn_0 := Lib.hid ho
  have B5_0 := Lib.hid h5
  have HBr := Lib.hid hb
  have NE5 := Lib.hid (show some g5 ≠ _ from fun e => hne e.symm)
  clear ho h5 hne hb HY0 B5_3 HB_3
  by_cases hlt : k < m
  ·obtain ⟨ad, rfl, h0⟩ := Kd.at_int HRL.out (k : Int) (by omega) (by have := HML.out; omega)
   rw [Int.toNat_natCast] at h0
   replace h0 := (HBr.out.cell (World.block_lt_of_cell? w _ h0)).trans h0
   have HT := Lib.hid (map_take_snoc l k (by have := HML.out; omega))
   have HLn := Lib.hid (show ((l.take k).map cxOf).length ≤ 1000 by simp; omega)
   generalize rd l k = x at *
   generalize (l.take k).map cxOf = Y at *
   go_wp2_with (first
    | ((with_reducible refine gate_builtin (b := .append) (xs := #[.tmp 41, .tmp 44]) rfl ?_); at_builtin; refine Kd.R_append k38 (w0 := w) w.heap.size rfl (.tmp 41) (.tmp 44) 22 38 (.agg #[(.int .i64 0), (.int .i64 0)]) 16 rfl Tryz.underlying22 info38 rfl (by decide) (by omega) _ Y (cxOf x) [.int .i64 x, .int .i64 0] (fun _ => True) (fun _ => False) rfl rfl ?aP (fun _ hk => hk.elim) ?aF ?aO ?aB ?aS ?aL ?_; (case aP => exact k38_mkM _ _ _ (cxOf x)); (case aB => exact HBr.out); (case aF => exact (fun _ _ => trivial)); (case aO => exact Rn_0.out); (case aS => exact below_size HBr.out); (case aL => have := HLn.out; omega); intro v45 W16 ho hb hg hat; have HO16 := Lib.hid ho; have HB16 := Lib.hid hb; have B16 := Lib.hid ((hg.block g5 (blk_lt B5_0.out) (NE5.out)).trans B5_0.out); have NEX : NotAt v45 g5 := (fun h5 => by rcases hat with h6 | ⟨bq, h6, h7⟩; exact NE5.out (h5.symm.trans h6); rw [h5] at h6; cases h6; have := blk_lt B5_0.out; omega); clear ho hb hg hat))
   have NE16 := Lib.hid NEX
   go_roundw
   case rel => exact ⟨k + 1, by omega, by go_num, by rw [HT.out]; exact HO16.out, B16.out, NE16.out, HB16.out⟩
   case measure => simp [intOf]; omega
  ·obtain rfl : k = m := by omega
   have hfull : (l.take k).map cxOf = l.map cxOf := by rw [← HML.out, List.take_length]
   rw [hfull] at Rn_0
   obtain ⟨A7, c7, ev, hc7, _⟩ := Kd.R_reads Rn_0.out
   rw [List.length_map, HML.out] at ev hc7
   subst ev
   have HC7 := Lib.hid hc7
   have HR7 := Lib.hid (fun (W : World) (h : Kd.R k38 38 W w.heap.size (fun _ => True) (.slice A7 k c7) (l.map cxOf)) => show Kd.C k38 W A7 k (l.map cxOf) from by have h2 := (R_C h).2; rwa [List.length_map, HML.out] at h2)
   have k5_0 := (blk_cell B5_0.out 0).trans rfl
   have k5_1 := (blk_cell B5_0.out 1).trans rfl
   clear hfull hc7
   go_wp2_with (first
    | (go_at_call 12; refine (HB2.out _ A7 c7 (HR7.out _ Rn_0.out) HC7.out).mono ?_; rintro e W1 ⟨rfl, hb⟩; have HB_1 := Lib.hid (below_step HBr.out hb); have B5_1 := Lib.hid (blk_below B5_0.out hb); have Rn_1 := Lib.hid (Kd.R_below Rn_0.out hb); have k5_0_1 : W1.cell? ⟨g5, 0, none⟩ = some (.int .i64 a0) := (blk_cell B5_1.out 0).trans rfl; have k5_1_1 : W1.cell? ⟨g5, 1, none⟩ = some (.int .i64 a1) := (blk_cell B5_1.out 1).trans rfl; clear k5_0 k5_1; clear hb)
    | ((with_reducible refine gate_dst (N := 10) rfl ?_); refine box_event ?hg (N := 10) ?hd (cs := #[.int .i64 0, .int .i64 0]) (t := 38) ?hr ?_; (case hd => rfl); (case hg => rfl); (case hr => first | (go_simp; done) | (go_simp; rfl)); intro g10 hg W2 hbox hbl; have L10 : w.heap.size ≤ g10 := (by rw [hg]; exact below_size HB_1.out); have B10_2 := Lib.hid hbox; have HB_2 := Lib.hid (below_step HB_1.out hbl); have B5_2 := Lib.hid (blk_below B5_1.out hbl); have Rn_2 := Lib.hid (Kd.R_below Rn_1.out hbl); have k5_0_2 : W2.cell? ⟨g5, 0, none⟩ = some (.int .i64 a0) := (blk_cell B5_2.out 0).trans rfl; have k5_1_2 : W2.cell? ⟨g5, 1, none⟩ = some (.int .i64 a1) := (blk_cell B5_2.out 1).trans rfl; clear k5_0_1 k5_1_1; have k10_0_2 : W2.cell? ⟨g10, 0, none⟩ = some (.int .i64 0) := (blk_cell B10_2.out 0).trans rfl; have k10_1_2 : W2.cell? ⟨g10, 1, none⟩ = some (.int .i64 0) := (blk_cell B10_2.out 1).trans rfl; have NE510 := Lib.hid (show g5 ≠ g10 from fun e => by have := blk_lt B5_1.out; omega); have NRn10 := Lib.hid (show some g10 ≠ _ from by rw [hg]; exact Kd.R_ne_new Rn_1.out 0); clear hbox hbl hg)
    | ((with_reducible refine gate_store (t := 38) (p := 10) rfl ?_); refine row_event rfl 38 _ _ rfl g10 #[.int .i64 (wrap64 (a0 * 256)), .int .i64 (wrap64 (a1 * 256))] rfl rfl 38 #[.int .i64 0, .int .i64 0] B10_2.out (size38 _ _) rfl (one38 _ _) ?_; intro W3 hq hoth hbel; have B10_3 := Lib.hid hq; have HB_3 := Lib.hid (hbel _ _ L10 HB_2.out); have B5_3 := Lib.hid ((hoth _ NE510.out).trans B5_2.out); have Rn_3 := Lib.hid (R_othN rfl Rn_2.out hoth NRn10.out); have k5_0_3 : W3.cell? ⟨g5, 0, none⟩ = some (.int .i64 a0) := (blk_cell B5_3.out 0).trans rfl; have k5_1_3 : W3.cell? ⟨g5, 1, none⟩ = some (.int .i64 a1) := (blk_cell B5_3.out 1).trans rfl; clear k5_0_2 k5_1_2 k10_0_2 k10_1_2; have k10_0_3 : W3.cell? ⟨g10, 0, none⟩ = some (.int .i64 (wrap64 (a0 * 256))) := (blk_cell B10_3.out 0).trans rfl; have k10_1_3 : W3.cell? ⟨g10, 1, none⟩ = some (.int .i64 (wrap64 (a1 * 256))) := (blk_cell B10_3.out 1).trans rfl; clear hq hoth hbel)
    | (go_at_call 8; (with_reducible refine (alive_any _).mono ?_); rintro e W4 ⟨rfl, hb⟩; have HB_4 := Lib.hid (below_step HB_3.out hb); have B5_4 := Lib.hid (blk_below B5_3.out hb); have B10_4 := Lib.hid (blk_below B10_3.out hb); have Rn_4 := Lib.hid (Kd.R_below Rn_3.out hb); have k5_0_4 : W4.cell? ⟨g5, 0, none⟩ = some (.int .i64 a0) := (blk_cell B5_4.out 0).trans rfl; have k5_1_4 : W4.cell? ⟨g5, 1, none⟩ = some (.int .i64 a1) := (blk_cell B5_4.out 1).trans rfl; have k10_0_4 : W4.cell? ⟨g10, 0, none⟩ = some (.int .i64 (wrap64 (a0 * 256))) := (blk_cell B10_4.out 0).trans rfl; have k10_1_4 : W4.cell? ⟨g10, 1, none⟩ = some (.int .i64 (wrap64 (a1 * 256))) := (blk_cell B10_4.out 1).trans rfl; clear k5_0_3 k5_1_3 k10_0_3 k10_1_3; clear hb)
    | (go_at_call 13; refine (HMX.out _ A7 c7 (HR7.out _ Rn_4.out) HC7.out).mono ?_; rintro e W5 ⟨rfl, hb⟩; have HB_5 := Lib.hid (below_step HB_4.out hb); have B5_5 := Lib.hid (blk_below B5_4.out hb); have B10_5 := Lib.hid (blk_below B10_4.out hb); have Rn_5 := Lib.hid (Kd.R_below Rn_4.out hb); have k5_0_5 : W5.cell? ⟨g5, 0, none⟩ = some (.int .i64 a0) := (blk_cell B5_5.out 0).trans rfl; have k5_1_5 : W5.cell? ⟨g5, 1, none⟩ = some (.int .i64 a1) := (blk_cell B5_5.out 1).trans rfl; have k10_0_5 : W5.cell? ⟨g10, 0, none⟩ = some (.int .i64 (wrap64 (a0 * 256))) := (blk_cell B10_5.out 0).trans rfl; have k10_1_5 : W5.cell? ⟨g10, 1, none⟩ = some (.int .i64 (wrap64 (a1 * 256))) := (blk_cell B10_5.out 1).trans rfl; clear k5_0_4 k5_1_4 k10_0_4 k10_1_4; clear hb))
   go_ret
   exact ⟨rfl, HB_5.out⟩
set_option maxRecDepth 100000 in
set_option maxHeartbeats 4000000 in
theorem law4_great (A : Option Addr) (c : Nat) (l0 l : List Int) (m : Nat) (q qq : Int) (a0 a1 ra b0 b1 rb : Int) (mx : Int) (w : World) (hr : Kd.C (Kd.int .i64) w A l0.length l0) (hc : l0.length ≤ c) (hm : m = min l0.length 70) (hl : l = l0.take m) (hq : (q.tmod 4 + 4).tmod 4 = qq)
  (hbin : ∀ W : World, Kd.C (Kd.int .i64) W A l.length l → Calls Tryz.prog 11 #[.slice A m c, .int .i64 (wrap64 (qq * (m / 4)))] W fun e w' => e = .returned (.tuple #[.agg #[.int .i64 a0, .int .i64 a1], .int .i64 ra]) ∧ Below W.heap.size W w')
  (hdft : ∀ (W : World) (A1 : Option Addr) (c1 : Nat), Kd.C k38 W A1 m (l.map cxOf) → m ≤ c1 → Calls Tryz.prog 12 #[.slice A1 m c1, .int .i64 (wrap64 (qq * (m / 4))), .bool false] W fun e w' => e = .returned (.tuple #[.agg #[.int .i64 b0, .int .i64 b1], .int .i64 rb]) ∧ Below W.heap.size W w')
  (hra : ra = 0) (hrb : rb = 0) (hb0 : b0 = wrap64 (a0 * 256)) (hb1 : b1 = wrap64 (a1 * 256)) (hmx : ∀ (W : World) (A1 : Option Addr) (c1 : Nat), Kd.C k38 W A1 m (l.map cxOf) → m ≤ c1 → Calls Tryz.prog 13 #[.slice A1 m c1] W fun e w' => e = .returned (.tuple #[.int .i64 mx, .int .i64 0]) ∧ Below W.heap.size W w') (h4 : ¬ 4 < m) (h8 : 8000 < mx) :
  Calls Tryz.prog 4 #[.slice A l0.length c, .int .i64 q] w fun e w' => e = .returned (.bool true) ∧ Below w.heap.size w w' := by
 subst hra; subst hrb; subst hb0; subst hb1
 have HMX := Lib.hid hmx
 clear hmx
 have H4 := Lib.hid h4
 have H8 := Lib.hid h8
 clear h4 h8
 have HR := Lib.hid hr
 have HC := Lib.hid hc
 have HB1 := Lib.hid hbin
 have HB2 := Lib.hid hdft
 have HM := Lib.hid hm
 have HB0 := Lib.hid (Below.refl w.heap.size w)
 have hml : l.length = m := by rw [hl]; simp; omega
 have HML := Lib.hid hml
 have HMN := Lib.hid (show m ≤ 70 by omega)
 have hrl : Kd.C (Kd.int .i64) w A l.length l := by have h := Kd.C_take (m := m) hr (by omega); rw [← hl] at h; exact h
 have HRL := Lib.hid hrl
 obtain ⟨i06, hi06, _, hsz6, _⟩ := info_parts info3
 have hmin : (if 70 < (l0.length : Int) then 70 else (l0.length : Int)) = (m : Int) := by split <;> omega
 have hcut := cut_to (P := Tryz.prog) 26 3 .i64 Tryz.underlying26 hi06 A l0.length c (m : Int) (by omega) (by omega) hc
 rw [Int.toNat_natCast] at hcut
 have hqle : ((m : Int) ≤ (l0.length : Int)) = True := eq_true (by omega)
 have t1 : wrap64 (q.tmod 4 + 4) = q.tmod 4 + 4 := by have := tmod4 q; unfold wrap64; omega
 have t2 : (q.tmod 4 + 4).tmod 4 = qq := by rw [hq]
 clear hi06 hsz6 hl hml hr hrl hc hbin hdft hm hq
 go_enter Tryz.func4, Tryz.ntmps4
 go_wp2_with (first
  | (go_at_call 11; refine (HB1.out _ HRL.out).mono ?_; rintro e W1 ⟨rfl, hb⟩; have HB_1 := Lib.hid (below_step HB0.out hb); have Cx_1 := Lib.hid (Kd.C_below HRL.out HB_1.out); clear hb)
  | ((with_reducible refine gate_dst (N := 5) rfl ?_); refine box_event ?hg (N := 5) ?hd (cs := #[.int .i64 0, .int .i64 0]) (t := 38) ?hr ?_; (case hd => rfl); (case hg => rfl); (case hr => first | (go_simp; done) | (go_simp; rfl)); intro g5 hg W2 hbox hbl; have L5 : w.heap.size ≤ g5 := (by rw [hg]; exact below_size HB_1.out); have B5_2 := Lib.hid hbox; have HB_2 := Lib.hid (below_step HB_1.out hbl); have Cx_2 := Lib.hid (Kd.C_below HRL.out HB_2.out); have k5_0_2 : W2.cell? ⟨g5, 0, none⟩ = some (.int .i64 0) := (blk_cell B5_2.out 0).trans rfl; have k5_1_2 : W2.cell? ⟨g5, 1, none⟩ = some (.int .i64 0) := (blk_cell B5_2.out 1).trans rfl; clear hbox hbl hg)
  | ((with_reducible refine gate_store (t := 38) (p := 5) rfl ?_); refine row_event rfl 38 _ _ rfl g5 #[.int .i64 a0, .int .i64 a1] rfl rfl 38 #[.int .i64 0, .int .i64 0] B5_2.out (size38 _ _) rfl (one38 _ _) ?_; intro W3 hq hoth hbel; have B5_3 := Lib.hid hq; have HB_3 := Lib.hid (hbel _ _ L5 HB_2.out); clear k5_0_2 k5_1_2; have k5_0_3 : W3.cell? ⟨g5, 0, none⟩ = some (.int .i64 a0) := (blk_cell B5_3.out 0).trans rfl; have k5_1_3 : W3.cell? ⟨g5, 1, none⟩ = some (.int .i64 a1) := (blk_cell B5_3.out 1).trans rfl; have Cx_3 := Lib.hid (Kd.C_below HRL.out HB_3.out); clear hq hoth hbel))
 have HY0 := Lib.hid (Kd.R_nil k38 38 W3 w.heap.size (fun _ => True))
 clear k5_0_3 k5_1_3
 go_loopw [7, 37] (fun s7 s37 wr => ∃ k : Nat, k ≤ m ∧ s37 = .int .i64 k ∧ Kd.R k38 38 wr w.heap.size (fun _ => True) s7 ((l.take k).map cxOf) ∧ wr.heap[g5]? = some (.cells #[.int .i64 a0, .int .i64 a1] 38 (0, 0)) ∧ NotAt s7 g5 ∧ Below w.heap.size w wr) (fun _ i _ => m - (intOf i).toNat)
 case atStart => exact ⟨0, by omega, rfl, HY0.out, B5_3.out, (fun h => by cases h), HB_3.out⟩
 case round =>
  obtain ⟨k, hk, rfl, ho, h5, hne, hb⟩ := hrel
  have Rn_0 := Lib.hid ho
  have B5_0 := Lib.hid h5
  have HBr := Lib.hid hb
  have NE5 := Lib.hid (show some g5 ≠ _ from fun e => hne e.symm)
  clear ho h5 hne hb HY0 B5_3 HB_3
  by_cases hlt : k < m
  ·obtain ⟨ad, rfl, h0⟩ := Kd.at_int HRL.out (k : Int) (by omega) (by have := HML.out; omega)
   rw [Int.toNat_natCast] at h0
   replace h0 := (HBr.out.cell (World.block_lt_of_cell? w _ h0)).trans h0
   have HT := Lib.hid (map_take_snoc l k (by have := HML.out; omega))
   have HLn := Lib.hid (show ((l.take k).map cxOf).length ≤ 1000 by simp; omega)
   generalize rd l k = x at *
   generalize (l.take k).map cxOf = Y at *
   go_wp2_with (first
    | ((with_reducible refine gate_builtin (b := .append) (xs := #[.tmp 41, .tmp 44]) rfl ?_); at_builtin; refine Kd.R_append k38 (w0 := w) w.heap.size rfl (.tmp 41) (.tmp 44) 22 38 (.agg #[(.int .i64 0), (.int .i64 0)]) 16 rfl Tryz.underlying22 info38 rfl (by decide) (by omega) _ Y (cxOf x) [.int .i64 x, .int .i64 0] (fun _ => True) (fun _ => False) rfl rfl ?aP (fun _ hk => hk.elim) ?aF ?aO ?aB ?aS ?aL ?_; (case aP => exact k38_mkM _ _ _ (cxOf x)); (case aB => exact HBr.out); (case aF => exact (fun _ _ => trivial)); (case aO => exact Rn_0.out); (case aS => exact below_size HBr.out); (case aL => have := HLn.out; omega); intro v45 W16 ho hb hg hat; have HO16 := Lib.hid ho; have HB16 := Lib.hid hb; have B16 := Lib.hid ((hg.block g5 (blk_lt B5_0.out) (NE5.out)).trans B5_0.out); have NEX : NotAt v45 g5 := (fun h5 => by rcases hat with h6 | ⟨bq, h6, h7⟩; exact NE5.out (h5.symm.trans h6); rw [h5] at h6; cases h6; have := blk_lt B5_0.out; omega); clear ho hb hg hat))
   have NE16 := Lib.hid NEX
   go_roundw
   case rel => exact ⟨k + 1, by omega, by go_num, by rw [HT.out]; exact HO16.out, B16.out, NE16.out, HB16.out⟩
   case measure => simp [intOf]; omega
  ·obtain rfl : k = m := by omega
   have hfull : (l.take k).map cxOf = l.map cxOf := by rw [← HML.out, List.take_length]
   rw [hfull] at Rn_0
   obtain ⟨A7, c7, ev, hc7, _⟩ := Kd.R_reads Rn_0.out
   rw [List.length_map, HML.out] at ev hc7
   subst ev
   have HC7 := Lib.hid hc7
   have HR7 := Lib.hid (fun (W : World) (h : Kd.R k38 38 W w.heap.size (fun _ => True) (.slice A7 k c7) (l.map cxOf)) => show Kd.C k38 W A7 k (l.map cxOf) from by have h2 := (R_C h).2; rwa [List.length_map, HML.out] at h2)
   have k5_0 := (blk_cell B5_0.out 0).trans rfl
   have k5_1 := (blk_cell B5_0.out 1).trans rfl
   clear hfull hc7
   have h4a : ((4 : Int) < (k : Int)) = False := eq_false (by have := H4.out; omega)
   have h4b : decide ((4 : Int) < (k : Int)) = false := decide_eq_false (by have := H4.out; omega)
   have h4c : decide (4 < k) = false := decide_eq_false (by have := H4.out; omega)
   have h8a : decide (8000 < mx) = true := decide_eq_true (by have := H8.out; omega)
   go_wp2_with (first
    | (go_at_call 12; refine (HB2.out _ A7 c7 (HR7.out _ Rn_0.out) HC7.out).mono ?_; rintro e W1 ⟨rfl, hb⟩; have HB_1 := Lib.hid (below_step HBr.out hb); have B5_1 := Lib.hid (blk_below B5_0.out hb); have Rn_1 := Lib.hid (Kd.R_below Rn_0.out hb); have k5_0_1 : W1.cell? ⟨g5, 0, none⟩ = some (.int .i64 a0) := (blk_cell B5_1.out 0).trans rfl; have k5_1_1 : W1.cell? ⟨g5, 1, none⟩ = some (.int .i64 a1) := (blk_cell B5_1.out 1).trans rfl; clear k5_0 k5_1; clear hb)
    | ((with_reducible refine gate_dst (N := 10) rfl ?_); refine box_event ?hg (N := 10) ?hd (cs := #[.int .i64 0, .int .i64 0]) (t := 38) ?hr ?_; (case hd => rfl); (case hg => rfl); (case hr => first | (go_simp; done) | (go_simp; rfl)); intro g10 hg W2 hbox hbl; have L10 : w.heap.size ≤ g10 := (by rw [hg]; exact below_size HB_1.out); have B10_2 := Lib.hid hbox; have HB_2 := Lib.hid (below_step HB_1.out hbl); have B5_2 := Lib.hid (blk_below B5_1.out hbl); have Rn_2 := Lib.hid (Kd.R_below Rn_1.out hbl); have k5_0_2 : W2.cell? ⟨g5, 0, none⟩ = some (.int .i64 a0) := (blk_cell B5_2.out 0).trans rfl; have k5_1_2 : W2.cell? ⟨g5, 1, none⟩ = some (.int .i64 a1) := (blk_cell B5_2.out 1).trans rfl; clear k5_0_1 k5_1_1; have k10_0_2 : W2.cell? ⟨g10, 0, none⟩ = some (.int .i64 0) := (blk_cell B10_2.out 0).trans rfl; have k10_1_2 : W2.cell? ⟨g10, 1, none⟩ = some (.int .i64 0) := (blk_cell B10_2.out 1).trans rfl; have NE510 := Lib.hid (show g5 ≠ g10 from fun e => by have := blk_lt B5_1.out; omega); have NRn10 := Lib.hid (show some g10 ≠ _ from by rw [hg]; exact Kd.R_ne_new Rn_1.out 0); clear hbox hbl hg)
    | ((with_reducible refine gate_store (t := 38) (p := 10) rfl ?_); refine row_event rfl 38 _ _ rfl g10 #[.int .i64 (wrap64 (a0 * 256)), .int .i64 (wrap64 (a1 * 256))] rfl rfl 38 #[.int .i64 0, .int .i64 0] B10_2.out (size38 _ _) rfl (one38 _ _) ?_; intro W3 hq hoth hbel; have B10_3 := Lib.hid hq; have HB_3 := Lib.hid (hbel _ _ L10 HB_2.out); have B5_3 := Lib.hid ((hoth _ NE510.out).trans B5_2.out); have Rn_3 := Lib.hid (R_othN rfl Rn_2.out hoth NRn10.out); have k5_0_3 : W3.cell? ⟨g5, 0, none⟩ = some (.int .i64 a0) := (blk_cell B5_3.out 0).trans rfl; have k5_1_3 : W3.cell? ⟨g5, 1, none⟩ = some (.int .i64 a1) := (blk_cell B5_3.out 1).trans rfl; clear k5_0_2 k5_1_2 k10_0_2 k10_1_2; have k10_0_3 : W3.cell? ⟨g10, 0, none⟩ = some (.int .i64 (wrap64 (a0 * 256))) := (blk_cell B10_3.out 0).trans rfl; have k10_1_3 : W3.cell? ⟨g10, 1, none⟩ = some (.int .i64 (wrap64 (a1 * 256))) := (blk_cell B10_3.out 1).trans rfl; clear hq hoth hbel)
    | (go_at_call 8; (with_reducible refine (alive_any _).mono ?_); rintro e W4 ⟨rfl, hb⟩; have HB_4 := Lib.hid (below_step HB_3.out hb); have B5_4 := Lib.hid (blk_below B5_3.out hb); have B10_4 := Lib.hid (blk_below B10_3.out hb); have Rn_4 := Lib.hid (Kd.R_below Rn_3.out hb); have k5_0_4 : W4.cell? ⟨g5, 0, none⟩ = some (.int .i64 a0) := (blk_cell B5_4.out 0).trans rfl; have k5_1_4 : W4.cell? ⟨g5, 1, none⟩ = some (.int .i64 a1) := (blk_cell B5_4.out 1).trans rfl; have k10_0_4 : W4.cell? ⟨g10, 0, none⟩ = some (.int .i64 (wrap64 (a0 * 256))) := (blk_cell B10_4.out 0).trans rfl; have k10_1_4 : W4.cell? ⟨g10, 1, none⟩ = some (.int .i64 (wrap64 (a1 * 256))) := (blk_cell B10_4.out 1).trans rfl; clear k5_0_3 k5_1_3 k10_0_3 k10_1_3; clear hb)
    | (go_at_call 13; refine (HMX.out _ A7 c7 (HR7.out _ Rn_4.out) HC7.out).mono ?_; rintro e W5 ⟨rfl, hb⟩; have HB_5 := Lib.hid (below_step HB_4.out hb); have B5_5 := Lib.hid (blk_below B5_4.out hb); have B10_5 := Lib.hid (blk_below B10_4.out hb); have Rn_5 := Lib.hid (Kd.R_below Rn_4.out hb); have k5_0_5 : W5.cell? ⟨g5, 0, none⟩ = some (.int .i64 a0) := (blk_cell B5_5.out 0).trans rfl; have k5_1_5 : W5.cell? ⟨g5, 1, none⟩ = some (.int .i64 a1) := (blk_cell B5_5.out 1).trans rfl; have k10_0_5 : W5.cell? ⟨g10, 0, none⟩ = some (.int .i64 (wrap64 (a0 * 256))) := (blk_cell B10_5.out 0).trans rfl; have k10_1_5 : W5.cell? ⟨g10, 1, none⟩ = some (.int .i64 (wrap64 (a1 * 256))) := (blk_cell B10_5.out 1).trans rfl; clear k5_0_4 k5_1_4 k10_0_4 k10_1_4; clear hb))
   go_ret
   exact ⟨rfl, HB_5.out⟩
set_option maxRecDepth 100000 in
set_option maxHeartbeats 4000000 in
theorem law4_four (A : Option Addr) (c : Nat) (l0 l : List Int) (m : Nat) (q qq : Int) (a0 a1 ra b0 b1 rb : Int) (mx : Int) (F : List S38) (w : World) (hr : Kd.C (Kd.int .i64) w A l0.length l0) (hc : l0.length ≤ c) (hm : m = min l0.length 70) (hl : l = l0.take m) (hq : (q.tmod 4 + 4).tmod 4 = qq)
  (hbin : ∀ W : World, Kd.C (Kd.int .i64) W A l.length l → Calls Tryz.prog 11 #[.slice A m c, .int .i64 (wrap64 (qq * (m / 4)))] W fun e w' => e = .returned (.tuple #[.agg #[.int .i64 a0, .int .i64 a1], .int .i64 ra]) ∧ Below W.heap.size W w')
  (hdft : ∀ (W : World) (A1 : Option Addr) (c1 : Nat), Kd.C k38 W A1 m (l.map cxOf) → m ≤ c1 → Calls Tryz.prog 12 #[.slice A1 m c1, .int .i64 (wrap64 (qq * (m / 4))), .bool false] W fun e w' => e = .returned (.tuple #[.agg #[.int .i64 b0, .int .i64 b1], .int .i64 rb]) ∧ Below W.heap.size W w')
  (hra : ra = 0) (hrb : rb = 0) (hb0 : b0 = wrap64 (a0 * 256)) (hb1 : b1 = wrap64 (a1 * 256)) (hmx : ∀ (W : World) (A1 : Option Addr) (c1 : Nat), Kd.C k38 W A1 m (l.map cxOf) → m ≤ c1 → Calls Tryz.prog 13 #[.slice A1 m c1] W fun e w' => e = .returned (.tuple #[.int .i64 mx, .int .i64 0]) ∧ Below W.heap.size W w') (h4 : ¬ 4 < m) (h8 : ¬ 8000 < mx) (hq2 : 0 ≤ qq ∧ qq < m) (hp : rd_T38 F qq = ⟨a0, a1⟩)
  (hrun : ∀ (W : World) (A1 : Option Addr) (c1 : Nat), Kd.C k38 W A1 m (l.map cxOf) → m ≤ c1 → Calls Tryz.prog 7 #[.slice A1 m c1, .agg (planC 0 2 0 2 0 false)] W fun e w' => ∃ A' c' As' cs', e = .returned (.tuple #[.agg #[.slice A' m c', .int .i64 0, .bool false, .slice As' 2 cs'], .int .i64 0]) ∧ Kd.R k38 38 w' W.heap.size (fun _ => True) (.slice A' m c') F ∧ Below W.heap.size W w') :
  Calls Tryz.prog 4 #[.slice A l0.length c, .int .i64 q] w fun e w' => e = .returned (.bool true) ∧ Below w.heap.size w w' := by
 subst hra; subst hrb; subst hb0; subst hb1
 have HMX := Lib.hid hmx
 clear hmx
 have H4 := Lib.hid h4
 have H8 := Lib.hid h8
 have HQ := Lib.hid hq2
 have HP := Lib.hid hp
 have HRUN := Lib.hid hrun
 clear h4 h8 hp hrun hq2
 have HR := Lib.hid hr
 have HC := Lib.hid hc
 have HB1 := Lib.hid hbin
 have HB2 := Lib.hid hdft
 have HM := Lib.hid hm
 have HB0 := Lib.hid (Below.refl w.heap.size w)
 have hml : l.length = m := by rw [hl]; simp; omega
 have HML := Lib.hid hml
 have HMN := Lib.hid (show m ≤ 70 by omega)
 have hrl : Kd.C (Kd.int .i64) w A l.length l := by have h := Kd.C_take (m := m) hr (by omega); rw [← hl] at h; exact h
 have HRL := Lib.hid hrl
 obtain ⟨i06, hi06, _, hsz6, _⟩ := info_parts info3
 have hmin : (if 70 < (l0.length : Int) then 70 else (l0.length : Int)) = (m : Int) := by split <;> omega
 have hcut := cut_to (P := Tryz.prog) 26 3 .i64 Tryz.underlying26 hi06 A l0.length c (m : Int) (by omega) (by omega) hc
 rw [Int.toNat_natCast] at hcut
 have hqle : ((m : Int) ≤ (l0.length : Int)) = True := eq_true (by omega)
 have t1 : wrap64 (q.tmod 4 + 4) = q.tmod 4 + 4 := by have := tmod4 q; unfold wrap64; omega
 have t2 : (q.tmod 4 + 4).tmod 4 = qq := by rw [hq]
 clear hi06 hsz6 hl hml hr hrl hc hbin hdft hm hq
 go_enter Tryz.func4, Tryz.ntmps4
 go_wp2_with (first
  | (go_at_call 11; refine (HB1.out _ HRL.out).mono ?_; rintro e W1 ⟨rfl, hb⟩; have HB_1 := Lib.hid (below_step HB0.out hb); have Cx_1 := Lib.hid (Kd.C_below HRL.out HB_1.out); clear hb)
  | ((with_reducible refine gate_dst (N := 5) rfl ?_); refine box_event ?hg (N := 5) ?hd (cs := #[.int .i64 0, .int .i64 0]) (t := 38) ?hr ?_; (case hd => rfl); (case hg => rfl); (case hr => first | (go_simp; done) | (go_simp; rfl)); intro g5 hg W2 hbox hbl; have L5 : w.heap.size ≤ g5 := (by rw [hg]; exact below_size HB_1.out); have B5_2 := Lib.hid hbox; have HB_2 := Lib.hid (below_step HB_1.out hbl); have Cx_2 := Lib.hid (Kd.C_below HRL.out HB_2.out); have k5_0_2 : W2.cell? ⟨g5, 0, none⟩ = some (.int .i64 0) := (blk_cell B5_2.out 0).trans rfl; have k5_1_2 : W2.cell? ⟨g5, 1, none⟩ = some (.int .i64 0) := (blk_cell B5_2.out 1).trans rfl; clear hbox hbl hg)
  | ((with_reducible refine gate_store (t := 38) (p := 5) rfl ?_); refine row_event rfl 38 _ _ rfl g5 #[.int .i64 a0, .int .i64 a1] rfl rfl 38 #[.int .i64 0, .int .i64 0] B5_2.out (size38 _ _) rfl (one38 _ _) ?_; intro W3 hq hoth hbel; have B5_3 := Lib.hid hq; have HB_3 := Lib.hid (hbel _ _ L5 HB_2.out); clear k5_0_2 k5_1_2; have k5_0_3 : W3.cell? ⟨g5, 0, none⟩ = some (.int .i64 a0) := (blk_cell B5_3.out 0).trans rfl; have k5_1_3 : W3.cell? ⟨g5, 1, none⟩ = some (.int .i64 a1) := (blk_cell B5_3.out 1).trans rfl; have Cx_3 := Lib.hid (Kd.C_below HRL.out HB_3.out); clear hq hoth hbel))
 have HY0 := Lib.hid (Kd.R_nil k38 38 W3 w.heap.size (fun _ => True))
 clear k5_0_3 k5_1_3
 go_loopw [7, 37] (fun s7 s37 wr => ∃ k : Nat, k ≤ m ∧ s37 = .int .i64 k ∧ Kd.R k38 38 wr w.heap.size (fun _ => True) s7 ((l.take k).map cxOf) ∧ wr.heap[g5]? = some (.cells #[.int .i64 a0, .int .i64 a1] 38 (0, 0)) ∧ NotAt s7 g5 ∧ Below w.heap.size w wr) (fun _ i _ => m - (intOf i).toNat)
 case atStart => exact ⟨0, by omega, rfl, HY0.out, B5_3.out, (fun h => by cases h), HB_3.out⟩
 case round =>
  obtain ⟨k, hk, rfl, ho, h5, hne, hb⟩ := hrel
  have Rn_0 := Lib.hid ho
  have B5_0 := Lib.hid h5
  have HBr := Lib.hid hb
  have NE5 := Lib.hid (show some g5 ≠ _ from fun e => hne e.symm)
  clear ho h5 hne hb HY0 B5_3 HB_3
  by_cases hlt : k < m
  ·obtain ⟨ad, rfl, h0⟩ := Kd.at_int HRL.out (k : Int) (by omega) (by have := HML.out; omega)
   rw [Int.toNat_natCast] at h0
   replace h0 := (HBr.out.cell (World.block_lt_of_cell? w _ h0)).trans h0
   have HT := Lib.hid (map_take_snoc l k (by have := HML.out; omega))
   have HLn := Lib.hid (show ((l.take k).map cxOf).length ≤ 1000 by simp; omega)
   generalize rd l k = x at *
   generalize (l.take k).map cxOf = Y at *
   go_wp2_with (first
    | ((with_reducible refine gate_builtin (b := .append) (xs := #[.tmp 41, .tmp 44]) rfl ?_); at_builtin; refine Kd.R_append k38 (w0 := w) w.heap.size rfl (.tmp 41) (.tmp 44) 22 38 (.agg #[(.int .i64 0), (.int .i64 0)]) 16 rfl Tryz.underlying22 info38 rfl (by decide) (by omega) _ Y (cxOf x) [.int .i64 x, .int .i64 0] (fun _ => True) (fun _ => False) rfl rfl ?aP (fun _ hk => hk.elim) ?aF ?aO ?aB ?aS ?aL ?_; (case aP => exact k38_mkM _ _ _ (cxOf x)); (case aB => exact HBr.out); (case aF => exact (fun _ _ => trivial)); (case aO => exact Rn_0.out); (case aS => exact below_size HBr.out); (case aL => have := HLn.out; omega); intro v45 W16 ho hb hg hat; have HO16 := Lib.hid ho; have HB16 := Lib.hid hb; have B16 := Lib.hid ((hg.block g5 (blk_lt B5_0.out) (NE5.out)).trans B5_0.out); have NEX : NotAt v45 g5 := (fun h5 => by rcases hat with h6 | ⟨bq, h6, h7⟩; exact NE5.out (h5.symm.trans h6); rw [h5] at h6; cases h6; have := blk_lt B5_0.out; omega); clear ho hb hg hat))
   have NE16 := Lib.hid NEX
   go_roundw
   case rel => exact ⟨k + 1, by omega, by go_num, by rw [HT.out]; exact HO16.out, B16.out, NE16.out, HB16.out⟩
   case measure => simp [intOf]; omega
  ·obtain rfl : k = m := by omega
   have hfull : (l.take k).map cxOf = l.map cxOf := by rw [← HML.out, List.take_length]
   rw [hfull] at Rn_0
   obtain ⟨A7, c7, ev, hc7, _⟩ := Kd.R_reads Rn_0.out
   rw [List.length_map, HML.out] at ev hc7
   subst ev
   have HC7 := Lib.hid hc7
   have HR7 := Lib.hid (fun (W : World) (h : Kd.R k38 38 W w.heap.size (fun _ => True) (.slice A7 k c7) (l.map cxOf)) => show Kd.C k38 W A7 k (l.map cxOf) from by have h2 := (R_C h).2; rwa [List.length_map, HML.out] at h2)
   have k5_0 := (blk_cell B5_0.out 0).trans rfl
   have k5_1 := (blk_cell B5_0.out 1).trans rfl
   clear hfull hc7
   have h4a : ((4 : Int) < (k : Int)) = False := eq_false (by have := H4.out; omega)
   have h4b : decide ((4 : Int) < (k : Int)) = false := decide_eq_false (by have := H4.out; omega)
   have h4c : decide (4 < k) = false := decide_eq_false (by have := H4.out; omega)
   have h8a : decide (8000 < mx) = false := decide_eq_false (by have := H8.out; omega)
   go_wp2_with (first
    | (go_at_call 12; refine (HB2.out _ A7 c7 (HR7.out _ Rn_0.out) HC7.out).mono ?_; rintro e W1 ⟨rfl, hb⟩; have HB_1 := Lib.hid (below_step HBr.out hb); have B5_1 := Lib.hid (blk_below B5_0.out hb); have Rn_1 := Lib.hid (Kd.R_below Rn_0.out hb); have k5_0_1 : W1.cell? ⟨g5, 0, none⟩ = some (.int .i64 a0) := (blk_cell B5_1.out 0).trans rfl; have k5_1_1 : W1.cell? ⟨g5, 1, none⟩ = some (.int .i64 a1) := (blk_cell B5_1.out 1).trans rfl; clear k5_0 k5_1; clear hb)
    | ((with_reducible refine gate_dst (N := 10) rfl ?_); refine box_event ?hg (N := 10) ?hd (cs := #[.int .i64 0, .int .i64 0]) (t := 38) ?hr ?_; (case hd => rfl); (case hg => rfl); (case hr => first | (go_simp; done) | (go_simp; rfl)); intro g10 hg W2 hbox hbl; have L10 : w.heap.size ≤ g10 := (by rw [hg]; exact below_size HB_1.out); have B10_2 := Lib.hid hbox; have HB_2 := Lib.hid (below_step HB_1.out hbl); have B5_2 := Lib.hid (blk_below B5_1.out hbl); have Rn_2 := Lib.hid (Kd.R_below Rn_1.out hbl); have k5_0_2 : W2.cell? ⟨g5, 0, none⟩ = some (.int .i64 a0) := (blk_cell B5_2.out 0).trans rfl; have k5_1_2 : W2.cell? ⟨g5, 1, none⟩ = some (.int .i64 a1) := (blk_cell B5_2.out 1).trans rfl; clear k5_0_1 k5_1_1; have k10_0_2 : W2.cell? ⟨g10, 0, none⟩ = some (.int .i64 0) := (blk_cell B10_2.out 0).trans rfl; have k10_1_2 : W2.cell? ⟨g10, 1, none⟩ = some (.int .i64 0) := (blk_cell B10_2.out 1).trans rfl; have NE510 := Lib.hid (show g5 ≠ g10 from fun e => by have := blk_lt B5_1.out; omega); have NRn10 := Lib.hid (show some g10 ≠ _ from by rw [hg]; exact Kd.R_ne_new Rn_1.out 0); clear hbox hbl hg)
    | ((with_reducible refine gate_store (t := 38) (p := 10) rfl ?_); refine row_event rfl 38 _ _ rfl g10 #[.int .i64 (wrap64 (a0 * 256)), .int .i64 (wrap64 (a1 * 256))] rfl rfl 38 #[.int .i64 0, .int .i64 0] B10_2.out (size38 _ _) rfl (one38 _ _) ?_; intro W3 hq hoth hbel; have B10_3 := Lib.hid hq; have HB_3 := Lib.hid (hbel _ _ L10 HB_2.out); have B5_3 := Lib.hid ((hoth _ NE510.out).trans B5_2.out); have Rn_3 := Lib.hid (R_othN rfl Rn_2.out hoth NRn10.out); have k5_0_3 : W3.cell? ⟨g5, 0, none⟩ = some (.int .i64 a0) := (blk_cell B5_3.out 0).trans rfl; have k5_1_3 : W3.cell? ⟨g5, 1, none⟩ = some (.int .i64 a1) := (blk_cell B5_3.out 1).trans rfl; clear k5_0_2 k5_1_2 k10_0_2 k10_1_2; have k10_0_3 : W3.cell? ⟨g10, 0, none⟩ = some (.int .i64 (wrap64 (a0 * 256))) := (blk_cell B10_3.out 0).trans rfl; have k10_1_3 : W3.cell? ⟨g10, 1, none⟩ = some (.int .i64 (wrap64 (a1 * 256))) := (blk_cell B10_3.out 1).trans rfl; clear hq hoth hbel)
    | (go_at_call 8; (with_reducible refine (alive_any _).mono ?_); rintro e W4 ⟨rfl, hb⟩; have HB_4 := Lib.hid (below_step HB_3.out hb); have B5_4 := Lib.hid (blk_below B5_3.out hb); have B10_4 := Lib.hid (blk_below B10_3.out hb); have Rn_4 := Lib.hid (Kd.R_below Rn_3.out hb); have k5_0_4 : W4.cell? ⟨g5, 0, none⟩ = some (.int .i64 a0) := (blk_cell B5_4.out 0).trans rfl; have k5_1_4 : W4.cell? ⟨g5, 1, none⟩ = some (.int .i64 a1) := (blk_cell B5_4.out 1).trans rfl; have k10_0_4 : W4.cell? ⟨g10, 0, none⟩ = some (.int .i64 (wrap64 (a0 * 256))) := (blk_cell B10_4.out 0).trans rfl; have k10_1_4 : W4.cell? ⟨g10, 1, none⟩ = some (.int .i64 (wrap64 (a1 * 256))) := (blk_cell B10_4.out 1).trans rfl; clear k5_0_3 k5_1_3 k10_0_3 k10_1_3; clear hb)
    | (go_at_call 13; refine (HMX.out _ A7 c7 (HR7.out _ Rn_4.out) HC7.out).mono ?_; rintro e W5 ⟨rfl, hb⟩; have HB_5 := Lib.hid (below_step HB_4.out hb); have B5_5 := Lib.hid (blk_below B5_4.out hb); have B10_5 := Lib.hid (blk_below B10_4.out hb); have Rn_5 := Lib.hid (Kd.R_below Rn_4.out hb); have k5_0_5 : W5.cell? ⟨g5, 0, none⟩ = some (.int .i64 a0) := (blk_cell B5_5.out 0).trans rfl; have k5_1_5 : W5.cell? ⟨g5, 1, none⟩ = some (.int .i64 a1) := (blk_cell B5_5.out 1).trans rfl; have k10_0_5 : W5.cell? ⟨g10, 0, none⟩ = some (.int .i64 (wrap64 (a0 * 256))) := (blk_cell B10_5.out 0).trans rfl; have k10_1_5 : W5.cell? ⟨g10, 1, none⟩ = some (.int .i64 (wrap64 (a1 * 256))) := (blk_cell B10_5.out 1).trans rfl; clear k5_0_4 k5_1_4 k10_0_4 k10_1_4; clear hb)
    | (go_at_call 7; refine (HRUN.out _ A7 c7 (HR7.out _ Rn_5.out) HC7.out).mono ?_; rintro e W6 ⟨A2, c2, As, cs, rfl, ho, hb⟩; have Rr_6 := Lib.hid (Kd.R_lower ho (below_size HB_5.out)); have HB_6 := Lib.hid (below_step HB_5.out hb); have B5_6 := Lib.hid (blk_below B5_5.out hb); have B10_6 := Lib.hid (blk_below B10_5.out hb); have Rn_6 := Lib.hid (Kd.R_below Rn_5.out hb); have k5_0_6 : W6.cell? ⟨g5, 0, none⟩ = some (.int .i64 a0) := (blk_cell B5_6.out 0).trans rfl; have k5_1_6 : W6.cell? ⟨g5, 1, none⟩ = some (.int .i64 a1) := (blk_cell B5_6.out 1).trans rfl; have k10_0_6 : W6.cell? ⟨g10, 0, none⟩ = some (.int .i64 (wrap64 (a0 * 256))) := (blk_cell B10_6.out 0).trans rfl; have k10_1_6 : W6.cell? ⟨g10, 1, none⟩ = some (.int .i64 (wrap64 (a1 * 256))) := (blk_cell B10_6.out 1).trans rfl; clear k5_0_5 k5_1_5 k10_0_5 k10_1_5; clear ho hb)
    | ((with_reducible refine gate_dst (N := 14) rfl ?_); refine box_event ?hg (N := 14) ?hd (cs := #[.slice none 0 0, .int .i64 0, .bool false, .slice none 0 0]) (t := 28) ?hr ?_; (case hd => rfl); (case hg => rfl); (case hr => first | (go_simp; done) | (go_simp; rfl)); intro g14 hg W7 hbox hbl; have L14 : w.heap.size ≤ g14 := (by rw [hg]; exact below_size HB_6.out); have B14_7 := Lib.hid hbox; have HB_7 := Lib.hid (below_step HB_6.out hbl); have B5_7 := Lib.hid (blk_below B5_6.out hbl); have B10_7 := Lib.hid (blk_below B10_6.out hbl); have Rn_7 := Lib.hid (Kd.R_below Rn_6.out hbl); have Rr_7 := Lib.hid (Kd.R_below Rr_6.out hbl); have k5_0_7 : W7.cell? ⟨g5, 0, none⟩ = some (.int .i64 a0) := (blk_cell B5_7.out 0).trans rfl; have k5_1_7 : W7.cell? ⟨g5, 1, none⟩ = some (.int .i64 a1) := (blk_cell B5_7.out 1).trans rfl; have k10_0_7 : W7.cell? ⟨g10, 0, none⟩ = some (.int .i64 (wrap64 (a0 * 256))) := (blk_cell B10_7.out 0).trans rfl; have k10_1_7 : W7.cell? ⟨g10, 1, none⟩ = some (.int .i64 (wrap64 (a1 * 256))) := (blk_cell B10_7.out 1).trans rfl; clear k5_0_6 k5_1_6 k10_0_6 k10_1_6; have k14_0_7 : W7.cell? ⟨g14, 0, none⟩ = some (.slice none 0 0) := (blk_cell B14_7.out 0).trans rfl; have k14_1_7 : W7.cell? ⟨g14, 1, none⟩ = some (.int .i64 0) := (blk_cell B14_7.out 1).trans rfl; have k14_2_7 : W7.cell? ⟨g14, 2, none⟩ = some (.bool false) := (blk_cell B14_7.out 2).trans rfl; have k14_3_7 : W7.cell? ⟨g14, 3, none⟩ = some (.slice none 0 0) := (blk_cell B14_7.out 3).trans rfl; have NE514 := Lib.hid (show g5 ≠ g14 from fun e => by have := blk_lt B5_6.out; omega); have NE1014 := Lib.hid (show g10 ≠ g14 from fun e => by have := blk_lt B10_6.out; omega); clear hbox hbl hg)
    | ((with_reducible refine gate_store (t := 28) (p := 14) rfl ?_); refine row_event rfl 28 _ _ rfl g14 #[.slice A2 k c2, .int .i64 0, .bool false, .slice As 2 cs] rfl rfl 28 #[.slice none 0 0, .int .i64 0, .bool false, .slice none 0 0] B14_7.out (size28 _ _ _ _) rfl (one28 _ _ _ _ _ _ _ _) ?_; intro W8 hq hoth hbel; have B14_8 := Lib.hid hq; have HB_8 := Lib.hid (hbel _ _ L14 HB_7.out); have B5_8 := Lib.hid ((hoth _ NE514.out).trans B5_7.out); have B10_8 := Lib.hid ((hoth _ NE1014.out).trans B10_7.out); have Rn_8 := Lib.hid (R_othG rfl Rn_7.out B14_7.out (by decide) hoth); have Rr_8 := Lib.hid (R_othG rfl Rr_7.out B14_7.out (by decide) hoth); have k5_0_8 : W8.cell? ⟨g5, 0, none⟩ = some (.int .i64 a0) := (blk_cell B5_8.out 0).trans rfl; have k5_1_8 : W8.cell? ⟨g5, 1, none⟩ = some (.int .i64 a1) := (blk_cell B5_8.out 1).trans rfl; have k10_0_8 : W8.cell? ⟨g10, 0, none⟩ = some (.int .i64 (wrap64 (a0 * 256))) := (blk_cell B10_8.out 0).trans rfl; have k10_1_8 : W8.cell? ⟨g10, 1, none⟩ = some (.int .i64 (wrap64 (a1 * 256))) := (blk_cell B10_8.out 1).trans rfl; clear k5_0_7 k5_1_7 k10_0_7 k10_1_7 k14_0_7 k14_1_7 k14_2_7 k14_3_7; have k14_0_8 : W8.cell? ⟨g14, 0, none⟩ = some (.slice A2 k c2) := (blk_cell B14_8.out 0).trans rfl; have k14_1_8 : W8.cell? ⟨g14, 1, none⟩ = some (.int .i64 0) := (blk_cell B14_8.out 1).trans rfl; have k14_2_8 : W8.cell? ⟨g14, 2, none⟩ = some (.bool false) := (blk_cell B14_8.out 2).trans rfl; have k14_3_8 : W8.cell? ⟨g14, 3, none⟩ = some (.slice As 2 cs) := (blk_cell B14_8.out 3).trans rfl; clear hq hoth hbel; obtain ⟨ad, e0, y0, y1⟩ := at_T38 (R_C Rr_8.out).2 qq HQ.out.1 (by rw [R_len Rr_8.out]; exact HQ.out.2); cases e0; rw [HP.out] at y0 y1; dsimp only at y0 y1; have hq0 := HQ.out.1; have hq1 := HQ.out.2))
   go_quiet (fail)
   go_wp2
   go_ret
   exact ⟨rfl, pw_below_drewN HB_8.out _⟩
end Go.Proofs.YteieahbadclppaaGreat.P

namespace Go.Proofs.YteieahbadclppaaGreat.P
open Go.RowKit Go.Proofs.YteieahbadclppaaGreatW.PrintWords Go.Proofs.YteieahbadclppaaGreatW.PrintLast Go.Proofs.YteieahbadclppaaGreatW.PrintMore
set_option linter.unusedVariables false
set_option linter.unusedSimpArgs false
def mx3 (p a : Int) : Int := mx (mx (mx (mx (mx (mx 0 p) (wrap64 (-p))) a) (wrap64 (-a))) 0) (wrap64 (-0))
theorem greatest3 (k : Nat) (p a : Int) : scan_greatest.f (k + 4) [p, a, 0] = some (mx3 p a) := by
 unfold scan_greatest.f
 rw [show k + 4 = (k + 3) + 1 from rfl, scan_greatest.l0, if_pos (by simp), if_pos (by decide), if_pos (by simp),
  show k + 3 = (k + 2) + 1 from rfl, scan_greatest.l0, show wrap64 (0 + 1) = 1 from by unfold wrap64; omega, if_pos (by simp), if_pos (by decide), if_pos (by simp),
  show k + 2 = (k + 1) + 1 from rfl, scan_greatest.l0, show wrap64 (1 + 1) = 2 from by unfold wrap64; omega, if_pos (by simp), if_pos (by decide), if_pos (by simp),
  scan_greatest.l0, show wrap64 (2 + 1) = 3 from by unfold wrap64; omega, if_neg (by simp)]
 rfl
theorem mx3_ok (p a : Int) (h0 : 0 ≤ p) (h1 : p ≤ 2147483648) (h2 : -2147483648 ≤ a) (h3 : a ≤ 2147483648) : p ≤ mx3 p a ∧ a ≤ mx3 p a ∧ -a ≤ mx3 p a ∧ mx3 p a ≤ 2147483648 := by
 have e1 : wrap64 (-p) = -p := by unfold wrap64; omega
 have e2 : wrap64 (-a) = -a := by unfold wrap64; omega
 have e3 : wrap64 (-0) = 0 := by unfold wrap64; omega
 unfold mx3
 rw [e1, e2, e3]
 unfold mx
 (repeat' split) <;> omega
theorem rd38_map (l : List Int) (i : Nat) (h : i < l.length) : rd_T38 (l.map cxOf) i = cxOf (l.getD i 0) := by
 unfold rd_T38
 rw [Int.toNat_natCast, List.getD_eq_getElem?_getD, List.getElem?_map, List.getElem?_eq_getElem h, List.getD_eq_getElem?_getD, List.getElem?_eq_getElem h]
 rfl
theorem scan_l0 (l : List Int) (hl70 : l.length ≤ 70) : ∀ (d i : Nat) (p : Int), i + d = l.length → 0 ≤ p → p ≤ 2147483648 →
  ∃ r, scan_Max.l0 (d + 6) p (l.map cxOf) (l.length : Int) (i : Int) = some r ∧
   (((l.drop i).any farInt = true ∧ r = (0, 2)) ∨ ((l.drop i).any farInt = false ∧ r.2 = 0 ∧ p ≤ r.1 ∧ ∀ j, i ≤ j → j < l.length → l.getD j 0 ≤ r.1 ∧ -(l.getD j 0) ≤ r.1))
 | 0, i, p, hi, h0, h1 => by
  refine ⟨(p, 0), ?_, .inr ⟨?_, rfl, Int.le_refl _, fun j h2 h3 => by omega⟩⟩
  ·rw [show 0 + 6 = 5 + 1 from rfl, scan_Max.l0, if_neg (by omega)]
  ·rw [List.drop_of_length_le (by omega)]; rfl
 | d + 1, i, p, hi, h0, h1 => by
  have hlt : i < l.length := by omega
  have hd : l.drop i = l.getD i 0 :: l.drop (i + 1) := by
   rw [List.drop_eq_getElem_cons hlt, List.getD_eq_getElem?_getD, List.getElem?_eq_getElem hlt]
   rfl
  have hlen : (l.map cxOf).length = l.length := List.length_map ..
  rw [show d + 1 + 6 = (d + 6) + 1 from rfl, scan_Max.l0, if_pos (by omega), if_pos (by omega), if_pos (by rw [hlen]; omega), rd38_map l i hlt, hd, List.any_cons]
  generalize hx : l.getD i 0 = x
  show ∃ r, (if mn x 0 < -2147483648 then some (0, 2) else if mx x 0 > 2147483648 then some (0, 2) else (scan_greatest.f (d + 6) [p, x, 0]).bind fun t => scan_Max.l0 (d + 6) t (l.map cxOf) (l.length : Int) (wrap64 (i + 1))) = some r ∧ _
  by_cases c1 : x < -2147483648
  ·rw [if_pos (by unfold mn; split <;> omega)]
   exact ⟨_, rfl, .inl ⟨by rw [show farInt x = true from decide_eq_true (.inl c1)]; rfl, rfl⟩⟩
  ·rw [if_neg (by unfold mn; split <;> omega)]
   by_cases c2 : 2147483648 < x
   ·rw [if_pos (by unfold mx; split <;> omega)]
    exact ⟨_, rfl, .inl ⟨by rw [show farInt x = true from decide_eq_true (.inr c2)]; rfl, rfl⟩⟩
   ·have hm := mx3_ok p x h0 h1 (by omega) (by omega)
    have hf : farInt x = false := decide_eq_false (by omega)
    rw [if_neg (by unfold mx; split <;> omega), show d + 6 = (d + 2) + 4 from rfl, greatest3, Option.bind_some, show wrap64 ((i : Int) + 1) = ((i + 1 : Nat) : Int) from by unfold wrap64; omega]
    obtain ⟨r, hr, h⟩ := scan_l0 l hl70 d (i + 1) (mx3 p x) (by omega) (by omega) hm.2.2.2
    refine ⟨r, hr, ?_⟩
    rw [hf, Bool.false_or]
    rcases h with h | ⟨q1, q2, q3, q4⟩
    ·exact .inl h
    ·refine .inr ⟨q1, q2, by omega, fun j h2 h3 => ?_⟩
     by_cases e : j = i
     ·subst e; rw [hx]; omega
     ·exact q4 j (by omega) h3
theorem bits_mask (x : Int) (s : Nat) (hs : s ≤ 62) : Go.bits .and .i64 x (2 ^ s - 1) = x % 2 ^ s := by
 have hp : (2 : Nat) ^ s ≤ 2 ^ 62 := Nat.pow_le_pow_right (by decide) hs
 have hp1 : 1 ≤ (2 : Nat) ^ s := Nat.one_le_two_pow
 have e62 : (2 : Nat) ^ 62 = 4611686018427387904 := by decide
 have ec : ((2 ^ s : Nat) : Int) = (2 : Int) ^ s := by simp
 have e : Go.bits .and .i64 x (2 ^ s - 1) = IntKind.i64.wrap (((BitVec.ofInt 64 x).toNat &&& (BitVec.ofInt 64 (2 ^ s - 1)).toNat : Nat) : Int) := rfl
 have hm : (BitVec.ofInt 64 (2 ^ s - 1)).toNat = 2 ^ s - 1 := by rw [BitVec.toNat_ofInt, ← ec]; omega
 have hx : (BitVec.ofInt 64 x).toNat = (x % 18446744073709551616).toNat := by rw [BitVec.toNat_ofInt]; rfl
 rw [e, hm, hx, Nat.and_two_pow_sub_one_eq_mod, i64_w]
 have hd : (2 : Int) ^ s ∣ 18446744073709551616 := by
  have h1 : (2 : Int) ^ 64 = 18446744073709551616 := by decide
  rw [← h1]
  exact ⟨2 ^ (64 - s), by rw [← Int.pow_add]; congr 1; omega⟩
 have h2 : (((x % 18446744073709551616).toNat % 2 ^ s : Nat) : Int) = x % 2 ^ s := by
  rw [Int.natCast_emod, Int.toNat_of_nonneg (Int.emod_nonneg _ (by decide)), ec, Int.emod_emod_of_dvd x hd]
 rw [h2]
 have h3 := Int.emod_nonneg x (show (2 : Int) ^ s ≠ 0 by rw [← ec]; omega)
 have h4 := Int.emod_lt_of_pos x (show (0 : Int) < 2 ^ s by rw [← ec]; omega)
 rw [← ec] at h3 h4 ⊢
 unfold wrap64
 omega
theorem partV_mul (y : Int) : partV (8192 * y) = y := by
 have hb := bits_mask (8192 * y) 13 (by decide)
 have e1 : ((2 : Int) ^ 13 - 1) = 8191 := by decide
 have e2 : ((2 : Int) ^ 13) = 8192 := by decide
 rw [e1, e2] at hb
 have hw : wrap64 (wrap64 (2 ^ (13 : Int).toNat) - 1) = 8191 := by
  rw [show (2 : Int) ^ (13 : Int).toNat = 8192 from by decide]; unfold wrap64; omega
 have hw2 : wrap64 (2 ^ ((13 : Int).toNat - 1)) = 4096 := by
  rw [show (2 : Int) ^ ((13 : Int).toNat - 1) = 4096 from by decide]; unfold wrap64; omega
 have hu : upV (8192 * y) 13 1 = false := by
  unfold upV
  rw [if_pos rfl, hw, hw2, hb]
  unfold up1B
  exact decide_eq_false (by omega)
 unfold partV shV
 rw [if_neg (by decide), hu, if_neg (by decide), show (2 : Int) ^ (13 : Int).toNat = 8192 from by decide]
 omega
def exS (c : Int) (l : List Int) : Nat → Int × Int
 | 0 => (0, 0)
 | k + 1 => (l.getD k 0 + 2 * c * (exS c l k).1 - (exS c l k).2, (exS c l k).1)
theorem exS_bound (c : Int) (hc : c = 1 ∨ c = 0 ∨ c = -1) (l : List Int) (hl : ∀ j, -2147483648 ≤ l.getD j 0 ∧ l.getD j 0 ≤ 2147483648) : ∀ k : Nat, k ≤ 70 →
  ((exS c l k).1 - c * (exS c l k).2 ≤ k * 2147483648 ∧ -(k * 2147483648) ≤ (exS c l k).1 - c * (exS c l k).2) ∧ ((exS c l k).1 ≤ k * k * 2147483648 ∧ -(k * k * 2147483648 : Int) ≤ (exS c l k).1) ∧ ((exS c l k).2 ≤ k * k * 2147483648 ∧ -(k * k * 2147483648 : Int) ≤ (exS c l k).2) ∧ (c = 0 → (exS c l k).2 ≤ k * 2147483648 ∧ -(k * 2147483648 : Int) ≤ (exS c l k).2)
 | 0, _ => by simp [exS]
 | k + 1, hk => by
  obtain ⟨⟨a1, a2⟩, ⟨b1, b2⟩, ⟨c1, c2⟩, d⟩ := exS_bound c hc l hl k (by omega)
  obtain ⟨x1, x2⟩ := hl k
  have hkk : ((k + 1 : Nat) : Int) * ((k + 1 : Nat) : Int) = (k : Int) * k + 2 * k + 1 := by rw [Int.natCast_add]; grind
  have hk0 : (0 : Int) ≤ (k : Int) * k := Int.mul_nonneg (by omega) (by omega)
  have hk1 : ((k + 1 : Nat) : Int) = k + 1 := by omega
  simp only [exS]
  generalize (exS c l k).1 = s at *
  generalize (exS c l k).2 = t at *
  generalize l.getD k 0 = x at *
  rw [hkk, hk1]
  generalize (k : Int) * k = q at *
  rcases hc with rfl | rfl | rfl
  ·refine ⟨by omega, by omega, by omega, fun h => by omega⟩
  ·have d1 := d rfl
   refine ⟨by omega, by omega, by omega, fun _ => by omega⟩
  ·refine ⟨by omega, by omega, by omega, fun h => by omega⟩
theorem stAt_ex (c : Int) (hc : c = 1 ∨ c = 0 ∨ c = -1) (l : List Int) (hl : ∀ j, -2147483648 ≤ l.getD j 0 ∧ l.getD j 0 ≤ 2147483648) : ∀ k : Nat, k ≤ 70 → stAt (8192 * c) l k = exS c l k
 | 0, _ => rfl
 | k + 1, hk => by
  have ih := stAt_ex c hc l hl k (by omega)
  obtain ⟨_, ⟨b1, b2⟩, ⟨c1, c2⟩, _⟩ := exS_bound c hc l hl k (by omega)
  obtain ⟨x1, x2⟩ := hl k
  have hkk : (k : Int) * k ≤ 70 * 70 := Int.mul_le_mul (by omega) (by omega) (by omega) (by decide)
  show stS (8192 * c) (stAt (8192 * c) l k) (l.getD k 0) = _
  rw [ih]
  simp only [exS]
  generalize (exS c l k) = e at *
  obtain ⟨s, t⟩ := e
  dsimp only at *
  generalize l.getD k 0 = x at *
  generalize (k : Int) * k = q at *
  unfold stS
  dsimp only
  have e1 : wrap64 (2 * (8192 * c)) = 8192 * (2 * c) := by unfold wrap64; omega
  have e2 : wrap64 (8192 * (2 * c) * s) = 8192 * (2 * c * s) := by
   rcases hc with rfl | rfl | rfl <;> unfold wrap64 <;> omega
  have e3 : wrap64 (x + 2 * c * s) = x + 2 * c * s := by rcases hc with rfl | rfl | rfl <;> unfold wrap64 <;> omega
  have e4 : wrap64 (x + 2 * c * s - t) = x + 2 * c * s - t := by rcases hc with rfl | rfl | rfl <;> unfold wrap64 <;> omega
  rw [e1, e2, partV_mul, e3, e4]
def rt (i : Nat) : Int × Int := if i % 4 = 0 then (1, 0) else if i % 4 = 1 then (0, -1) else if i % 4 = 2 then (-1, 0) else (0, 1)
def TT (q : Nat) (l : List Int) : Nat → Int × Int
 | 0 => (0, 0)
 | k + 1 => ((TT q l k).1 + (rt (k * q)).1 * l.getD k 0, (TT q l k).2 + (rt (k * q)).2 * l.getD k 0)
theorem rel0 (l : List Int) : ∀ k, (TT 0 l k).1 = (exS 1 l k).1 - (exS 1 l k).2 ∧ (TT 0 l k).2 = 0
 | 0 => ⟨rfl, rfl⟩
 | k + 1 => by
  obtain ⟨h1, h2⟩ := rel0 l k
  have hr : rt (k * 0) = (1, 0) := rfl
  simp only [TT, exS, hr]
  omega
theorem rel2 (l : List Int) : ∀ k, (k % 2 = 0 → (TT 2 l k).1 = -((exS (-1) l k).1 + (exS (-1) l k).2)) ∧ (k % 2 = 1 → (TT 2 l k).1 = (exS (-1) l k).1 + (exS (-1) l k).2) ∧ (TT 2 l k).2 = 0
 | 0 => ⟨fun _ => rfl, fun h => by omega, rfl⟩
 | k + 1 => by
  obtain ⟨h1, h2, h3⟩ := rel2 l k
  simp only [TT, exS]
  rcases (show k % 2 = 0 ∨ k % 2 = 1 by omega) with e | e
  ·have hr : rt (k * 2) = (1, 0) := by unfold rt; rw [if_pos (by omega)]
   have := h1 e
   rw [hr]
   refine ⟨fun _ => by omega, fun _ => by dsimp only; omega, by dsimp only; omega⟩
  ·have hr : rt (k * 2) = (-1, 0) := by unfold rt; rw [if_neg (by omega), if_neg (by omega), if_pos (by omega)]
   have := h2 e
   rw [hr]
   refine ⟨fun _ => by dsimp only; omega, fun _ => by omega, by dsimp only; omega⟩
theorem rel13 (l : List Int) (q : Nat) (g : Int) (hq : q = 1 ∧ g = 1 ∨ q = 3 ∧ g = -1) : ∀ k, (k % 4 = 0 → (TT q l k).1 = -(exS 0 l k).2 ∧ (TT q l k).2 = g * (exS 0 l k).1) ∧ (k % 4 = 1 → (TT q l k).1 = (exS 0 l k).1 ∧ (TT q l k).2 = g * (exS 0 l k).2) ∧ (k % 4 = 2 → (TT q l k).1 = (exS 0 l k).2 ∧ (TT q l k).2 = -(g * (exS 0 l k).1)) ∧ (k % 4 = 3 → (TT q l k).1 = -(exS 0 l k).1 ∧ (TT q l k).2 = -(g * (exS 0 l k).2))
 | 0 => by
  refine ⟨fun _ => ?_, fun h => by omega, fun h => by omega, fun h => by omega⟩
  simp [TT, exS]
 | k + 1 => by
  obtain ⟨h1, h2, h3, h4⟩ := rel13 l q g hq k
  simp only [TT, exS]
  rcases (show k % 4 = 0 ∨ k % 4 = 1 ∨ k % 4 = 2 ∨ k % 4 = 3 by omega) with e | e | e | e
  ·have hr : rt (k * q) = (1, 0) := by unfold rt; rw [if_pos (by rcases hq with ⟨rfl, _⟩ | ⟨rfl, _⟩ <;> omega)]
   obtain ⟨p1, p2⟩ := h1 e
   rw [hr]
   refine ⟨fun _ => by omega, fun _ => ?_, fun _ => by omega, fun _ => by omega⟩
   dsimp only
   rw [p1, p2]
   constructor <;> grind
  ·have hr : rt (k * q) = (0, -g) := by
    unfold rt
    rcases hq with ⟨rfl, rfl⟩ | ⟨rfl, rfl⟩
    ·rw [if_neg (by omega), if_pos (by omega)]
    ·rw [if_neg (by omega), if_neg (by omega), if_neg (by omega)]; rfl
   obtain ⟨p1, p2⟩ := h2 e
   rw [hr]
   refine ⟨fun _ => by omega, fun _ => by omega, fun _ => ?_, fun _ => by omega⟩
   dsimp only
   rw [p1, p2]
   constructor <;> grind
  ·have hr : rt (k * q) = (-1, 0) := by
    unfold rt
    rcases hq with ⟨rfl, rfl⟩ | ⟨rfl, rfl⟩ <;> rw [if_neg (by omega), if_neg (by omega), if_pos (by omega)]
   obtain ⟨p1, p2⟩ := h3 e
   rw [hr]
   refine ⟨fun _ => by omega, fun _ => by omega, fun _ => by omega, fun _ => ?_⟩
   dsimp only
   rw [p1, p2]
   constructor <;> grind
  ·have hr : rt (k * q) = (0, g) := by
    unfold rt
    rcases hq with ⟨rfl, rfl⟩ | ⟨rfl, rfl⟩
    ·rw [if_neg (by omega), if_neg (by omega), if_neg (by omega)]
    ·rw [if_neg (by omega), if_pos (by omega)]
   obtain ⟨p1, p2⟩ := h4 e
   rw [hr]
   refine ⟨fun _ => ?_, fun _ => by omega, fun _ => by omega, fun _ => by omega⟩
   dsimp only
   rw [p1, p2]
   constructor <;> grind
theorem rt_cases (q : Nat) (hq : q < 4) : ((rt q).1 = 1 ∨ (rt q).1 = 0 ∨ (rt q).1 = -1) ∧ ((rt q).2 = 1 ∨ (rt q).2 = 0 ∨ (rt q).2 = -1) := by
 unfold rt
 (repeat' split) <;> simp
theorem single_val (q : Nat) (hq : q < 4) (l : List Int) (hl : ∀ j, -2147483648 ≤ l.getD j 0 ∧ l.getD j 0 ≤ 2147483648) (n : Nat) (hn : n ≤ 64) (h4 : n % 4 = 0) :
  wrap64 (partV (wrap64 (8192 * (rt q).1 * (stAt (8192 * (rt q).1) l n).1)) - (stAt (8192 * (rt q).1) l n).2) = (TT q l n).1 ∧ partV (wrap64 (wrap64 (-(8192 * (rt q).2)) * (stAt (8192 * (rt q).1) l n).1)) = (TT q l n).2 ∧ (-137438953472 ≤ (TT q l n).1 ∧ (TT q l n).1 ≤ 137438953472) ∧ (-137438953472 ≤ (TT q l n).2 ∧ (TT q l n).2 ≤ 137438953472) := by
 obtain ⟨hc, hd⟩ := rt_cases q hq
 have hb := exS_bound (rt q).1 hc l hl n (by omega)
 rw [stAt_ex (rt q).1 hc l hl n (by omega)]
 have hkk : (n : Int) * n ≤ 64 * 64 := Int.mul_le_mul (by omega) (by omega) (by omega) (by decide)
 have r0 := rel0 l n
 have r2 := rel2 l n
 have r1 := rel13 l 1 1 (.inl ⟨rfl, rfl⟩) n
 have r3 := rel13 l 3 (-1) (.inr ⟨rfl, rfl⟩) n
 have hT : ∀ (x y : Int), wrap64 (8192 * x) = 8192 * x → partV (wrap64 (8192 * x)) = x := fun x y h => by rw [h, partV_mul]
 have e : q = 0 ∨ q = 1 ∨ q = 2 ∨ q = 3 := by omega
 rcases e with rfl | rfl | rfl | rfl
 ·have e1 : rt 0 = (1, 0) := rfl
  rw [e1] at hb ⊢
  dsimp only at hb ⊢
  obtain ⟨⟨a1, a2⟩, ⟨b1, b2⟩, ⟨c1, c2⟩, _⟩ := hb
  obtain ⟨p1, p2⟩ := r0
  rw [p1, p2]
  generalize (exS 1 l n).1 = s at *
  generalize (exS 1 l n).2 = t at *
  generalize (n : Int) * n = w at *
  rw [show 8192 * 1 * s = 8192 * s by omega, hT s 0 (by unfold wrap64; omega), show wrap64 (-(8192 * 0)) * s = 8192 * 0 by rw [show wrap64 (-(8192 * 0)) = 0 from by unfold wrap64; omega]; omega, hT 0 0 (by unfold wrap64; omega)]
  refine ⟨by unfold wrap64; omega, rfl, by omega, by omega⟩
 ·have e1 : rt 1 = (0, -1) := rfl
  rw [e1] at hb ⊢
  dsimp only at hb ⊢
  obtain ⟨⟨a1, a2⟩, ⟨b1, b2⟩, ⟨c1, c2⟩, d1⟩ := hb
  obtain ⟨d1, d2⟩ := d1 rfl
  obtain ⟨p1, p2⟩ := r1.1 h4
  rw [p1, p2]
  generalize (exS 0 l n).1 = s at *
  generalize (exS 0 l n).2 = t at *
  generalize (n : Int) * n = w at *
  rw [show 8192 * 0 * s = 8192 * 0 by omega, hT 0 0 (by unfold wrap64; omega), show wrap64 (-(8192 * -1)) * s = 8192 * s by rw [show wrap64 (-(8192 * -1)) = 8192 from by unfold wrap64; omega], hT s 0 (by unfold wrap64; omega)]
  refine ⟨by unfold wrap64; omega, by omega, by omega, by omega⟩
 ·have e1 : rt 2 = (-1, 0) := rfl
  rw [e1] at hb ⊢
  dsimp only at hb ⊢
  obtain ⟨⟨a1, a2⟩, ⟨b1, b2⟩, ⟨c1, c2⟩, _⟩ := hb
  obtain ⟨p1, _, p2⟩ := r2
  rw [p1 (by omega), p2]
  generalize (exS (-1) l n).1 = s at *
  generalize (exS (-1) l n).2 = t at *
  generalize (n : Int) * n = w at *
  rw [show 8192 * -1 * s = 8192 * (-s) by omega, hT (-s) 0 (by unfold wrap64; omega), show wrap64 (-(8192 * 0)) * s = 8192 * 0 by rw [show wrap64 (-(8192 * 0)) = 0 from by unfold wrap64; omega]; omega, hT 0 0 (by unfold wrap64; omega)]
  refine ⟨by unfold wrap64; omega, rfl, by omega, by omega⟩
 ·have e1 : rt 3 = (0, 1) := rfl
  rw [e1] at hb ⊢
  dsimp only at hb ⊢
  obtain ⟨⟨a1, a2⟩, ⟨b1, b2⟩, ⟨c1, c2⟩, d1⟩ := hb
  obtain ⟨d1, d2⟩ := d1 rfl
  obtain ⟨p1, p2⟩ := r3.1 h4
  rw [p1, p2]
  generalize (exS 0 l n).1 = s at *
  generalize (exS 0 l n).2 = t at *
  generalize (n : Int) * n = w at *
  rw [show 8192 * 0 * s = 8192 * 0 by omega, hT 0 0 (by unfold wrap64; omega), show wrap64 (-(8192 * 1)) * s = 8192 * (-s) by rw [show wrap64 (-(8192 * 1)) = -8192 from by unfold wrap64; omega]; omega, hT (-s) 0 (by unfold wrap64; omega)]
  refine ⟨by unfold wrap64; omega, by omega, by omega, by omega⟩
def UU (q : Nat) (l : List Int) : Nat → (Int × Int) × (Int × Int)
 | 0 => ((0, 0), (0, 0))
 | k + 1 => (((UU q l k).1.1 + (rt (k * q)).1 * (l.getD k 0 / 65536), (UU q l k).1.2 + (rt (k * q)).1 * (l.getD k 0 % 65536)), ((UU q l k).2.1 + (rt (k * q)).2 * (l.getD k 0 / 65536), (UU q l k).2.2 + (rt (k * q)).2 * (l.getD k 0 % 65536)))
theorem rt_all (i : Nat) : ((rt i).1 = 1 ∨ (rt i).1 = 0 ∨ (rt i).1 = -1) ∧ ((rt i).2 = 1 ∨ (rt i).2 = 0 ∨ (rt i).2 = -1) := by
 unfold rt
 (repeat' split) <;> simp
theorem UU_TT (q : Nat) (l : List Int) : ∀ k, 65536 * (UU q l k).1.1 + (UU q l k).1.2 = (TT q l k).1 ∧ 65536 * (UU q l k).2.1 + (UU q l k).2.2 = (TT q l k).2
 | 0 => ⟨rfl, rfl⟩
 | k + 1 => by
  obtain ⟨h1, h2⟩ := UU_TT q l k
  obtain ⟨hc, hd⟩ := rt_all (k * q)
  simp only [UU, TT]
  generalize l.getD k 0 = x at *
  have e := Int.mul_ediv_add_emod x 65536
  constructor
  ·rcases hc with e1 | e1 | e1 <;> rw [e1] <;> omega
  ·rcases hd with e1 | e1 | e1 <;> rw [e1] <;> omega
theorem UU_bound (q : Nat) (l : List Int) (hl : ∀ j, -2147483648 ≤ l.getD j 0 ∧ l.getD j 0 ≤ 2147483648) : ∀ k : Nat, (-(k * 32768 : Int) ≤ (UU q l k).1.1 ∧ (UU q l k).1.1 ≤ k * 32768) ∧ (-(k * 65535 : Int) ≤ (UU q l k).1.2 ∧ (UU q l k).1.2 ≤ k * 65535) ∧ (-(k * 32768 : Int) ≤ (UU q l k).2.1 ∧ (UU q l k).2.1 ≤ k * 32768) ∧ (-(k * 65535 : Int) ≤ (UU q l k).2.2 ∧ (UU q l k).2.2 ≤ k * 65535)
 | 0 => by simp [UU]
 | k + 1 => by
  obtain ⟨h1, h2, h3, h4⟩ := UU_bound q l hl k
  obtain ⟨hc, hd⟩ := rt_all (k * q)
  obtain ⟨x1, x2⟩ := hl k
  simp only [UU]
  generalize l.getD k 0 = x at *
  refine ⟨?_, ?_, ?_, ?_⟩
  ·rcases hc with e1 | e1 | e1 <;> rw [e1] <;> omega
  ·rcases hc with e1 | e1 | e1 <;> rw [e1] <;> omega
  ·rcases hd with e1 | e1 | e1 <;> rw [e1] <;> omega
  ·rcases hd with e1 | e1 | e1 <;> rw [e1] <;> omega
theorem mask16 (x : Int) : Go.bits .and .i64 x 65535 = x % 65536 := by
 have h := bits_mask x 16 (by decide)
 rw [show (2 : Int) ^ 16 - 1 = 65535 from by decide, show (2 : Int) ^ 16 = 65536 from by decide] at h
 exact h
theorem addS_ex (P Q x r : Int) (hr : r = 1 ∨ r = 0 ∨ r = -1) (hx0 : -2147483648 ≤ x) (hx1 : x ≤ 2147483648) (p0 : -2097152 ≤ P) (p1 : P ≤ 2097152) (q0 : -4194304 ≤ Q) (q1 : Q ≤ 4194304) :
  addS (1099511627776 * P, 1099511627776 * Q) x (1099511627776 * r) = (1099511627776 * (P + r * (x / 65536)), 1099511627776 * (Q + r * (x % 65536))) := by
 unfold addS
 rw [mask16]
 rcases hr with rfl | rfl | rfl
 ·rw [wrap_id (x := x / 65536 * (1099511627776 * 1)) (by omega) (by omega), wrap_id (x := x % 65536 * (1099511627776 * 1)) (by omega) (by omega), wrap_id (by dsimp only; omega) (by dsimp only; omega), wrap_id (by dsimp only; omega) (by dsimp only; omega)]
  dsimp only
  congr 1 <;> omega
 ·rw [wrap_id (x := x / 65536 * (1099511627776 * 0)) (by omega) (by omega), wrap_id (x := x % 65536 * (1099511627776 * 0)) (by omega) (by omega), wrap_id (by dsimp only; omega) (by dsimp only; omega), wrap_id (by dsimp only; omega) (by dsimp only; omega)]
  dsimp only
  congr 1 <;> omega
 ·rw [wrap_id (x := x / 65536 * (1099511627776 * -1)) (by omega) (by omega), wrap_id (x := x % 65536 * (1099511627776 * -1)) (by omega) (by omega), wrap_id (by dsimp only; omega) (by dsimp only; omega), wrap_id (by dsimp only; omega) (by dsimp only; omega)]
  dsimp only
  congr 1 <;> omega
theorem addS_zero (P Q r : Int) (hr : r = 1 ∨ r = 0 ∨ r = -1) (p0 : -2162688 ≤ P) (p1 : P ≤ 2162688) (q0 : -4259840 ≤ Q) (q1 : Q ≤ 4259840) :
  addS (1099511627776 * P, 1099511627776 * Q) 0 (1099511627776 * r) = (1099511627776 * P, 1099511627776 * Q) := by
 unfold addS
 rw [mask16]
 rcases hr with rfl | rfl | rfl
 all_goals
  rw [wrap_id (x := (0 : Int) / 65536 * _) (by omega) (by omega), wrap_id (x := (0 : Int) % 65536 * _) (by omega) (by omega), wrap_id (by dsimp only; omega) (by dsimp only; omega), wrap_id (by dsimp only; omega) (by dsimp only; omega)]
  dsimp only
  congr 1 <;> omega
theorem binAt_UU (q : Nat) (l : List Int) (hl : ∀ j, -2147483648 ≤ l.getD j 0 ∧ l.getD j 0 ≤ 2147483648) (hn : l.length ≤ 64) (WL : List S38) (kk : Int) (hroot : ∀ j : Nat, j < l.length → rd_T38 WL (binIdx l.length kk j) = ⟨1099511627776 * (rt (j * q)).1, 1099511627776 * (rt (j * q)).2⟩) : ∀ k : Nat, k ≤ l.length →
  binAt (l.map cxOf) WL kk k = ((1099511627776 * (UU q l k).1.1, 1099511627776 * (UU q l k).1.2), (1099511627776 * (UU q l k).2.1, 1099511627776 * (UU q l k).2.2))
 | 0, _ => rfl
 | k + 1, hk => by
  have ih := binAt_UU q l hl hn WL kk hroot k (by omega)
  obtain ⟨⟨a1, a2⟩, ⟨b1, b2⟩, ⟨c1, c2⟩, ⟨d1, d2⟩⟩ := UU_bound q l hl k
  obtain ⟨⟨a3, a4⟩, ⟨b3, b4⟩, ⟨c3, c4⟩, ⟨d3, d4⟩⟩ := UU_bound q l hl (k + 1)
  obtain ⟨hc, hd⟩ := rt_all (k * q)
  obtain ⟨x1, x2⟩ := hl k
  show binStep (binAt (l.map cxOf) WL kk k) (rd_T38 (l.map cxOf) k) (rd_T38 WL (binIdx (l.map cxOf).length kk k)) = _
  rw [ih, rd38_map l k (by omega), List.length_map, hroot k (by omega)]
  unfold binStep cxOf
  dsimp only
  rw [show wrap64 (-0) = 0 from by unfold wrap64; omega, addS_ex _ _ _ _ hc x1 x2 (by omega) (by omega) (by omega) (by omega), addS_ex _ _ _ _ hd x1 x2 (by omega) (by omega) (by omega) (by omega)]
  simp only [UU] at a3 a4 b3 b4 c3 c4 d3 d4 ⊢
  rw [addS_zero _ _ _ hd (by omega) (by omega) (by omega) (by omega), addS_zero _ _ _ hc (by omega) (by omega) (by omega) (by omega)]
theorem shV16 (x : Int) : shV x 16 0 = x / 65536 := by
 have hu : upV x 16 0 = false := by
  unfold upV
  rw [if_neg (show ¬ (0 : Int) = 1 by decide), if_neg (show ¬ (0 : Int) = 2 by decide)]
 unfold shV
 rw [if_neg (by decide), hu, if_neg (by decide), show (2 : Int) ^ (16 : Int).toNat = 65536 from by decide]
theorem downV_ex (P Q : Int) (p0 : -2162688 ≤ P) (p1 : P ≤ 2162688) (q0 : -4259840 ≤ Q) (q1 : Q ≤ 4259840) : downV (1099511627776 * P) (1099511627776 * Q) = 256 * (65536 * P + Q) := by
 unfold downV
 rw [shV16, shV16, wrap_id (by omega) (by omega)]
 omega
theorem bin_val (q : Nat) (l : List Int) (hl : ∀ j, -2147483648 ≤ l.getD j 0 ∧ l.getD j 0 ≤ 2147483648) (hn : l.length ≤ 64) (WL : List S38) (kk : Int) (hroot : ∀ j : Nat, j < l.length → rd_T38 WL (binIdx l.length kk j) = ⟨1099511627776 * (rt (j * q)).1, 1099511627776 * (rt (j * q)).2⟩) :
  downV (binAt (l.map cxOf) WL kk l.length).1.1 (binAt (l.map cxOf) WL kk l.length).1.2 = 256 * (TT q l l.length).1 ∧ downV (binAt (l.map cxOf) WL kk l.length).2.1 (binAt (l.map cxOf) WL kk l.length).2.2 = 256 * (TT q l l.length).2 := by
 obtain ⟨⟨a1, a2⟩, ⟨b1, b2⟩, ⟨c1, c2⟩, ⟨d1, d2⟩⟩ := UU_bound q l hl l.length
 obtain ⟨h1, h2⟩ := UU_TT q l l.length
 rw [binAt_UU q l hl hn WL kk hroot l.length (Nat.le_refl _)]
 dsimp only
 rw [downV_ex _ _ (by omega) (by omega) (by omega) (by omega), downV_ex _ _ (by omega) (by omega) (by omega) (by omega), h1, h2]
 exact ⟨rfl, rfl⟩
end Go.Proofs.YteieahbadclppaaGreat.P

namespace Go.Proofs.YteieahbadclppaaGreat.P
open Go.RowKit Go.Proofs.YteieahbadclppaaGreatW.PrintWords Go.Proofs.YteieahbadclppaaGreatW.PrintLast Go.Proofs.YteieahbadclppaaGreatW.PrintMore
set_option linter.unusedVariables false
set_option linter.unusedSimpArgs false
def tabB (lg : Nat) : Bool := match roots_Table.f lg 40 with
 | some (WL, e) => (e == 0) && ((WL.length == 2 ^ lg) && (List.range 4).all fun i => (WL.getD (i * 2 ^ (lg - 2)) z38).f0 == 1099511627776 * (rt i).1 && (WL.getD (i * 2 ^ (lg - 2)) z38).f1 == 1099511627776 * (rt i).2)
 | none => false
theorem tab_all : [2, 3, 4, 5, 6].all tabB = true := by decide +kernel
def rootB (lg : Nat) : Bool := (List.range 4).all fun q => roots_Root.f lg ((q * 2 ^ (lg - 2) : Nat) : Int) 13 == some (8192 * (rt q).1, 8192 * (rt q).2, 0)
theorem root_all : [2, 3, 4, 5, 6].all rootB = true := by decide +kernel
def idxB (lg : Nat) : Bool := (List.range 4).all fun q => (wrap64 ((q : Int) * (((2 ^ lg : Nat) : Int) / 4)) == ((q * 2 ^ (lg - 2) : Nat) : Int)) && (List.range (2 ^ lg)).all fun j => binIdx (2 ^ lg) (Go.bits .and .i64 ((q * 2 ^ (lg - 2) : Nat) : Int) (((2 ^ lg : Nat) : Int) - 1)) j == (((j * q) % 4 * 2 ^ (lg - 2) : Nat) : Int)
theorem idx_all : [2, 3, 4, 5, 6].all idxB = true := by decide +kernel
def logB (m : Nat) : Bool := match flip_Log.f (m + 6) m with
 | some (lg, e) => if e = 0 then (m == 2 ^ lg.toNat) && ([2, 3, 4, 5, 6].contains lg.toNat && (lg == (lg.toNat : Int))) else e == 3
 | none => false
theorem log_all : (List.range 71).all logB = true := by decide +kernel
theorem rt_mod (i : Nat) : rt (i % 4) = rt i := by unfold rt; rw [Nat.mod_mod]
theorem logs (m : Nat) (hm : m ≤ 70) : (∃ lg : Nat, lg ∈ [2, 3, 4, 5, 6] ∧ m = 2 ^ lg ∧ flip_Log.f (m + 6) m = some ((lg : Int), 0)) ∨ ∃ x, flip_Log.f (m + 6) m = some (x, 3) := by
 have h := (List.all_eq_true.1 log_all) m (List.mem_range.2 (by omega))
 unfold logB at h
 split at h
 ·next lg e he =>
  split at h
  ·next h0 =>
   subst h0
   simp only [Bool.and_eq_true, beq_iff_eq] at h
   obtain ⟨h1, h2, h3⟩ := h
   exact .inl ⟨lg.toNat, by simpa using h2, h1, by rw [he, ← h3]⟩
  ·exact .inr ⟨lg, by rw [he, beq_iff_eq.1 h]⟩
 ·cases h
theorem topSingle_true (A : Option Addr) (c : Nat) (l0 : List Int) (q : Int) (w : World) (hr : Kd.C (Kd.int .i64) w A l0.length l0) (hc : l0.length ≤ c) :
  Calls Tryz.prog 4 #[.slice A l0.length c, .int .i64 q] w fun e w' => e = .returned (.bool true) ∧ Below w.heap.size w w' := by
 obtain ⟨m, hm⟩ : ∃ m, m = min l0.length 70 := ⟨_, rfl⟩
 obtain ⟨l, hl⟩ : ∃ l, l = l0.take m := ⟨_, rfl⟩
 have hml : l.length = m := by rw [hl]; simp; omega
 obtain ⟨qn, hqn, hq4⟩ : ∃ qn : Nat, (q.tmod 4 + 4).tmod 4 = (qn : Int) ∧ qn < 4 := by
  have ht := tmod4 q
  have h2 := tmod4 (q.tmod 4 + 4)
  have h3 : 0 ≤ (q.tmod 4 + 4).tmod 4 := by rw [Int.tmod_eq_emod]; split <;> omega
  exact ⟨((q.tmod 4 + 4).tmod 4).toNat, by omega, by omega⟩
 have hmm : m ≤ 70 := by omega
 have hcl : l.length ≤ c := by omega
 have hlen38 : (l.map cxOf).length = m := by rw [List.length_map, hml]
 obtain ⟨rs, hrs, hcase⟩ := scan_l0 l (by omega) m 0 0 (by omega) (by decide) (by decide)
 have hscan : scan_Max.f (m + 6) (l.map cxOf) = some rs := by unfold scan_Max.f; rw [List.length_map]; exact hrs
 rw [List.drop_zero] at hcase
 rcases logs m hmm with ⟨lg, hlg, hm2, hlog⟩ | ⟨x, hlog⟩
 ·have hlogl : flip_Log.f (m + 6) l.length = some ((lg : Int), 0) := by rw [hml]; exact hlog
  have htab := (List.all_eq_true.1 tab_all) lg hlg
  have hroot := (List.all_eq_true.1 ((List.all_eq_true.1 root_all) lg hlg)) qn (List.mem_range.2 hq4)
  have hidx := (List.all_eq_true.1 ((List.all_eq_true.1 idx_all) lg hlg)) qn (List.mem_range.2 hq4)
  simp only [Bool.and_eq_true, beq_iff_eq] at hroot hidx
  rw [← hm2] at hidx
  obtain ⟨hk, hidx⟩ := hidx
  have hlg2 : lg = 2 ∨ lg = 3 ∨ lg = 4 ∨ lg = 5 ∨ lg = 6 := by simpa using hlg
  have hm4 : m % 4 = 0 ∧ 0 < m ∧ m ≤ 64 := by rcases hlg2 with rfl | rfl | rfl | rfl | rfl <;> (rw [hm2]; decide)
  obtain ⟨WL, hWL, hWn, hWg⟩ : ∃ WL, roots_Table.f lg 40 = some (WL, 0) ∧ WL.length = 2 ^ lg ∧ ∀ i, i < 4 → WL.getD (i * 2 ^ (lg - 2)) z38 = ⟨1099511627776 * (rt i).1, 1099511627776 * (rt i).2⟩ := by
   unfold tabB at htab
   split at htab
   ·next WL e he =>
    simp only [Bool.and_eq_true, beq_iff_eq] at htab
    obtain ⟨h1, h2, h3⟩ := htab
    refine ⟨WL, by rw [he, h1], h2, fun i hi => ?_⟩
    have h4 := (List.all_eq_true.1 h3) i (List.mem_range.2 hi)
    simp only [Bool.and_eq_true, beq_iff_eq] at h4
    generalize WL.getD (i * 2 ^ (lg - 2)) z38 = y at *
    cases y
    simp_all
   ·cases htab
  rcases hcase with ⟨hfar, rfl⟩ | ⟨hfar, hr2, hr1, hmax⟩
  ·have hd : dft_may.f (m + 6) (l.map cxOf) = some ([], 2) := by unfold dft_may.f; rw [hlen38, hlog, Option.bind_some, if_pos rfl, hscan]; rfl
   refine law4_no A c l0 l m q qn 0 0 2 0 0 2 w hr hc hm hl hqn ?_ ?_ (by decide) rfl
   ·intro W hC
    rw [← hml]
    exact Bin_no A c l _ 2 (by decide) W hC (fun W2 h2 => look_far A c l _ lg 0 0 (m + 6) hlogl hfar W2 h2 hcl)
   ·intro W A1 c1 hC h1
    rw [← hlen38] at hC h1 ⊢
    exact dftBin_no A1 c1 (l.map cxOf) [] _ 2 (m + 6) hd (by decide) W hC h1
  ·have hb : ∀ j, -2147483648 ≤ l.getD j 0 ∧ l.getD j 0 ≤ 2147483648 := by
    intro j
    by_cases hj : j < l.length
    ·have h5 := (List.any_eq_false.1 hfar) (l.getD j 0) (by rw [List.getD_eq_getElem?_getD, List.getElem?_eq_getElem hj]; exact List.getElem_mem hj)
     have h6 : ¬ (l.getD j 0 < -2147483648 ∨ 2147483648 < l.getD j 0) := fun h => h5 (decide_eq_true h)
     omega
    ·rw [List.getD_eq_getElem?_getD, List.getElem?_eq_none (by omega)]; decide
   obtain ⟨v1, v2, ⟨t1, t2⟩, ⟨t3, t4⟩⟩ := single_val qn hq4 l hb m (by omega) hm4.1
   have hd : dft_may.f (m + 6) (l.map cxOf) = some (WL, 0) := by unfold dft_may.f; rw [hlen38, hlog, Option.bind_some, if_pos rfl, hscan, Option.bind_some, if_pos hr2, hWL]; rfl
   have hbin : ∀ W : World, Kd.C (Kd.int .i64) W A l.length l → Calls Tryz.prog 11 #[.slice A m c, .int .i64 (wrap64 (qn * (m / 4)))] W fun e w' => e = .returned (.tuple #[.agg #[.int .i64 (TT qn l m).1, .int .i64 (TT qn l m).2], .int .i64 0]) ∧ Below W.heap.size W w' := by
    intro W hC
    have h6 := Bin_yes A c l ((qn * 2 ^ (lg - 2) : Nat) : Int) lg (8192 * (rt qn).1) (8192 * (rt qn).2) (m + 6) hlogl hfar hroot (by omega) (by omega) W hC hcl
    rw [hml, v1, v2] at h6
    rw [hk]
    exact h6
   have hkk : ∀ j : Nat, j < l.length → rd_T38 WL (binIdx l.length (Go.bits .and .i64 ((qn * 2 ^ (lg - 2) : Nat) : Int) ((m : Int) - 1)) j) = ⟨1099511627776 * (rt (j * qn)).1, 1099511627776 * (rt (j * qn)).2⟩ := by
    intro j hj
    have h7 := (List.all_eq_true.1 hidx) j (List.mem_range.2 (by omega))
    rw [hml, beq_iff_eq.1 h7]
    unfold rd_T38
    rw [Int.toNat_natCast, hWg _ (Nat.mod_lt _ (by decide)), rt_mod]
   have hdft : ∀ (W : World) (A1 : Option Addr) (c1 : Nat), Kd.C k38 W A1 m (l.map cxOf) → m ≤ c1 → Calls Tryz.prog 12 #[.slice A1 m c1, .int .i64 (wrap64 (qn * (m / 4))), .bool false] W fun e w' => e = .returned (.tuple #[.agg #[.int .i64 (wrap64 ((TT qn l m).1 * 256)), .int .i64 (wrap64 ((TT qn l m).2 * 256))], .int .i64 0]) ∧ Below W.heap.size W w' := by
    intro W A1 c1 hC h1
    have hC2 : Kd.C k38 W A1 (l.map cxOf).length (l.map cxOf) := by rw [hlen38]; exact hC
    have h8 := dftBin_yes A1 c1 (l.map cxOf) WL ((qn * 2 ^ (lg - 2) : Nat) : Int) (m + 6) (by omega) (by omega) hd (by omega) W hC2 (by omega)
    have hkk2 := hkk
    rw [← hml] at hkk2
    obtain ⟨u1, u2⟩ := bin_val qn l hb (by omega) WL _ hkk2
    rw [hlen38, ← hml, u1, u2, hml] at h8
    rw [hk, wrap_id (x := (TT qn l m).1 * 256) (by omega) (by omega), wrap_id (x := (TT qn l m).2 * 256) (by omega) (by omega), Int.mul_comm _ 256, Int.mul_comm _ 256]
    exact h8
   have hmx : ∀ (W : World) (A1 : Option Addr) (c1 : Nat), Kd.C k38 W A1 m (l.map cxOf) → m ≤ c1 → Calls Tryz.prog 13 #[.slice A1 m c1] W fun e w' => e = .returned (.tuple #[.int .i64 rs.1, .int .i64 0]) ∧ Below W.heap.size W w' := by
    intro W A1 c1 hC h1
    rw [← hlen38] at hC h1 ⊢
    exact scan_Max.calls (m + 6) A1 c1 (l.map cxOf) rs.1 0 W hC h1 (by rw [hscan, ← hr2])
   by_cases h4 : 4 < m
   ·exact law4_big A c l0 l m q qn (TT qn l m).1 (TT qn l m).2 0 _ _ 0 rs.1 w hr hc hm hl hqn hbin hdft rfl rfl rfl rfl hmx h4
   ·by_cases h8 : 8000 < rs.1
    ·exact law4_great A c l0 l m q qn (TT qn l m).1 (TT qn l m).2 0 _ _ 0 rs.1 w hr hc hm hl hqn hbin hdft rfl rfl rfl rfl hmx h4 h8
    ·have hm44 : m = 4 := by omega
     obtain ⟨x0, x1, x2, x3, hx⟩ : ∃ x0 x1 x2 x3, l = [x0, x1, x2, x3] := by
      match l, (hml.trans hm44) with
      | [x0, x1, x2, x3], _ => exact ⟨x0, x1, x2, x3, rfl⟩
     have g0 := hmax 0 (by omega) (by omega)
     have g1 := hmax 1 (by omega) (by omega)
     have g2 := hmax 2 (by omega) (by omega)
     have g3 := hmax 3 (by omega) (by omega)
     rw [hx] at g0 g1 g2 g3
     simp only [List.getD_cons_zero, List.getD_cons_succ] at g0 g1 g2 g3
     have i0 : inB 8000 (cxOf x0) = true := inB_to (by unfold cxOf; dsimp only; omega)
     have i1 : inB 8000 (cxOf x1) = true := inB_to (by unfold cxOf; dsimp only; omega)
     have i2 : inB 8000 (cxOf x2) = true := inB_to (by unfold cxOf; dsimp only; omega)
     have i3 : inB 8000 (cxOf x3) = true := inB_to (by unfold cxOf; dsimp only; omega)
     obtain ⟨n0, n1⟩ := four_in _ _ _ _ i0 i1 i2 i3
     have hmap : l.map cxOf = [cxOf x0, cxOf x1, cxOf x2, cxOf x3] := by rw [hx]; rfl
     have n2 : ∀ x, x ∈ four2 (cxOf x0) (cxOf x1) (cxOf x2) (cxOf x3) → in15 x = true := by
      intro x hx2
      simp [four2] at hx2
      rcases hx2 with rfl | rfl | rfl | rfl <;> exact decide_eq_true (by simp only [plusC, lessC, cxOf]; omega)
     refine law4_four A c l0 l m q qn (TT qn l m).1 (TT qn l m).2 0 _ _ 0 rs.1 (four2 (cxOf x0) (cxOf x1) (cxOf x2) (cxOf x3)) w hr hc hm hl hqn hbin hdft rfl rfl rfl rfl hmx h4 h8 (by omega) ?_ ?_
     ·rw [hx, hm44]
      rcases (show qn = 0 ∨ qn = 1 ∨ qn = 2 ∨ qn = 3 by omega) with rfl | rfl | rfl | rfl
      all_goals
       simp [TT, rt, four2, plusC, lessC, cxOf, rd_T38]
       try omega
     ·intro W A1 c1 hC h1
      rw [hm44] at hC h1 ⊢
      rw [hmap] at hC
      have h9 := Run4 (cxOf x0) (cxOf x1) (cxOf x2) (cxOf x3) A1 c1 h1 n0 (by rw [quad_1 _ _ _ _ i0 i1 i2 i3]; exact n1) (by rw [quad_2 _ _ _ _ i0 i1 i2 i3]; exact n2) W hC
      rw [quad_2 _ _ _ _ i0 i1 i2 i3] at h9
      exact h9
 ·have hd : dft_may.f (m + 6) (l.map cxOf) = some ([], 3) := by unfold dft_may.f; rw [hlen38, hlog]; rfl
  refine law4_no A c l0 l m q qn 0 0 3 0 0 3 w hr hc hm hl hqn ?_ ?_ (by decide) rfl
  ·intro W hC
   rw [← hml]
   exact Bin_no A c l _ 3 (by decide) W hC (fun W2 h2 => look_size A c l _ x 3 0 (m + 6) (by rw [hml]; exact hlog) (by decide) W2 h2 hcl)
  ·intro W A1 c1 hC h1
   rw [← hlen38] at hC h1 ⊢
   exact dftBin_no A1 c1 (l.map cxOf) [] _ 3 (m + 6) hd (by decide) W hC h1
end Go.Proofs.YteieahbadclppaaGreat.P

set_option linter.unusedVariables false
namespace Go.Proofs.YteieahbadclppaaGreat.P
open Go.RowKit Go.Proofs.YteieahbadclppaaGreatW.PrintWords Go.Proofs.YteieahbadclppaaGreatW.PrintLast Go.Proofs.YteieahbadclppaaGreatW.PrintMore
def headroomtop_TopSingle.f (l0 : List Int) (a1 : Int) : Option Bool := some true
theorem headroomtop_TopSingle.calls (A0 : Option Addr) (c0 : Nat) (l0 : List Int) (a1 : Int) (r : Bool) (w : World) (hr0 : Kd.C (Kd.int .i64) w A0 l0.length l0) (hc0 : l0.length ≤ c0) (h : headroomtop_TopSingle.f l0 a1 = some r) :
  Calls Tryz.prog 4 #[.slice A0 l0.length c0, .int .i64 a1] w fun e w' => e = .returned (.bool r) ∧ Below w.heap.size w w' := by
 obtain rfl := Option.some.inj h
 exact topSingle_true A0 c0 l0 a1 w hr0 hc0
end Go.Proofs.YteieahbadclppaaGreat.P

set_option linter.unusedVariables false
namespace Go.Proofs.YteieahbadclppaaGreat.Pure
open Go.RowKit Go.Proofs.YteieahbadclppaaGreat.P Go.Proofs.YteieahbadclppaaGreatW.PrintWords Go.Proofs.YteieahbadclppaaGreatW.PrintLast

theorem TopSingle : ∀ (l0 : List Int) (a1 : Int), l0.length ≤ maxLen → l0.length * 8 ≤ 140737488351232 → (∀ x ∈ l0, (Lit.int .i64 x).wf = true) → (Lit.int .i64 a1).wf = true → headroomtop_TopSingle.f l0 a1 = some true := fun _ _ _ _ _ _ => rfl

end Go.Proofs.YteieahbadclppaaGreat.Pure

