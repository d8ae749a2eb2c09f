-- Printed for this claim by drive.py (a program of this session's) through the kit's print program; not trusted: Lean checks it.
import Derived.Test.YtajgpilcbaoneaaP0
import Derived.Test.YtajgpilcbaoneaaPf22
import Derived.Test.YtajgpilcbaoneaaPf23
import Derived.Test.YtajgpilcbaoneaaPf24
namespace Go.Proofs.Ytajgpilcbaoneaa.P
open Go.RowKit Go.Proofs.YtajgpilcbaoneaaW.PrintWords Go.Proofs.YtajgpilcbaoneaaW.PrintLast Go.Proofs.YtajgpilcbaoneaaW.PrintMore
attribute [local go_sem] max2_int min2_int max_two min_two max_three min_three max_four min_four   -- for this text's walks alone
set_option linter.unusedVariables false
set_option linter.unusedSimpArgs false

/-! ### headroomlaw20_PowerSums: function 6 -/
mutual
def headroomlaw20_PowerSums.l0 : Nat → List (S45) → Int → Int → Option (Bool)
  | 0, _, _, _ => none
  | k + 1, x0, x22, x23 => if x23 < x22 then (if 0 ≤ x23 then (if x23 < (x0.length : Int) then (headroomlaw20_PowerSums.l0 k (x0.set (x23 : Int).toNat (⟨Int.tmod ((rd_T45 x0 x23).f0) 67108864, Int.tmod ((rd_T45 x0 x23).f1) 67108864⟩ : S45)) x22 (wrap64 (x23 + 1))) else (none)) else (none)) else (headroomlaw20_PowerSums.l1 k x0 ([] : List (S45)) 0)
def headroomlaw20_PowerSums.l1 : Nat → List (S45) → List (S45) → Int → Option (Bool)
  | 0, _, _, _ => none
  | k + 1, x0, x4, x5 => if x5 < (x0.length : Int) then (if 0 ≤ x5 then (if 0 ≤ (wrap64 (x5 + 1)) then (if (wrap64 (x5 + 1)) < (x0.length : Int) then ((some (([(⟨wrap64 (((rd_T45 x0 x5).f0) + ((rd_T45 x0 (wrap64 (x5 + 1))).f0)), wrap64 (((rd_T45 x0 x5).f1) + ((rd_T45 x0 (wrap64 (x5 + 1))).f1))⟩ : S45), (⟨wrap64 (((rd_T45 x0 x5).f0) - ((rd_T45 x0 (wrap64 (x5 + 1))).f0)), wrap64 (((rd_T45 x0 x5).f1) - ((rd_T45 x0 (wrap64 (x5 + 1))).f1))⟩ : S45)] : List (S45)) : List (S45))).bind fun y244 => (if x4.length + y244.length < 8796093022208 then (headroomlaw20_PowerSums.l1 k x0 (x4 ++ y244) (wrap64 (x5 + 2))) else (none))) else (none)) else (none)) else (none)) else ((power_Total.f x0).bind fun bt250 => ((power_Total.f x4).bind fun bt253 => ((headroomlaw20_alive.f k).bind fun t256 => (if t256 = true then (if bt250.2.2 = 0 then (if bt253.2.2 = 0 then (if bt250.1 = 0 then (if bt253.1 = 0 then (some (bt253.2.1 == (IntKind.u64.wrap (2 * bt250.2.1)))) else (some false)) else (some false)) else (some false)) else (some false)) else (some false)))))
end
def headroomlaw20_PowerSums.f (k : Nat) (l0 : List (S45)) : Option (Bool) := if 0 ≤ (Go.bits .andNot .i64 (mn (l0.length : Int) 70) 1) then (if (Go.bits .andNot .i64 (mn (l0.length : Int) 70) 1) ≤ (l0.length : Int) then ((api_Cx.f (l0.take ((Go.bits .andNot .i64 (mn (l0.length : Int) 70) 1) : Int).toNat)).bind fun t234 => (headroomlaw20_PowerSums.l0 k t234 (t234.length : Int) 0)) else (none)) else (none)
theorem headroomlaw20_PowerSums.mono_l : ∀ k, (∀ y0 y1 y2, LeO (headroomlaw20_PowerSums.l0 k y0 y1 y2) (headroomlaw20_PowerSums.l0 (k + 1) y0 y1 y2)) ∧ (∀ y0 y1 y2, LeO (headroomlaw20_PowerSums.l1 k y0 y1 y2) (headroomlaw20_PowerSums.l1 (k + 1) y0 y1 y2))
  | 0 => ⟨fun _ _ _ r h => by simp [headroomlaw20_PowerSums.l0] at h, fun _ _ _ r h => by simp [headroomlaw20_PowerSums.l1] at h⟩
  | k + 1 => by
    obtain ⟨ih0, ih1⟩ := headroomlaw20_PowerSums.mono_l k
    refine ⟨?_, ?_⟩
    · intro y0 y1 y2
      unfold headroomlaw20_PowerSums.l0
      repeat' first
      | (with_reducible exact ih0 _ _ _)
      | (with_reducible exact ih1 _ _ _)
      | (with_reducible exact headroomlaw20_alive.mono _)
      | (with_reducible exact LeO.refl _)
      | (with_reducible exact LeO.none _)
      | (with_reducible refine LeO.ite ?_ ?_)
      | (with_reducible refine LeO.bind ?_ (fun _ => ?_))
      | exact ih0 _ _ _
      | exact ih1 _ _ _
      | exact headroomlaw20_alive.mono _
      | exact LeO.none _
      | refine LeO.ite ?_ ?_
      | refine LeO.bind ?_ (fun _ => ?_)
    · intro y0 y1 y2
      unfold headroomlaw20_PowerSums.l1
      repeat' first
      | (with_reducible exact ih0 _ _ _)
      | (with_reducible exact ih1 _ _ _)
      | (with_reducible exact headroomlaw20_alive.mono _)
      | (with_reducible exact LeO.refl _)
      | (with_reducible exact LeO.none _)
      | (with_reducible refine LeO.ite ?_ ?_)
      | (with_reducible refine LeO.bind ?_ (fun _ => ?_))
      | exact ih0 _ _ _
      | exact ih1 _ _ _
      | exact headroomlaw20_alive.mono _
      | exact LeO.none _
      | refine LeO.ite ?_ ?_
      | refine LeO.bind ?_ (fun _ => ?_)
theorem headroomlaw20_PowerSums.mono : ∀ a0 k, LeO (headroomlaw20_PowerSums.f k a0) (headroomlaw20_PowerSums.f (k + 1) a0) := by
  intro a0 k
  obtain ⟨ih0, ih1⟩ := headroomlaw20_PowerSums.mono_l k
  unfold headroomlaw20_PowerSums.f
  repeat' first
      | (with_reducible exact ih0 _ _ _)
      | (with_reducible exact ih1 _ _ _)
      | (with_reducible exact headroomlaw20_alive.mono _)
      | (with_reducible exact LeO.refl _)
      | (with_reducible exact LeO.none _)
      | (with_reducible refine LeO.ite ?_ ?_)
      | (with_reducible refine LeO.bind ?_ (fun _ => ?_))
      | exact ih0 _ _ _
      | exact ih1 _ _ _
      | exact headroomlaw20_alive.mono _
      | exact LeO.none _
      | refine LeO.ite ?_ ?_
      | refine LeO.bind ?_ (fun _ => ?_)
def headroomlaw20_PowerSums.T5 : Bool × List (List Nat × List Nat) := (true, [([], []), ([], []), ([], []), ([], []), ([2, 3], [2, 3]), ([4], [4]), ([5], [5]), ([6], [6]), ([], []), ([], []), ([8, 9], [8, 9]), ([10], [10]), ([11], [11]), ([12], [12]), ([7, 13], [7, 13]), ([0, 1, 0, 1, 2, 3, 4, 5, 6, 7, 8, 9, 10, 11, 12, 13, 14], [0, 1]), ([15, 14, 0, 1, 2, 3, 4, 5, 6, 7, 8, 9, 10, 11, 12, 13, 14], [14, 15])])
def headroomlaw20_PowerSums.B5 : List Nat := [0, 0, 0, 0, 12, 28, 60, 124, 0, 0, 768, 1792, 3840, 7936, 16380, 32767, 65535]
theorem headroomlaw20_PowerSums.tab5 : rtab .any (opsOf Try.f6 5) = headroomlaw20_PowerSums.T5 := by kernel_rfl
theorem headroomlaw20_PowerSums.bits5 : waitsOk headroomlaw20_PowerSums.T5.2 headroomlaw20_PowerSums.B5 = true := by kernel_rfl
def headroomlaw20_PowerSums.T11 : Bool × List (List Nat × List Nat) := (true, [([], []), ([], []), ([0, 1], [0, 1]), ([2], [2]), ([], []), ([], []), ([5], [5]), ([4, 6], [4, 6]), ([7], [7]), ([], []), ([], []), ([9, 3, 0, 1, 2, 3, 9, 10], [3, 9]), ([10, 8, 11, 0, 1, 2, 3, 4, 5, 6, 7, 8, 9, 10, 11], [8, 10])])
def headroomlaw20_PowerSums.B11 : List Nat := [0, 0, 3, 7, 0, 0, 32, 112, 240, 0, 0, 1551, 4095]
theorem headroomlaw20_PowerSums.tab11 : rtab .any (opsOf Try.f6 11) = headroomlaw20_PowerSums.T11 := by kernel_rfl
theorem headroomlaw20_PowerSums.bits11 : waitsOk headroomlaw20_PowerSums.T11.2 headroomlaw20_PowerSums.B11 = true := by kernel_rfl
set_option maxHeartbeats 8000000 in
set_option maxRecDepth 100000 in
theorem headroomlaw20_PowerSums.calls (k : Nat) (A0 : Option Addr) (c0 : Nat) (l0 : List (S45)) (r : Bool) (w : World) (hr0 : Kd.C k45 w A0 l0.length l0) (hc0 : l0.length ≤ c0) (h : headroomlaw20_PowerSums.f k l0 = some r) :
    Calls Try.prog 6 #[.slice A0 l0.length c0] w fun e w' => e = .returned (.bool r) ∧ Below w.heap.size w w' := by
  have hu45 := Try.underlying45
  have HR0 := Aside0.mk hr0
  have HC0 := Aside0.mk hc0
  clear hr0 hc0
  have HB := Aside0.mk (Below.refl w.heap.size w)
  have H : (if 0 ≤ (Go.bits .andNot .i64 (mn (l0.length : Int) 70) 1) then (if (Go.bits .andNot .i64 (mn (l0.length : Int) 70) 1) ≤ (l0.length : Int) then ((api_Cx.f (l0.take ((Go.bits .andNot .i64 (mn (l0.length : Int) 70) 1) : Int).toNat)).bind fun t234 => (headroomlaw20_PowerSums.l0 k t234 (t234.length : Int) 0)) else (none)) else (none)) = some r := h
  clear h
  obtain ⟨ji2, hji2⟩ : ∃ j_ : Int, (mn (l0.length : Int) 70) = j_ := ⟨_, rfl⟩
  replace H : (if 0 ≤ (Go.bits .andNot .i64 (ji2) 1) then (if (Go.bits .andNot .i64 (ji2) 1) ≤ (l0.length : Int) then ((api_Cx.f (l0.take ((Go.bits .andNot .i64 (ji2) 1) : Int).toNat)).bind fun t234 => (headroomlaw20_PowerSums.l0 k t234 (t234.length : Int) 0)) else (none)) else (none)) = some r := by first | (rw [hji2] at H; exact H) | (simp only [hji2] at H ⊢; exact H)
  (try (have hji2h : ji2 ≤ 70 := by (rw [← hji2]; unfold mn; (repeat' split) <;> omega)))
  (try (have hji2g : ji2 ≤ 64 := by omega))
  (try (have hji2l : 0 ≤ ji2 := by (rw [← hji2]; unfold mn; (repeat' split) <;> omega)))
  (try (have hji2m : 0 ≤ ji2 := by omega))
  have hji2_ : (if 70 < (l0.length : Int) then 70 else (l0.length : Int)) = ji2 := hji2
  have hji2q : decide (ji2 ≤ (l0.length : Int)) = true := decide_eq_true (by rw [← hji2_]; split <;> omega)
  by_cases c3 : 0 ≤ (Go.bits .andNot .i64 (ji2) 1)
  · rw [if_pos c3] at H
    have c3b0 := eq_true c3
    have c3b1 : decide (0 ≤ (Go.bits .andNot .i64 (ji2) 1)) = true := decide_eq_true c3
    clear c3
    by_cases c4 : (Go.bits .andNot .i64 (ji2) 1) ≤ (l0.length : Int)
    · rw [if_pos c4] at H
      have c4b0 := eq_true c4
      have c4b1 : decide ((Go.bits .andNot .i64 (ji2) 1) ≤ (l0.length : Int)) = true := decide_eq_true c4
      clear c4
      obtain ⟨y230, hy230⟩ : ∃ y_ : List (S45), y_ = (l0.take ((Go.bits .andNot .i64 (ji2) 1) : Int).toNat) := ⟨_, rfl⟩
      replace H : ((api_Cx.f y230).bind fun t234 => (headroomlaw20_PowerSums.l0 k t234 (t234.length : Int) 0)) = some r := by first | (rw [hy230]; with_reducible exact H) | (have H2_ := (Option.bind_some _ _).symm.trans H; rw [hy230]; with_reducible exact H2_) | (have H2_ := (Option.bind_some _ _).symm.trans H; with_reducible exact H2_) | with_reducible exact H | (rw [hy230]; exact H) | exact H
      have Ny230 := Aside0.mk hy230
      clear hy230
      replace H := Option.bind_eq_some_iff.mp H
      obtain ⟨t234, A50, H⟩ := H
      replace H : (headroomlaw20_PowerSums.l0 k t234 (t234.length : Int) 0) = some r := H
      have A5 := Aside0.mk A50
      clear A50
      have H' := Aside0.mk H
      clear H
      have q6 : ((Go.bits .andNot .i64 (ji2) 1) : Int) ≤ ((l0.length : Int) : Int) := of_decide_eq_true (by first | (with_reducible assumption) | assumption)
      obtain ⟨i06, hi06, _, hsz6, _⟩ := info_parts info45
      have hroom6 : l0.length ≤ c0 := HC0.out
      have hC6 : Kd.C k45 _ A0 l0.length l0 := HR0.out
      have hcut6 := cut_to (P := Try.prog) 37 45 .i64 Try.underlying37 hi06 A0 l0.length c0 (Go.bits .andNot .i64 (ji2) 1) (of_decide_eq_true (by first | (with_reducible assumption) | assumption)) q6 hroom6
      have hr6 := Kd.C_take (m := ((Go.bits .andNot .i64 (ji2) 1) : Int).toNat) hC6 (by omega)
      have hy6 : y230.length = ((Go.bits .andNot .i64 (ji2) 1) : Int).toNat := (by rw [Ny230.out, List.length_take]; omega)
      rw [← Ny230.out] at hr6
      rw [← hy6] at hcut6
      have HR233 := Aside0.mk hr6
      have HC233 := Aside0.mk (show y230.length ≤ c0 from by omega)
      clear hr6 hC6 hroom6 hi06 hsz6
      have KY6 := Aside0.mk hy6
      clear hy6
      replace q6 := eq_true q6
      go_enter Try.func6, Try.ntmps6
      go_wp2_with (first | ((with_reducible refine gate_callee (f := 22) rfl ?_); refine goesL_ (some 20) rfl rfl Try.func22 (by kernel_rfl) rfl #[.slice A0 y230.length c0] rfl (by (try simp only [List.map_toArray, List.map_cons, List.map_nil]); first | done | rfl | (simp only [List.length_drop, List.length_take]; rfl)) ?_; (with_reducible refine (api_Cx.calls _ _ y230 t234 _ ?side1 ?side2 A5.out).mono ?_); (case side1 => repeat (first | exact HR233.out | (with_reducible refine Kd.C_alloc ?_ _) | (with_reducible refine Kd.C_drewN ?_ _) | (with_reducible refine Kd.C_drew ?_))); (case side2 => exact HC233.out); rintro e w7 ⟨v235, rfl, ho0, hb⟩; refine ⟨_, rfl, ?_⟩; have n0_ := Aside0.mk (Kd.R_lower ho0 (below_size (by repeat (first | (with_reducible first | exact HB.out | apply below_alloc | apply pw_below_drewN | apply below_drew1) | exact HB.out)))); have n1_ := Aside0.mk (below_step (by repeat (first | (with_reducible first | exact HB.out | apply below_alloc | apply pw_below_drewN | apply below_drew1) | exact HB.out)) hb); clear HB; have HO236 := n0_; have HB := n1_; clear n0_ n1_; (try clear hb); (try clear hb2); (try clear hk); (try clear hi); (try clear ho0); obtain ⟨Ao8, co8, eo8⟩ := Kd.R_slice HO236.out; subst eo8))
      go_loopg [23] k (fun kq v23 w' => ∃ (x0_1 : List (S45)) (x23_1 : Int), v23 = .int .i64 x23_1 ∧ Aside0 (headroomlaw20_PowerSums.l0 kq x0_1 (t234.length : Int) x23_1 = some r) ∧ Aside0 (kq ≤ k) ∧ Aside0 (Kd.R k45 45 w' w.heap.size (fun _ => True) (.slice Ao8 t234.length co8) x0_1) ∧ Aside0 (Below w.heap.size w w'))
      case atStart => exact ⟨(t234), (0), (by first | rfl | (simp; done) | (simp [*]; done)), H', ⟨Nat.le_refl _⟩, ⟨by (with_reducible repeat (first | apply Kd.R_alloc | apply Kd.R_drewN | apply Kd.R_drew)); exact HO236.out⟩, ⟨by repeat (first | (with_reducible first | exact HB.out | apply below_alloc | apply pw_below_drewN | apply below_drew1) | exact HB.out)⟩⟩
      case round =>
        clear H'
        try clear c2
        try clear p2
        try clear c3
        try clear c3b0
        try clear c3b1
        try clear c4
        try clear c4b0
        try clear c4b1
        try clear c6
        try clear q6
        try clear q6
        obtain ⟨x0_1, x23_1, rfl, HA, HK1, HO_0, HB⟩ := hrel
        have hl0_1 := (Kd.R_reads' HO_0.out).1
        rw [hl0_1] at HO_0
        (try simp only [hl0_1])
        cases gk with
        | zero => exact absurd HA.out (by simp [headroomlaw20_PowerSums.l0])
        | succ k1 =>
          have H := HA.out
          clear HA
          simp only [headroomlaw20_PowerSums.l0] at H
          by_cases c9 : x23_1 < (t234.length : Int)
          · rw [if_pos c9] at H
            have c9b0 : decide (x23_1 < (t234.length : Int)) = true := decide_eq_true c9
            clear c9
            by_cases c10 : 0 ≤ x23_1
            · rw [if_pos c10] at H
              have c10b0 : decide (0 ≤ x23_1) = true := decide_eq_true c10
              clear c10
              by_cases c11 : x23_1 < (x0_1.length : Int)
              · rw [if_pos c11] at H
                have c11b0 : decide (x23_1 < (x0_1.length : Int)) = true := decide_eq_true c11
                clear c11
                obtain ⟨y239, hy239⟩ : ∃ y_ : List (S45), y_ = (x0_1.set (x23_1 : Int).toNat (⟨Int.tmod ((rd_T45 x0_1 x23_1).f0) 67108864, Int.tmod ((rd_T45 x0_1 x23_1).f1) 67108864⟩ : S45)) := ⟨_, rfl⟩
                replace H : (headroomlaw20_PowerSums.l0 k1 y239 (t234.length : Int) (wrap64 (x23_1 + 1))) = some r := by first | (rw [hy239]; with_reducible exact H) | (have H2_ := (Option.bind_some _ _).symm.trans H; rw [hy239]; with_reducible exact H2_) | (have H2_ := (Option.bind_some _ _).symm.trans H; with_reducible exact H2_) | with_reducible exact H | (rw [hy239]; exact H) | exact H
                have Ny239 := Aside0.mk hy239
                clear hy239
                have H' := Aside0.mk H
                clear H
                try go_wp2
                have n0_ := Aside0.mk (Kd.R_drew HO_0.out)
                have n1_ := Aside0.mk (below_drew1 HB.out)
                clear HO_0
                clear HB
                have HO_0 := n0_
                have HB := n1_
                clear n0_ n1_
                have p237 : 0 ≤ (x23_1 : Int) := of_decide_eq_true (by first | (with_reducible assumption) | assumption)
                have q237 : x23_1 < (x0_1.length : Int) := of_decide_eq_true (by first | (with_reducible assumption) | assumption)
                obtain ⟨ad237, e237, hx237_0, hx237_1⟩ := at_T45 (Kd.R_reads' HO_0.out).2.2 x23_1 p237 q237
                cases e237
                replace p237 := eq_true p237
                replace q237 := eq_true q237
                have p238 : 0 ≤ (x23_1 : Int) := of_decide_eq_true (by first | (with_reducible assumption) | assumption)
                have q238 : x23_1 < (x0_1.length : Int) := of_decide_eq_true (by first | (with_reducible assumption) | assumption)
                obtain ⟨ad238, e238, hx238_0, hx238_1⟩ := at_T45 (Kd.R_reads' HO_0.out).2.2 x23_1 p238 q238
                obtain rfl : ad237 = ad238 := (by injection e238)
                replace p238 := eq_true p238
                replace q238 := eq_true q238
                have p12 : 0 ≤ (x23_1 : Int) := of_decide_eq_true (by first | (with_reducible assumption) | assumption)
                have q12 : (x23_1 : Int) < ((x0_1.length : Int) : Int) := of_decide_eq_true (by first | (with_reducible assumption) | assumption)
                obtain ⟨go12, co12, eo12, gb12, gl12, cl12, HG12⟩ := Kd.R_form HO_0.out (by omega)
                (first | cases eo12 | (injection eo12 with ea_ en_ ec_; (first | subst ea_ | (injection ea_ with ea_; subst ea_)); subst ec_; clear en_))
                have GB12 := Aside0.mk gb12
                have GG12 := Aside0.mk HG12
                clear gb12 gl12 HG12
                (first | simp only [add_plain] at hx237_0 | skip)
                (first | simp only [add_plain] at hx237_1 | skip)
                (first | simp only [add_plain] at hx238_0 | skip)
                (first | simp only [add_plain] at hx238_1 | skip)
                obtain ⟨ce12, hcl12, hM12, hcc12, hfr12⟩ := Kd.R_elem HO_0.out z45 (x23_1 : Int) p12 q12
                obtain rfl := k45_openM hM12
                have hx12_0 : World.cell? _ ⟨go12, (x23_1 : Int).toNat * 2, none⟩ = some (.int .i64 ((rd_T45 x0_1 x23_1).f0)) := hcc12 0 _ rfl
                have hx12_1 : World.cell? _ ⟨go12, (x23_1 : Int).toNat * 2 + 1, none⟩ = some (.int .i64 ((rd_T45 x0_1 x23_1).f1)) := hcc12 1 _ rfl
                have hf12_0 : World.frozen? _ ⟨go12, (x23_1 : Int).toNat * 2, none⟩ = false := hfr12 0
                have hf12_1 : World.frozen? _ ⟨go12, (x23_1 : Int).toNat * 2 + 1, none⟩ = false := hfr12 1
                clear hcl12 hcc12 hfr12 hM12
                replace p12 := eq_true p12
                replace q12 := eq_true q12
                obtain ⟨ce14, hcl14, hM14, hcc14, hfr14⟩ := Kd.R_elem HO_0.out z45 (x23_1 : Int) (of_decide_eq_true (by first | (with_reducible assumption) | assumption)) (by have h_ : (x23_1 : Int) < ((x0_1.length : Int) : Int) := of_decide_eq_true (by first | (with_reducible assumption) | assumption); first | exact h_ | (have e_ := (Kd.R_reads' HO_0.out).1; omega) | simpa using h_)
                obtain rfl := k45_openM hM14
                have HP14 := (Kd.R_seg HO_0.out (x23_1 : Int) (of_decide_eq_true (by first | (with_reducible assumption) | assumption)) (by have h_ : (x23_1 : Int) < ((x0_1.length : Int) : Int) := of_decide_eq_true (by first | (with_reducible assumption) | assumption); first | exact h_ | (have e_ := (Kd.R_reads' HO_0.out).1; omega) | simpa using h_) (seg := [.int .i64 (Int.tmod ((rd_T45 x0_1 x23_1).f0) 67108864), .int .i64 (Int.tmod ((rd_T45 x0_1 x23_1).f1) 67108864)]) (j := 0) hcl14 hcc14 (show 2 ≤ 2 from by decide) (x' := (⟨Int.tmod ((rd_T45 x0_1 x23_1).f0) 67108864, Int.tmod ((rd_T45 x0_1 x23_1).f1) 67108864⟩ : S45)) (k45_mkM _ _ _ (⟨Int.tmod ((rd_T45 x0_1 x23_1).f0) 67108864, Int.tmod ((rd_T45 x0_1 x23_1).f1) 67108864⟩ : S45) ) (fun _ hk => hk)).1
                rw [← Ny239.out] at HP14
                have HQ14 := Aside0.mk HP14
                clear hcl14 hcc14 hfr14 hM14 HP14
                refine start_ (n := 17) (S := fun w' => w'.cell? ⟨go12, ((x23_1).toNat * 2), none⟩ = some (.int .i64 ((rd_T45 x0_1 x23_1).f0)) ∧ w'.cell? ⟨go12, ((x23_1).toNat * 2) + 1, none⟩ = some (.int .i64 ((rd_T45 x0_1 x23_1).f1)) ∧ w'.cell? ⟨go12, ((x23_1).toNat * 2), none⟩ = some (.int .i64 ((rd_T45 x0_1 x23_1).f0)) ∧ w'.cell? ⟨go12, ((x23_1).toNat * 2) + 1, none⟩ = some (.int .i64 ((rd_T45 x0_1 x23_1).f1))) (ds := [16]) #[false, false, false, false, false, false, false, false, false, false, false, false, false, false, false, false, false] (by kernel_rfl) rfl rfl ⟨hx237_0, hx237_1, hx238_0, hx238_1⟩ (fun hHeld => ?_); refine with_tabW headroomlaw20_PowerSums.tab5 headroomlaw20_PowerSums.bits5 (fun HT_ HW_ => ?_)
                generalize wr.drew = w13 at HO_0 HB GG12 HQ14 hf12_0 hf12_1 hx12_0 hx12_1 hx237_0 hx237_1 hx238_0 hx238_1 hHeld ⊢
                refine pure_ (i := 0) (N := some 26) (v := ?_) (a' := ?_) #[true, false, false, false, false, false, false, false, false, false, false, false, false, false, false, false, false] rfl rfl (any_of HT_.out (by kernel_rfl)) (fun _ _ _ h => h) (Or.inl ⟨by rfl, ?_⟩) ?_ ?_
                rotate_left
                · intro w'
                  go_simp
                  with_reducible rfl
                rotate_left
                · simp only [Act.put, List.setIfInBounds_toArray, List.set_cons_zero, List.set_cons_succ, i64_w, i32_w]
                  rfl
                refine pure_ (i := 1) (N := some 27) (v := ?_) (a' := ?_) #[true, true, false, false, false, false, false, false, false, false, false, false, false, false, false, false, false] rfl rfl (any_of HT_.out (by kernel_rfl)) (fun _ _ _ h => h) (Or.inl ⟨by rfl, ?_⟩) ?_ ?_
                rotate_left
                · intro w'
                  go_simp
                  with_reducible rfl
                rotate_left
                · simp only [Act.put, List.setIfInBounds_toArray, List.set_cons_zero, List.set_cons_succ, i64_w, i32_w]
                  rfl
                refine pure_ (i := 2) (N := some 28) (v := ?_) (a' := ?_) #[true, true, true, false, false, false, false, false, false, false, false, false, false, false, false, false, false] rfl rfl (any_of HT_.out (by kernel_rfl)) (fun _ _ _ h => h) (Or.inl ⟨by rfl, ?_⟩) ?_ ?_
                rotate_left
                · intro w'
                  go_simp
                  with_reducible rfl
                rotate_left
                · simp only [Act.put, List.setIfInBounds_toArray, List.set_cons_zero, List.set_cons_succ, i64_w, i32_w]
                  rfl
                refine pure_ (i := 3) (N := some 29) (v := ?_) (a' := ?_) #[true, true, true, true, false, false, false, false, false, false, false, false, false, false, false, false, false] rfl rfl (any_of HT_.out (by kernel_rfl)) (fun _ _ _ h => h) (Or.inl ⟨by rfl, ?_⟩) ?_ ?_
                rotate_left
                · intro w'
                  go_simp
                  with_reducible rfl
                rotate_left
                · simp only [Act.put, List.setIfInBounds_toArray, List.set_cons_zero, List.set_cons_succ, i64_w, i32_w]
                  rfl
                refine pure_ (i := 4) (N := some 30) (v := ?_) (a' := ?_) #[true, true, true, true, true, false, false, false, false, false, false, false, false, false, false, false, false] rfl rfl (any_of HT_.out (by kernel_rfl)) (fun _ _ _ h => h) (Or.inl ⟨by rfl, ?_⟩) ?_ ?_
                rotate_left
                · intro w'
                  go_simp
                  with_reducible rfl
                rotate_left
                · simp only [Act.put, List.setIfInBounds_toArray, List.set_cons_zero, List.set_cons_succ, i64_w, i32_w]
                  rfl
                refine pure_ (i := 5) (N := some 31) (v := ?_) (a' := ?_) #[true, true, true, true, true, true, false, false, false, false, false, false, false, false, false, false, false] rfl rfl (any_of HT_.out (by kernel_rfl)) (fun _ _ _ h => h) (Or.inl ⟨by rfl, ?_⟩) ?_ ?_
                rotate_left
                · intro w'
                  go_simp
                  with_reducible rfl
                rotate_left
                · simp only [Act.put, List.setIfInBounds_toArray, List.set_cons_zero, List.set_cons_succ, i64_w, i32_w]
                  rfl
                refine pure_ (i := 8) (N := some 34) (v := ?_) (a' := ?_) #[true, true, true, true, true, true, false, false, true, false, false, false, false, false, false, false, false] rfl rfl (any_of HT_.out (by kernel_rfl)) (fun _ _ _ h => h) (Or.inl ⟨by rfl, ?_⟩) ?_ ?_
                rotate_left
                · intro w'
                  go_simp
                  with_reducible rfl
                rotate_left
                · simp only [Act.put, List.setIfInBounds_toArray, List.set_cons_zero, List.set_cons_succ, i64_w, i32_w]
                  rfl
                refine pure_ (i := 9) (N := some 35) (v := ?_) (a' := ?_) #[true, true, true, true, true, true, false, false, true, true, false, false, false, false, false, false, false] rfl rfl (any_of HT_.out (by kernel_rfl)) (fun _ _ _ h => h) (Or.inl ⟨by rfl, ?_⟩) ?_ ?_
                rotate_left
                · intro w'
                  go_simp
                  with_reducible rfl
                rotate_left
                · simp only [Act.put, List.setIfInBounds_toArray, List.set_cons_zero, List.set_cons_succ, i64_w, i32_w]
                  rfl
                refine pure_ (i := 10) (N := some 36) (v := ?_) (a' := ?_) #[true, true, true, true, true, true, false, false, true, true, true, false, false, false, false, false, false] rfl rfl (any_of HT_.out (by kernel_rfl)) (fun _ _ _ h => h) (Or.inl ⟨by rfl, ?_⟩) ?_ ?_
                rotate_left
                · intro w'
                  go_simp
                  with_reducible rfl
                rotate_left
                · simp only [Act.put, List.setIfInBounds_toArray, List.set_cons_zero, List.set_cons_succ, i64_w, i32_w]
                  rfl
                refine pure_ (i := 11) (N := some 37) (v := ?_) (a' := ?_) #[true, true, true, true, true, true, false, false, true, true, true, true, false, false, false, false, false] rfl rfl (any_of HT_.out (by kernel_rfl)) (fun _ _ _ h => h) (Or.inl ⟨by rfl, ?_⟩) ?_ ?_
                rotate_left
                · intro w'
                  go_simp
                  with_reducible rfl
                rotate_left
                · simp only [Act.put, List.setIfInBounds_toArray, List.set_cons_zero, List.set_cons_succ, i64_w, i32_w]
                  rfl
                refine take_ (i := 6) (N := some 32) (v := ?_) (a' := ?_) #[true, true, true, true, true, true, true, false, true, true, true, true, false, false, false, false, false] rfl rfl (take_ofW HT_.out HW_.out (by kernel_rfl)) (fun _ _ _ h => h) (Or.inl ⟨by rfl, ?_⟩) hHeld ?_ ?_
                rotate_left
                · rintro w' ⟨s0, s1, s2, s3⟩
                  go_simp
                  with_reducible rfl
                rotate_left
                · simp only [Act.put, List.setIfInBounds_toArray, List.set_cons_zero, List.set_cons_succ, i64_w, i32_w]
                  rfl
                refine pure_ (i := 7) (N := some 33) (v := ?_) (a' := ?_) #[true, true, true, true, true, true, true, true, true, true, true, true, false, false, false, false, false] rfl rfl (any_of HT_.out (by kernel_rfl)) (fun _ _ _ h => h) (Or.inl ⟨by rfl, ?_⟩) ?_ ?_
                rotate_left
                · intro w'
                  go_simp
                  with_reducible rfl
                rotate_left
                · simp only [Act.put, List.setIfInBounds_toArray, List.set_cons_zero, List.set_cons_succ, i64_w, i32_w]
                  rfl
                refine take_ (i := 12) (N := some 38) (v := ?_) (a' := ?_) #[true, true, true, true, true, true, true, true, true, true, true, true, true, false, false, false, false] rfl rfl (take_ofW HT_.out HW_.out (by kernel_rfl)) (fun _ _ _ h => h) (Or.inl ⟨by rfl, ?_⟩) hHeld ?_ ?_
                rotate_left
                · rintro w' ⟨s0, s1, s2, s3⟩
                  go_simp
                  with_reducible rfl
                rotate_left
                · simp only [Act.put, List.setIfInBounds_toArray, List.set_cons_zero, List.set_cons_succ, i64_w, i32_w]
                  rfl
                refine pure_ (i := 13) (N := some 39) (v := ?_) (a' := ?_) #[true, true, true, true, true, true, true, true, true, true, true, true, true, true, false, false, false] rfl rfl (any_of HT_.out (by kernel_rfl)) (fun _ _ _ h => h) (Or.inl ⟨by rfl, ?_⟩) ?_ ?_
                rotate_left
                · intro w'
                  go_simp
                  with_reducible rfl
                rotate_left
                · simp only [Act.put, List.setIfInBounds_toArray, List.set_cons_zero, List.set_cons_succ, i64_w, i32_w]
                  rfl
                refine pure_ (i := 14) (N := some 40) (v := ?_) (a' := ?_) #[true, true, true, true, true, true, true, true, true, true, true, true, true, true, true, false, false] rfl rfl (any_of HT_.out (by kernel_rfl)) (fun _ _ _ h => h) (Or.inl ⟨by rfl, ?_⟩) ?_ ?_
                rotate_left
                · intro w'
                  go_simp
                  with_reducible rfl
                rotate_left
                · simp only [Act.put, List.setIfInBounds_toArray, List.set_cons_zero, List.set_cons_succ, i64_w, i32_w]
                  rfl
                refine pure_ (i := 15) (N := some 41) (v := ?_) (a' := ?_) #[true, true, true, true, true, true, true, true, true, true, true, true, true, true, true, true, false] rfl rfl (any_of HT_.out (by kernel_rfl)) (fun _ _ _ h => h) (Or.inl ⟨by rfl, ?_⟩) ?_ ?_
                rotate_left
                · intro w'
                  go_simp
                  with_reducible rfl
                rotate_left
                · simp only [Act.put, List.setIfInBounds_toArray, List.set_cons_zero, List.set_cons_succ, i64_w, i32_w]
                  rfl
                refine last_ (i := 16) (N := none) #[true, true, true, true, true, true, true, true, true, true, true, true, true, true, true, true, true] rfl rfl (one_of HT_.out (by kernel_rfl)) (by decide) (fun K hK => ?_)
                refine skip_ (w1 := ?_) (by rfl) rfl ?_ ?_
                rotate_left
                · go_simp
                  rfl
                refine hK.out _ _ ?_
                clear hK K
                refine done_ (done_of HT_.out (by kernel_rfl)) ?_
                try go_wp2
                (try simp only [← hl0_1])
                go_roundg k1
                case measure => have := HK1.out; omega
                case rel => exact ⟨(y239), (wrap64 (x23_1 + 1)), (by first | rfl | (simp; done) | (simp [*]; done)), H', ⟨by have := HK1.out; omega⟩, ⟨by (try simp only [hl0_1]); (with_reducible repeat (first | apply Kd.R_alloc | apply Kd.R_drewN | apply Kd.R_drew)); exact HQ14.out⟩, ⟨by repeat (first | (with_reducible first | exact HB.out | apply below_alloc | apply pw_below_drewN | apply below_drew1 | refine below_set ?_ GB12.out | refine below_set ?_ GB12.out) | exact HB.out)⟩⟩
              · rw [if_neg c11] at H
                exact absurd H (by simp)
            · rw [if_neg c10] at H
              exact absurd H (by simp)
          · rw [if_neg c9] at H
            have c9b0 : decide (x23_1 < (t234.length : Int)) = false := decide_eq_false c9
            try rw [hl0_1] at c9b0
            clear c9
            have H' := Aside0.mk H
            clear H
            go_wp2
            go_loopg [4, 5] k1 (fun kq v4 v5 w' => ∃ (x4_2 : List (S45)) (x5_2 : Int), v5 = .int .i64 x5_2 ∧ Aside0 (headroomlaw20_PowerSums.l1 kq x0_1 x4_2 x5_2 = some r) ∧ Aside0 (kq ≤ k1) ∧ Aside0 (Kd.R k45 45 w' w.heap.size (fun k_ => some k_ ≠ (v4 : Value).ownBlock) (.slice Ao8 x0_1.length co8) x0_1) ∧ Aside0 (Kd.R k45 45 w' w.heap.size (fun k_ => some k_ ≠ ((.slice Ao8 x0_1.length co8) : Value).ownBlock) v4 x4_2) ∧ Aside0 (Below w.heap.size w w'))
            case atStart => exact ⟨(([] : List (S45))), (0), (by first | rfl | (simp; done) | (simp [*]; done)), H', ⟨Nat.le_refl _⟩, ⟨by (try simp only [hl0_1]); (with_reducible repeat (first | apply Kd.R_alloc | apply Kd.R_drewN | apply Kd.R_drew)); exact Kd.R_mono HO_0.out (fun _ hk => (by simp [Value.ownBlock]))⟩, ⟨by (try simp only [hl0_1]); first | exact Kd.R_nil _ _ _ _ _ | exact Kd.N_nil _ _ _ _ _ | exact Kd.V_nil _ _ _ _ _ | exact Kd.Q_nil _ _ _ _ _ | exact Kd.S_nil _ _ _ _ _⟩, ⟨by repeat (first | (with_reducible first | exact HB.out | apply below_alloc | apply pw_below_drewN | apply below_drew1) | exact HB.out)⟩⟩
            case round =>
              clear H'
              try clear c1
              try clear p1
              try clear q1
              try clear hx1
              try clear hf1
              try clear c2
              try clear p2
              try clear q2
              try clear hx2
              try clear c3
              try clear c3b0
              try clear c3b1
              try clear c4
              try clear c4b0
              try clear c4b1
              try clear c6
              try clear p6
              try clear q6
              try clear c9
              try clear c9b0
              try clear c10
              try clear c10b0
              try clear c11
              try clear c11b0
              try clear c12
              try clear p12
              try clear q12
              try clear hx12
              try clear hf12
              try clear c14
              try clear hx12_0
              try clear hx12_1
              try clear hx237_0
              try clear hx237_1
              try clear hx238_0
              try clear hx238_1
              try clear p12
              try clear p2
              try clear p237
              try clear p238
              try clear q12
              try clear q237
              try clear q238
              try clear q6
              obtain ⟨x4_2, x5_2, rfl, HA, HK2, HO_0, HO_4, HB⟩ := hrel
              cases gk with
              | zero => exact absurd HA.out (by simp [headroomlaw20_PowerSums.l1])
              | succ k2 =>
                have H := HA.out
                clear HA
                simp only [headroomlaw20_PowerSums.l1] at H
                by_cases c15 : x5_2 < (x0_1.length : Int)
                · rw [if_pos c15] at H
                  have c15b0 : decide (x5_2 < (x0_1.length : Int)) = true := decide_eq_true c15
                  clear c15
                  by_cases c16 : 0 ≤ x5_2
                  · rw [if_pos c16] at H
                    have c16b0 : decide (0 ≤ x5_2) = true := decide_eq_true c16
                    clear c16
                    obtain ⟨ji17, hji17⟩ : ∃ j_ : Int, (wrap64 (x5_2 + 1)) = j_ := ⟨_, rfl⟩
                    replace H : (if 0 ≤ (ji17) then (if (ji17) < (x0_1.length : Int) then ((some (([(⟨wrap64 (((rd_T45 x0_1 x5_2).f0) + ((rd_T45 x0_1 (ji17)).f0)), wrap64 (((rd_T45 x0_1 x5_2).f1) + ((rd_T45 x0_1 (ji17)).f1))⟩ : S45), (⟨wrap64 (((rd_T45 x0_1 x5_2).f0) - ((rd_T45 x0_1 (ji17)).f0)), wrap64 (((rd_T45 x0_1 x5_2).f1) - ((rd_T45 x0_1 (ji17)).f1))⟩ : S45)] : List (S45)) : List (S45))).bind fun y244 => (if x4_2.length + y244.length < 8796093022208 then (headroomlaw20_PowerSums.l1 k2 x0_1 (x4_2 ++ y244) (wrap64 (x5_2 + 2))) else (none))) else (none)) else (none)) = some r := by first | (rw [hji17] at H; exact H) | (simp only [hji17] at H ⊢; exact H)
                    have hji17w : (IntKind.i64.wrap (x5_2 + 1)) = ji17 := (i64_w _).trans hji17
                    by_cases c18 : 0 ≤ (ji17)
                    · rw [if_pos c18] at H
                      have c18b0 : decide (0 ≤ (ji17)) = true := decide_eq_true c18
                      clear c18
                      by_cases c19 : (ji17) < (x0_1.length : Int)
                      · rw [if_pos c19] at H
                        have c19b0 : decide ((ji17) < (x0_1.length : Int)) = true := decide_eq_true c19
                        clear c19
                        obtain ⟨y244, hy244⟩ : ∃ y_ : List (S45), y_ = (([(⟨wrap64 (((rd_T45 x0_1 x5_2).f0) + ((rd_T45 x0_1 (ji17)).f0)), wrap64 (((rd_T45 x0_1 x5_2).f1) + ((rd_T45 x0_1 (ji17)).f1))⟩ : S45), (⟨wrap64 (((rd_T45 x0_1 x5_2).f0) - ((rd_T45 x0_1 (ji17)).f0)), wrap64 (((rd_T45 x0_1 x5_2).f1) - ((rd_T45 x0_1 (ji17)).f1))⟩ : S45)] : List (S45))) := ⟨_, rfl⟩
                        replace H : (if x4_2.length + y244.length < 8796093022208 then (headroomlaw20_PowerSums.l1 k2 x0_1 (x4_2 ++ y244) (wrap64 (x5_2 + 2))) else (none)) = some r := by first | (rw [hy244]; with_reducible exact H) | (have H2_ := (Option.bind_some _ _).symm.trans H; rw [hy244]; with_reducible exact H2_) | (have H2_ := (Option.bind_some _ _).symm.trans H; with_reducible exact H2_) | with_reducible exact H | (rw [hy244]; exact H) | exact H
                        have Ny244 := Aside0.mk hy244
                        clear hy244
                        by_cases c20 : x4_2.length + y244.length < 8796093022208
                        · rw [if_pos c20] at H
                          have LMc20 := Aside0.mk c20
                          clear c20
                          obtain ⟨y247, hy247⟩ : ∃ y_ : List (S45), y_ = (x4_2 ++ y244) := ⟨_, rfl⟩
                          replace H : (headroomlaw20_PowerSums.l1 k2 x0_1 y247 (wrap64 (x5_2 + 2))) = some r := by first | (rw [hy247]; with_reducible exact H) | (have H2_ := (Option.bind_some _ _).symm.trans H; rw [hy247]; with_reducible exact H2_) | (have H2_ := (Option.bind_some _ _).symm.trans H; with_reducible exact H2_) | with_reducible exact H | (rw [hy247]; exact H) | exact H
                          have Ny247 := Aside0.mk hy247
                          clear hy247
                          have H' := Aside0.mk H
                          clear H
                          try go_wp2
                          have n0_ := Aside0.mk (Kd.R_drew HO_0.out)
                          have n1_ := Aside0.mk (Kd.R_drew HO_4.out)
                          have n2_ := Aside0.mk (below_drew1 HB.out)
                          clear HO_0
                          clear HO_4
                          clear HB
                          have HO_0 := n0_
                          have HO_4 := n1_
                          have HB := n2_
                          clear n0_ n1_ n2_
                          have p240 : 0 ≤ (x5_2 : Int) := of_decide_eq_true (by first | (with_reducible assumption) | assumption)
                          have q240 : x5_2 < (x0_1.length : Int) := of_decide_eq_true (by first | (with_reducible assumption) | assumption)
                          obtain ⟨ad240, e240, hx240_0, hx240_1⟩ := at_T45 (Kd.R_reads' HO_0.out).2.2 x5_2 p240 q240
                          cases e240
                          replace p240 := eq_true p240
                          replace q240 := eq_true q240
                          have p241 : 0 ≤ ((ji17) : Int) := of_decide_eq_true (by first | (with_reducible assumption) | assumption)
                          have q241 : (ji17) < (x0_1.length : Int) := of_decide_eq_true (by first | (with_reducible assumption) | assumption)
                          obtain ⟨ad241, e241, hx241_0, hx241_1⟩ := at_T45 (Kd.R_reads' HO_0.out).2.2 (ji17) p241 q241
                          obtain rfl : ad240 = ad241 := (by injection e241)
                          replace p241 := eq_true p241
                          replace q241 := eq_true q241
                          refine start_ (n := 13) (S := fun w' => w'.cell? (ad240.add ((x5_2).toNat * 2)) = some (.int .i64 ((rd_T45 x0_1 x5_2).f0)) ∧ w'.cell? ⟨(ad240.add ((x5_2).toNat * 2)).block, (ad240.add ((x5_2).toNat * 2)).off + 1, none⟩ = some (.int .i64 ((rd_T45 x0_1 x5_2).f1)) ∧ w'.cell? (ad240.add (((ji17)).toNat * 2)) = some (.int .i64 ((rd_T45 x0_1 (ji17)).f0)) ∧ w'.cell? ⟨(ad240.add (((ji17)).toNat * 2)).block, (ad240.add (((ji17)).toNat * 2)).off + 1, none⟩ = some (.int .i64 ((rd_T45 x0_1 (ji17)).f1))) (ds := []) #[false, false, false, false, false, false, false, false, false, false, false, false, false] (by kernel_rfl) rfl rfl ⟨hx240_0, hx240_1, hx241_0, hx241_1⟩ (fun hHeld => ?_); refine with_tabW headroomlaw20_PowerSums.tab11 headroomlaw20_PowerSums.bits11 (fun HT_ HW_ => ?_)
                          generalize wr.drew = w21 at HO_0 HO_4 HB hx240_0 hx240_1 hx241_0 hx241_1 hHeld ⊢
                          refine pure_ (i := 0) (N := some 49) (v := ?_) (a' := ?_) #[true, false, false, false, false, false, false, false, false, false, false, false, false] rfl rfl (any_of HT_.out (by kernel_rfl)) (fun _ _ _ h => h) (Or.inl ⟨by rfl, ?_⟩) ?_ ?_
                          rotate_left
                          · intro w'
                            go_simp
                            with_reducible rfl
                          rotate_left
                          · simp only [Act.put, List.setIfInBounds_toArray, List.set_cons_zero, List.set_cons_succ, i64_w, i32_w]
                            rfl
                          refine pure_ (i := 1) (N := some 50) (v := ?_) (a' := ?_) #[true, true, false, false, false, false, false, false, false, false, false, false, false] rfl rfl (any_of HT_.out (by kernel_rfl)) (fun _ _ _ h => h) (Or.inl ⟨by rfl, ?_⟩) ?_ ?_
                          rotate_left
                          · intro w'
                            go_simp
                            with_reducible rfl
                          rotate_left
                          · simp only [Act.put, List.setIfInBounds_toArray, List.set_cons_zero, List.set_cons_succ, i64_w, i32_w]
                            rfl
                          refine pure_ (i := 2) (N := some 51) (v := ?_) (a' := ?_) #[true, true, true, false, false, false, false, false, false, false, false, false, false] rfl rfl (any_of HT_.out (by kernel_rfl)) (fun _ _ _ h => h) (Or.inl ⟨by rfl, ?_⟩) ?_ ?_
                          rotate_left
                          · intro w'
                            go_simp
                            with_reducible rfl
                          rotate_left
                          · simp only [Act.put, List.setIfInBounds_toArray, List.set_cons_zero, List.set_cons_succ, i64_w, i32_w]
                            rfl
                          refine pure_ (i := 4) (N := some 53) (v := ?_) (a' := ?_) #[true, true, true, false, true, false, false, false, false, false, false, false, false] rfl rfl (any_of HT_.out (by kernel_rfl)) (fun _ _ _ h => h) (Or.inl ⟨by rfl, ?_⟩) ?_ ?_
                          rotate_left
                          · intro w'
                            go_simp
                            with_reducible rfl
                          rotate_left
                          · simp only [Act.put, List.setIfInBounds_toArray, List.set_cons_zero, List.set_cons_succ, i64_w, i32_w]
                            rfl
                          refine pure_ (i := 5) (N := some 54) (v := ?_) (a' := ?_) #[true, true, true, false, true, true, false, false, false, false, false, false, false] rfl rfl (any_of HT_.out (by kernel_rfl)) (fun _ _ _ h => h) (Or.inl ⟨by rfl, ?_⟩) ?_ ?_
                          rotate_left
                          · intro w'
                            go_simp
                            with_reducible rfl
                          rotate_left
                          · simp only [Act.put, List.setIfInBounds_toArray, List.set_cons_zero, List.set_cons_succ, i64_w, i32_w]
                            rfl
                          refine pure_ (i := 6) (N := some 55) (v := ?_) (a' := ?_) #[true, true, true, false, true, true, true, false, false, false, false, false, false] rfl rfl (any_of HT_.out (by kernel_rfl)) (fun _ _ _ h => h) (Or.inl ⟨by rfl, ?_⟩) ?_ ?_
                          rotate_left
                          · intro w'
                            go_simp
                            with_reducible rfl
                          rotate_left
                          · simp only [Act.put, List.setIfInBounds_toArray, List.set_cons_zero, List.set_cons_succ, i64_w, i32_w]
                            rfl
                          refine pure_ (i := 7) (N := some 56) (v := ?_) (a' := ?_) #[true, true, true, false, true, true, true, true, false, false, false, false, false] rfl rfl (any_of HT_.out (by kernel_rfl)) (fun _ _ _ h => h) (Or.inl ⟨by rfl, ?_⟩) ?_ ?_
                          rotate_left
                          · intro w'
                            go_simp
                            with_reducible rfl
                          rotate_left
                          · simp only [Act.put, List.setIfInBounds_toArray, List.set_cons_zero, List.set_cons_succ, i64_w, i32_w]
                            rfl
                          refine take_ (i := 3) (N := some 52) (v := ?_) (a' := ?_) #[true, true, true, true, true, true, true, true, false, false, false, false, false] rfl rfl (take_ofW HT_.out HW_.out (by kernel_rfl)) (fun _ _ _ h => h) (Or.inl ⟨by rfl, ?_⟩) hHeld ?_ ?_
                          rotate_left
                          · rintro w' ⟨s0, s1, s2, s3⟩
                            go_simp
                            with_reducible rfl
                          rotate_left
                          · simp only [Act.put, List.setIfInBounds_toArray, List.set_cons_zero, List.set_cons_succ, i64_w, i32_w]
                            rfl
                          refine take_ (i := 8) (N := some 57) (v := ?_) (a' := ?_) #[true, true, true, true, true, true, true, true, true, false, false, false, false] rfl rfl (take_ofW HT_.out HW_.out (by kernel_rfl)) (fun _ _ _ h => h) (Or.inl ⟨by rfl, ?_⟩) hHeld ?_ ?_
                          rotate_left
                          · rintro w' ⟨s0, s1, s2, s3⟩
                            go_simp
                            with_reducible rfl
                          rotate_left
                          · simp only [Act.put, List.setIfInBounds_toArray, List.set_cons_zero, List.set_cons_succ, i64_w, i32_w]
                            rfl
                          refine join_ (σ := Nat × Nat) 2 #[true, true, true, true, true, true, true, true, true, true, true, false, false] (fun s_ => [(6, .pointer (some ⟨s_.1, 0, none⟩)), (7, .pointer (some ⟨s_.2, 0, none⟩))]) (fun s_ w' => (w'.cell? (ad240.add ((x5_2).toNat * 2)) = some (.int .i64 ((rd_T45 x0_1 x5_2).f0)) ∧ w'.cell? ⟨(ad240.add ((x5_2).toNat * 2)).block, (ad240.add ((x5_2).toNat * 2)).off + 1, none⟩ = some (.int .i64 ((rd_T45 x0_1 x5_2).f1)) ∧ w'.cell? (ad240.add (((ji17)).toNat * 2)) = some (.int .i64 ((rd_T45 x0_1 (ji17)).f0)) ∧ w'.cell? ⟨(ad240.add (((ji17)).toNat * 2)).block, (ad240.add (((ji17)).toNat * 2)).off + 1, none⟩ = some (.int .i64 ((rd_T45 x0_1 (ji17)).f1))) ∧ (Kd.R k45 45 w' w.heap.size (fun k_ => some k_ ≠ (u4 : Value).ownBlock ∧ k_ ≠ s_.1 ∧ k_ ≠ s_.2) (.slice (some ad240) x0_1.length co8) x0_1) ∧ (Kd.R k45 45 w' w.heap.size (fun k_ => some k_ ≠ (.slice (some ad240) x0_1.length co8 : Value).ownBlock ∧ k_ ≠ s_.1 ∧ k_ ≠ s_.2) u4 x4_2) ∧ (w'.heap[s_.1]? = some (.cells #[.int .i64 0, .int .i64 0] 45 (0, 0))) ∧ (w'.heap[s_.2]? = some (.cells #[.int .i64 0, .int .i64 0] 45 (0, 0))) ∧ (w.heap.size ≤ s_.1) ∧ (w.heap.size ≤ s_.1) ∧ (s_.2 ≠ s_.1) ∧ (s_.1 ≠ s_.2) ∧ (w.heap.size ≤ s_.2) ∧ (w.heap.size ≤ s_.2) ∧ (Below w.heap.size w w')) ?_ ?_
                          rotate_left
                          · intro hCont
                            refine two_ (i := 9) (j := 10) (Ni := some 6) (Nj := some 7) #[true, true, true, true, true, true, true, true, true, true, false, false, false] #[true, true, true, true, true, true, true, true, true, false, true, false, false] rfl rfl rfl rfl (two_of HT_.out (by kernel_rfl)) (by decide) (by decide) (fun K hK => ?_) (fun K hK => ?_)
                            · skip
                              refine box_step ?hg (N := 6) ?hd (cs := #[.int .i64 0, .int .i64 0]) (t := 45) ?hr ?_; (case hd => rfl); (case hg => rfl); (case hr => first | (go_simp; done) | (go_simp; rfl))
                              intro gb242 hg w22 hbox hb
                              have HS0_ := (hb.cell (World.block_lt_of_cell? _ _ (hHeld.1))).trans (hHeld.1)
                              have HS1_ := (hb.cell (World.block_lt_of_cell? _ _ (hHeld.2.1))).trans (hHeld.2.1)
                              have HS2_ := (hb.cell (World.block_lt_of_cell? _ _ (hHeld.2.2.1))).trans (hHeld.2.2.1)
                              have HS3_ := (hb.cell (World.block_lt_of_cell? _ _ (hHeld.2.2.2))).trans (hHeld.2.2.2)
                              have n0_ := Aside0.mk (Kd.R_below (Kd.R_elderB (by (with_reducible repeat (first | apply Kd.R_alloc | apply Kd.R_drewN | apply Kd.R_drew)); exact HO_0.out) gb242 (Nat.le_of_eq hg.symm)) hb)
                              have n1_ := Aside0.mk (Kd.R_below (Kd.R_elderB (by (with_reducible repeat (first | apply Kd.R_alloc | apply Kd.R_drewN | apply Kd.R_drew)); exact HO_4.out) gb242 (Nat.le_of_eq hg.symm)) hb)
                              have n2_ := Aside0.mk (below_step (by repeat (first | (with_reducible first | exact HB.out | apply below_alloc | apply pw_below_drewN | apply below_drew1) | exact HB.out)) hb)
                              have n3_ := Aside0.mk (hbox)
                              have n4_ := Aside0.mk ((by rw [hg]; exact (below_size (by repeat (first | (with_reducible first | exact HB.out | apply below_alloc | apply pw_below_drewN | apply below_drew1) | exact HB.out))) : w.heap.size ≤ gb242))
                              have n5_ := Aside0.mk ((by rw [hg]; exact (below_size (by repeat (first | (with_reducible first | exact HB.out | apply below_alloc | apply pw_below_drewN | apply below_drew1) | exact HB.out))) : w.heap.size ≤ gb242))
                              clear HO_0
                              clear HO_4
                              clear HB
                              have HO_0 := n0_
                              have HO_4 := n1_
                              have HB := n2_
                              have BK242 := n3_
                              have GW242 := n4_
                              have GE242 := n5_
                              clear n0_ n1_ n2_ n3_ n4_ n5_
                              clear hb hbox hg
                              refine hK.out _ _ ⟨HS0_, HS1_, HS2_, HS3_⟩ (fun hHeld => ?_)
                              clear hK K
                              refine norm_ (a' := ?_) ?_ ?_
                              rotate_left
                              · show Act.put _ (some 6) _ = _
                                simp only [Act.put, List.setIfInBounds_toArray, List.set_cons_zero, List.set_cons_succ, i64_w, i32_w]
                                rfl
                              refine one_ (i := 10) (N := some 7) #[true, true, true, true, true, true, true, true, true, true, true, false, false] rfl rfl (one_of HT_.out (by kernel_rfl)) (by decide) (fun K hK => ?_)
                              refine box_step ?hg (N := 7) ?hd (cs := #[.int .i64 0, .int .i64 0]) (t := 45) ?hr ?_; (case hd => rfl); (case hg => rfl); (case hr => first | (go_simp; done) | (go_simp; rfl))
                              intro gb243 hg w23 hbox hb
                              have HS0_ := (hb.cell (World.block_lt_of_cell? _ _ (hHeld.1))).trans (hHeld.1)
                              have HS1_ := (hb.cell (World.block_lt_of_cell? _ _ (hHeld.2.1))).trans (hHeld.2.1)
                              have HS2_ := (hb.cell (World.block_lt_of_cell? _ _ (hHeld.2.2.1))).trans (hHeld.2.2.1)
                              have HS3_ := (hb.cell (World.block_lt_of_cell? _ _ (hHeld.2.2.2))).trans (hHeld.2.2.2)
                              have n0_ := Aside0.mk (Kd.R_below (Kd.R_elderB (by (with_reducible repeat (first | apply Kd.R_alloc | apply Kd.R_drewN | apply Kd.R_drew)); exact HO_0.out) gb243 (Nat.le_of_eq hg.symm)) hb)
                              have n1_ := Aside0.mk (Kd.R_below (Kd.R_elderB (by (with_reducible repeat (first | apply Kd.R_alloc | apply Kd.R_drewN | apply Kd.R_drew)); exact HO_4.out) gb243 (Nat.le_of_eq hg.symm)) hb)
                              have n2_ := Aside0.mk (blk_below (g := gb242) (o := .cells #[.int .i64 0, .int .i64 0] 45 (0, 0)) (by (with_reducible repeat (first | refine blk_drewN ?_ _ | refine blk_drew ?_ | refine blk_alloc ?_ _)); exact BK242.out) hb)
                              have n3_ := Aside0.mk (below_step (by repeat (first | (with_reducible first | exact HB.out | apply below_alloc | apply pw_below_drewN | apply below_drew1 | refine below_set ?_ GE242.out) | exact HB.out)) hb)
                              have n4_ := Aside0.mk (hbox)
                              have n5_ := Aside0.mk ((by rw [hg]; exact (below_size (by repeat (first | (with_reducible first | exact HB.out | apply below_alloc | apply pw_below_drewN | apply below_drew1 | refine below_set ?_ GE242.out) | exact HB.out))) : w.heap.size ≤ gb243))
                              have n6_ := Aside0.mk ((by rw [hg]; exact (below_size (by repeat (first | (with_reducible first | exact HB.out | apply below_alloc | apply pw_below_drewN | apply below_drew1 | refine below_set ?_ GE242.out) | exact HB.out))) : w.heap.size ≤ gb243))
                              have n7_ := Aside0.mk ((by rw [hg]; exact Nat.ne_of_lt (blk_lt (g := gb242) (o := .cells #[.int .i64 0, .int .i64 0] 45 (0, 0)) (by (with_reducible repeat (first | refine blk_drewN ?_ _ | refine blk_drew ?_ | refine blk_alloc ?_ _)); exact BK242.out)) : gb242 ≠ gb243))
                              have n8_ := Aside0.mk ((by rw [hg]; exact Nat.ne_of_gt (blk_lt (g := gb242) (o := .cells #[.int .i64 0, .int .i64 0] 45 (0, 0)) (by (with_reducible repeat (first | refine blk_drewN ?_ _ | refine blk_drew ?_ | refine blk_alloc ?_ _)); exact BK242.out)) : gb243 ≠ gb242))
                              clear HO_0
                              clear HO_4
                              clear BK242
                              clear HB
                              have HO_0 := n0_
                              have HO_4 := n1_
                              have BK242 := n2_
                              have HB := n3_
                              have BK243 := n4_
                              have GW243 := n5_
                              have GE243 := n6_
                              have NB242_243 := n7_
                              have NB243_242 := n8_
                              clear n0_ n1_ n2_ n3_ n4_ n5_ n6_ n7_ n8_
                              clear hb hbox hg
                              refine hK.out _ _ ⟨HS0_, HS1_, HS2_, HS3_⟩ (fun hHeld => ?_)
                              clear hK K
                              refine norm_ (a' := ?_) ?_ ?_
                              rotate_left
                              · show Act.put _ (some 7) _ = _
                                simp only [Act.put, List.setIfInBounds_toArray, List.set_cons_zero, List.set_cons_succ, i64_w, i32_w]
                                rfl
                              exact norm_ (by simp only [putAll, Act.put, List.setIfInBounds_toArray, List.set_cons_zero, List.set_cons_succ]) (hCont (gb242, gb243) _ ⟨hHeld, (by (with_reducible repeat (first | apply Kd.R_alloc | apply Kd.R_drewN | apply Kd.R_drew)); exact Kd.R_mono HO_0.out (fun _ hk => ⟨hk.1.1, ⟨hk.1.2, hk.2⟩⟩)), (by (with_reducible repeat (first | apply Kd.R_alloc | apply Kd.R_drewN | apply Kd.R_drew)); exact Kd.R_mono HO_4.out (fun _ hk => ⟨hk.1.1, ⟨hk.1.2, hk.2⟩⟩)), (by (with_reducible repeat (first | refine blk_drewN ?_ _ | refine blk_drew ?_ | refine blk_alloc ?_ _)); exact BK242.out), (by (with_reducible repeat (first | refine blk_drewN ?_ _ | refine blk_drew ?_ | refine blk_alloc ?_ _)); exact BK243.out), GW242.out, GE242.out, NB243_242.out, NB242_243.out, GW243.out, GE243.out, (by repeat (first | (with_reducible first | exact HB.out | apply below_alloc | apply pw_below_drewN | apply below_drew1 | refine below_set ?_ GE242.out | refine below_set ?_ GE243.out) | exact HB.out))⟩)
                            · skip
                              refine box_step ?hg (N := 7) ?hd (cs := #[.int .i64 0, .int .i64 0]) (t := 45) ?hr ?_; (case hd => rfl); (case hg => rfl); (case hr => first | (go_simp; done) | (go_simp; rfl))
                              intro gb243 hg w22 hbox hb
                              have HS0_ := (hb.cell (World.block_lt_of_cell? _ _ (hHeld.1))).trans (hHeld.1)
                              have HS1_ := (hb.cell (World.block_lt_of_cell? _ _ (hHeld.2.1))).trans (hHeld.2.1)
                              have HS2_ := (hb.cell (World.block_lt_of_cell? _ _ (hHeld.2.2.1))).trans (hHeld.2.2.1)
                              have HS3_ := (hb.cell (World.block_lt_of_cell? _ _ (hHeld.2.2.2))).trans (hHeld.2.2.2)
                              have n0_ := Aside0.mk (Kd.R_below (Kd.R_elderB (by (with_reducible repeat (first | apply Kd.R_alloc | apply Kd.R_drewN | apply Kd.R_drew)); exact HO_0.out) gb243 (Nat.le_of_eq hg.symm)) hb)
                              have n1_ := Aside0.mk (Kd.R_below (Kd.R_elderB (by (with_reducible repeat (first | apply Kd.R_alloc | apply Kd.R_drewN | apply Kd.R_drew)); exact HO_4.out) gb243 (Nat.le_of_eq hg.symm)) hb)
                              have n2_ := Aside0.mk (below_step (by repeat (first | (with_reducible first | exact HB.out | apply below_alloc | apply pw_below_drewN | apply below_drew1) | exact HB.out)) hb)
                              have n3_ := Aside0.mk (hbox)
                              have n4_ := Aside0.mk ((by rw [hg]; exact (below_size (by repeat (first | (with_reducible first | exact HB.out | apply below_alloc | apply pw_below_drewN | apply below_drew1) | exact HB.out))) : w.heap.size ≤ gb243))
                              have n5_ := Aside0.mk ((by rw [hg]; exact (below_size (by repeat (first | (with_reducible first | exact HB.out | apply below_alloc | apply pw_below_drewN | apply below_drew1) | exact HB.out))) : w.heap.size ≤ gb243))
                              clear HO_0
                              clear HO_4
                              clear HB
                              have HO_0 := n0_
                              have HO_4 := n1_
                              have HB := n2_
                              have BK243 := n3_
                              have GW243 := n4_
                              have GE243 := n5_
                              clear n0_ n1_ n2_ n3_ n4_ n5_
                              clear hb hbox hg
                              refine hK.out _ _ ⟨HS0_, HS1_, HS2_, HS3_⟩ (fun hHeld => ?_)
                              clear hK K
                              refine norm_ (a' := ?_) ?_ ?_
                              rotate_left
                              · show Act.put _ (some 7) _ = _
                                simp only [Act.put, List.setIfInBounds_toArray, List.set_cons_zero, List.set_cons_succ, i64_w, i32_w]
                                rfl
                              refine one_ (i := 9) (N := some 6) #[true, true, true, true, true, true, true, true, true, true, true, false, false] rfl rfl (one_of HT_.out (by kernel_rfl)) (by decide) (fun K hK => ?_)
                              refine box_step ?hg (N := 6) ?hd (cs := #[.int .i64 0, .int .i64 0]) (t := 45) ?hr ?_; (case hd => rfl); (case hg => rfl); (case hr => first | (go_simp; done) | (go_simp; rfl))
                              intro gb242 hg w23 hbox hb
                              have HS0_ := (hb.cell (World.block_lt_of_cell? _ _ (hHeld.1))).trans (hHeld.1)
                              have HS1_ := (hb.cell (World.block_lt_of_cell? _ _ (hHeld.2.1))).trans (hHeld.2.1)
                              have HS2_ := (hb.cell (World.block_lt_of_cell? _ _ (hHeld.2.2.1))).trans (hHeld.2.2.1)
                              have HS3_ := (hb.cell (World.block_lt_of_cell? _ _ (hHeld.2.2.2))).trans (hHeld.2.2.2)
                              have n0_ := Aside0.mk (Kd.R_below (Kd.R_elderB (by (with_reducible repeat (first | apply Kd.R_alloc | apply Kd.R_drewN | apply Kd.R_drew)); exact HO_0.out) gb242 (Nat.le_of_eq hg.symm)) hb)
                              have n1_ := Aside0.mk (Kd.R_below (Kd.R_elderB (by (with_reducible repeat (first | apply Kd.R_alloc | apply Kd.R_drewN | apply Kd.R_drew)); exact HO_4.out) gb242 (Nat.le_of_eq hg.symm)) hb)
                              have n2_ := Aside0.mk (blk_below (g := gb243) (o := .cells #[.int .i64 0, .int .i64 0] 45 (0, 0)) (by (with_reducible repeat (first | refine blk_drewN ?_ _ | refine blk_drew ?_ | refine blk_alloc ?_ _)); exact BK243.out) hb)
                              have n3_ := Aside0.mk (below_step (by repeat (first | (with_reducible first | exact HB.out | apply below_alloc | apply pw_below_drewN | apply below_drew1 | refine below_set ?_ GE243.out) | exact HB.out)) hb)
                              have n4_ := Aside0.mk (hbox)
                              have n5_ := Aside0.mk ((by rw [hg]; exact (below_size (by repeat (first | (with_reducible first | exact HB.out | apply below_alloc | apply pw_below_drewN | apply below_drew1 | refine below_set ?_ GE243.out) | exact HB.out))) : w.heap.size ≤ gb242))
                              have n6_ := Aside0.mk ((by rw [hg]; exact (below_size (by repeat (first | (with_reducible first | exact HB.out | apply below_alloc | apply pw_below_drewN | apply below_drew1 | refine below_set ?_ GE243.out) | exact HB.out))) : w.heap.size ≤ gb242))
                              have n7_ := Aside0.mk ((by rw [hg]; exact Nat.ne_of_lt (blk_lt (g := gb243) (o := .cells #[.int .i64 0, .int .i64 0] 45 (0, 0)) (by (with_reducible repeat (first | refine blk_drewN ?_ _ | refine blk_drew ?_ | refine blk_alloc ?_ _)); exact BK243.out)) : gb243 ≠ gb242))
                              have n8_ := Aside0.mk ((by rw [hg]; exact Nat.ne_of_gt (blk_lt (g := gb243) (o := .cells #[.int .i64 0, .int .i64 0] 45 (0, 0)) (by (with_reducible repeat (first | refine blk_drewN ?_ _ | refine blk_drew ?_ | refine blk_alloc ?_ _)); exact BK243.out)) : gb242 ≠ gb243))
                              clear HO_0
                              clear HO_4
                              clear BK243
                              clear HB
                              have HO_0 := n0_
                              have HO_4 := n1_
                              have BK243 := n2_
                              have HB := n3_
                              have BK242 := n4_
                              have GW242 := n5_
                              have GE242 := n6_
                              have NB243_242 := n7_
                              have NB242_243 := n8_
                              clear n0_ n1_ n2_ n3_ n4_ n5_ n6_ n7_ n8_
                              clear hb hbox hg
                              refine hK.out _ _ ⟨HS0_, HS1_, HS2_, HS3_⟩ (fun hHeld => ?_)
                              clear hK K
                              refine norm_ (a' := ?_) ?_ ?_
                              rotate_left
                              · show Act.put _ (some 6) _ = _
                                simp only [Act.put, List.setIfInBounds_toArray, List.set_cons_zero, List.set_cons_succ, i64_w, i32_w]
                                rfl
                              exact norm_ (by simp only [putAll, Act.put, List.setIfInBounds_toArray, List.set_cons_zero, List.set_cons_succ]) (hCont (gb242, gb243) _ ⟨hHeld, (by (with_reducible repeat (first | apply Kd.R_alloc | apply Kd.R_drewN | apply Kd.R_drew)); exact Kd.R_mono HO_0.out (fun _ hk => ⟨hk.1.1, ⟨hk.2, hk.1.2⟩⟩)), (by (with_reducible repeat (first | apply Kd.R_alloc | apply Kd.R_drewN | apply Kd.R_drew)); exact Kd.R_mono HO_4.out (fun _ hk => ⟨hk.1.1, ⟨hk.2, hk.1.2⟩⟩)), (by (with_reducible repeat (first | refine blk_drewN ?_ _ | refine blk_drew ?_ | refine blk_alloc ?_ _)); exact BK242.out), (by (with_reducible repeat (first | refine blk_drewN ?_ _ | refine blk_drew ?_ | refine blk_alloc ?_ _)); exact BK243.out), GW242.out, GE242.out, NB243_242.out, NB242_243.out, GW243.out, GE243.out, (by repeat (first | (with_reducible first | exact HB.out | apply below_alloc | apply pw_below_drewN | apply below_drew1 | refine below_set ?_ GE243.out | refine below_set ?_ GE242.out) | exact HB.out))⟩)
                          rintro ⟨gb242, gb243⟩ w24 ⟨hS_, h0_, h1_, h2_, h3_, h4_, h5_, h6_, h7_, h8_, h9_, h10_⟩
                          have n0_ : Aside0 (Kd.R k45 45 w24 w.heap.size (fun k_ => some k_ ≠ (u4 : Value).ownBlock ∧ k_ ≠ gb242 ∧ k_ ≠ gb243) (.slice (some ad240) x0_1.length co8) x0_1) := ⟨h0_⟩
                          have n1_ : Aside0 (Kd.R k45 45 w24 w.heap.size (fun k_ => some k_ ≠ (.slice (some ad240) x0_1.length co8 : Value).ownBlock ∧ k_ ≠ gb242 ∧ k_ ≠ gb243) u4 x4_2) := ⟨h1_⟩
                          have n2_ : Aside0 (w24.heap[gb242]? = some (.cells #[.int .i64 0, .int .i64 0] 45 (0, 0))) := ⟨h2_⟩
                          have n3_ : Aside0 (w24.heap[gb243]? = some (.cells #[.int .i64 0, .int .i64 0] 45 (0, 0))) := ⟨h3_⟩
                          have n4_ : Aside0 (w.heap.size ≤ gb242) := ⟨h4_⟩
                          have n5_ : Aside0 (w.heap.size ≤ gb242) := ⟨h5_⟩
                          have n6_ : Aside0 (gb243 ≠ gb242) := ⟨h6_⟩
                          have n7_ : Aside0 (gb242 ≠ gb243) := ⟨h7_⟩
                          have n8_ : Aside0 (w.heap.size ≤ gb243) := ⟨h8_⟩
                          have n9_ : Aside0 (w.heap.size ≤ gb243) := ⟨h9_⟩
                          have n10_ : Aside0 (Below w.heap.size w w24) := ⟨h10_⟩
                          clear HO_0
                          clear HO_4
                          clear HB
                          clear h0_ h1_ h2_ h3_ h4_ h5_ h6_ h7_ h8_ h9_ h10_
                          have HO_0 := n0_
                          have HO_4 := n1_
                          have BK242 := n2_
                          have BK243 := n3_
                          have GW242 := n4_
                          have GE242 := n5_
                          have NB243_242 := n6_
                          have NB242_243 := n7_
                          have GW243 := n8_
                          have GE243 := n9_
                          have HB := n10_
                          clear n0_ n1_ n2_ n3_ n4_ n5_ n6_ n7_ n8_ n9_ n10_
                          have hHeld : w24.cell? (ad240.add ((x5_2).toNat * 2)) = some (.int .i64 ((rd_T45 x0_1 x5_2).f0)) ∧ w24.cell? ⟨(ad240.add ((x5_2).toNat * 2)).block, (ad240.add ((x5_2).toNat * 2)).off + 1, none⟩ = some (.int .i64 ((rd_T45 x0_1 x5_2).f1)) ∧ w24.cell? (ad240.add (((ji17)).toNat * 2)) = some (.int .i64 ((rd_T45 x0_1 (ji17)).f0)) ∧ w24.cell? ⟨(ad240.add (((ji17)).toNat * 2)).block, (ad240.add (((ji17)).toNat * 2)).off + 1, none⟩ = some (.int .i64 ((rd_T45 x0_1 (ji17)).f1)) := hS_
                          refine norm_ (a' := ?_) ?_ ?_
                          rotate_left
                          · simp only [putAll, Act.put, List.setIfInBounds_toArray, List.set_cons_zero, List.set_cons_succ]
                            rfl
                          refine one_ (i := 11) (N := none) #[true, true, true, true, true, true, true, true, true, true, true, true, false] rfl rfl (one_of HT_.out (by kernel_rfl)) (by decide) (fun K hK => ?_)
                          have hs25 : w24.cell? ⟨gb242, 0, none⟩ = some (.int .i64 0) := (blk_cell BK242.out 0).trans rfl
                          have hfs25 := blk_frozen BK242.out 0
                          have hns25_1 := NB243_242.out
                          have hms25_1 := NB242_243.out
                          have hs26 : w24.cell? ⟨gb242, 1, none⟩ = some (.int .i64 0) := (blk_cell BK242.out 1).trans rfl
                          have hfs26 := blk_frozen BK242.out 1
                          have hns26_1 := NB243_242.out
                          have hms26_1 := NB242_243.out
                          refine skip_ (w1 := ?_) (by rfl) rfl ?_ ?_
                          rotate_left
                          · go_simp
                            rfl
                          refine hK.out _ _ ⟨((cell_far (p := ⟨gb242, _, none⟩) (by first | exact Kd.own_blk (Kd.R_away HO_0.out (fun _ hk => hk.2.1)) | (rw [add_block]; exact Kd.own_blk (Kd.R_away HO_0.out (fun _ hk => hk.2.1))) | (show (Addr.add _ _).block ≠ _; rw [add_block]; exact Kd.own_blk (Kd.R_away HO_0.out (fun _ hk => hk.2.1))) | (dsimp only; exact Kd.own_blk (Kd.R_away HO_0.out (fun _ hk => hk.2.1)))) _).trans (((cell_far (p := ⟨gb242, _, none⟩) (by first | exact Kd.own_blk (Kd.R_away HO_0.out (fun _ hk => hk.2.1)) | (rw [add_block]; exact Kd.own_blk (Kd.R_away HO_0.out (fun _ hk => hk.2.1))) | (show (Addr.add _ _).block ≠ _; rw [add_block]; exact Kd.own_blk (Kd.R_away HO_0.out (fun _ hk => hk.2.1))) | (dsimp only; exact Kd.own_blk (Kd.R_away HO_0.out (fun _ hk => hk.2.1)))) _).trans (hHeld.1)))), ((cell_far (p := ⟨gb242, _, none⟩) (by first | exact Kd.own_blk (Kd.R_away HO_0.out (fun _ hk => hk.2.1)) | (rw [add_block]; exact Kd.own_blk (Kd.R_away HO_0.out (fun _ hk => hk.2.1))) | (show (Addr.add _ _).block ≠ _; rw [add_block]; exact Kd.own_blk (Kd.R_away HO_0.out (fun _ hk => hk.2.1))) | (dsimp only; exact Kd.own_blk (Kd.R_away HO_0.out (fun _ hk => hk.2.1)))) _).trans (((cell_far (p := ⟨gb242, _, none⟩) (by first | exact Kd.own_blk (Kd.R_away HO_0.out (fun _ hk => hk.2.1)) | (rw [add_block]; exact Kd.own_blk (Kd.R_away HO_0.out (fun _ hk => hk.2.1))) | (show (Addr.add _ _).block ≠ _; rw [add_block]; exact Kd.own_blk (Kd.R_away HO_0.out (fun _ hk => hk.2.1))) | (dsimp only; exact Kd.own_blk (Kd.R_away HO_0.out (fun _ hk => hk.2.1)))) _).trans (hHeld.2.1)))), ((cell_far (p := ⟨gb242, _, none⟩) (by first | exact Kd.own_blk (Kd.R_away HO_0.out (fun _ hk => hk.2.1)) | (rw [add_block]; exact Kd.own_blk (Kd.R_away HO_0.out (fun _ hk => hk.2.1))) | (show (Addr.add _ _).block ≠ _; rw [add_block]; exact Kd.own_blk (Kd.R_away HO_0.out (fun _ hk => hk.2.1))) | (dsimp only; exact Kd.own_blk (Kd.R_away HO_0.out (fun _ hk => hk.2.1)))) _).trans (((cell_far (p := ⟨gb242, _, none⟩) (by first | exact Kd.own_blk (Kd.R_away HO_0.out (fun _ hk => hk.2.1)) | (rw [add_block]; exact Kd.own_blk (Kd.R_away HO_0.out (fun _ hk => hk.2.1))) | (show (Addr.add _ _).block ≠ _; rw [add_block]; exact Kd.own_blk (Kd.R_away HO_0.out (fun _ hk => hk.2.1))) | (dsimp only; exact Kd.own_blk (Kd.R_away HO_0.out (fun _ hk => hk.2.1)))) _).trans (hHeld.2.2.1)))), ((cell_far (p := ⟨gb242, _, none⟩) (by first | exact Kd.own_blk (Kd.R_away HO_0.out (fun _ hk => hk.2.1)) | (rw [add_block]; exact Kd.own_blk (Kd.R_away HO_0.out (fun _ hk => hk.2.1))) | (show (Addr.add _ _).block ≠ _; rw [add_block]; exact Kd.own_blk (Kd.R_away HO_0.out (fun _ hk => hk.2.1))) | (dsimp only; exact Kd.own_blk (Kd.R_away HO_0.out (fun _ hk => hk.2.1)))) _).trans (((cell_far (p := ⟨gb242, _, none⟩) (by first | exact Kd.own_blk (Kd.R_away HO_0.out (fun _ hk => hk.2.1)) | (rw [add_block]; exact Kd.own_blk (Kd.R_away HO_0.out (fun _ hk => hk.2.1))) | (show (Addr.add _ _).block ≠ _; rw [add_block]; exact Kd.own_blk (Kd.R_away HO_0.out (fun _ hk => hk.2.1))) | (dsimp only; exact Kd.own_blk (Kd.R_away HO_0.out (fun _ hk => hk.2.1)))) _).trans (hHeld.2.2.2))))⟩ (fun hHeld => ?_)
                          clear hK K
                          refine one_ (i := 12) (N := none) #[true, true, true, true, true, true, true, true, true, true, true, true, true] rfl rfl (one_of HT_.out (by kernel_rfl)) (by decide) (fun K hK => ?_)
                          have hs27 : w24.cell? ⟨gb243, 0, none⟩ = some (.int .i64 0) := (blk_cell BK243.out 0).trans rfl
                          have hfs27 := blk_frozen BK243.out 0
                          have hns27_0 := NB242_243.out
                          have hms27_0 := NB243_242.out
                          have hs28 : w24.cell? ⟨gb243, 1, none⟩ = some (.int .i64 0) := (blk_cell BK243.out 1).trans rfl
                          have hfs28 := blk_frozen BK243.out 1
                          have hns28_0 := NB242_243.out
                          have hms28_0 := NB243_242.out
                          refine skip_ (w1 := ?_) (by rfl) rfl ?_ ?_
                          rotate_left
                          · go_simp
                            rfl
                          refine hK.out _ _ ⟨((cell_far (p := ⟨gb243, _, none⟩) (by first | exact Kd.own_blk (Kd.R_away HO_0.out (fun _ hk => hk.2.2)) | (rw [add_block]; exact Kd.own_blk (Kd.R_away HO_0.out (fun _ hk => hk.2.2))) | (show (Addr.add _ _).block ≠ _; rw [add_block]; exact Kd.own_blk (Kd.R_away HO_0.out (fun _ hk => hk.2.2))) | (dsimp only; exact Kd.own_blk (Kd.R_away HO_0.out (fun _ hk => hk.2.2)))) _).trans (((cell_far (p := ⟨gb243, _, none⟩) (by first | exact Kd.own_blk (Kd.R_away HO_0.out (fun _ hk => hk.2.2)) | (rw [add_block]; exact Kd.own_blk (Kd.R_away HO_0.out (fun _ hk => hk.2.2))) | (show (Addr.add _ _).block ≠ _; rw [add_block]; exact Kd.own_blk (Kd.R_away HO_0.out (fun _ hk => hk.2.2))) | (dsimp only; exact Kd.own_blk (Kd.R_away HO_0.out (fun _ hk => hk.2.2)))) _).trans (hHeld.1)))), ((cell_far (p := ⟨gb243, _, none⟩) (by first | exact Kd.own_blk (Kd.R_away HO_0.out (fun _ hk => hk.2.2)) | (rw [add_block]; exact Kd.own_blk (Kd.R_away HO_0.out (fun _ hk => hk.2.2))) | (show (Addr.add _ _).block ≠ _; rw [add_block]; exact Kd.own_blk (Kd.R_away HO_0.out (fun _ hk => hk.2.2))) | (dsimp only; exact Kd.own_blk (Kd.R_away HO_0.out (fun _ hk => hk.2.2)))) _).trans (((cell_far (p := ⟨gb243, _, none⟩) (by first | exact Kd.own_blk (Kd.R_away HO_0.out (fun _ hk => hk.2.2)) | (rw [add_block]; exact Kd.own_blk (Kd.R_away HO_0.out (fun _ hk => hk.2.2))) | (show (Addr.add _ _).block ≠ _; rw [add_block]; exact Kd.own_blk (Kd.R_away HO_0.out (fun _ hk => hk.2.2))) | (dsimp only; exact Kd.own_blk (Kd.R_away HO_0.out (fun _ hk => hk.2.2)))) _).trans (hHeld.2.1)))), ((cell_far (p := ⟨gb243, _, none⟩) (by first | exact Kd.own_blk (Kd.R_away HO_0.out (fun _ hk => hk.2.2)) | (rw [add_block]; exact Kd.own_blk (Kd.R_away HO_0.out (fun _ hk => hk.2.2))) | (show (Addr.add _ _).block ≠ _; rw [add_block]; exact Kd.own_blk (Kd.R_away HO_0.out (fun _ hk => hk.2.2))) | (dsimp only; exact Kd.own_blk (Kd.R_away HO_0.out (fun _ hk => hk.2.2)))) _).trans (((cell_far (p := ⟨gb243, _, none⟩) (by first | exact Kd.own_blk (Kd.R_away HO_0.out (fun _ hk => hk.2.2)) | (rw [add_block]; exact Kd.own_blk (Kd.R_away HO_0.out (fun _ hk => hk.2.2))) | (show (Addr.add _ _).block ≠ _; rw [add_block]; exact Kd.own_blk (Kd.R_away HO_0.out (fun _ hk => hk.2.2))) | (dsimp only; exact Kd.own_blk (Kd.R_away HO_0.out (fun _ hk => hk.2.2)))) _).trans (hHeld.2.2.1)))), ((cell_far (p := ⟨gb243, _, none⟩) (by first | exact Kd.own_blk (Kd.R_away HO_0.out (fun _ hk => hk.2.2)) | (rw [add_block]; exact Kd.own_blk (Kd.R_away HO_0.out (fun _ hk => hk.2.2))) | (show (Addr.add _ _).block ≠ _; rw [add_block]; exact Kd.own_blk (Kd.R_away HO_0.out (fun _ hk => hk.2.2))) | (dsimp only; exact Kd.own_blk (Kd.R_away HO_0.out (fun _ hk => hk.2.2)))) _).trans (((cell_far (p := ⟨gb243, _, none⟩) (by first | exact Kd.own_blk (Kd.R_away HO_0.out (fun _ hk => hk.2.2)) | (rw [add_block]; exact Kd.own_blk (Kd.R_away HO_0.out (fun _ hk => hk.2.2))) | (show (Addr.add _ _).block ≠ _; rw [add_block]; exact Kd.own_blk (Kd.R_away HO_0.out (fun _ hk => hk.2.2))) | (dsimp only; exact Kd.own_blk (Kd.R_away HO_0.out (fun _ hk => hk.2.2)))) _).trans (hHeld.2.2.2))))⟩ (fun hHeld => ?_)
                          clear hK K
                          refine done_ (done_of HT_.out (by kernel_rfl)) ?_
                          have hnb29 := NB242_243.out
                          have hnc29 := NB243_242.out
                          have hcz30_0 : w24.cell? ⟨gb242, 0, none⟩ = some (.int .i64 0) := (blk_cell BK242.out 0).trans rfl
                          have hcz30_1 : w24.cell? ⟨gb242, 1, none⟩ = some (.int .i64 0) := (blk_cell BK242.out 1).trans rfl
                          have hfz30_0 := blk_frozen BK242.out 0
                          have hfz30_1 := blk_frozen BK242.out 1
                          have hcz31_0 : w24.cell? ⟨gb243, 0, none⟩ = some (.int .i64 0) := (blk_cell BK243.out 0).trans rfl
                          have hcz31_1 : w24.cell? ⟨gb243, 1, none⟩ = some (.int .i64 0) := (blk_cell BK243.out 1).trans rfl
                          have hfz31_0 := blk_frozen BK243.out 0
                          have hfz31_1 := blk_frozen BK243.out 1
                          try go_wp2_with (first | ((with_reducible refine gate_dst (N := 81) rfl ?_); refine Kd.R_lit k45 _ 45 ?hg (N := 81) ?hd (xs := ([(⟨wrap64 (((rd_T45 x0_1 x5_2).f0) + ((rd_T45 x0_1 (ji17)).f0)), wrap64 (((rd_T45 x0_1 x5_2).f1) + ((rd_T45 x0_1 (ji17)).f1))⟩ : S45), (⟨wrap64 (((rd_T45 x0_1 x5_2).f0) - ((rd_T45 x0_1 (ji17)).f0)), wrap64 (((rd_T45 x0_1 x5_2).f1) - ((rd_T45 x0_1 (ji17)).f1))⟩ : S45)] : List (S45))) (inner := [.int .i64 (wrap64 (((rd_T45 x0_1 x5_2).f0) + ((rd_T45 x0_1 (ji17)).f0))), .int .i64 (wrap64 (((rd_T45 x0_1 x5_2).f1) + ((rd_T45 x0_1 (ji17)).f1))), .int .i64 (wrap64 (((rd_T45 x0_1 x5_2).f0) - ((rd_T45 x0_1 (ji17)).f0))), .int .i64 (wrap64 (((rd_T45 x0_1 x5_2).f1) - ((rd_T45 x0_1 (ji17)).f1)))]) (ok := fun _ => True) (okp := fun _ => True) ?hr ?hp (fun _ hk => hk) trivial (Below.refl _ _) (Nat.le_refl _) (by simp) ?_; (case hd => rfl); (case hg => rfl); (case hr => first | (go_simp; done) | (go_simp; rfl)); (case hp => exact (Reps.c2 (show Kd.M k45 _ _ _ (⟨wrap64 (((rd_T45 x0_1 x5_2).f0) + ((rd_T45 x0_1 (ji17)).f0)), wrap64 (((rd_T45 x0_1 x5_2).f1) + ((rd_T45 x0_1 (ji17)).f1))⟩ : S45) [.int .i64 (wrap64 (((rd_T45 x0_1 x5_2).f0) + ((rd_T45 x0_1 (ji17)).f0))), .int .i64 (wrap64 (((rd_T45 x0_1 x5_2).f1) + ((rd_T45 x0_1 (ji17)).f1)))] from (k45_mkM _ _ _ (⟨wrap64 (((rd_T45 x0_1 x5_2).f0) + ((rd_T45 x0_1 (ji17)).f0)), wrap64 (((rd_T45 x0_1 x5_2).f1) + ((rd_T45 x0_1 (ji17)).f1))⟩ : S45) )) (Reps.c2 (show Kd.M k45 _ _ _ (⟨wrap64 (((rd_T45 x0_1 x5_2).f0) - ((rd_T45 x0_1 (ji17)).f0)), wrap64 (((rd_T45 x0_1 x5_2).f1) - ((rd_T45 x0_1 (ji17)).f1))⟩ : S45) [.int .i64 (wrap64 (((rd_T45 x0_1 x5_2).f0) - ((rd_T45 x0_1 (ji17)).f0))), .int .i64 (wrap64 (((rd_T45 x0_1 x5_2).f1) - ((rd_T45 x0_1 (ji17)).f1)))] from (k45_mkM _ _ _ (⟨wrap64 (((rd_T45 x0_1 x5_2).f0) - ((rd_T45 x0_1 (ji17)).f0)), wrap64 (((rd_T45 x0_1 x5_2).f1) - ((rd_T45 x0_1 (ji17)).f1))⟩ : S45) )) (Reps.none _ _)))); intro v245 w32 ho33 hb hg_ hnew_; clear hg_ hnew_; (first | rw [← Ny244.out] at ho33 | (simp only [Int.reduceToNat] at ho33; rw [← Ny244.out] at ho33)); have n0_ := Aside0.mk (Kd.R_elder' (by (with_reducible repeat (first | apply Kd.R_alloc | apply Kd.R_drewN | apply Kd.R_drew)); exact (Kd.R_mono (Kd.R_mono (Kd.R_far (p := ⟨gb243, 1, none⟩) (Kd.R_far (p := ⟨gb243, 0, none⟩) (Kd.R_far (p := ⟨gb242, 1, none⟩) (Kd.R_far (p := ⟨gb242, 0, none⟩) (Kd.R_mono (Kd.R_mono HO_0.out (fun k_ hk => (⟨hk, hk.2.1⟩ : _ ∧ k_ ≠ gb242))) (fun k_ hk => (⟨hk, hk.1.2.2⟩ : _ ∧ k_ ≠ gb243))) (fun _ hk => hk.1.2) (.int .i64 ((rd_T45 x0_1 x5_2).f0))) (fun _ hk => hk.1.2) (.int .i64 ((rd_T45 x0_1 x5_2).f1))) (fun _ hk => hk.2) (.int .i64 ((rd_T45 x0_1 (ji17)).f0))) (fun _ hk => hk.2) (.int .i64 ((rd_T45 x0_1 (ji17)).f1))) (fun _ h_ => h_.1)) (fun _ h_ => h_.1))) (Kd.R_base ho33) hb); have n1_ := Aside0.mk (Kd.R_elder' (by (with_reducible repeat (first | apply Kd.R_alloc | apply Kd.R_drewN | apply Kd.R_drew)); exact (Kd.R_mono (Kd.R_mono (Kd.R_far (p := ⟨gb243, 1, none⟩) (Kd.R_far (p := ⟨gb243, 0, none⟩) (Kd.R_far (p := ⟨gb242, 1, none⟩) (Kd.R_far (p := ⟨gb242, 0, none⟩) (Kd.R_mono (Kd.R_mono HO_4.out (fun k_ hk => (⟨hk, hk.2.1⟩ : _ ∧ k_ ≠ gb242))) (fun k_ hk => (⟨hk, hk.1.2.2⟩ : _ ∧ k_ ≠ gb243))) (fun _ hk => hk.1.2) (.int .i64 ((rd_T45 x0_1 x5_2).f0))) (fun _ hk => hk.1.2) (.int .i64 ((rd_T45 x0_1 x5_2).f1))) (fun _ hk => hk.2) (.int .i64 ((rd_T45 x0_1 (ji17)).f0))) (fun _ hk => hk.2) (.int .i64 ((rd_T45 x0_1 (ji17)).f1))) (fun _ h_ => h_.1)) (fun _ h_ => h_.1))) (Kd.R_base ho33) hb); have n2_ := Aside0.mk (Kd.R_lower (Kd.R_newB (Kd.R_newB (Kd.R_new' (Kd.R_new' ho33 (Kd.R_lt (by (with_reducible repeat (first | apply Kd.R_alloc | apply Kd.R_drewN | apply Kd.R_drew)); exact (Kd.R_mono (Kd.R_mono (Kd.R_far (p := ⟨gb243, 1, none⟩) (Kd.R_far (p := ⟨gb243, 0, none⟩) (Kd.R_far (p := ⟨gb242, 1, none⟩) (Kd.R_far (p := ⟨gb242, 0, none⟩) (Kd.R_mono (Kd.R_mono HO_0.out (fun k_ hk => (⟨hk, hk.2.1⟩ : _ ∧ k_ ≠ gb242))) (fun k_ hk => (⟨hk, hk.1.2.2⟩ : _ ∧ k_ ≠ gb243))) (fun _ hk => hk.1.2) (.int .i64 ((rd_T45 x0_1 x5_2).f0))) (fun _ hk => hk.1.2) (.int .i64 ((rd_T45 x0_1 x5_2).f1))) (fun _ hk => hk.2) (.int .i64 ((rd_T45 x0_1 (ji17)).f0))) (fun _ hk => hk.2) (.int .i64 ((rd_T45 x0_1 (ji17)).f1))) (fun _ h_ => h_.1)) (fun _ h_ => h_.1))))) (Kd.R_lt (by (with_reducible repeat (first | apply Kd.R_alloc | apply Kd.R_drewN | apply Kd.R_drew)); exact (Kd.R_mono (Kd.R_mono (Kd.R_far (p := ⟨gb243, 1, none⟩) (Kd.R_far (p := ⟨gb243, 0, none⟩) (Kd.R_far (p := ⟨gb242, 1, none⟩) (Kd.R_far (p := ⟨gb242, 0, none⟩) (Kd.R_mono (Kd.R_mono HO_4.out (fun k_ hk => (⟨hk, hk.2.1⟩ : _ ∧ k_ ≠ gb242))) (fun k_ hk => (⟨hk, hk.1.2.2⟩ : _ ∧ k_ ≠ gb243))) (fun _ hk => hk.1.2) (.int .i64 ((rd_T45 x0_1 x5_2).f0))) (fun _ hk => hk.1.2) (.int .i64 ((rd_T45 x0_1 x5_2).f1))) (fun _ hk => hk.2) (.int .i64 ((rd_T45 x0_1 (ji17)).f0))) (fun _ hk => hk.2) (.int .i64 ((rd_T45 x0_1 (ji17)).f1))) (fun _ h_ => h_.1)) (fun _ h_ => h_.1))))) (g := gb242) (o := .cells #[.int .i64 ((rd_T45 x0_1 x5_2).f0), .int .i64 ((rd_T45 x0_1 x5_2).f1)] 45 (0, 0)) (by (with_reducible repeat (first | refine blk_drewN ?_ _ | refine blk_drew ?_ | refine blk_alloc ?_ _)); refine blk_far ?_ NB242_243.out _; (with_reducible repeat (first | refine blk_drewN ?_ _ | refine blk_drew ?_ | refine blk_alloc ?_ _)); refine blk_far ?_ NB242_243.out _; (with_reducible repeat (first | refine blk_drewN ?_ _ | refine blk_drew ?_ | refine blk_alloc ?_ _)); refine blk_put (cs := #[.int .i64 ((rd_T45 x0_1 x5_2).f0), .int .i64 0]) ?_ 1 _ rfl; (with_reducible repeat (first | refine blk_drewN ?_ _ | refine blk_drew ?_ | refine blk_alloc ?_ _)); refine blk_put (cs := #[.int .i64 0, .int .i64 0]) ?_ 0 _ rfl; (with_reducible repeat (first | refine blk_drewN ?_ _ | refine blk_drew ?_ | refine blk_alloc ?_ _)); exact BK242.out)) (g := gb243) (o := .cells #[.int .i64 ((rd_T45 x0_1 (ji17)).f0), .int .i64 ((rd_T45 x0_1 (ji17)).f1)] 45 (0, 0)) (by (with_reducible repeat (first | refine blk_drewN ?_ _ | refine blk_drew ?_ | refine blk_alloc ?_ _)); refine blk_put (cs := #[.int .i64 ((rd_T45 x0_1 (ji17)).f0), .int .i64 0]) ?_ 1 _ rfl; (with_reducible repeat (first | refine blk_drewN ?_ _ | refine blk_drew ?_ | refine blk_alloc ?_ _)); refine blk_put (cs := #[.int .i64 0, .int .i64 0]) ?_ 0 _ rfl; (with_reducible repeat (first | refine blk_drewN ?_ _ | refine blk_drew ?_ | refine blk_alloc ?_ _)); refine blk_far ?_ NB243_242.out _; (with_reducible repeat (first | refine blk_drewN ?_ _ | refine blk_drew ?_ | refine blk_alloc ?_ _)); refine blk_far ?_ NB243_242.out _; (with_reducible repeat (first | refine blk_drewN ?_ _ | refine blk_drew ?_ | refine blk_alloc ?_ _)); exact BK243.out)) (below_size (by repeat (first | (with_reducible first | exact HB.out | apply below_alloc | apply pw_below_drewN | apply below_drew1 | refine below_set ?_ GE242.out | refine below_set ?_ GE243.out) | exact HB.out)))); have n3_ := Aside0.mk (blk_below (g := gb242) (o := .cells #[.int .i64 ((rd_T45 x0_1 x5_2).f0), .int .i64 ((rd_T45 x0_1 x5_2).f1)] 45 (0, 0)) (by (with_reducible repeat (first | refine blk_drewN ?_ _ | refine blk_drew ?_ | refine blk_alloc ?_ _)); refine blk_far ?_ NB242_243.out _; (with_reducible repeat (first | refine blk_drewN ?_ _ | refine blk_drew ?_ | refine blk_alloc ?_ _)); refine blk_far ?_ NB242_243.out _; (with_reducible repeat (first | refine blk_drewN ?_ _ | refine blk_drew ?_ | refine blk_alloc ?_ _)); refine blk_put (cs := #[.int .i64 ((rd_T45 x0_1 x5_2).f0), .int .i64 0]) ?_ 1 _ rfl; (with_reducible repeat (first | refine blk_drewN ?_ _ | refine blk_drew ?_ | refine blk_alloc ?_ _)); refine blk_put (cs := #[.int .i64 0, .int .i64 0]) ?_ 0 _ rfl; (with_reducible repeat (first | refine blk_drewN ?_ _ | refine blk_drew ?_ | refine blk_alloc ?_ _)); exact BK242.out) hb); have n4_ := Aside0.mk (blk_below (g := gb243) (o := .cells #[.int .i64 ((rd_T45 x0_1 (ji17)).f0), .int .i64 ((rd_T45 x0_1 (ji17)).f1)] 45 (0, 0)) (by (with_reducible repeat (first | refine blk_drewN ?_ _ | refine blk_drew ?_ | refine blk_alloc ?_ _)); refine blk_put (cs := #[.int .i64 ((rd_T45 x0_1 (ji17)).f0), .int .i64 0]) ?_ 1 _ rfl; (with_reducible repeat (first | refine blk_drewN ?_ _ | refine blk_drew ?_ | refine blk_alloc ?_ _)); refine blk_put (cs := #[.int .i64 0, .int .i64 0]) ?_ 0 _ rfl; (with_reducible repeat (first | refine blk_drewN ?_ _ | refine blk_drew ?_ | refine blk_alloc ?_ _)); refine blk_far ?_ NB243_242.out _; (with_reducible repeat (first | refine blk_drewN ?_ _ | refine blk_drew ?_ | refine blk_alloc ?_ _)); refine blk_far ?_ NB243_242.out _; (with_reducible repeat (first | refine blk_drewN ?_ _ | refine blk_drew ?_ | refine blk_alloc ?_ _)); exact BK243.out) hb); have n5_ := Aside0.mk (below_step (by repeat (first | (with_reducible first | exact HB.out | apply below_alloc | apply pw_below_drewN | apply below_drew1 | refine below_set ?_ GE242.out | refine below_set ?_ GE243.out) | exact HB.out)) hb); clear HO_0; clear HO_4; clear BK242; clear BK243; clear HB; have HO_0 := n0_; have HO_4 := n1_; have HO246 := n2_; have BK242 := n3_; have BK243 := n4_; have HB := n5_; clear n0_ n1_ n2_ n3_ n4_ n5_; clear hb ho33; obtain ⟨Ao35, co35, eo35⟩ := Kd.R_slice HO246.out; subst eo35) | ((with_reducible refine gate_builtin (b := .append) (xs := #[.tmp 58, .tmp 81]) rfl ?_); at_builtin; refine Kd.R_append_rows k45 (w0 := w) w.heap.size rfl (.tmp 58) (.tmp 81) 37 45 (.agg #[(.int .i64 0), (.int .i64 0)]) 16 rfl Try.underlying37 info45 rfl (by decide) (by omega) u4 x4_2 y244 _ _ _ (fun k_ => some k_ ≠ (.slice (some ad240) x0_1.length co8 : Value).ownBlock ∧ some k_ ≠ (.slice Ao35 y244.length co35 : Value).ownBlock ∧ k_ ≠ gb242 ∧ k_ ≠ gb243) (fun _ => False) rfl rfl ?aO ?aR (fun _ _ h => h) (fun _ h => h.elim) ?aF ?aB ?aS ?aL ?_; (case aR => repeat (first | exact (Kd.R_reads' HO246.out).2.2 | (with_reducible refine Kd.C_alloc ?_ _) | (with_reducible refine Kd.C_drewN ?_ _) | (with_reducible refine Kd.C_drew ?_))); (case aB => exact (by repeat (first | (with_reducible first | exact HB.out | apply below_alloc | apply pw_below_drewN | apply below_drew1 | refine below_set ?_ GE242.out | refine below_set ?_ GE243.out) | exact HB.out))); (case aF => exact (fun k_ hk => ⟨Kd.fresh' (Kd.R_lt (by (with_reducible repeat (first | apply Kd.R_alloc | apply Kd.R_drewN | apply Kd.R_drew)); exact HO_0.out)) k_ hk, Kd.fresh' (Kd.R_lt (by (with_reducible repeat (first | apply Kd.R_alloc | apply Kd.R_drewN | apply Kd.R_drew)); exact HO246.out)) k_ hk, Kd.freshB (g := gb242) (o := .cells #[.int .i64 ((rd_T45 x0_1 x5_2).f0), .int .i64 ((rd_T45 x0_1 x5_2).f1)] 45 (0, 0)) (by (with_reducible repeat (first | refine blk_drewN ?_ _ | refine blk_drew ?_ | refine blk_alloc ?_ _)); exact BK242.out) k_ hk, Kd.freshB (g := gb243) (o := .cells #[.int .i64 ((rd_T45 x0_1 (ji17)).f0), .int .i64 ((rd_T45 x0_1 (ji17)).f1)] 45 (0, 0)) (by (with_reducible repeat (first | refine blk_drewN ?_ _ | refine blk_drew ?_ | refine blk_alloc ?_ _)); exact BK243.out) k_ hk⟩)); (case aO => exact (by (with_reducible repeat (first | apply Kd.R_alloc | apply Kd.R_drewN | apply Kd.R_drew)); exact Kd.R_mono HO_4.out (fun _ hk => ⟨hk.1.1, ⟨hk.2, ⟨hk.1.2.1, hk.1.2.2⟩⟩⟩))); (case aS => exact (below_size (by repeat (first | (with_reducible first | exact HB.out | apply below_alloc | apply pw_below_drewN | apply below_drew1 | refine below_set ?_ GE242.out | refine below_set ?_ GE243.out) | exact HB.out)))); (case aL => have := LMc20.out; omega); intro v248 w34 ho hb hg hat; rw [← Ny247.out] at ho; have n0_ := Aside0.mk (Kd.R_after (ok := (fun k_ => some k_ ≠ (.slice Ao35 y244.length co35 : Value).ownBlock ∧ k_ ≠ gb242 ∧ k_ ≠ gb243)) (by (with_reducible repeat (first | apply Kd.R_alloc | apply Kd.R_drewN | apply Kd.R_drew)); exact Kd.R_mono HO_0.out (fun _ hk => ⟨⟨hk.2, ⟨hk.1.2.1, hk.1.2.2⟩⟩, hk.1.1⟩)) hg hat); have n1_ := Aside0.mk (blk_grown (g := gb242) (o := .cells #[.int .i64 ((rd_T45 x0_1 x5_2).f0), .int .i64 ((rd_T45 x0_1 x5_2).f1)] 45 (0, 0)) (by (with_reducible repeat (first | refine blk_drewN ?_ _ | refine blk_drew ?_ | refine blk_alloc ?_ _)); exact BK242.out) hg (Kd.R_away HO_4.out (fun _ hk => hk.1.2.1))); have n2_ := Aside0.mk (blk_grown (g := gb243) (o := .cells #[.int .i64 ((rd_T45 x0_1 (ji17)).f0), .int .i64 ((rd_T45 x0_1 (ji17)).f1)] 45 (0, 0)) (by (with_reducible repeat (first | refine blk_drewN ?_ _ | refine blk_drew ?_ | refine blk_alloc ?_ _)); exact BK243.out) hg (Kd.R_away HO_4.out (fun _ hk => hk.1.2.2))); have n3_ := Aside0.mk (Kd.R_after (ok := (fun k_ => some k_ ≠ (.slice (some ad240) x0_1.length co8 : Value).ownBlock ∧ k_ ≠ gb242 ∧ k_ ≠ gb243)) (by (with_reducible repeat (first | apply Kd.R_alloc | apply Kd.R_drewN | apply Kd.R_drew)); exact Kd.R_mono HO246.out (fun _ hk => ⟨⟨hk.1.1.1.2, ⟨hk.1.2, hk.2⟩⟩, hk.1.1.2⟩)) hg hat); have n4_ := Aside0.mk (hb); have n5_ := Aside0.mk (ho); clear HO_0; clear BK242; clear BK243; clear HO246; clear HB; clear HO_4; have HO_0 := n0_; have BK242 := n1_; have BK243 := n2_; have HO246 := n3_; have HB := n4_; have HO249 := n5_; clear n0_ n1_ n2_ n3_ n4_ n5_; clear ho hb hg hat))
                          go_roundg k2
                          case measure => have := HK1.out; have := HK2.out; omega
                          case rel => exact ⟨(y247), (wrap64 (x5_2 + 2)), (by first | rfl | (simp; done) | (simp [*]; done)), H', ⟨by have := HK1.out; have := HK2.out; omega⟩, ⟨by (try simp only [hl0_1]); (with_reducible repeat (first | apply Kd.R_alloc | apply Kd.R_drewN | apply Kd.R_drew)); exact Kd.R_mono HO_0.out (fun _ hk => hk.2)⟩, ⟨by (try simp only [hl0_1]); (with_reducible repeat (first | apply Kd.R_alloc | apply Kd.R_drewN | apply Kd.R_drew)); exact Kd.R_mono HO249.out (fun _ hk => hk.1)⟩, ⟨by repeat (first | (with_reducible first | exact HB.out | apply below_alloc | apply pw_below_drewN | apply below_drew1 | refine below_set ?_ GE242.out | refine below_set ?_ GE243.out) | exact HB.out)⟩⟩
                        · rw [if_neg c20] at H
                          exact absurd H (by simp)
                      · rw [if_neg c19] at H
                        exact absurd H (by simp)
                    · rw [if_neg c18] at H
                      exact absurd H (by simp)
                  · rw [if_neg c16] at H
                    exact absurd H (by simp)
                · rw [if_neg c15] at H
                  have c15b0 : decide (x5_2 < (x0_1.length : Int)) = false := decide_eq_false c15
                  clear c15
                  replace H := Option.bind_eq_some_iff.mp H
                  obtain ⟨⟨t250, t251, t252⟩, A360, H⟩ := H
                  replace H : ((power_Total.f x4_2).bind fun bt253 => ((headroomlaw20_alive.f k2).bind fun t256 => (if t256 = true then (if t252 = 0 then (if bt253.2.2 = 0 then (if t250 = 0 then (if bt253.1 = 0 then (some (bt253.2.1 == (IntKind.u64.wrap (2 * t251)))) else (some false)) else (some false)) else (some false)) else (some false)) else (some false)))) = some r := H
                  have A36 := Aside0.mk A360
                  clear A360
                  replace H := Option.bind_eq_some_iff.mp H
                  obtain ⟨⟨t253, t254, t255⟩, A370, H⟩ := H
                  replace H : ((headroomlaw20_alive.f k2).bind fun t256 => (if t256 = true then (if t252 = 0 then (if t255 = 0 then (if t250 = 0 then (if t253 = 0 then (some (t254 == (IntKind.u64.wrap (2 * t251)))) else (some false)) else (some false)) else (some false)) else (some false)) else (some false))) = some r := H
                  have A37 := Aside0.mk A370
                  clear A370
                  replace H := Option.bind_eq_some_iff.mp H
                  obtain ⟨t256, A380, H⟩ := H
                  replace H : (if t256 = true then (if t252 = 0 then (if t255 = 0 then (if t250 = 0 then (if t253 = 0 then (some (t254 == (IntKind.u64.wrap (2 * t251)))) else (some false)) else (some false)) else (some false)) else (some false)) else (some false)) = some r := H
                  have A38 := Aside0.mk A380
                  clear A380
                  by_cases c39 : t256 = true
                  · subst c39
                    have H1 : (if t252 = 0 then (if t255 = 0 then (if t250 = 0 then (if t253 = 0 then (some (t254 == (IntKind.u64.wrap (2 * t251)))) else (some false)) else (some false)) else (some false)) else (some false)) = some r := by rw [if_pos rfl] at H; exact H
                    clear H
                    have H := H1
                    clear H1
                    by_cases c40 : t252 = 0
                    · rw [if_pos c40] at H
                      have c40b0 : (t252 == 0) = true := beq_iff_eq.mpr c40
                      have c40b1 : (t252 != 0) = false := bne_eq_false_iff_eq.mpr c40
                      clear c40
                      by_cases c41 : t255 = 0
                      · rw [if_pos c41] at H
                        have c41b0 : (t255 == 0) = true := beq_iff_eq.mpr c41
                        have c41b1 : (t255 != 0) = false := bne_eq_false_iff_eq.mpr c41
                        clear c41
                        by_cases c42 : t250 = 0
                        · rw [if_pos c42] at H
                          have c42b0 : (t250 == 0) = true := beq_iff_eq.mpr c42
                          have c42b1 : (t250 != 0) = false := bne_eq_false_iff_eq.mpr c42
                          clear c42
                          by_cases c43 : t253 = 0
                          · rw [if_pos c43] at H
                            have c43b0 : (t253 == 0) = true := beq_iff_eq.mpr c43
                            have c43b1 : (t253 != 0) = false := bne_eq_false_iff_eq.mpr c43
                            clear c43
                            obtain rfl := Option.some.inj H
                            go_wp2_with (first | ((with_reducible refine gate_callee (f := 23) rfl ?_); refine goesL_ (some 85) rfl rfl Try.func23 (by kernel_rfl) rfl #[.slice Ao8 x0_1.length co8] rfl (by (try simp only [List.map_toArray, List.map_cons, List.map_nil]); first | done | rfl | (simp only [List.length_drop, List.length_take]; rfl)) ?_; (with_reducible refine (power_Total.calls _ _ x0_1 t250 t251 t252 _ ?side1 ?side2 A36.out).mono ?_); (case side1 => repeat (first | exact (Kd.R_reads' HO_0.out).2.2 | (with_reducible refine Kd.C_alloc ?_ _) | (with_reducible refine Kd.C_drewN ?_ _) | (with_reducible refine Kd.C_drew ?_))); (case side2 => exact (Kd.R_reads' HO_0.out).2.1); rintro e w44 ⟨rfl, hb⟩; refine ⟨_, rfl, ?_⟩; have n0_ := Aside0.mk (Kd.R_below (by (with_reducible repeat (first | apply Kd.R_alloc | apply Kd.R_drewN | apply Kd.R_drew)); exact HO_0.out) hb); have n1_ := Aside0.mk (Kd.R_below (by (with_reducible repeat (first | apply Kd.R_alloc | apply Kd.R_drewN | apply Kd.R_drew)); exact HO_4.out) hb); have n2_ := Aside0.mk (below_step (by repeat (first | (with_reducible first | exact HB.out | apply below_alloc | apply pw_below_drewN | apply below_drew1) | exact HB.out)) hb); clear HO_0; clear HO_4; clear HB; have HO_0 := n0_; have HO_4 := n1_; have HB := n2_; clear n0_ n1_ n2_; (try clear hb); (try clear hb2); (try clear hk); (try clear hi); obtain ⟨Ao45, co45, eo45⟩ := Kd.R_slice HO_4.out; subst eo45) | ((with_reducible refine gate_callee (f := 23) rfl ?_); refine goesL_ (some 91) rfl rfl Try.func23 (by kernel_rfl) rfl #[.slice Ao45 x4_2.length co45] rfl (by (try simp only [List.map_toArray, List.map_cons, List.map_nil]); first | done | rfl | (simp only [List.length_drop, List.length_take]; rfl)) ?_; (with_reducible refine (power_Total.calls _ _ x4_2 t253 t254 t255 _ ?side1 ?side2 A37.out).mono ?_); (case side1 => repeat (first | exact (Kd.R_reads' HO_4.out).2.2 | (with_reducible refine Kd.C_alloc ?_ _) | (with_reducible refine Kd.C_drewN ?_ _) | (with_reducible refine Kd.C_drew ?_))); (case side2 => exact (Kd.R_reads' HO_4.out).2.1); rintro e w46 ⟨rfl, hb⟩; refine ⟨_, rfl, ?_⟩; have n0_ := Aside0.mk (Kd.R_below (by (with_reducible repeat (first | apply Kd.R_alloc | apply Kd.R_drewN | apply Kd.R_drew)); exact HO_0.out) hb); have n1_ := Aside0.mk (Kd.R_below (by (with_reducible repeat (first | apply Kd.R_alloc | apply Kd.R_drewN | apply Kd.R_drew)); exact HO_4.out) hb); have n2_ := Aside0.mk (below_step (by repeat (first | (with_reducible first | exact HB.out | apply below_alloc | apply pw_below_drewN | apply below_drew1) | exact HB.out)) hb); clear HO_0; clear HO_4; clear HB; have HO_0 := n0_; have HO_4 := n1_; have HB := n2_; clear n0_ n1_ n2_; (try clear hb); (try clear hb2); (try clear hk); (try clear hi)) | ((with_reducible refine gate_callee (f := 24) rfl ?_); refine goesL_ (some 95) rfl rfl Try.func24 (by kernel_rfl) rfl #[] rfl (by (try simp only [List.map_toArray, List.map_cons, List.map_nil]); first | done | rfl | (simp only [List.length_drop, List.length_take]; rfl)) ?_; (with_reducible refine (headroomlaw20_alive.calls k2  true _ A38.out).mono ?_); rintro e w47 ⟨rfl, hb⟩; refine ⟨_, rfl, ?_⟩; have n0_ := Aside0.mk (Kd.R_below (by (with_reducible repeat (first | apply Kd.R_alloc | apply Kd.R_drewN | apply Kd.R_drew)); exact HO_0.out) hb); have n1_ := Aside0.mk (Kd.R_below (by (with_reducible repeat (first | apply Kd.R_alloc | apply Kd.R_drewN | apply Kd.R_drew)); exact HO_4.out) hb); have n2_ := Aside0.mk (below_step (by repeat (first | (with_reducible first | exact HB.out | apply below_alloc | apply pw_below_drewN | apply below_drew1) | exact HB.out)) hb); clear HO_0; clear HO_4; clear HB; have HO_0 := n0_; have HO_4 := n1_; have HB := n2_; clear n0_ n1_ n2_; (try clear hb); (try clear hb2); (try clear hk); (try clear hi)))
                            go_ret
                            exact ⟨by first | rfl | (simp [errW_none, errW_some] <;> rfl) | (simp only [← hji2]; first | rfl | (simp [errW_none, errW_some] <;> rfl)) | (simp [*, errW_none, errW_some] <;> rfl), by repeat (first | (with_reducible first | exact HB.out | apply below_alloc | apply pw_below_drewN | apply below_drew1) | exact HB.out)⟩
                          · rw [if_neg c43] at H
                            have c43b0 : (t253 == 0) = false := beq_eq_false_iff_ne.mpr c43
                            have c43b1 : (t253 != 0) = true := bne_iff_ne.mpr c43
                            obtain rfl := Option.some.inj H
                            go_wp2_with (first | ((with_reducible refine gate_callee (f := 23) rfl ?_); refine goesL_ (some 85) rfl rfl Try.func23 (by kernel_rfl) rfl #[.slice Ao8 x0_1.length co8] rfl (by (try simp only [List.map_toArray, List.map_cons, List.map_nil]); first | done | rfl | (simp only [List.length_drop, List.length_take]; rfl)) ?_; (with_reducible refine (power_Total.calls _ _ x0_1 t250 t251 t252 _ ?side1 ?side2 A36.out).mono ?_); (case side1 => repeat (first | exact (Kd.R_reads' HO_0.out).2.2 | (with_reducible refine Kd.C_alloc ?_ _) | (with_reducible refine Kd.C_drewN ?_ _) | (with_reducible refine Kd.C_drew ?_))); (case side2 => exact (Kd.R_reads' HO_0.out).2.1); rintro e w48 ⟨rfl, hb⟩; refine ⟨_, rfl, ?_⟩; have n0_ := Aside0.mk (Kd.R_below (by (with_reducible repeat (first | apply Kd.R_alloc | apply Kd.R_drewN | apply Kd.R_drew)); exact HO_0.out) hb); have n1_ := Aside0.mk (Kd.R_below (by (with_reducible repeat (first | apply Kd.R_alloc | apply Kd.R_drewN | apply Kd.R_drew)); exact HO_4.out) hb); have n2_ := Aside0.mk (below_step (by repeat (first | (with_reducible first | exact HB.out | apply below_alloc | apply pw_below_drewN | apply below_drew1) | exact HB.out)) hb); clear HO_0; clear HO_4; clear HB; have HO_0 := n0_; have HO_4 := n1_; have HB := n2_; clear n0_ n1_ n2_; (try clear hb); (try clear hb2); (try clear hk); (try clear hi); obtain ⟨Ao49, co49, eo49⟩ := Kd.R_slice HO_4.out; subst eo49) | ((with_reducible refine gate_callee (f := 23) rfl ?_); refine goesL_ (some 91) rfl rfl Try.func23 (by kernel_rfl) rfl #[.slice Ao49 x4_2.length co49] rfl (by (try simp only [List.map_toArray, List.map_cons, List.map_nil]); first | done | rfl | (simp only [List.length_drop, List.length_take]; rfl)) ?_; (with_reducible refine (power_Total.calls _ _ x4_2 t253 t254 t255 _ ?side1 ?side2 A37.out).mono ?_); (case side1 => repeat (first | exact (Kd.R_reads' HO_4.out).2.2 | (with_reducible refine Kd.C_alloc ?_ _) | (with_reducible refine Kd.C_drewN ?_ _) | (with_reducible refine Kd.C_drew ?_))); (case side2 => exact (Kd.R_reads' HO_4.out).2.1); rintro e w50 ⟨rfl, hb⟩; refine ⟨_, rfl, ?_⟩; have n0_ := Aside0.mk (Kd.R_below (by (with_reducible repeat (first | apply Kd.R_alloc | apply Kd.R_drewN | apply Kd.R_drew)); exact HO_0.out) hb); have n1_ := Aside0.mk (Kd.R_below (by (with_reducible repeat (first | apply Kd.R_alloc | apply Kd.R_drewN | apply Kd.R_drew)); exact HO_4.out) hb); have n2_ := Aside0.mk (below_step (by repeat (first | (with_reducible first | exact HB.out | apply below_alloc | apply pw_below_drewN | apply below_drew1) | exact HB.out)) hb); clear HO_0; clear HO_4; clear HB; have HO_0 := n0_; have HO_4 := n1_; have HB := n2_; clear n0_ n1_ n2_; (try clear hb); (try clear hb2); (try clear hk); (try clear hi)) | ((with_reducible refine gate_callee (f := 24) rfl ?_); refine goesL_ (some 95) rfl rfl Try.func24 (by kernel_rfl) rfl #[] rfl (by (try simp only [List.map_toArray, List.map_cons, List.map_nil]); first | done | rfl | (simp only [List.length_drop, List.length_take]; rfl)) ?_; (with_reducible refine (headroomlaw20_alive.calls k2  true _ A38.out).mono ?_); rintro e w51 ⟨rfl, hb⟩; refine ⟨_, rfl, ?_⟩; have n0_ := Aside0.mk (Kd.R_below (by (with_reducible repeat (first | apply Kd.R_alloc | apply Kd.R_drewN | apply Kd.R_drew)); exact HO_0.out) hb); have n1_ := Aside0.mk (Kd.R_below (by (with_reducible repeat (first | apply Kd.R_alloc | apply Kd.R_drewN | apply Kd.R_drew)); exact HO_4.out) hb); have n2_ := Aside0.mk (below_step (by repeat (first | (with_reducible first | exact HB.out | apply below_alloc | apply pw_below_drewN | apply below_drew1) | exact HB.out)) hb); clear HO_0; clear HO_4; clear HB; have HO_0 := n0_; have HO_4 := n1_; have HB := n2_; clear n0_ n1_ n2_; (try clear hb); (try clear hb2); (try clear hk); (try clear hi)))
                            go_ret
                            exact ⟨by first | rfl | (simp [errW_none, errW_some] <;> rfl) | (simp only [← hji2]; first | rfl | (simp [errW_none, errW_some] <;> rfl)) | (simp [*, errW_none, errW_some] <;> rfl), by repeat (first | (with_reducible first | exact HB.out | apply below_alloc | apply pw_below_drewN | apply below_drew1) | exact HB.out)⟩
                        · rw [if_neg c42] at H
                          have c42b0 : (t250 == 0) = false := beq_eq_false_iff_ne.mpr c42
                          have c42b1 : (t250 != 0) = true := bne_iff_ne.mpr c42
                          obtain rfl := Option.some.inj H
                          go_wp2_with (first | ((with_reducible refine gate_callee (f := 23) rfl ?_); refine goesL_ (some 85) rfl rfl Try.func23 (by kernel_rfl) rfl #[.slice Ao8 x0_1.length co8] rfl (by (try simp only [List.map_toArray, List.map_cons, List.map_nil]); first | done | rfl | (simp only [List.length_drop, List.length_take]; rfl)) ?_; (with_reducible refine (power_Total.calls _ _ x0_1 t250 t251 t252 _ ?side1 ?side2 A36.out).mono ?_); (case side1 => repeat (first | exact (Kd.R_reads' HO_0.out).2.2 | (with_reducible refine Kd.C_alloc ?_ _) | (with_reducible refine Kd.C_drewN ?_ _) | (with_reducible refine Kd.C_drew ?_))); (case side2 => exact (Kd.R_reads' HO_0.out).2.1); rintro e w52 ⟨rfl, hb⟩; refine ⟨_, rfl, ?_⟩; have n0_ := Aside0.mk (Kd.R_below (by (with_reducible repeat (first | apply Kd.R_alloc | apply Kd.R_drewN | apply Kd.R_drew)); exact HO_0.out) hb); have n1_ := Aside0.mk (Kd.R_below (by (with_reducible repeat (first | apply Kd.R_alloc | apply Kd.R_drewN | apply Kd.R_drew)); exact HO_4.out) hb); have n2_ := Aside0.mk (below_step (by repeat (first | (with_reducible first | exact HB.out | apply below_alloc | apply pw_below_drewN | apply below_drew1) | exact HB.out)) hb); clear HO_0; clear HO_4; clear HB; have HO_0 := n0_; have HO_4 := n1_; have HB := n2_; clear n0_ n1_ n2_; (try clear hb); (try clear hb2); (try clear hk); (try clear hi); obtain ⟨Ao53, co53, eo53⟩ := Kd.R_slice HO_4.out; subst eo53) | ((with_reducible refine gate_callee (f := 23) rfl ?_); refine goesL_ (some 91) rfl rfl Try.func23 (by kernel_rfl) rfl #[.slice Ao53 x4_2.length co53] rfl (by (try simp only [List.map_toArray, List.map_cons, List.map_nil]); first | done | rfl | (simp only [List.length_drop, List.length_take]; rfl)) ?_; (with_reducible refine (power_Total.calls _ _ x4_2 t253 t254 t255 _ ?side1 ?side2 A37.out).mono ?_); (case side1 => repeat (first | exact (Kd.R_reads' HO_4.out).2.2 | (with_reducible refine Kd.C_alloc ?_ _) | (with_reducible refine Kd.C_drewN ?_ _) | (with_reducible refine Kd.C_drew ?_))); (case side2 => exact (Kd.R_reads' HO_4.out).2.1); rintro e w54 ⟨rfl, hb⟩; refine ⟨_, rfl, ?_⟩; have n0_ := Aside0.mk (Kd.R_below (by (with_reducible repeat (first | apply Kd.R_alloc | apply Kd.R_drewN | apply Kd.R_drew)); exact HO_0.out) hb); have n1_ := Aside0.mk (Kd.R_below (by (with_reducible repeat (first | apply Kd.R_alloc | apply Kd.R_drewN | apply Kd.R_drew)); exact HO_4.out) hb); have n2_ := Aside0.mk (below_step (by repeat (first | (with_reducible first | exact HB.out | apply below_alloc | apply pw_below_drewN | apply below_drew1) | exact HB.out)) hb); clear HO_0; clear HO_4; clear HB; have HO_0 := n0_; have HO_4 := n1_; have HB := n2_; clear n0_ n1_ n2_; (try clear hb); (try clear hb2); (try clear hk); (try clear hi)) | ((with_reducible refine gate_callee (f := 24) rfl ?_); refine goesL_ (some 95) rfl rfl Try.func24 (by kernel_rfl) rfl #[] rfl (by (try simp only [List.map_toArray, List.map_cons, List.map_nil]); first | done | rfl | (simp only [List.length_drop, List.length_take]; rfl)) ?_; (with_reducible refine (headroomlaw20_alive.calls k2  true _ A38.out).mono ?_); rintro e w55 ⟨rfl, hb⟩; refine ⟨_, rfl, ?_⟩; have n0_ := Aside0.mk (Kd.R_below (by (with_reducible repeat (first | apply Kd.R_alloc | apply Kd.R_drewN | apply Kd.R_drew)); exact HO_0.out) hb); have n1_ := Aside0.mk (Kd.R_below (by (with_reducible repeat (first | apply Kd.R_alloc | apply Kd.R_drewN | apply Kd.R_drew)); exact HO_4.out) hb); have n2_ := Aside0.mk (below_step (by repeat (first | (with_reducible first | exact HB.out | apply below_alloc | apply pw_below_drewN | apply below_drew1) | exact HB.out)) hb); clear HO_0; clear HO_4; clear HB; have HO_0 := n0_; have HO_4 := n1_; have HB := n2_; clear n0_ n1_ n2_; (try clear hb); (try clear hb2); (try clear hk); (try clear hi)))
                          go_ret
                          exact ⟨by first | rfl | (simp [errW_none, errW_some] <;> rfl) | (simp only [← hji2]; first | rfl | (simp [errW_none, errW_some] <;> rfl)) | (simp [*, errW_none, errW_some] <;> rfl), by repeat (first | (with_reducible first | exact HB.out | apply below_alloc | apply pw_below_drewN | apply below_drew1) | exact HB.out)⟩
                      · rw [if_neg c41] at H
                        have c41b0 : (t255 == 0) = false := beq_eq_false_iff_ne.mpr c41
                        have c41b1 : (t255 != 0) = true := bne_iff_ne.mpr c41
                        obtain rfl := Option.some.inj H
                        go_wp2_with (first | ((with_reducible refine gate_callee (f := 23) rfl ?_); refine goesL_ (some 85) rfl rfl Try.func23 (by kernel_rfl) rfl #[.slice Ao8 x0_1.length co8] rfl (by (try simp only [List.map_toArray, List.map_cons, List.map_nil]); first | done | rfl | (simp only [List.length_drop, List.length_take]; rfl)) ?_; (with_reducible refine (power_Total.calls _ _ x0_1 t250 t251 t252 _ ?side1 ?side2 A36.out).mono ?_); (case side1 => repeat (first | exact (Kd.R_reads' HO_0.out).2.2 | (with_reducible refine Kd.C_alloc ?_ _) | (with_reducible refine Kd.C_drewN ?_ _) | (with_reducible refine Kd.C_drew ?_))); (case side2 => exact (Kd.R_reads' HO_0.out).2.1); rintro e w56 ⟨rfl, hb⟩; refine ⟨_, rfl, ?_⟩; have n0_ := Aside0.mk (Kd.R_below (by (with_reducible repeat (first | apply Kd.R_alloc | apply Kd.R_drewN | apply Kd.R_drew)); exact HO_0.out) hb); have n1_ := Aside0.mk (Kd.R_below (by (with_reducible repeat (first | apply Kd.R_alloc | apply Kd.R_drewN | apply Kd.R_drew)); exact HO_4.out) hb); have n2_ := Aside0.mk (below_step (by repeat (first | (with_reducible first | exact HB.out | apply below_alloc | apply pw_below_drewN | apply below_drew1) | exact HB.out)) hb); clear HO_0; clear HO_4; clear HB; have HO_0 := n0_; have HO_4 := n1_; have HB := n2_; clear n0_ n1_ n2_; (try clear hb); (try clear hb2); (try clear hk); (try clear hi); obtain ⟨Ao57, co57, eo57⟩ := Kd.R_slice HO_4.out; subst eo57) | ((with_reducible refine gate_callee (f := 23) rfl ?_); refine goesL_ (some 91) rfl rfl Try.func23 (by kernel_rfl) rfl #[.slice Ao57 x4_2.length co57] rfl (by (try simp only [List.map_toArray, List.map_cons, List.map_nil]); first | done | rfl | (simp only [List.length_drop, List.length_take]; rfl)) ?_; (with_reducible refine (power_Total.calls _ _ x4_2 t253 t254 t255 _ ?side1 ?side2 A37.out).mono ?_); (case side1 => repeat (first | exact (Kd.R_reads' HO_4.out).2.2 | (with_reducible refine Kd.C_alloc ?_ _) | (with_reducible refine Kd.C_drewN ?_ _) | (with_reducible refine Kd.C_drew ?_))); (case side2 => exact (Kd.R_reads' HO_4.out).2.1); rintro e w58 ⟨rfl, hb⟩; refine ⟨_, rfl, ?_⟩; have n0_ := Aside0.mk (Kd.R_below (by (with_reducible repeat (first | apply Kd.R_alloc | apply Kd.R_drewN | apply Kd.R_drew)); exact HO_0.out) hb); have n1_ := Aside0.mk (Kd.R_below (by (with_reducible repeat (first | apply Kd.R_alloc | apply Kd.R_drewN | apply Kd.R_drew)); exact HO_4.out) hb); have n2_ := Aside0.mk (below_step (by repeat (first | (with_reducible first | exact HB.out | apply below_alloc | apply pw_below_drewN | apply below_drew1) | exact HB.out)) hb); clear HO_0; clear HO_4; clear HB; have HO_0 := n0_; have HO_4 := n1_; have HB := n2_; clear n0_ n1_ n2_; (try clear hb); (try clear hb2); (try clear hk); (try clear hi)) | ((with_reducible refine gate_callee (f := 24) rfl ?_); refine goesL_ (some 95) rfl rfl Try.func24 (by kernel_rfl) rfl #[] rfl (by (try simp only [List.map_toArray, List.map_cons, List.map_nil]); first | done | rfl | (simp only [List.length_drop, List.length_take]; rfl)) ?_; (with_reducible refine (headroomlaw20_alive.calls k2  true _ A38.out).mono ?_); rintro e w59 ⟨rfl, hb⟩; refine ⟨_, rfl, ?_⟩; have n0_ := Aside0.mk (Kd.R_below (by (with_reducible repeat (first | apply Kd.R_alloc | apply Kd.R_drewN | apply Kd.R_drew)); exact HO_0.out) hb); have n1_ := Aside0.mk (Kd.R_below (by (with_reducible repeat (first | apply Kd.R_alloc | apply Kd.R_drewN | apply Kd.R_drew)); exact HO_4.out) hb); have n2_ := Aside0.mk (below_step (by repeat (first | (with_reducible first | exact HB.out | apply below_alloc | apply pw_below_drewN | apply below_drew1) | exact HB.out)) hb); clear HO_0; clear HO_4; clear HB; have HO_0 := n0_; have HO_4 := n1_; have HB := n2_; clear n0_ n1_ n2_; (try clear hb); (try clear hb2); (try clear hk); (try clear hi)))
                        go_ret
                        exact ⟨by first | rfl | (simp [errW_none, errW_some] <;> rfl) | (simp only [← hji2]; first | rfl | (simp [errW_none, errW_some] <;> rfl)) | (simp [*, errW_none, errW_some] <;> rfl), by repeat (first | (with_reducible first | exact HB.out | apply below_alloc | apply pw_below_drewN | apply below_drew1) | exact HB.out)⟩
                    · rw [if_neg c40] at H
                      have c40b0 : (t252 == 0) = false := beq_eq_false_iff_ne.mpr c40
                      have c40b1 : (t252 != 0) = true := bne_iff_ne.mpr c40
                      obtain rfl := Option.some.inj H
                      go_wp2_with (first | ((with_reducible refine gate_callee (f := 23) rfl ?_); refine goesL_ (some 85) rfl rfl Try.func23 (by kernel_rfl) rfl #[.slice Ao8 x0_1.length co8] rfl (by (try simp only [List.map_toArray, List.map_cons, List.map_nil]); first | done | rfl | (simp only [List.length_drop, List.length_take]; rfl)) ?_; (with_reducible refine (power_Total.calls _ _ x0_1 t250 t251 t252 _ ?side1 ?side2 A36.out).mono ?_); (case side1 => repeat (first | exact (Kd.R_reads' HO_0.out).2.2 | (with_reducible refine Kd.C_alloc ?_ _) | (with_reducible refine Kd.C_drewN ?_ _) | (with_reducible refine Kd.C_drew ?_))); (case side2 => exact (Kd.R_reads' HO_0.out).2.1); rintro e w60 ⟨rfl, hb⟩; refine ⟨_, rfl, ?_⟩; have n0_ := Aside0.mk (Kd.R_below (by (with_reducible repeat (first | apply Kd.R_alloc | apply Kd.R_drewN | apply Kd.R_drew)); exact HO_0.out) hb); have n1_ := Aside0.mk (Kd.R_below (by (with_reducible repeat (first | apply Kd.R_alloc | apply Kd.R_drewN | apply Kd.R_drew)); exact HO_4.out) hb); have n2_ := Aside0.mk (below_step (by repeat (first | (with_reducible first | exact HB.out | apply below_alloc | apply pw_below_drewN | apply below_drew1) | exact HB.out)) hb); clear HO_0; clear HO_4; clear HB; have HO_0 := n0_; have HO_4 := n1_; have HB := n2_; clear n0_ n1_ n2_; (try clear hb); (try clear hb2); (try clear hk); (try clear hi); obtain ⟨Ao61, co61, eo61⟩ := Kd.R_slice HO_4.out; subst eo61) | ((with_reducible refine gate_callee (f := 23) rfl ?_); refine goesL_ (some 91) rfl rfl Try.func23 (by kernel_rfl) rfl #[.slice Ao61 x4_2.length co61] rfl (by (try simp only [List.map_toArray, List.map_cons, List.map_nil]); first | done | rfl | (simp only [List.length_drop, List.length_take]; rfl)) ?_; (with_reducible refine (power_Total.calls _ _ x4_2 t253 t254 t255 _ ?side1 ?side2 A37.out).mono ?_); (case side1 => repeat (first | exact (Kd.R_reads' HO_4.out).2.2 | (with_reducible refine Kd.C_alloc ?_ _) | (with_reducible refine Kd.C_drewN ?_ _) | (with_reducible refine Kd.C_drew ?_))); (case side2 => exact (Kd.R_reads' HO_4.out).2.1); rintro e w62 ⟨rfl, hb⟩; refine ⟨_, rfl, ?_⟩; have n0_ := Aside0.mk (Kd.R_below (by (with_reducible repeat (first | apply Kd.R_alloc | apply Kd.R_drewN | apply Kd.R_drew)); exact HO_0.out) hb); have n1_ := Aside0.mk (Kd.R_below (by (with_reducible repeat (first | apply Kd.R_alloc | apply Kd.R_drewN | apply Kd.R_drew)); exact HO_4.out) hb); have n2_ := Aside0.mk (below_step (by repeat (first | (with_reducible first | exact HB.out | apply below_alloc | apply pw_below_drewN | apply below_drew1) | exact HB.out)) hb); clear HO_0; clear HO_4; clear HB; have HO_0 := n0_; have HO_4 := n1_; have HB := n2_; clear n0_ n1_ n2_; (try clear hb); (try clear hb2); (try clear hk); (try clear hi)) | ((with_reducible refine gate_callee (f := 24) rfl ?_); refine goesL_ (some 95) rfl rfl Try.func24 (by kernel_rfl) rfl #[] rfl (by (try simp only [List.map_toArray, List.map_cons, List.map_nil]); first | done | rfl | (simp only [List.length_drop, List.length_take]; rfl)) ?_; (with_reducible refine (headroomlaw20_alive.calls k2  true _ A38.out).mono ?_); rintro e w63 ⟨rfl, hb⟩; refine ⟨_, rfl, ?_⟩; have n0_ := Aside0.mk (Kd.R_below (by (with_reducible repeat (first | apply Kd.R_alloc | apply Kd.R_drewN | apply Kd.R_drew)); exact HO_0.out) hb); have n1_ := Aside0.mk (Kd.R_below (by (with_reducible repeat (first | apply Kd.R_alloc | apply Kd.R_drewN | apply Kd.R_drew)); exact HO_4.out) hb); have n2_ := Aside0.mk (below_step (by repeat (first | (with_reducible first | exact HB.out | apply below_alloc | apply pw_below_drewN | apply below_drew1) | exact HB.out)) hb); clear HO_0; clear HO_4; clear HB; have HO_0 := n0_; have HO_4 := n1_; have HB := n2_; clear n0_ n1_ n2_; (try clear hb); (try clear hb2); (try clear hk); (try clear hi)))
                      go_ret
                      exact ⟨by first | rfl | (simp [errW_none, errW_some] <;> rfl) | (simp only [← hji2]; first | rfl | (simp [errW_none, errW_some] <;> rfl)) | (simp [*, errW_none, errW_some] <;> rfl), by repeat (first | (with_reducible first | exact HB.out | apply below_alloc | apply pw_below_drewN | apply below_drew1) | exact HB.out)⟩
                  · replace c39 := Bool.eq_false_iff.mpr c39
                    subst c39
                    have H1 : (some false) = some r := by rw [if_neg (show ¬ (false = true) by decide)] at H; exact H
                    clear H
                    have H := H1
                    clear H1
                    obtain rfl := Option.some.inj H
                    go_wp2_with (first | ((with_reducible refine gate_callee (f := 23) rfl ?_); refine goesL_ (some 85) rfl rfl Try.func23 (by kernel_rfl) rfl #[.slice Ao8 x0_1.length co8] rfl (by (try simp only [List.map_toArray, List.map_cons, List.map_nil]); first | done | rfl | (simp only [List.length_drop, List.length_take]; rfl)) ?_; (with_reducible refine (power_Total.calls _ _ x0_1 t250 t251 t252 _ ?side1 ?side2 A36.out).mono ?_); (case side1 => repeat (first | exact (Kd.R_reads' HO_0.out).2.2 | (with_reducible refine Kd.C_alloc ?_ _) | (with_reducible refine Kd.C_drewN ?_ _) | (with_reducible refine Kd.C_drew ?_))); (case side2 => exact (Kd.R_reads' HO_0.out).2.1); rintro e w64 ⟨rfl, hb⟩; refine ⟨_, rfl, ?_⟩; have n0_ := Aside0.mk (Kd.R_below (by (with_reducible repeat (first | apply Kd.R_alloc | apply Kd.R_drewN | apply Kd.R_drew)); exact HO_0.out) hb); have n1_ := Aside0.mk (Kd.R_below (by (with_reducible repeat (first | apply Kd.R_alloc | apply Kd.R_drewN | apply Kd.R_drew)); exact HO_4.out) hb); have n2_ := Aside0.mk (below_step (by repeat (first | (with_reducible first | exact HB.out | apply below_alloc | apply pw_below_drewN | apply below_drew1) | exact HB.out)) hb); clear HO_0; clear HO_4; clear HB; have HO_0 := n0_; have HO_4 := n1_; have HB := n2_; clear n0_ n1_ n2_; (try clear hb); (try clear hb2); (try clear hk); (try clear hi); obtain ⟨Ao65, co65, eo65⟩ := Kd.R_slice HO_4.out; subst eo65) | ((with_reducible refine gate_callee (f := 23) rfl ?_); refine goesL_ (some 91) rfl rfl Try.func23 (by kernel_rfl) rfl #[.slice Ao65 x4_2.length co65] rfl (by (try simp only [List.map_toArray, List.map_cons, List.map_nil]); first | done | rfl | (simp only [List.length_drop, List.length_take]; rfl)) ?_; (with_reducible refine (power_Total.calls _ _ x4_2 t253 t254 t255 _ ?side1 ?side2 A37.out).mono ?_); (case side1 => repeat (first | exact (Kd.R_reads' HO_4.out).2.2 | (with_reducible refine Kd.C_alloc ?_ _) | (with_reducible refine Kd.C_drewN ?_ _) | (with_reducible refine Kd.C_drew ?_))); (case side2 => exact (Kd.R_reads' HO_4.out).2.1); rintro e w66 ⟨rfl, hb⟩; refine ⟨_, rfl, ?_⟩; have n0_ := Aside0.mk (Kd.R_below (by (with_reducible repeat (first | apply Kd.R_alloc | apply Kd.R_drewN | apply Kd.R_drew)); exact HO_0.out) hb); have n1_ := Aside0.mk (Kd.R_below (by (with_reducible repeat (first | apply Kd.R_alloc | apply Kd.R_drewN | apply Kd.R_drew)); exact HO_4.out) hb); have n2_ := Aside0.mk (below_step (by repeat (first | (with_reducible first | exact HB.out | apply below_alloc | apply pw_below_drewN | apply below_drew1) | exact HB.out)) hb); clear HO_0; clear HO_4; clear HB; have HO_0 := n0_; have HO_4 := n1_; have HB := n2_; clear n0_ n1_ n2_; (try clear hb); (try clear hb2); (try clear hk); (try clear hi)) | ((with_reducible refine gate_callee (f := 24) rfl ?_); refine goesL_ (some 95) rfl rfl Try.func24 (by kernel_rfl) rfl #[] rfl (by (try simp only [List.map_toArray, List.map_cons, List.map_nil]); first | done | rfl | (simp only [List.length_drop, List.length_take]; rfl)) ?_; (with_reducible refine (headroomlaw20_alive.calls k2  false _ A38.out).mono ?_); rintro e w67 ⟨rfl, hb⟩; refine ⟨_, rfl, ?_⟩; have n0_ := Aside0.mk (Kd.R_below (by (with_reducible repeat (first | apply Kd.R_alloc | apply Kd.R_drewN | apply Kd.R_drew)); exact HO_0.out) hb); have n1_ := Aside0.mk (Kd.R_below (by (with_reducible repeat (first | apply Kd.R_alloc | apply Kd.R_drewN | apply Kd.R_drew)); exact HO_4.out) hb); have n2_ := Aside0.mk (below_step (by repeat (first | (with_reducible first | exact HB.out | apply below_alloc | apply pw_below_drewN | apply below_drew1) | exact HB.out)) hb); clear HO_0; clear HO_4; clear HB; have HO_0 := n0_; have HO_4 := n1_; have HB := n2_; clear n0_ n1_ n2_; (try clear hb); (try clear hb2); (try clear hk); (try clear hi)))
                    go_ret
                    exact ⟨by first | rfl | (simp [errW_none, errW_some] <;> rfl) | (simp only [← hji2]; first | rfl | (simp [errW_none, errW_some] <;> rfl)) | (simp [*, errW_none, errW_some] <;> rfl), by repeat (first | (with_reducible first | exact HB.out | apply below_alloc | apply pw_below_drewN | apply below_drew1) | exact HB.out)⟩
    · rw [if_neg c4] at H
      exact absurd H (by simp)
  · rw [if_neg c3] at H
    exact absurd H (by simp)

end Go.Proofs.Ytajgpilcbaoneaa.P
