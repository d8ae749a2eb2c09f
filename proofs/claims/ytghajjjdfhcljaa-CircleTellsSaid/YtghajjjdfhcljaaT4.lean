import Derived.Test.YtghajjjdfhcljaaT3
namespace Go.Proofs.Ytghajjjdfhcljaa.P
open Go.RowKit Go.Proofs.YtghajjjdfhcljaaW.PrintWords Go.Proofs.YtghajjjdfhcljaaW.PrintLast Go.Proofs.YtghajjjdfhcljaaW.PrintMore
set_option linter.unusedVariables false
set_option linter.unusedSimpArgs false
theorem rows_take : List.take (angsL.length * 1) (rowA 45).toList = encs (Value.int .i64) angsL := by
  have e : rowL 45 = angsL := by decide +kernel
  show List.take (angsL.length * 1) ((rowL 45).map (Value.int .i64)) = angsL.map (Value.int .i64)
  rw [e, Nat.mul_one, ← List.map_take, List.take_length]
theorem size62 : (Try.prog.info? 62).map (·.size) = some (rowA 45).size := by rw [rowA_size 45 (by decide)]; kernel_rfl
set_option maxRecDepth 100000 in
set_option maxHeartbeats 4000000 in
theorem Angles_any (w : World) :
    Calls Try.prog 24 #[] w fun e w' => ∃ v0_ : Value, e = .returned (v0_) ∧ Kd.R (Kd.int .i64) 62 w' w.heap.size (fun _ => True) v0_ angsL ∧ Below w.heap.size w w' := by
  go_enter Try.func24, Try.ntmps24
  go_wp2_with (first
    | (go_at_call 52; refine (angles_any _).mono ?_; rintro e W1 ⟨rfl, hb⟩; have HB1 := Lib.hid hb; clear hb)
    | ((with_reducible refine gate_dst (N := 1) rfl ?_); refine box_event ?hg (N := 1) ?hd (cs := rowA 0) (t := 62) ?hr ?_; (case hd => rfl); (case hg => rfl); (case hr => rfl); intro g1 hg W2 hbox hb; have B2 := Lib.hid hbox; have LG1 : w.heap.size ≤ g1 := (by rw [hg]; exact HB1.out.size); have HB2 := Lib.hid (below_step HB1.out hb); clear hbox hb hg HB1)
    | ((with_reducible refine gate_store (t := 62) (p := 1) rfl ?_); refine row_event rfl 62 _ _ rfl g1 (rowA 45) rfl rfl 62 (rowA 0) B2.out size62 (by rw [rowA_size 0 (by decide), rowA_size 45 (by decide)]) (rowA_one 45) ?_; intro W3 hq hoth hbel; have B3 := Lib.hid hq; have HB3 := Lib.hid (hbel _ _ LG1 HB2.out); clear hq hoth hbel))
  go_ret
  refine ⟨_, rfl, ?_, HB3.out⟩
  refine Kd.R_of_own (h1 := fun _ => rfl) ?_ (fun _ _ => trivial)
  exact ⟨by decide, .inr ⟨g1, 45, rowA 45, rfl, LG1, B3.out, by decide, by decide, rowA_size 45 (by decide), rows_take⟩⟩
set_option maxRecDepth 100000 in
set_option maxHeartbeats 4000000 in
theorem Gain_any (w : World) :
    Calls Try.prog 27 #[] w fun e w' => e = .returned (.int .i64 118661582157481174) ∧ Below w.heap.size w w' := by
  have hv : (runTo 72057594037927936 0 45).1 = 118661582157481174 := by decide +kernel
  have HV := Lib.hid hv
  clear hv
  go_enter Try.func27, Try.ntmps27
  go_wp2_with (first
    | (go_at_call 51; refine (run_any _ _ _).mono ?_; rintro e W1 ⟨rfl, hb⟩; have HB1 := Lib.hid hb; clear hb)
    | ((with_reducible refine gate_dst (N := 1) rfl ?_); refine box_event ?hg (N := 1) ?hd (cs := #[.int .i64 0, .int .i64 0]) (t := 37) ?hr ?_; (case hd => rfl); (case hg => rfl); (case hr => rfl); intro g1 hg W2 hbox hb; have B2 := Lib.hid hbox; have LG1 : w.heap.size ≤ g1 := (by rw [hg]; exact HB1.out.size); have HB2 := Lib.hid (below_step HB1.out hb); clear hbox hb hg HB1)
    | ((with_reducible refine gate_store (t := 37) (p := 1) rfl ?_); refine row_event rfl 37 _ _ rfl g1 #[.int .i64 (runTo 72057594037927936 0 45).1, .int .i64 (runTo 72057594037927936 0 45).2.1] rfl rfl 37 #[.int .i64 0, .int .i64 0] B2.out (size37 _ _) rfl (one37 _ _) ?_; intro W3 hq hoth hbel; have B3 := Lib.hid hq; have HB3 := Lib.hid (hbel _ _ LG1 HB2.out); have hcell := (blk_cell B3.out 0).trans rfl; clear hq hoth hbel))
  go_ret
  exact ⟨congrArg (fun q => Ending.returned (.int .i64 q)) HV.out, HB3.out⟩

/-- The inverse's rounds: what is left, and the quotient's bits. -/
def invStep (g : Int) (s : Int × Int) : Int × Int :=
  if wrap64 (s.1 * 2) ≥ g then (wrap64 (wrap64 (s.1 * 2) - g), Go.bits .or .i64 (wrap64 (s.2 * 2)) 1) else (wrap64 (s.1 * 2), wrap64 (s.2 * 2))
def invTo : Nat → Int × Int
  | 0 => (72057594037927936, 0)
  | k + 1 => invStep 118661582157481174 (invTo k)
theorem size64 (a b : Value) : (Try.prog.info? 64).map (·.size) = some (#[a, b] : Array Value).size := by kernel_rfl
set_option maxRecDepth 100000 in
set_option maxHeartbeats 4000000 in
theorem Inverse_any (w : World) :
    Calls Try.prog 29 #[] w fun e w' => e = .returned (.int .i64 43757185469210200) ∧ Below w.heap.size w w' := by
  have hv : (invTo 56).2 = 43757185469210200 := by decide +kernel
  have HV := Lib.hid hv
  clear hv
  go_enter Try.func29, Try.ntmps29
  go_wp2_with (first
    | (go_at_call 27; refine (Gain_any _).mono ?_; rintro e W1 ⟨rfl, hb⟩; have HB1 := Lib.hid hb; clear hb)
    | ((with_reducible refine gate_dst (N := 2) rfl ?_); refine box_event ?hg (N := 2) ?hd (cs := #[.int .i64 0, .int .i64 0]) (t := 64) ?hr ?_; (case hd => rfl); (case hg => rfl); (case hr => rfl); intro g1 hg W2 hbox hb; have B2 := Lib.hid hbox; have LG1 : w.heap.size ≤ g1 := (by rw [hg]; exact HB1.out.size); have HB2 := Lib.hid (below_step HB1.out hb); clear hbox hb hg HB1)
    | ((with_reducible refine gate_store (t := 64) (p := 2) rfl ?_); refine row_event rfl 64 _ _ rfl g1 #[.int .i64 72057594037927936, .int .i64 0] rfl rfl 64 #[.int .i64 0, .int .i64 0] B2.out (size64 _ _) rfl (one37 _ _) ?_; intro W3 hq hoth hbel; have B3 := Lib.hid hq; have HB3 := Lib.hid (hbel _ _ LG1 HB2.out); clear hq hoth hbel HB2 B2))
  go_loopw [5] (fun s5 wr => ∃ (k : Nat) (a b : Int), k ≤ 56 ∧ s5 = .int .i64 k ∧ wr.heap[g1]? = some (.cells #[.int .i64 a, .int .i64 b] 64 (0, 0)) ∧ invTo k = (a, b) ∧ Below w.heap.size w wr) (fun i _ => 56 - (intOf i).toNat)
  case atStart => exact ⟨0, _, _, by omega, rfl, B3.out, rfl, HB3.out⟩
  case round =>
    obtain ⟨k, a, b, hk, rfl, c1, hinv, hbw⟩ := hrel
    have C1 := Lib.hid c1
    have HI := Lib.hid hinv
    have HBW := Lib.hid hbw
    clear c1 hinv hbw B3 HB3
    have ha := (blk_cell C1.out 0).trans rfl
    have hb := (blk_cell C1.out 1).trans rfl
    have hfa := blk_frozen C1.out 0
    have hfb := blk_frozen C1.out 1
    by_cases hlt : k < 56
    · by_cases hc : wrap64 (a * 2) ≥ 118661582157481174
      · have HN := Lib.hid (show invTo (k + 1) = (wrap64 (wrap64 (a * 2) - 118661582157481174), Go.bits .or .i64 (wrap64 (b * 2)) 1) from by rw [invTo, HI.out]; exact if_pos hc)
        go_wp2
        go_roundw
        case rel => exact ⟨k + 1, _, _, by omega, by go_num, blk_put (blk_put (blk_put (blk_put C1.out 0 _ rfl) 1 _ rfl) 0 _ rfl) 1 _ rfl, HN.out, (((HBW.out.setCell (p := ⟨g1, 0, none⟩) LG1 _).setCell (p := ⟨g1, 1, none⟩) LG1 _).setCell (p := ⟨g1, 0, none⟩) LG1 _).setCell (p := ⟨g1, 1, none⟩) LG1 _⟩
        case measure => simp [intOf]; omega
      · have HN := Lib.hid (show invTo (k + 1) = (wrap64 (a * 2), wrap64 (b * 2)) from by rw [invTo, HI.out]; exact if_neg hc)
        go_wp2
        go_roundw
        case rel => exact ⟨k + 1, _, _, by omega, by go_num, blk_put (blk_put C1.out 0 _ rfl) 1 _ rfl, HN.out, (HBW.out.setCell (p := ⟨g1, 0, none⟩) LG1 _).setCell (p := ⟨g1, 1, none⟩) LG1 _⟩
        case measure => simp [intOf]; omega
    · obtain rfl : k = 56 := by omega
      go_wp2
      go_ret
      have e : b = 43757185469210200 := by rw [← HV.out, HI.out]
      exact ⟨congrArg (fun q => Ending.returned (.int .i64 q)) e, HBW.out⟩

def gain_Run.f (a0 : Int) (a1 : Int) : Option (Int × Int × Int × Int) :=
  if a0 < 0 then some (0, 0, 0, 2) else if a0 > 144115188075855872 then some (0, 0, 0, 2) else if a1 < -72057594037927936 then some (0, 0, 0, 2) else if a1 > 72057594037927936 then some (0, 0, 0, 2) else some ((runTo a0 a1 45).1, (runTo a0 a1 45).2.1, (runTo a0 a1 45).2.2, 0)
/-- What is refused. -/
def runBad (x z : Int) : Prop := x < 0 ∨ x > 144115188075855872 ∨ z < -72057594037927936 ∨ z > 72057594037927936
set_option maxRecDepth 100000 in
set_option maxHeartbeats 4000000 in
theorem Run_no (x z : Int) (h : runBad x z) (w : World) :
    Calls Try.prog 23 #[.int .i64 x, .int .i64 z] w fun e w' => e = .returned (.tuple #[.agg #[.int .i64 0, .int .i64 0], .int .i64 0, .int .i64 2]) ∧ Below w.heap.size w w' := by
  unfold runBad at h
  by_cases h1 : x < 0
  · clear h
    go_enter Try.func23, Try.ntmps23
    go_wp2_with (first
      | ((with_reducible refine gate_dst (N := 4) rfl ?_); refine box_event ?hg (N := 4) ?hd (cs := #[.int .i64 0, .int .i64 0]) (t := 37) ?hr ?_; (case hd => rfl); (case hg => rfl); (case hr => rfl); intro g4 hg W0 hbox hb; have B0 := Lib.hid hbox; have HB0 := Lib.hid hb; have LG4 : w.heap.size ≤ g4 := (by rw [hg]; exact Nat.le_refl _); clear hbox hb hg)
      | ((with_reducible refine gate_store (t := 37) (p := 4) rfl ?_); refine row_event rfl 37 _ _ rfl g4 #[.int .i64 0, .int .i64 0] rfl rfl 37 #[.int .i64 0, .int .i64 0] B0.out (size37 _ _) rfl (one37 _ _) ?_; intro W7 hq hoth hbel; have B7 := Lib.hid hq; have HB7 := Lib.hid hbel; clear hq hoth hbel))
    refine bodyPost_ret (results_ctt rfl _ _ g4 37 #[.int .i64 0, .int .i64 0] (0, 0) _ rfl B7.out Try.underlying37 rfl (size37 _ _)) rfl ?_
    exact ⟨rfl, HB7.out _ _ LG4 HB0.out⟩
  · by_cases h2 : x > 144115188075855872
    · clear h
      go_enter Try.func23, Try.ntmps23
      go_wp2_with (first
        | ((with_reducible refine gate_dst (N := 4) rfl ?_); refine box_event ?hg (N := 4) ?hd (cs := #[.int .i64 0, .int .i64 0]) (t := 37) ?hr ?_; (case hd => rfl); (case hg => rfl); (case hr => rfl); intro g4 hg W0 hbox hb; have B0 := Lib.hid hbox; have HB0 := Lib.hid hb; have LG4 : w.heap.size ≤ g4 := (by rw [hg]; exact Nat.le_refl _); clear hbox hb hg)
        | ((with_reducible refine gate_store (t := 37) (p := 4) rfl ?_); refine row_event rfl 37 _ _ rfl g4 #[.int .i64 0, .int .i64 0] rfl rfl 37 #[.int .i64 0, .int .i64 0] B0.out (size37 _ _) rfl (one37 _ _) ?_; intro W7 hq hoth hbel; have B7 := Lib.hid hq; have HB7 := Lib.hid hbel; clear hq hoth hbel))
      refine bodyPost_ret (results_ctt rfl _ _ g4 37 #[.int .i64 0, .int .i64 0] (0, 0) _ rfl B7.out Try.underlying37 rfl (size37 _ _)) rfl ?_
      exact ⟨rfl, HB7.out _ _ LG4 HB0.out⟩
    · by_cases h3 : z < -72057594037927936
      · clear h
        go_enter Try.func23, Try.ntmps23
        go_wp2_with (first
          | ((with_reducible refine gate_dst (N := 4) rfl ?_); refine box_event ?hg (N := 4) ?hd (cs := #[.int .i64 0, .int .i64 0]) (t := 37) ?hr ?_; (case hd => rfl); (case hg => rfl); (case hr => rfl); intro g4 hg W0 hbox hb; have B0 := Lib.hid hbox; have HB0 := Lib.hid hb; have LG4 : w.heap.size ≤ g4 := (by rw [hg]; exact Nat.le_refl _); clear hbox hb hg)
          | ((with_reducible refine gate_store (t := 37) (p := 4) rfl ?_); refine row_event rfl 37 _ _ rfl g4 #[.int .i64 0, .int .i64 0] rfl rfl 37 #[.int .i64 0, .int .i64 0] B0.out (size37 _ _) rfl (one37 _ _) ?_; intro W7 hq hoth hbel; have B7 := Lib.hid hq; have HB7 := Lib.hid hbel; clear hq hoth hbel))
        refine bodyPost_ret (results_ctt rfl _ _ g4 37 #[.int .i64 0, .int .i64 0] (0, 0) _ rfl B7.out Try.underlying37 rfl (size37 _ _)) rfl ?_
        exact ⟨rfl, HB7.out _ _ LG4 HB0.out⟩
      · have h4 : z > 72057594037927936 := by omega
        clear h
        go_enter Try.func23, Try.ntmps23
        go_wp2_with (first
          | ((with_reducible refine gate_dst (N := 4) rfl ?_); refine box_event ?hg (N := 4) ?hd (cs := #[.int .i64 0, .int .i64 0]) (t := 37) ?hr ?_; (case hd => rfl); (case hg => rfl); (case hr => rfl); intro g4 hg W0 hbox hb; have B0 := Lib.hid hbox; have HB0 := Lib.hid hb; have LG4 : w.heap.size ≤ g4 := (by rw [hg]; exact Nat.le_refl _); clear hbox hb hg)
          | ((with_reducible refine gate_store (t := 37) (p := 4) rfl ?_); refine row_event rfl 37 _ _ rfl g4 #[.int .i64 0, .int .i64 0] rfl rfl 37 #[.int .i64 0, .int .i64 0] B0.out (size37 _ _) rfl (one37 _ _) ?_; intro W7 hq hoth hbel; have B7 := Lib.hid hq; have HB7 := Lib.hid hbel; clear hq hoth hbel))
        refine bodyPost_ret (results_ctt rfl _ _ g4 37 #[.int .i64 0, .int .i64 0] (0, 0) _ rfl B7.out Try.underlying37 rfl (size37 _ _)) rfl ?_
        exact ⟨rfl, HB7.out _ _ LG4 HB0.out⟩
set_option maxRecDepth 100000 in
set_option maxHeartbeats 4000000 in
theorem Run_yes (x z : Int) (h1 : 0 ≤ x) (h2 : x ≤ 144115188075855872) (h3 : -72057594037927936 ≤ z) (h4 : z ≤ 72057594037927936) (w : World) :
    Calls Try.prog 23 #[.int .i64 x, .int .i64 z] w fun e w' => e = .returned (.tuple #[.agg #[.int .i64 (runTo x z 45).1, .int .i64 (runTo x z 45).2.1], .int .i64 (runTo x z 45).2.2, .int .i64 0]) ∧ Below w.heap.size w w' := by
  go_enter Try.func23, Try.ntmps23
  go_wp2_with (first
    | ((with_reducible refine gate_dst (N := 4) rfl ?_); refine box_event ?hg (N := 4) ?hd (cs := #[.int .i64 0, .int .i64 0]) (t := 37) ?hr ?_; (case hd => rfl); (case hg => rfl); (case hr => rfl); intro g4 hg W0 hbox hb; have B0 := Lib.hid hbox; have HB0 := Lib.hid hb; have LG4 : w.heap.size ≤ g4 := (by rw [hg]; exact Nat.le_refl _); clear hbox hb hg)
    | (go_at_call 51; refine (run_any _ _ _).mono ?_; rintro e W1 ⟨rfl, hb⟩; have B1 := Lib.hid (blk_below B0.out hb); have HB1 := Lib.hid (below_step HB0.out hb); clear hb B0 HB0)
    | ((with_reducible refine gate_dst (N := 7) rfl ?_); refine box_event ?hg (N := 7) ?hd (cs := #[.int .i64 0, .int .i64 0]) (t := 37) ?hr ?_; (case hd => rfl); (case hg => rfl); (case hr => rfl); intro g7 hg W2 hbox hb; have B2 := Lib.hid hbox; have B42 := Lib.hid (blk_below B1.out hb); have N47 : g4 ≠ g7 := (by rw [hg]; exact Nat.ne_of_lt (blk_lt B1.out)); have LG7 : w.heap.size ≤ g7 := (by rw [hg]; exact HB1.out.size); have HB2 := Lib.hid (below_step HB1.out hb); clear hbox hb hg HB1 B1)
    | ((with_reducible refine gate_store (t := 37) (p := 7) rfl ?_); refine row_event rfl 37 _ _ rfl g7 #[.int .i64 (runTo x z 45).1, .int .i64 (runTo x z 45).2.1] rfl rfl 37 #[.int .i64 0, .int .i64 0] B2.out (size37 _ _) rfl (one37 _ _) ?_; intro W3 hq hoth hbel; have B3 := Lib.hid hq; have B43 := Lib.hid ((hoth g4 N47).trans B42.out); have HB3 := Lib.hid (hbel _ _ LG7 HB2.out); clear hq hoth hbel HB2 B2 B42)
    | ((with_reducible refine gate_dst (N := 30) rfl ?_); refine wpList_load_row rfl 37 _ rfl g7 rfl 37 #[.int .i64 (runTo x z 45).1, .int .i64 (runTo x z 45).2.1] (0, 0) _ B3.out Try.underlying37 rfl (size37 _ _) ?_)
    | ((with_reducible refine gate_store (t := 37) (p := 4) rfl ?_); refine row_event rfl 37 _ _ rfl g4 #[.int .i64 (runTo x z 45).1, .int .i64 (runTo x z 45).2.1] rfl rfl 37 #[.int .i64 0, .int .i64 0] B43.out (size37 _ _) rfl (one37 _ _) ?_; intro W7 hq hoth hbel; have B7 := Lib.hid hq; have HB7 := Lib.hid hbel; clear hq hoth hbel))
  refine bodyPost_ret (results_ctt rfl _ _ g4 37 #[.int .i64 (runTo x z 45).1, .int .i64 (runTo x z 45).2.1] (0, 0) _ rfl B7.out Try.underlying37 rfl (size37 _ _)) rfl ?_
  exact ⟨rfl, HB7.out _ _ LG4 HB3.out⟩
theorem Run_calls (a0 : Int) (a1 : Int) (r1 : Int) (r2 : Int) (r3 : Int) (r4 : Int) (w : World) (h : gain_Run.f a0 a1 = some (r1, r2, r3, r4)) :
    Calls Try.prog 23 #[.int .i64 a0, .int .i64 a1] w fun e w' => e = .returned (.tuple #[.agg #[.int .i64 r1, .int .i64 r2], .int .i64 r3, .int .i64 r4]) ∧ Below w.heap.size w w' := by
  by_cases h1 : a0 < 0
  · have e : gain_Run.f a0 a1 = some (0, 0, 0, 2) := if_pos h1
    rw [e] at h
    simp only [Option.some.injEq, Prod.mk.injEq] at h
    obtain ⟨rfl, rfl, rfl, rfl⟩ := h
    exact Run_no a0 a1 (.inl h1) w
  by_cases h2 : a0 > 144115188075855872
  · have e : gain_Run.f a0 a1 = some (0, 0, 0, 2) := (if_neg h1).trans (if_pos h2)
    rw [e] at h
    simp only [Option.some.injEq, Prod.mk.injEq] at h
    obtain ⟨rfl, rfl, rfl, rfl⟩ := h
    exact Run_no a0 a1 (.inr (.inl h2)) w
  by_cases h3 : a1 < -72057594037927936
  · have e : gain_Run.f a0 a1 = some (0, 0, 0, 2) := (if_neg h1).trans ((if_neg h2).trans (if_pos h3))
    rw [e] at h
    simp only [Option.some.injEq, Prod.mk.injEq] at h
    obtain ⟨rfl, rfl, rfl, rfl⟩ := h
    exact Run_no a0 a1 (.inr (.inr (.inl h3))) w
  by_cases h4 : a1 > 72057594037927936
  · have e : gain_Run.f a0 a1 = some (0, 0, 0, 2) := (if_neg h1).trans ((if_neg h2).trans ((if_neg h3).trans (if_pos h4)))
    rw [e] at h
    simp only [Option.some.injEq, Prod.mk.injEq] at h
    obtain ⟨rfl, rfl, rfl, rfl⟩ := h
    exact Run_no a0 a1 (.inr (.inr (.inr h4))) w
  have e : gain_Run.f a0 a1 = some ((runTo a0 a1 45).1, (runTo a0 a1 45).2.1, (runTo a0 a1 45).2.2, 0) := (if_neg h1).trans ((if_neg h2).trans ((if_neg h3).trans (if_neg h4)))
  rw [e] at h
  clear e
  have hy := Run_yes a0 a1 (by clear h; omega) (by clear h; omega) (by clear h; omega) (by clear h; omega) w
  generalize runTo a0 a1 45 = R at *
  simp only [Option.some.injEq, Prod.mk.injEq] at h
  obtain ⟨rfl, rfl, rfl, rfl⟩ := h
  exact hy
end Go.Proofs.Ytghajjjdfhcljaa.P
