import Derived.Test.YtghajjjdfhcljaaT4
import Derived.RangeFuncBox
namespace Go.Proofs.Ytghajjjdfhcljaa.P
open Go.RowKit Go.Proofs.YtghajjjdfhcljaaW.PrintWords Go.Proofs.YtghajjjdfhcljaaW.PrintLast Go.Proofs.YtghajjjdfhcljaaW.PrintMore
set_option linter.unusedVariables false
set_option linter.unusedSimpArgs false
theorem point1_any (B : Nat) (z : Int) (w : World) (hb : w.heap[B]? = some (.cells #[.int .i64 z] 3 (0, 0))) :
    Calls Try.prog 56 #[.pointer (some ⟨B, 0, none⟩)] w fun e w' => e = .returned (.tuple #[.int .i64 z, .int .i64 0]) ∧ Below w.heap.size w w' := by
  have hc := (blk_cell hb 0).trans rfl
  clear hb
  go_enter Try.func56, Try.ntmps56
  go_wp2
  go_ret2
  exact ⟨rfl, Below.refl _ _⟩
set_option maxRecDepth 100000 in
set_option maxHeartbeats 4000000 in
theorem told_point (B : Nat) (z : Int) (r1 r2 r3 r4 : Int) (w : World) (hbx : w.heap[B]? = some (.cells #[.int .i64 z] 3 (0, 0))) (h : gain_Run.f 43757185469210200 z = some (r1, r2, r3, r4)) :
    Calls Try.prog 55 #[.func (.func 56) #[] #[.pointer (some ⟨B, 0, none⟩)]] w fun x w' => x = .returned (.tuple #[.agg #[.int .i64 r1, .int .i64 r2], .int .i64 r4]) ∧ Below w.heap.size w w' := by
  have HX := Lib.hid hbx
  have HR := Lib.hid h
  clear hbx h
  go_enter Try.func55, Try.ntmps55
  go_wp2_with (first
    | ((with_reducible refine gate_dst (N := 2) rfl ?_); refine box_event ?hg (N := 2) ?hd (cs := #[.int .i64 0, .int .i64 0]) (t := 37) ?hr ?_; (case hd => rfl); (case hg => rfl); (case hr => rfl); intro g4 hg W0 hbox hb; have B0 := Lib.hid hbox; have HB0 := Lib.hid hb; have LG4 : w.heap.size ≤ g4 := (by rw [hg]; exact Nat.le_refl _); clear hbox hb hg)
    | (go_at_call 56; refine (point1_any B z _ (blk_below HX.out HB0.out)).mono ?_; rintro e W1 ⟨rfl, hb⟩; have B1 := Lib.hid (blk_below B0.out hb); have HB1 := Lib.hid (below_step HB0.out hb); clear hb B0 HB0)
    | (go_at_call 29; refine (Inverse_any _).mono ?_; rintro e W2 ⟨rfl, hb⟩; have B2 := Lib.hid (blk_below B1.out hb); have HB2 := Lib.hid (below_step HB1.out hb); clear hb B1 HB1)
    | (go_at_call 23; refine (Run_calls _ _ r1 r2 r3 r4 _ HR.out).mono ?_; rintro e W3 ⟨rfl, hb⟩; have B3 := Lib.hid (blk_below B2.out hb); have HB3 := Lib.hid (below_step HB2.out hb); clear hb B2 HB2)
    | ((with_reducible refine gate_dst (N := 6) rfl ?_); refine box_event ?hg (N := 6) ?hd (cs := #[.int .i64 0, .int .i64 0]) (t := 37) ?hr ?_; (case hd => rfl); (case hg => rfl); (case hr => rfl); intro g7 hg W4 hbox hb; have B4 := Lib.hid hbox; have B34 := Lib.hid (blk_below B3.out hb); have N47 : g4 ≠ g7 := (by rw [hg]; exact Nat.ne_of_lt (blk_lt B3.out)); have LG7 : w.heap.size ≤ g7 := (by rw [hg]; exact HB3.out.size); have HB4 := Lib.hid (below_step HB3.out hb); clear hbox hb hg HB3 B3)
    | ((with_reducible refine gate_store (t := 37) (p := 6) rfl ?_); refine row_event rfl 37 _ _ rfl g7 #[.int .i64 r1, .int .i64 r2] rfl rfl 37 #[.int .i64 0, .int .i64 0] B4.out (size37 _ _) rfl (one37 _ _) ?_; intro W5 hq hoth hbel; have B5 := Lib.hid hq; have B35 := Lib.hid ((hoth g4 N47).trans B34.out); have HB5 := Lib.hid (hbel _ _ LG7 HB4.out); clear hq hoth hbel HB4 B4 B34)
    | ((with_reducible refine gate_dst (N := 24) rfl ?_); refine wpList_load_row rfl 37 _ rfl g7 rfl 37 #[.int .i64 r1, .int .i64 r2] (0, 0) _ B5.out Try.underlying37 rfl (size37 _ _) ?_)
    | ((with_reducible refine gate_store (t := 37) (p := 2) rfl ?_); refine row_event rfl 37 _ _ rfl g4 #[.int .i64 r1, .int .i64 r2] rfl rfl 37 #[.int .i64 0, .int .i64 0] B35.out (size37 _ _) rfl (one37 _ _) ?_; intro W7 hq hoth hbel; have B7 := Lib.hid hq; have HB7 := Lib.hid hbel; clear hq hoth hbel))
  refine bodyPost_ret (results_ct rfl _ _ g4 37 #[.int .i64 r1, .int .i64 r2] (0, 0) _ rfl B7.out Try.underlying37 rfl (size37 _ _)) rfl ?_
  exact ⟨rfl, HB7.out _ _ LG4 HB5.out⟩
set_option maxRecDepth 100000 in
set_option maxHeartbeats 4000000 in
theorem Point_calls (a0 : Int) (r1 r2 r3 r4 : Int) (w : World) (h : gain_Run.f 43757185469210200 a0 = some (r1, r2, r3, r4)) :
    Calls Try.prog 33 #[.int .i64 a0] w fun e w' => e = .returned (.tuple #[.agg #[.int .i64 r1, .int .i64 r2], .int .i64 r4]) ∧ Below w.heap.size w w' := by
  have HR := Lib.hid h
  clear h
  go_enter Try.func33, Try.ntmps33
  go_wp2_with (first
    | ((with_reducible refine gate_dst (N := 1) rfl ?_); refine box_event ?hg (N := 1) ?hd (cs := #[.int .i64 a0]) (t := 3) ?hr ?_; (case hd => rfl); (case hg => rfl); (case hr => rfl); intro g1 hg W0 hbox hb; have B0 := Lib.hid hbox; have HB0 := Lib.hid hb; have LG1 : w.heap.size ≤ g1 := (by rw [hg]; exact Nat.le_refl _); clear hbox hb hg)
    | ((with_reducible refine gate_dst (N := 2) rfl ?_); refine box_event ?hg (N := 2) ?hd (cs := #[.int .i64 0, .int .i64 0]) (t := 37) ?hr ?_; (case hd => rfl); (case hg => rfl); (case hr => rfl); intro g2 hg W1 hbox hb; have B1 := Lib.hid hbox; have B01 := Lib.hid (blk_below B0.out hb); have LG2 : w.heap.size ≤ g2 := (by rw [hg]; exact HB0.out.size); have HB1 := Lib.hid (below_step HB0.out hb); clear hbox hb hg HB0 B0)
    | (go_at_call 55; refine (told_point g1 a0 r1 r2 r3 r4 _ B01.out HR.out).mono ?_; rintro e W2 ⟨rfl, hb⟩; have B2 := Lib.hid (blk_below B1.out hb); have HB2 := Lib.hid (below_step HB1.out hb); clear hb B1 HB1)
    | ((with_reducible refine gate_store (t := 37) (p := 2) rfl ?_); refine row_event rfl 37 _ _ rfl g2 #[.int .i64 r1, .int .i64 r2] rfl rfl 37 #[.int .i64 0, .int .i64 0] B2.out (size37 _ _) rfl (one37 _ _) ?_; intro W7 hq hoth hbel; have B7 := Lib.hid hq; have HB7 := Lib.hid hbel; clear hq hoth hbel))
  refine bodyPost_ret (results_ct rfl _ _ g2 37 #[.int .i64 r1, .int .i64 r2] (0, 0) _ rfl B7.out Try.underlying37 rfl (size37 _ _)) rfl ?_
  exact ⟨rfl, HB7.out _ _ LG2 HB2.out⟩
end Go.Proofs.Ytghajjjdfhcljaa.P
