-- Printed for this claim by drive.py (a program of this session's) through the kit's print program; not trusted: Lean checks it.
import Derived.Test.YtghajjjdfhcljaaP0
import Derived.Test.YtghajjjdfhcljaaPg2
import Derived.Test.YtghajjjdfhcljaaT3
namespace Go.Proofs.Ytghajjjdfhcljaa.P
open Go.RowKit Go.Proofs.YtghajjjdfhcljaaW.PrintWords Go.Proofs.YtghajjjdfhcljaaW.PrintLast Go.Proofs.YtghajjjdfhcljaaW.PrintMore
attribute [local go_sem] max2_int min2_int max_two min_two max_three min_three max_four min_four   -- for this text's walks alone
set_option linter.unusedVariables false
set_option linter.unusedSimpArgs false

/-! ### headroomref05_step: function 63 -/
-- IMPORT Derived.Test.YtghajjjdfhcljaaT3
def headroomref05_step.f (k : Nat) (a0_0 : Int) (a0_1 : Int) (a0_2 : Int) (a1 : Int) (a2 : Int) : Option (Int × Int × Int) := (headroomref01_Floor.f k a0_0 a1).bind fun t212 => ((headroomref01_Floor.f k a0_1 a1).bind fun t213 => (if a0_2 ≥ 0 then (some (wrap64 (a0_0 - t213), wrap64 (a0_1 + t212), wrap64 (a0_2 - a2))) else (some (wrap64 (a0_0 + t213), wrap64 (a0_1 - t212), wrap64 (a0_2 + a2)))))
theorem headroomref05_step.mono : ∀ a0 a1 a2 a3 a4 k, LeO (headroomref05_step.f k a0 a1 a2 a3 a4) (headroomref05_step.f (k + 1) a0 a1 a2 a3 a4) := by
  intro a0 a1 a2 a3 a4 k
  unfold headroomref05_step.f
  repeat' first
      | (with_reducible exact headroomref01_Floor.mono _ _ _)
      | (with_reducible exact LeO.refl _)
      | (with_reducible exact LeO.none _)
      | (with_reducible refine LeO.ite ?_ ?_)
      | (with_reducible refine LeO.bind ?_ (fun _ => ?_))
      | exact headroomref01_Floor.mono _ _ _
      | exact LeO.none _
      | refine LeO.ite ?_ ?_
      | refine LeO.bind ?_ (fun _ => ?_)
theorem size43 (a b c : Value) : (Try.prog.info? 43).map (·.size) = some (#[a, b, c] : Array Value).size := by kernel_rfl
theorem one43 (a b c : Int) : (#[.int .i64 a, .int .i64 b, .int .i64 c] : Array Value).all (·.oneCell') = true := by simp [Value.oneCell']
set_option maxHeartbeats 8000000 in
set_option maxRecDepth 100000 in
theorem headroomref05_step.calls (k : Nat) (a0_0 : Int) (a0_1 : Int) (a0_2 : Int) (a1 : Int) (a2 : Int) (r1 : Int) (r2 : Int) (r3 : Int) (w : World) (h : headroomref05_step.f k a0_0 a0_1 a0_2 a1 a2 = some (r1, r2, r3)) :
    Calls Try.prog 63 #[.agg #[.int .i64 a0_0, .int .i64 a0_1, .int .i64 a0_2], .int .i64 a1, .int .i64 a2] w fun e w' => e = .returned (.agg #[.int .i64 r1, .int .i64 r2, .int .i64 r3]) ∧ Below w.heap.size w w' := by
  unfold headroomref05_step.f at h
  replace h := Option.bind_eq_some_iff.mp h
  obtain ⟨t197, A4, h⟩ := h
  replace h := Option.bind_eq_some_iff.mp h
  obtain ⟨t198, A5, h⟩ := h
  have H4 := Lib.hid A4
  have H5 := Lib.hid A5
  clear A4 A5
  by_cases c6 : a0_2 ≥ 0
  · rw [if_pos c6] at h
    simp only [Option.some.injEq, Prod.mk.injEq] at h
    obtain ⟨rfl, rfl, rfl⟩ := h
    go_enter Try.func63, Try.ntmps63
    go_wp2_with (first
      | ((with_reducible refine gate_dst (N := 3) rfl ?_); refine box_event ?hg (N := 3) ?hd (cs := #[.int .i64 a0_0, .int .i64 a0_1, .int .i64 a0_2]) (t := 43) ?hr ?_; (case hd => rfl); (case hg => rfl); (case hr => first | (go_simp; done) | (go_simp; rfl)); intro g3 hg W0 hbox hb; have B3 := Lib.hid hbox; have HB0 := Lib.hid hb; clear hbox hb hg)
      | ((with_reducible refine gate_dst (N := 6) rfl ?_); refine box_event ?hg (N := 6) ?hd (cs := #[.int .i64 0, .int .i64 0, .int .i64 0]) (t := 43) ?hr ?_; (case hd => rfl); (case hg => rfl); (case hr => first | (go_simp; done) | (go_simp; rfl)); intro g6 hg W1 hbox hb; have B6 := Lib.hid hbox; have B31 := Lib.hid (blk_below B3.out hb); have LG6 : w.heap.size ≤ g6 := (by rw [hg]; exact HB0.out.size); have HB1 := Lib.hid (below_step HB0.out hb); clear hbox hb hg HB0 B3; have k0 : W1.cell? ⟨g3, 0, none⟩ = some (.int .i64 a0_0) := (blk_cell B31.out 0).trans rfl; have k1 : W1.cell? ⟨g3, 1, none⟩ = some (.int .i64 a0_1) := (blk_cell B31.out 1).trans rfl; have k2 : W1.cell? ⟨g3, 2, none⟩ = some (.int .i64 a0_2) := (blk_cell B31.out 2).trans rfl)
      | (go_at_call 64; (with_reducible refine (headroomref01_Floor.calls k a0_0 a1 t197 _ H4.out).mono ?_); rintro e w' ⟨rfl, ⟨nd, rfl⟩⟩)
      | (go_at_call 64; (with_reducible refine (headroomref01_Floor.calls k a0_1 a1 t198 _ H5.out).mono ?_); rintro e w' ⟨rfl, ⟨nd2, rfl⟩⟩)
      | ((with_reducible refine gate_store (t := 43) (p := 6) rfl ?_); refine row_event rfl 43 _ _ rfl g6 #[.int .i64 (wrap64 (a0_0 - t198)), .int .i64 (wrap64 (a0_1 + t197)), .int .i64 (wrap64 (a0_2 - a2))] rfl rfl 43 #[.int .i64 0, .int .i64 0, .int .i64 0] B6.out (size43 _ _ _) rfl (one43 _ _ _) ?_; intro W7 hq hoth hbel; have B7 := Lib.hid hq; have HB7 := Lib.hid hbel; clear hq hoth hbel))
    refine bodyPost_ret (results_cell_row rfl _ _ g6 43 #[.int .i64 (wrap64 (a0_0 - t198)), .int .i64 (wrap64 (a0_1 + t197)), .int .i64 (wrap64 (a0_2 - a2))] (0, 0) _ rfl B7.out Try.underlying43 rfl (size43 _ _ _)) rfl ?_
    exact ⟨rfl, HB7.out _ _ LG6 (pw_below_drewN HB1.out _)⟩
  · rw [if_neg c6] at h
    simp only [Option.some.injEq, Prod.mk.injEq] at h
    obtain ⟨rfl, rfl, rfl⟩ := h
    go_enter Try.func63, Try.ntmps63
    go_wp2_with (first
      | ((with_reducible refine gate_dst (N := 3) rfl ?_); refine box_event ?hg (N := 3) ?hd (cs := #[.int .i64 a0_0, .int .i64 a0_1, .int .i64 a0_2]) (t := 43) ?hr ?_; (case hd => rfl); (case hg => rfl); (case hr => first | (go_simp; done) | (go_simp; rfl)); intro g3 hg W0 hbox hb; have B3 := Lib.hid hbox; have HB0 := Lib.hid hb; clear hbox hb hg)
      | ((with_reducible refine gate_dst (N := 6) rfl ?_); refine box_event ?hg (N := 6) ?hd (cs := #[.int .i64 0, .int .i64 0, .int .i64 0]) (t := 43) ?hr ?_; (case hd => rfl); (case hg => rfl); (case hr => first | (go_simp; done) | (go_simp; rfl)); intro g6 hg W1 hbox hb; have B6 := Lib.hid hbox; have B31 := Lib.hid (blk_below B3.out hb); have LG6 : w.heap.size ≤ g6 := (by rw [hg]; exact HB0.out.size); have HB1 := Lib.hid (below_step HB0.out hb); clear hbox hb hg HB0 B3; have k0 : W1.cell? ⟨g3, 0, none⟩ = some (.int .i64 a0_0) := (blk_cell B31.out 0).trans rfl; have k1 : W1.cell? ⟨g3, 1, none⟩ = some (.int .i64 a0_1) := (blk_cell B31.out 1).trans rfl; have k2 : W1.cell? ⟨g3, 2, none⟩ = some (.int .i64 a0_2) := (blk_cell B31.out 2).trans rfl)
      | (go_at_call 64; (with_reducible refine (headroomref01_Floor.calls k a0_0 a1 t197 _ H4.out).mono ?_); rintro e w' ⟨rfl, ⟨nd, rfl⟩⟩)
      | (go_at_call 64; (with_reducible refine (headroomref01_Floor.calls k a0_1 a1 t198 _ H5.out).mono ?_); rintro e w' ⟨rfl, ⟨nd2, rfl⟩⟩)
      | ((with_reducible refine gate_store (t := 43) (p := 6) rfl ?_); refine row_event rfl 43 _ _ rfl g6 #[.int .i64 (wrap64 (a0_0 + t198)), .int .i64 (wrap64 (a0_1 - t197)), .int .i64 (wrap64 (a0_2 + a2))] rfl rfl 43 #[.int .i64 0, .int .i64 0, .int .i64 0] B6.out (size43 _ _ _) rfl (one43 _ _ _) ?_; intro W7 hq hoth hbel; have B7 := Lib.hid hq; have HB7 := Lib.hid hbel; clear hq hoth hbel))
    refine bodyPost_ret (results_cell_row rfl _ _ g6 43 #[.int .i64 (wrap64 (a0_0 + t198)), .int .i64 (wrap64 (a0_1 - t197)), .int .i64 (wrap64 (a0_2 + a2))] (0, 0) _ rfl B7.out Try.underlying43 rfl (size43 _ _ _)) rfl ?_
    exact ⟨rfl, HB7.out _ _ LG6 (pw_below_drewN HB1.out _)⟩

end Go.Proofs.Ytghajjjdfhcljaa.P
