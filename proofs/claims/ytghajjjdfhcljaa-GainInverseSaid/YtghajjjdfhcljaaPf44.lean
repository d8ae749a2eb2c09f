-- Printed for this claim by drive.py (a program of this session's) through the kit's print program; not trusted: Lean checks it.
import Derived.Test.YtghajjjdfhcljaaP0
import Derived.Test.YtghajjjdfhcljaaPf43
import Derived.Test.YtghajjjdfhcljaaPg1
import Derived.Test.YtghajjjdfhcljaaT3
namespace Go.Proofs.Ytghajjjdfhcljaa.P
open Go.RowKit Go.Proofs.YtghajjjdfhcljaaW.PrintWords Go.Proofs.YtghajjjdfhcljaaW.PrintLast Go.Proofs.YtghajjjdfhcljaaW.PrintMore
attribute [local go_sem] max2_int min2_int max_two min_two max_three min_three max_four min_four   -- for this text's walks alone
set_option linter.unusedVariables false
set_option linter.unusedSimpArgs false

/-! ### headroomlaw05_square: function 44 -/
-- IMPORT Derived.Test.YtghajjjdfhcljaaT3
def headroomlaw05_square.f (a0_0 : Int) (a0_1 : Int) (a1 : Int) : Option (Bool) := (bits_Mul64.f (IntKind.u64.wrap (mx a0_0 (wrap64 (-a0_0)))) (IntKind.u64.wrap (mx a0_0 (wrap64 (-a0_0))))).bind fun bt341 => ((bits_Mul64.f (IntKind.u64.wrap (mx a0_1 (wrap64 (-a0_1)))) (IntKind.u64.wrap (mx a0_1 (wrap64 (-a0_1))))).bind fun bt343 => ((bits_Add64.f bt341.2 bt343.2 0).bind fun bt345 => (if (IntKind.u64.wrap ((IntKind.u64.wrap (bt341.1 + bt343.1)) + bt345.2)) ≥ (IntKind.u64.wrap (281474976710656 - a1)) then (some (decide ((IntKind.u64.wrap ((IntKind.u64.wrap (bt341.1 + bt343.1)) + bt345.2)) ≤ (IntKind.u64.wrap (281474976710656 + a1))))) else (some false))))
set_option maxHeartbeats 8000000 in
set_option maxRecDepth 100000 in
theorem headroomlaw05_square.calls (a0_0 : Int) (a0_1 : Int) (a1 : Int) (r : Bool) (w : World) (h : headroomlaw05_square.f a0_0 a0_1 a1 = some r) :
    Calls Try.prog 44 #[.agg #[.int .i64 a0_0, .int .i64 a0_1], .int .u64 a1] w fun e w' => e = .returned (.bool r) ∧ Below w.heap.size w w' := by
  unfold headroomlaw05_square.f at h
  replace h := Option.bind_eq_some_iff.mp h
  obtain ⟨⟨x1, x2⟩, A1, h⟩ := h
  replace h := Option.bind_eq_some_iff.mp h
  obtain ⟨⟨y1, y2⟩, A2, h⟩ := h
  replace h := Option.bind_eq_some_iff.mp h
  obtain ⟨⟨z1, z2⟩, A3, h⟩ := h
  simp only at h A1 A2 A3
  obtain ⟨m0, hm0⟩ : ∃ m0, mx a0_0 (wrap64 (-a0_0)) = m0 := ⟨_, rfl⟩
  obtain ⟨m1, hm1⟩ : ∃ m1, mx a0_1 (wrap64 (-a0_1)) = m1 := ⟨_, rfl⟩
  rw [hm0] at A1
  rw [hm1] at A2
  have q0 : (if a0_0 < IntKind.i64.wrap (-a0_0) then IntKind.i64.wrap (-a0_0) else a0_0) = m0 := by rw [i64_w]; exact hm0
  have q1 : (if a0_1 < IntKind.i64.wrap (-a0_1) then IntKind.i64.wrap (-a0_1) else a0_1) = m1 := by rw [i64_w]; exact hm1
  have q2 : (if a0_0 < wrap64 (-a0_0) then wrap64 (-a0_0) else a0_0) = m0 := hm0
  have q3 : (if a0_1 < wrap64 (-a0_1) then wrap64 (-a0_1) else a0_1) = m1 := hm1
  clear hm0 hm1
  have H1 := Lib.hid A1
  have H2 := Lib.hid A2
  have H3 := Lib.hid A3
  have HH := Lib.hid h
  clear A1 A2 A3 h
  go_enter Try.func44, Try.ntmps44
  go_wp2_with (first
    | ((with_reducible refine gate_dst (N := 2) rfl ?_); refine box_event ?hg (N := 2) ?hd (cs := #[.int .i64 a0_0, .int .i64 a0_1]) (t := 37) ?hr ?_; (case hd => rfl); (case hg => rfl); (case hr => first | (go_simp; done) | (go_simp; rfl)); intro g3 hg W0 hbox hb; have B3 := Lib.hid hbox; have HB0 := Lib.hid hb; clear hbox hb hg; have k0 : W0.cell? ⟨g3, 0, none⟩ = some (.int .i64 a0_0) := (blk_cell B3.out 0).trans rfl; have k1 : W0.cell? ⟨g3, 1, none⟩ = some (.int .i64 a0_1) := (blk_cell B3.out 1).trans rfl))
  go_quiet (fail)
  clear q0 q1 q2 q3
  go_wp2_with (first
    | (go_at_call 42; (with_reducible refine (bits_Mul64.calls _ _ x1 x2 _ H1.out).mono ?_); rintro e w' ⟨rfl, ⟨nd, rfl⟩⟩)
    | (go_at_call 42; (with_reducible refine (bits_Mul64.calls _ _ y1 y2 _ H2.out).mono ?_); rintro e w' ⟨rfl, ⟨nd2, rfl⟩⟩)
    | ((with_reducible refine gate_callee (f := 43) rfl ?_); refine goesXL_ (some 43) rfl rfl Try.func43 (by kernel_rfl) trivial #[.int .u64 x2, .int .u64 y2, .int .u64 0] rfl (by (try simp only [List.map_toArray, List.map_cons, List.map_nil]); first | done | rfl | (simp only [List.length_drop, List.length_take]; rfl)) ?_; (with_reducible refine (bits_Add64.calls _ _ _ z1 z2 _ H3.out).mono ?_); rintro e w' ⟨rfl, ⟨nd3, rfl⟩⟩; refine ⟨_, rfl, ?_⟩))
  · go_ret
    have hh := HH.out
    rw [if_pos (by assumption)] at hh
    obtain rfl := Option.some.inj hh
    exact ⟨rfl, pw_below_drewN HB0.out _⟩
  · go_ret
    have hh := HH.out
    rw [if_neg (Int.not_le.2 (by assumption))] at hh
    obtain rfl := Option.some.inj hh
    exact ⟨rfl, pw_below_drewN HB0.out _⟩

end Go.Proofs.Ytghajjjdfhcljaa.P
