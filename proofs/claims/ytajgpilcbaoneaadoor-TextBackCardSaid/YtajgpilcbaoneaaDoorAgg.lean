/- Structs of one-cell fields that came in, opened to numbers; slices of such structs, as lists. -/
import Derived.Lib.SmallJoins
import Derived.Deep.Slices
import Derived.SizedLaws
import Derived.Test.YtajgpilcbaoneaaDoorProg
set_option linter.unusedVariables false
set_option linter.unusedSimpArgs false
namespace Go.Proofs.YtajgpilcbaoneaaDoor.Agg
open Go.ChangeShapes Go.WideShapes Go.RowKit Go.Deep
section
variable {H : Type} {enc : TypeId × Value → H} {P : Program} {w : World} {base : Nat} {spare : Nat → Bool} {held : Bool}
/-- Cell j of a struct of one-cell fields reads as field j's type. -/
theorem field_reads {t : TypeId} {fs : Array Field} {fuel : Nat} {cs : List Value} {x : DataW H × List MemPlace} (hs : P.underlying t = some (.struct fs)) (hone : oneCellFields P fs = true) (hC : P.cellsOf t = fs.size)
    (h : DataW.trod enc P w base spare held fuel t cs = some x) :
    cs.length = fs.size ∧ ∃ n, ∀ (j : Nat) (f : Field), fs[j]? = some f → ∃ c y, cs[j]? = some c ∧ DataW.trod enc P w base spare held n f.type [c] = some y := by
  obtain ⟨ys, n, _, _, hlen, hyl, hf⟩ := DataW.trod_struct hs h
  refine ⟨hlen.trans hC, n, fun j f hj => ?_⟩
  have hjf : j < fs.size := (Array.getElem?_eq_some_iff.1 hj).1
  have hjc : j < cs.length := by omega
  have hjy : j < ys.length := by omega
  obtain ⟨ho, hk⟩ := hone_of hone j f hj
  have hr := hf j f hj
  rw [ho, hk, List.drop_eq_getElem_cons hjc, List.getElem?_eq_getElem hjy] at hr
  exact ⟨cs[j], ys[j], List.getElem?_eq_getElem hjc, hr⟩
end
theorem cells23 {H : Type} {enc : TypeId × Value → H} {w : World} {base : Nat} {spare : Nat → Bool} {held : Bool} {fuel : Nat} {cs : List Value} {x : DataW H × List MemPlace} (h : DataW.trod enc Tryd.prog w base spare held fuel 23 cs = some x) :
    ∃ (a0 : Int) (a1 : Int) (a2 : Int) (a3 : Int) (a4 : Int) (a5 : Bool), cs = [.int .i64 a0, .int .i64 a1, .int .i64 a2, .int .i64 a3, .int .i64 a4, .bool a5] ∧ (Lit.int .i64 a0).wf = true ∧ (Lit.int .i64 a1).wf = true ∧ (Lit.int .i64 a2).wf = true ∧ (Lit.int .i64 a3).wf = true ∧ (Lit.int .i64 a4).wf = true := by
  obtain ⟨hl, n, hf⟩ := field_reads Tryd.underlying23 (by kernel_rfl) (by kernel_rfl) h
  match cs, hl with
  | [c0, c1, c2, c3, c4, c5], _ =>
    obtain ⟨_, y0, e0, g0⟩ := hf 0 _ rfl
    obtain rfl := Option.some.inj e0
    obtain ⟨a0, q0, _, w0⟩ := DataW.trod_int Tryd.underlying3 g0
    obtain rfl := (List.cons.inj q0).1
    obtain ⟨_, y1, e1, g1⟩ := hf 1 _ rfl
    obtain rfl := Option.some.inj e1
    obtain ⟨a1, q1, _, w1⟩ := DataW.trod_int Tryd.underlying3 g1
    obtain rfl := (List.cons.inj q1).1
    obtain ⟨_, y2, e2, g2⟩ := hf 2 _ rfl
    obtain rfl := Option.some.inj e2
    obtain ⟨a2, q2, _, w2⟩ := DataW.trod_int Tryd.underlying3 g2
    obtain rfl := (List.cons.inj q2).1
    obtain ⟨_, y3, e3, g3⟩ := hf 3 _ rfl
    obtain rfl := Option.some.inj e3
    obtain ⟨a3, q3, _, w3⟩ := DataW.trod_int Tryd.underlying3 g3
    obtain rfl := (List.cons.inj q3).1
    obtain ⟨_, y4, e4, g4⟩ := hf 4 _ rfl
    obtain rfl := Option.some.inj e4
    obtain ⟨a4, q4, _, w4⟩ := DataW.trod_int Tryd.underlying3 g4
    obtain rfl := (List.cons.inj q4).1
    obtain ⟨_, y5, e5, g5⟩ := hf 5 _ rfl
    obtain rfl := Option.some.inj e5
    obtain ⟨a5, q5, _⟩ := DataW.trod_bool Tryd.underlying4 g5
    obtain rfl := (List.cons.inj q5).1
    exact ⟨a0, a1, a2, a3, a4, a5, rfl, w0, w1, w2, w3, w4⟩
theorem open23 {H : Type} {enc : TypeId × Value → H} {w : World} {r : Reach} {b0 base : Nat} {spare : Nat → Bool} {held : Bool} {v : Value} {d : DataW H} {p : List MemPlace} (hv : Value.okWide Tryd.prog w r b0 23 v) (h : DataW.Trod enc Tryd.prog w base spare held 23 v d p) :
    ∃ (a0 : Int) (a1 : Int) (a2 : Int) (a3 : Int) (a4 : Int) (a5 : Bool), v = .agg #[.int .i64 a0, .int .i64 a1, .int .i64 a2, .int .i64 a3, .int .i64 a4, .bool a5] ∧ (Lit.int .i64 a0).wf = true ∧ (Lit.int .i64 a1).wf = true ∧ (Lit.int .i64 a2).wf = true ∧ (Lit.int .i64 a3).wf = true ∧ (Lit.int .i64 a4).wf = true := by
  obtain ⟨⟨cs⟩, rfl, _⟩ := okWide_struct Tryd.underlying23 hv
  obtain ⟨fuel, hf⟩ := h
  obtain ⟨a0, a1, a2, a3, a4, a5, e, ww⟩ := cells23 hf
  have e : cs = _ := e
  subst e
  exact ⟨a0, a1, a2, a3, a4, a5, rfl, ww⟩
end Go.Proofs.YtajgpilcbaoneaaDoor.Agg
