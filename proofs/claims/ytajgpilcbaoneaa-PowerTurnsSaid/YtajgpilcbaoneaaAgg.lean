/- Structs of one-cell fields that came in, opened to numbers; slices of such structs, as lists. -/
import Derived.Lib.SmallJoins
import Derived.Deep.Slices
import Derived.SizedLaws
import Derived.Test.YtajgpilcbaoneaaP0
import Derived.Test.YtajgpilcbaoneaaProg
set_option linter.unusedVariables false
set_option linter.unusedSimpArgs false
namespace Go.Proofs.Ytajgpilcbaoneaa.Agg
open Go.ChangeShapes Go.WideShapes Go.RowKit Go.Deep
open Go.Proofs.Ytajgpilcbaoneaa.P Go.Proofs.YtajgpilcbaoneaaW.PrintWords Go.Proofs.YtajgpilcbaoneaaW.PrintLast
section
variable {H : Type} {enc : TypeId × Value → H} {P : Program} {w : World} {base : Nat} {spare : Nat → Bool} {held : Bool}
/-- Cell j of a struct of one-cell fields reads as field j's type. -/
theorem field_reads {t : TypeId} {fs : Array Field} {fuel : Nat} {cs : List Value} {x : DataW H × List MemPlace} (hs : P.underlying t = some (.struct fs)) (hone : oneCellFields P fs = true) (hC : P.cellsOf t = fs.size)
    (h : DataW.trod enc P w base spare held fuel t cs = some x) :
    cs.length = fs.size ∧ ∃ n, ∀ (j : Nat) (f : Field), fs[j]? = some f → ∃ c y, cs[j]? = some c ∧ DataW.trod enc P w base spare held n f.type [c] = some y := by
  obtain ⟨ys, n, _, _, hlen, hyl, hf⟩ := DataW.trod_struct hs h
  refine ⟨hlen.trans hC, n, fun j f hj => ?_⟩
  have hjf : j < fs.size := (Array.getElem?_eq_some_iff.1 hj).1
  have hjc : j < cs.length := by omega
  have hjy : j < ys.length := by omega
  obtain ⟨ho, hk⟩ := hone_of hone j f hj
  have hr := hf j f hj
  rw [ho, hk, List.drop_eq_getElem_cons hjc, List.getElem?_eq_getElem hjy] at hr
  exact ⟨cs[j], ys[j], List.getElem?_eq_getElem hjc, hr⟩
end
theorem cells45 {H : Type} {enc : TypeId × Value → H} {w : World} {base : Nat} {spare : Nat → Bool} {held : Bool} {fuel : Nat} {cs : List Value} {x : DataW H × List MemPlace} (h : DataW.trod enc Try.prog w base spare held fuel 45 cs = some x) :
    ∃ (a0 : Int) (a1 : Int), cs = [.int .i64 a0, .int .i64 a1] ∧ (Lit.int .i64 a0).wf = true ∧ (Lit.int .i64 a1).wf = true := by
  obtain ⟨hl, n, hf⟩ := field_reads Try.underlying45 (by kernel_rfl) (by kernel_rfl) h
  match cs, hl with
  | [c0, c1], _ =>
    obtain ⟨_, y0, e0, g0⟩ := hf 0 _ rfl
    obtain rfl := Option.some.inj e0
    obtain ⟨a0, q0, _, w0⟩ := DataW.trod_int Try.underlying3 g0
    obtain rfl := (List.cons.inj q0).1
    obtain ⟨_, y1, e1, g1⟩ := hf 1 _ rfl
    obtain rfl := Option.some.inj e1
    obtain ⟨a1, q1, _, w1⟩ := DataW.trod_int Try.underlying3 g1
    obtain rfl := (List.cons.inj q1).1
    exact ⟨a0, a1, rfl, w0, w1⟩
theorem rows45 {H : Type} {enc : TypeId × Value → H} {w : World} {held : Bool} {a : Option Addr} {len cap : Nat} {d : DataW H} {p : List MemPlace} (h : DataW.Trod enc Try.prog w 0 (fun _ => true) held 37 (.slice a len cap) d p) :
    ∃ l : List S45, len = l.length ∧ l.length ≤ maxLen ∧ l.length ≤ cap ∧ Kd.C k45 w a l.length l ∧ ∀ x ∈ l, (Lit.int .i64 x.f0).wf = true ∧ (Lit.int .i64 x.f1).wf = true := by
  obtain ⟨fuel, hf⟩ := h
  rcases open_slice Try.underlying37 hf with ⟨h0, _⟩ | ⟨b, len', cap', m, n, D, Pl, h0, _, hl, hm, hmm, _, hi⟩
  · have h0 : [Value.slice a len cap] = _ := h0
    simp only [List.cons.injEq, Value.slice.injEq, and_true] at h0
    obtain ⟨rfl, rfl, rfl⟩ := h0
    exact ⟨[], rfl, by simp, by simp, Kd.C_nil _ _, by simp⟩
  · have h0 : [Value.slice a len cap] = _ := h0
    simp only [List.cons.injEq, Value.slice.injEq, and_true] at h0
    obtain ⟨rfl, rfl, rfl⟩ := h0
    have hmc : m = cap := by simpa using hmm
    have hC : Try.prog.cellsOf 45 = 2 := by kernel_rfl
    have key : ∀ i, i < len → ∃ x : S45, k45.K w x [.int .i64 x.f0, .int .i64 x.f1] ∧ (∀ j, j < 2 → w.cell? ((b.add (i * 2)).add j) = [.int .i64 x.f0, .int .i64 x.f1][j]?) ∧ (Lit.int .i64 x.f0).wf = true ∧ (Lit.int .i64 x.f1).wf = true := by
      intro i hi'
      obtain ⟨cs', hc, ht⟩ := hi i (by omega)
      rw [hC] at hc
      obtain ⟨_, _, hcell⟩ := World.cells?_some hc
      obtain ⟨a0, a1, rfl, ww⟩ := cells45 ht
      exact ⟨⟨a0, a1⟩, k45_mk w _, hcell, ww⟩
    let l : List S45 := (List.range len).map fun i => if hq : i < len then (key i hq).choose else z45
    have hlen : l.length = len := by simp [l]
    have hget : ∀ i (hq : i < len), l[i]? = some (key i hq).choose := fun i hq => by simp [l, hq]
    refine ⟨l, hlen.symm, by omega, by omega, ?_, ?_⟩
    · refine ⟨rfl, by rw [hlen]; unfold maxLen at hm; omega, fun _ => ?_⟩
      refine ⟨b, rfl, fun j p hp => ?_⟩
      have hj : j < len := by have := (List.getElem?_eq_some_iff.1 hp).1; omega
      rw [hget j hj] at hp
      obtain rfl := Option.some.inj hp
      obtain ⟨hK, hcell, _⟩ := (key j hj).choose_spec
      refine ⟨_, rfl, hK, fun i u hu => ?_⟩
      have hi2 : i < 2 := (List.getElem?_eq_some_iff.1 hu).1
      have := hcell i hi2
      rw [Go.Deep.add_add] at this
      exact this.trans hu
    · intro x hx
      obtain ⟨i, hi1, hi2⟩ := List.mem_iff_getElem?.1 hx |>.imp fun i hi => (⟨by have := (List.getElem?_eq_some_iff.1 hi).1; omega, hi⟩ : i < len ∧ l[i]? = some x)
      rw [hget i hi1] at hi2
      obtain rfl := Option.some.inj hi2
      exact (key i hi1).choose_spec.2.2
theorem sized45 {H : Type} {enc : TypeId × Value → H} {w : World} {held : Bool} {a : Option Addr} {len cap : Nat} {d : DataW H} {p : List MemPlace} {ts : List TypeId} {ds : List (DataW H)} {j : Nat} (hsz : (DataW.weightsEach Try.prog ts ds).all (· ≤ reachBytes) = true) (ht : ts[j]? = some 37) (hd : ds[j]? = some d) (h : DataW.Trod enc Try.prog w 0 (fun _ => true) held 37 (.slice a len cap) d p) : len * 16 ≤ 140737488351232 := by
  obtain ⟨fuel, hf⟩ := h
  rcases open_slice Try.underlying37 hf with ⟨h0, _⟩ | ⟨b, len', cap', m, n, D, Pl, h0, _, hl, hm, hmm, hx, hi⟩
  · have h0 : [Value.slice a len cap] = _ := h0
    simp only [List.cons.injEq, Value.slice.injEq, and_true] at h0
    obtain ⟨rfl, rfl, rfl⟩ := h0
    simp
  · have h0 : [Value.slice a len cap] = _ := h0
    simp only [List.cons.injEq, Value.slice.injEq, and_true] at h0
    obtain ⟨rfl, rfl, rfl⟩ := h0
    obtain ⟨rfl, _⟩ := Prod.mk.inj hx
    have z := sized_slice hsz ht hd Try.underlying37
    have hB : Try.prog.bytesOf 45 = 16 := by kernel_rfl
    rw [hB] at z
    refine Nat.le_trans (Nat.mul_le_mul_right _ ?_) z
    simp
end Go.Proofs.Ytajgpilcbaoneaa.Agg
