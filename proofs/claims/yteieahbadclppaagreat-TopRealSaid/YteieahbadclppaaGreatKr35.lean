/- Part 35 of 36 of the proof: the texts that it reaches, one behind the other. No condition. -/
import Derived.Test.YteieahbadclppaaGreatKr3
import Derived.Lib.SmallJoins
import Derived.Deep.Slices
import Derived.SizedLaws
import Derived.Test.YteieahbadclppaaGreatProg
import Derived.ChangeSlices
set_option linter.unusedVariables false
set_option linter.unusedSimpArgs false
namespace Go.Proofs.YteieahbadclppaaGreat.Agg
open Go.ChangeShapes Go.WideShapes Go.RowKit Go.Deep
open Go.Proofs.YteieahbadclppaaGreat.P Go.Proofs.YteieahbadclppaaGreatW.PrintWords Go.Proofs.YteieahbadclppaaGreatW.PrintLast
section
variable {H:Type} {enc:TypeId×Value→H} {P:Program} {w:World} {base:Nat} {spare:Nat→Bool} {held:Bool}
theorem zit {t:TypeId} {fs:Array Field} {fuel:Nat} {cs:List Value} {x:DataW H×List MemPlace} (hs:P.underlying t=some (.struct fs)) (hone:oneCellFields P fs=true) (hC:P.cellsOf t=fs.size)
  (h:DataW.trod enc P w base spare held fuel t cs=some x) :
  cs.length=fs.size∧∃n,∀(j:Nat) (f:Field),fs[j]?=some f→∃c y,cs[j]?=some c∧DataW.trod enc P w base spare held n f.type [c]=some y:=by
 obtain ⟨ys,n,_,_,hlen,hyl,hf⟩:=DataW.trod_struct hs h
 refine ⟨hlen.trans hC,n,fun j f hj=>?_⟩
 have hjf:j < fs.size:=(Array.getElem?_eq_some_iff.1 hj).1
 have hjc:j < cs.length:=by omega
 have hjy:j < ys.length:=by omega
 obtain ⟨ho,hk⟩:=hone_of hone j f hj
 have hr:=hf j f hj
 rw [ho,hk,List.drop_eq_getElem_cons hjc,List.getElem?_eq_getElem hjy] at hr
 exact ⟨cs[j],ys[j],List.getElem?_eq_getElem hjc,hr⟩
end
theorem zm1 {H:Type} {enc:TypeId×Value→H} {w:World} {base:Nat} {spare:Nat→Bool} {held:Bool} {fuel:Nat} {cs:List Value} {x:DataW H×List MemPlace} (h:DataW.trod enc Tryz.prog w base spare held fuel 24 cs=some x) :
  ∃(a0:Int) (a1:Int) (a2:Int) (a3:Int) (a4:Int) (a5:Bool),cs=[.int .i64 a0,.int .i64 a1,.int .i64 a2,.int .i64 a3,.int .i64 a4,.bool a5]∧(Lit.int .i64 a0).wf=true∧(Lit.int .i64 a1).wf=true∧(Lit.int .i64 a2).wf=true∧(Lit.int .i64 a3).wf=true∧(Lit.int .i64 a4).wf=true:=by
 obtain ⟨hl,n,hf⟩:=zit Tryz.underlying24 (by kernel_rfl) (by kernel_rfl) h
 match cs,hl with
 | [c0,c1,c2,c3,c4,c5],_ =>
  obtain ⟨_,y0,e0,g0⟩:=hf 0 _ rfl
  obtain rfl:=Option.some.inj e0
  obtain ⟨a0,q0,_,w0⟩:=DataW.trod_int Tryz.underlying3 g0
  obtain rfl:=(List.cons.inj q0).1
  obtain ⟨_,y1,e1,g1⟩:=hf 1 _ rfl
  obtain rfl:=Option.some.inj e1
  obtain ⟨a1,q1,_,w1⟩:=DataW.trod_int Tryz.underlying3 g1
  obtain rfl:=(List.cons.inj q1).1
  obtain ⟨_,y2,e2,g2⟩:=hf 2 _ rfl
  obtain rfl:=Option.some.inj e2
  obtain ⟨a2,q2,_,w2⟩:=DataW.trod_int Tryz.underlying3 g2
  obtain rfl:=(List.cons.inj q2).1
  obtain ⟨_,y3,e3,g3⟩:=hf 3 _ rfl
  obtain rfl:=Option.some.inj e3
  obtain ⟨a3,q3,_,w3⟩:=DataW.trod_int Tryz.underlying3 g3
  obtain rfl:=(List.cons.inj q3).1
  obtain ⟨_,y4,e4,g4⟩:=hf 4 _ rfl
  obtain rfl:=Option.some.inj e4
  obtain ⟨a4,q4,_,w4⟩:=DataW.trod_int Tryz.underlying3 g4
  obtain rfl:=(List.cons.inj q4).1
  obtain ⟨_,y5,e5,g5⟩:=hf 5 _ rfl
  obtain rfl:=Option.some.inj e5
  obtain ⟨a5,q5,_⟩:=DataW.trod_bool Tryz.underlying4 g5
  obtain rfl:=(List.cons.inj q5).1
  exact ⟨a0,a1,a2,a3,a4,a5,rfl,w0,w1,w2,w3,w4⟩
set_option maxRecDepth 100000 in
theorem open24 {H:Type} {enc:TypeId×Value→H} {w:World} {r:Reach} {b0 base:Nat} {spare:Nat→Bool} {held:Bool} {v:Value} {d:DataW H} {p:List MemPlace} (hv:Value.okWide Tryz.prog w r b0 24 v) (h:DataW.Trod enc Tryz.prog w base spare held 24 v d p) :
  ∃(a0:Int) (a1:Int) (a2:Int) (a3:Int) (a4:Int) (a5:Bool),v=.agg #[.int .i64 a0,.int .i64 a1,.int .i64 a2,.int .i64 a3,.int .i64 a4,.bool a5]∧(Lit.int .i64 a0).wf=true∧(Lit.int .i64 a1).wf=true∧(Lit.int .i64 a2).wf=true∧(Lit.int .i64 a3).wf=true∧(Lit.int .i64 a4).wf=true:=by
 obtain ⟨⟨cs⟩,rfl,_⟩:=okWide_struct Tryz.underlying24 hv
 obtain ⟨fuel,hf⟩:=h
 obtain ⟨a0,a1,a2,a3,a4,a5,e,ww⟩:=zm1 hf
 have e:cs=_:=e
 subst e
 exact ⟨a0,a1,a2,a3,a4,a5,rfl,ww⟩
end Go.Proofs.YteieahbadclppaaGreat.Agg

namespace Go.Proofs.YteieahbadclppaaGreatW.PrintWords
open Go.ChangeShapes Go.WideShapes
theorem sized_ints {H:Type} {enc:TypeId×Value→H} {P:Program} {W:World} {base:Nat} {spare:Nat→Bool} {held:Bool} {t e:TypeId} {k:IntKind} {a:Option Addr} {len cap:Nat} {d:DataW H} {ps:List MemPlace} {ts:List TypeId} {ds:List (DataW H)} {j:Nat}
  (hsz:(DataW.weightsEach P ts ds).all (·≤reachBytes)=true) (ht:ts[j]?=some t) (hd:ds[j]?=some d) (hu:P.underlying t=some (.slice e)) (he:P.underlying e=some (.int k)) (hc:P.cellsOf e=1) {B:Nat} (hB:P.bytesOf e=B)
  (h:DataW.Trod enc P W base spare held t (.slice a len cap) d ps):len*B≤140737488351232:=by
 obtain ⟨fuel,hf⟩:=h
 rcases open_ints hu he hc hf with ⟨hcs,_⟩ | ⟨x,l,c,zs,hcs,_,hl,_,hz,hx,_,_⟩
 ·simp [Value.cells] at hcs
  obtain ⟨rfl,rfl,rfl⟩:=hcs
  simp
 ·simp [Value.cells] at hcs
  obtain ⟨rfl,rfl,rfl⟩:=hcs
  obtain ⟨hx,_⟩:=Prod.mk.inj hx
  subst hx
  have z:=sized_slice hsz ht hd hu
  rw [hB] at z
  have hl2:len≤zs.length:=by
   rw [hz]
   split
   ·exact hl
   ·exact Nat.le_refl _
  have h1:(lits (H:=H) k (zs.take len)).length+(lits (H:=H) k (zs.drop len)).length=zs.length:=by
   simp [lits]
   omega
  rw [h1] at z
  exact Nat.le_trans (Nat.mul_le_mul_right _ hl2) z
end Go.Proofs.YteieahbadclppaaGreatW.PrintWords

