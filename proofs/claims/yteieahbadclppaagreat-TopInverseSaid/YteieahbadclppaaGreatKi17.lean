/- Part 17 of 18 of the proof: the texts that it reaches, one behind the other. No condition. -/
import Derived.Test.YteieahbadclppaaGreatKi16
import Derived.Lib.SmallJoins
import Derived.Deep.Slices
import Derived.SizedLaws
import Derived.Test.YteieahbadclppaaGreatProg
import Derived.ChangeSlices
set_option linter.unusedVariables false
set_option linter.unusedSimpArgs false
namespace Go.Proofs.YteieahbadclppaaGreat.Agg
open Go.ChangeShapes Go.WideShapes Go.RowKit Go.Deep
open Go.Proofs.YteieahbadclppaaGreat.P Go.Proofs.YteieahbadclppaaGreatW.PrintWords Go.Proofs.YteieahbadclppaaGreatW.PrintLast
section
variable {H:Type} {enc:TypeId×Value→H} {P:Program} {w:World} {base:Nat} {spare:Nat→Bool} {held:Bool}
theorem ze8 {t:TypeId} {fs:Array Field} {fuel:Nat} {cs:List Value} {x:DataW H×List MemPlace} (hs:P.underlying t=some (.struct fs)) (hone:oneCellFields P fs=true) (hC:P.cellsOf t=fs.size)
  (h:DataW.trod enc P w base spare held fuel t cs=some x) :
  cs.length=fs.size∧∃n,∀(j:Nat) (f:Field),fs[j]?=some f→∃c y,cs[j]?=some c∧DataW.trod enc P w base spare held n f.type [c]=some y:=by
 obtain ⟨ys,n,_,_,hlen,hyl,hf⟩:=DataW.trod_struct hs h
 refine ⟨hlen.trans hC,n,fun j f hj=>?_⟩
 have hjf:j < fs.size:=(Array.getElem?_eq_some_iff.1 hj).1
 have hjc:j < cs.length:=by omega
 have hjy:j < ys.length:=by omega
 obtain ⟨ho,hk⟩:=hone_of hone j f hj
 have hr:=hf j f hj
 rw [ho,hk,List.drop_eq_getElem_cons hjc,List.getElem?_eq_getElem hjy] at hr
 exact ⟨cs[j],ys[j],List.getElem?_eq_getElem hjc,hr⟩
end
theorem zmB {H:Type} {enc:TypeId×Value→H} {w:World} {base:Nat} {spare:Nat→Bool} {held:Bool} {fuel:Nat} {cs:List Value} {x:DataW H×List MemPlace} (h:DataW.trod enc Tryz.prog w base spare held fuel 24 cs=some x) :
  ∃(a0:Int) (a1:Int) (a2:Int) (a3:Int) (a4:Int) (a5:Bool),cs=[.int .i64 a0,.int .i64 a1,.int .i64 a2,.int .i64 a3,.int .i64 a4,.bool a5]∧(Lit.int .i64 a0).wf=true∧(Lit.int .i64 a1).wf=true∧(Lit.int .i64 a2).wf=true∧(Lit.int .i64 a3).wf=true∧(Lit.int .i64 a4).wf=true:=by
 obtain ⟨hl,n,hf⟩:=ze8 Tryz.underlying24 (by kernel_rfl) (by kernel_rfl) h
 match cs,hl with
 | [c0,c1,c2,c3,c4,c5],_ =>
  obtain ⟨_,y0,e0,g0⟩:=hf 0 _ rfl
  obtain rfl:=Option.some.inj e0
  obtain ⟨a0,q0,_,w0⟩:=DataW.trod_int Tryz.underlying3 g0
  obtain rfl:=(List.cons.inj q0).1
  obtain ⟨_,y1,e1,g1⟩:=hf 1 _ rfl
  obtain rfl:=Option.some.inj e1
  obtain ⟨a1,q1,_,w1⟩:=DataW.trod_int Tryz.underlying3 g1
  obtain rfl:=(List.cons.inj q1).1
  obtain ⟨_,y2,e2,g2⟩:=hf 2 _ rfl
  obtain rfl:=Option.some.inj e2
  obtain ⟨a2,q2,_,w2⟩:=DataW.trod_int Tryz.underlying3 g2
  obtain rfl:=(List.cons.inj q2).1
  obtain ⟨_,y3,e3,g3⟩:=hf 3 _ rfl
  obtain rfl:=Option.some.inj e3
  obtain ⟨a3,q3,_,w3⟩:=DataW.trod_int Tryz.underlying3 g3
  obtain rfl:=(List.cons.inj q3).1
  obtain ⟨_,y4,e4,g4⟩:=hf 4 _ rfl
  obtain rfl:=Option.some.inj e4
  obtain ⟨a4,q4,_,w4⟩:=DataW.trod_int Tryz.underlying3 g4
  obtain rfl:=(List.cons.inj q4).1
  obtain ⟨_,y5,e5,g5⟩:=hf 5 _ rfl
  obtain rfl:=Option.some.inj e5
  obtain ⟨a5,q5,_⟩:=DataW.trod_bool Tryz.underlying4 g5
  obtain rfl:=(List.cons.inj q5).1
  exact ⟨a0,a1,a2,a3,a4,a5,rfl,w0,w1,w2,w3,w4⟩
set_option maxRecDepth 100000 in
theorem open24 {H:Type} {enc:TypeId×Value→H} {w:World} {r:Reach} {b0 base:Nat} {spare:Nat→Bool} {held:Bool} {v:Value} {d:DataW H} {p:List MemPlace} (hv:Value.okWide Tryz.prog w r b0 24 v) (h:DataW.Trod enc Tryz.prog w base spare held 24 v d p) :
  ∃(a0:Int) (a1:Int) (a2:Int) (a3:Int) (a4:Int) (a5:Bool),v=.agg #[.int .i64 a0,.int .i64 a1,.int .i64 a2,.int .i64 a3,.int .i64 a4,.bool a5]∧(Lit.int .i64 a0).wf=true∧(Lit.int .i64 a1).wf=true∧(Lit.int .i64 a2).wf=true∧(Lit.int .i64 a3).wf=true∧(Lit.int .i64 a4).wf=true:=by
 obtain ⟨⟨cs⟩,rfl,_⟩:=okWide_struct Tryz.underlying24 hv
 obtain ⟨fuel,hf⟩:=h
 obtain ⟨a0,a1,a2,a3,a4,a5,e,ww⟩:=zmB hf
 have e:cs=_:=e
 subst e
 exact ⟨a0,a1,a2,a3,a4,a5,rfl,ww⟩
theorem zmC {H:Type} {enc:TypeId×Value→H} {w:World} {base:Nat} {spare:Nat→Bool} {held:Bool} {fuel:Nat} {cs:List Value} {x:DataW H×List MemPlace} (h:DataW.trod enc Tryz.prog w base spare held fuel 38 cs=some x) :
  ∃(a0:Int) (a1:Int),cs=[.int .i64 a0,.int .i64 a1]∧(Lit.int .i64 a0).wf=true∧(Lit.int .i64 a1).wf=true:=by
 obtain ⟨hl,n,hf⟩:=ze8 Tryz.underlying38 (by kernel_rfl) (by kernel_rfl) h
 match cs,hl with
 | [c0,c1],_ =>
  obtain ⟨_,y0,e0,g0⟩:=hf 0 _ rfl
  obtain rfl:=Option.some.inj e0
  obtain ⟨a0,q0,_,w0⟩:=DataW.trod_int Tryz.underlying3 g0
  obtain rfl:=(List.cons.inj q0).1
  obtain ⟨_,y1,e1,g1⟩:=hf 1 _ rfl
  obtain rfl:=Option.some.inj e1
  obtain ⟨a1,q1,_,w1⟩:=DataW.trod_int Tryz.underlying3 g1
  obtain rfl:=(List.cons.inj q1).1
  exact ⟨a0,a1,rfl,w0,w1⟩
theorem rows38 {H:Type} {enc:TypeId×Value→H} {w:World} {held:Bool} {a:Option Addr} {len cap:Nat} {d:DataW H} {p:List MemPlace} (h:DataW.Trod enc Tryz.prog w 0 (fun _=>true) held 22 (.slice a len cap) d p) :
  ∃l:List S38,len=l.length∧l.length≤maxLen∧l.length≤cap∧Kd.C k38 w a l.length l∧∀x∈l,(Lit.int .i64 x.f0).wf=true∧(Lit.int .i64 x.f1).wf=true:=by
 obtain ⟨fuel,hf⟩:=h
 rcases open_slice Tryz.underlying22 hf with ⟨h0,_⟩ | ⟨b,len',cap',m,n,D,Pl,h0,_,hl,hm,hmm,_,hi⟩
 ·have h0:[Value.slice a len cap]=_:=h0
  simp only [List.cons.injEq,Value.slice.injEq,and_true] at h0
  obtain ⟨rfl,rfl,rfl⟩:=h0
  exact ⟨[],rfl,by simp,by simp,Kd.C_nil _ _,by simp⟩
 ·have h0:[Value.slice a len cap]=_:=h0
  simp only [List.cons.injEq,Value.slice.injEq,and_true] at h0
  obtain ⟨rfl,rfl,rfl⟩:=h0
  have hmc:m=cap:=by simpa using hmm
  have hC:Tryz.prog.cellsOf 38=2:=by kernel_rfl
  have key:∀i,i < len→∃x:S38,k38.K w x [.int .i64 x.f0,.int .i64 x.f1]∧(∀j,j < 2→w.cell? ((b.add (i*2)).add j)=[.int .i64 x.f0,.int .i64 x.f1][j]?)∧(Lit.int .i64 x.f0).wf=true∧(Lit.int .i64 x.f1).wf=true:=by
   intro i hi'
   obtain ⟨cs',hc,ht⟩:=hi i (by omega)
   rw [hC] at hc
   obtain ⟨_,_,hcell⟩:=World.cells?_some hc
   obtain ⟨a0,a1,rfl,ww⟩:=zmC ht
   exact ⟨⟨a0,a1⟩,zjw w _,hcell,ww⟩
  let l:List S38:=(List.range len).map fun i=>if hq:i < len then (key i hq).choose else z38
  have hlen:l.length=len:=by simp [l]
  have hget:∀i (hq:i < len),l[i]?=some (key i hq).choose:=fun i hq=>by simp [l,hq]
  refine ⟨l,hlen.symm,by omega,by omega,?_,?_⟩
  ·refine ⟨rfl,by rw [hlen];unfold maxLen at hm;omega,fun _=>?_⟩
   refine ⟨b,rfl,fun j p hp=>?_⟩
   have hj:j < len:=by have:=(List.getElem?_eq_some_iff.1 hp).1;omega
   rw [hget j hj] at hp
   obtain rfl:=Option.some.inj hp
   obtain ⟨hK,hcell,_⟩:=(key j hj).choose_spec
   refine ⟨_,rfl,hK,fun i u hu=>?_⟩
   have hi2:i < 2:=(List.getElem?_eq_some_iff.1 hu).1
   have:=hcell i hi2
   rw [Go.Deep.add_add] at this
   exact this.trans hu
  ·intro x hx
   obtain ⟨i,hi1,hi2⟩:=List.mem_iff_getElem?.1 hx |>.imp fun i hi=>(⟨by have:=(List.getElem?_eq_some_iff.1 hi).1;omega,hi⟩:i < len∧l[i]?=some x)
   rw [hget i hi1] at hi2
   obtain rfl:=Option.some.inj hi2
   exact (key i hi1).choose_spec.2.2
theorem sized38 {H:Type} {enc:TypeId×Value→H} {w:World} {held:Bool} {a:Option Addr} {len cap:Nat} {d:DataW H} {p:List MemPlace} {ts:List TypeId} {ds:List (DataW H)} {j:Nat} (hsz:(DataW.weightsEach Tryz.prog ts ds).all (·≤reachBytes)=true) (ht:ts[j]?=some 22) (hd:ds[j]?=some d) (h:DataW.Trod enc Tryz.prog w 0 (fun _=>true) held 22 (.slice a len cap) d p):len*16≤140737488351232:=by
 obtain ⟨fuel,hf⟩:=h
 rcases open_slice Tryz.underlying22 hf with ⟨h0,_⟩ | ⟨b,len',cap',m,n,D,Pl,h0,_,hl,hm,hmm,hx,hi⟩
 ·have h0:[Value.slice a len cap]=_:=h0
  simp only [List.cons.injEq,Value.slice.injEq,and_true] at h0
  obtain ⟨rfl,rfl,rfl⟩:=h0
  simp
 ·have h0:[Value.slice a len cap]=_:=h0
  simp only [List.cons.injEq,Value.slice.injEq,and_true] at h0
  obtain ⟨rfl,rfl,rfl⟩:=h0
  obtain ⟨rfl,_⟩:=Prod.mk.inj hx
  have z:=sized_slice hsz ht hd Tryz.underlying22
  have hB:Tryz.prog.bytesOf 38=16:=by kernel_rfl
  rw [hB] at z
  refine Nat.le_trans (Nat.mul_le_mul_right _ ?_) z
  simp
end Go.Proofs.YteieahbadclppaaGreat.Agg

