/- Part 24 of 36 of the proof: the texts that it reaches, one behind the other. No condition. -/
import Derived.Test.YteieahbadclppaaGreatKr23
namespace Go.Proofs.YteieahbadclppaaGreat.P
open Go.RowKit Go.Shelf Go.Proofs.YteieahbadclppaaGreatW.PrintWords Go.Proofs.YteieahbadclppaaGreatW.PrintLast Go.Proofs.YteieahbadclppaaGreatW.PrintMore
set_option linter.unusedVariables false
set_option linter.unusedSimpArgs false
def zan (P:Nat→Nat→S38) (q:Nat):Nat→S38
 | 0=>⟨0,0⟩
 | k+1=>⟨wrap64 ((zan P q k).f0+(P q k).f0),wrap64 ((zan P q k).f1+(P q k).f1)⟩
def zc9 (O:Nat→S38):Nat→Array Value
 | 0=>#[.int .i64 0,.int .i64 0,.int .i64 0,.int .i64 0,.int .i64 0,.int .i64 0,.int .i64 0,.int .i64 0]
 | 1=>#[.int .i64 (O 0).f0,.int .i64 (O 0).f1,.int .i64 0,.int .i64 0,.int .i64 0,.int .i64 0,.int .i64 0,.int .i64 0]
 | 2=>#[.int .i64 (O 0).f0,.int .i64 (O 0).f1,.int .i64 (O 1).f0,.int .i64 (O 1).f1,.int .i64 0,.int .i64 0,.int .i64 0,.int .i64 0]
 | 3=>#[.int .i64 (O 0).f0,.int .i64 (O 0).f1,.int .i64 (O 1).f0,.int .i64 (O 1).f1,.int .i64 (O 2).f0,.int .i64 (O 2).f1,.int .i64 0,.int .i64 0]
 | _=>#[.int .i64 (O 0).f0,.int .i64 (O 0).f1,.int .i64 (O 1).f0,.int .i64 (O 1).f1,.int .i64 (O 2).f0,.int .i64 (O 2).f1,.int .i64 (O 3).f0,.int .i64 (O 3).f1]
set_option maxRecDepth 100000 in
set_option maxHeartbeats 4000000 in
theorem zlt {W:World} {a:Act} {o:Oper} (x:Operand) (ho:o.op=.load 3 x) (g j:Nat) (v:Int) (hx:a.eval x=.pointer (some ⟨g,j,none⟩)) (hc:W.cell? ⟨g,j,none⟩=some (.int .i64 v)):(execOp a.eval o).run Tryz.prog W=.ok (.value (.int .i64 v)) W:=by
 unfold execOp
 simp only [ho,hx]
 go_simp
theorem zdJ {W:World} {ops:Array Oper} {o:Oper} {a:Act} {Q:Exit→Act→World→Prop} {K:Act→World→Prop} {N:Option Tmp} (hgd:o.guard=none) (hN:o.dst=N) (x:Operand) (ho:o.op=.load 3 x) (g j:Nat) (v:Int) (hx:a.eval x=.pointer (some ⟨g,j,none⟩)) (hc:W.cell? ⟨g,j,none⟩=some (.int .i64 v))
  (h:K (a.put N (.int .i64 v)) W):if Region.wanted o (yielded ops a.tmps)=true then Oper.wp Tryz.prog o a W K Q else K (a.put N undef) W :=
 zfD (by unfold Region.wanted;rw [hgd]) hN (zlt x ho g j v hx hc) h
theorem zdK (O:Nat→S38) (q:Nat):(zc9 O q).size=8:=by
 unfold zc9
 split <;> rfl
theorem zhG (O:Nat→S38) (q:Nat) (hq:q < 4):((zc9 O q).setIfInBounds (q*2) (.int .i64 (O q).f0)).setIfInBounds (q*2+1) (.int .i64 (O q).f1)=zc9 O (q+1):=by
 have h:q=0∨q=1∨q=2∨q=3:=by omega
 rcases h with rfl | rfl | rfl | rfl <;> rfl
theorem zhH (c0 c1 c2 c3 c4 c5 c6 c7:Value) (w:World):(Instr.index 136 (.agg #[c0,c1,c2,c3,c4,c5,c6,c7]) (.int .i64 0)).run Tryz.prog w=.ok (.agg #[c0,c1]) w:=by kernel_rfl
theorem zhI (c0 c1 c2 c3 c4 c5 c6 c7:Value) (w:World):(Instr.index 136 (.agg #[c0,c1,c2,c3,c4,c5,c6,c7]) (.int .i64 1)).run Tryz.prog w=.ok (.agg #[c2,c3]) w:=by kernel_rfl
theorem zhJ (c0 c1 c2 c3 c4 c5 c6 c7:Value) (w:World):(Instr.index 136 (.agg #[c0,c1,c2,c3,c4,c5,c6,c7]) (.int .i64 2)).run Tryz.prog w=.ok (.agg #[c4,c5]) w:=by kernel_rfl
theorem zhK (c0 c1 c2 c3 c4 c5 c6 c7:Value) (w:World):(Instr.index 136 (.agg #[c0,c1,c2,c3,c4,c5,c6,c7]) (.int .i64 3)).run Tryz.prog w=.ok (.agg #[c6,c7]) w:=by kernel_rfl
theorem zbZ:(Tryz.prog.info? 38).map (·.size)=some 2:=by kernel_rfl
set_option maxRecDepth 100000 in
set_option maxHeartbeats 4000000 in
theorem zkk (a w_ T O:Nat→S38) (P:Nat→Nat→S38) (bits s mode:Int) (inv:Bool) (h0:0≤bits) (hT0:wrap64 ((a 0).f0*2^min bits.toNat 64)=(T 0).f0) (hT1:wrap64 ((a 0).f1*2^min bits.toNat 64)=(T 0).f1)
  (hT:∀k,1≤k→k < 4→∀W:World,Calls Tryz.prog 104 #[.agg #[.int .i64 (a k).f0,.int .i64 (a k).f1],.agg #[.int .i64 (w_ k).f0,.int .i64 (w_ k).f1]] W fun e w'=>e=.returned (.tuple #[.agg #[.int .i64 (T k).f0,.int .i64 (T k).f1],.int .i64 0])∧Below W.heap.size W w')
  (hP:∀q k:Nat,q < 4→k < 4→∀W:World,Calls Tryz.prog 96 #[.agg #[.int .i64 (T k).f0,.int .i64 (T k).f1],.int .i64 (wrap64 (q*byV inv k))] W fun e w'=>e=.returned (.tuple #[.agg #[.int .i64 (P q k).f0,.int .i64 (P q k).f1],.int .i64 0])∧Below W.heap.size W w')
  (hO:∀q,q < 4→∀W:World,Calls Tryz.prog 70 #[.agg #[.int .i64 (zan P q 4).f0,.int .i64 (zan P q 4).f1],.int .i64 (wrap64 (bits+s)),.int .i64 mode] W fun e w'=>e=.returned (.tuple #[.agg #[.int .i64 (O q).f0,.int .i64 (O q).f1],.int .i64 0])∧Below W.heap.size W w') (w:World) :
  Calls Tryz.prog 107 #[.agg #[.int .i64 (a 0).f0,.int .i64 (a 0).f1,.int .i64 (a 1).f0,.int .i64 (a 1).f1,.int .i64 (a 2).f0,.int .i64 (a 2).f1,.int .i64 (a 3).f0,.int .i64 (a 3).f1],.agg #[.int .i64 (w_ 0).f0,.int .i64 (w_ 0).f1,.int .i64 (w_ 1).f0,.int .i64 (w_ 1).f1,.int .i64 (w_ 2).f0,.int .i64 (w_ 2).f1,.int .i64 (w_ 3).f0,.int .i64 (w_ 3).f1],.int .i64 bits,.int .i64 s,.int .i64 mode,.bool inv] w fun e w'=>e=.returned (.agg #[.int .i64 (O 0).f0,.int .i64 (O 0).f1,.int .i64 (O 1).f0,.int .i64 (O 1).f1,.int .i64 (O 2).f0,.int .i64 (O 2).f1,.int .i64 (O 3).f0,.int .i64 (O 3).f1])∧Below w.heap.size w w':=by
 have hmx:Tryz.prog.follows .mixedOrders=true:=by kernel_rfl
 have HT:=hhd hT
 have HP:=hhd hP
 have HO:=hhd hO
 have mC:=hhd (Below.refl w.heap.size w)
 have HA0:=hhd hT0
 have HA1:=hhd hT1
 clear hT hP hO hT0 hT1
 go_enter Tryz.func107,Tryz.ntmps107
 go_wp2_with (first
  | ((with_reducible refine zf (N:=6) rfl ?_);refine bb_ 6 rfl mC #[.int .i64 (a 0).f0,.int .i64 (a 0).f1,.int .i64 (a 1).f0,.int .i64 (a 1).f1,.int .i64 (a 2).f0,.int .i64 (a 2).f1,.int .i64 (a 3).f0,.int .i64 (a 3).f1] 136 ?_;intro g6 W1 hg aD L6 eE dI;obtain ⟨eW,eX,eY,eZ,fA,fB,fD,fE⟩:=bx8 (.int .i64 (a 0).f0) (.int .i64 (a 0).f1) (.int .i64 (a 1).f0) (.int .i64 (a 1).f1) (.int .i64 (a 2).f0) (.int .i64 (a 2).f1) (.int .i64 (a 3).f0) (.int .i64 (a 3).f1) eE;clear aD hg)
  | ((with_reducible refine zf (N:=7) rfl ?_);refine bb_ 7 rfl dI #[.int .i64 (w_ 0).f0,.int .i64 (w_ 0).f1,.int .i64 (w_ 1).f0,.int .i64 (w_ 1).f1,.int .i64 (w_ 2).f0,.int .i64 (w_ 2).f1,.int .i64 (w_ 3).f0,.int .i64 (w_ 3).f1] 136 ?_;intro g7 W2 hg aD L7 d5 a9;have d6:=za_ eE aD;obtain ⟨fF,fG,fH,fJ,fK,fM,fO,fP⟩:=bx8 (.int .i64 (a 0).f0) (.int .i64 (a 0).f1) (.int .i64 (a 1).f0) (.int .i64 (a 1).f1) (.int .i64 (a 2).f0) (.int .i64 (a 2).f1) (.int .i64 (a 3).f0) (.int .i64 (a 3).f1) d6;clear eW eX eY eZ fA fB fD fE;obtain ⟨fQ,fR,fS,fT,fU,fV,fW,fX⟩:=bx8 (.int .i64 (w_ 0).f0) (.int .i64 (w_ 0).f1) (.int .i64 (w_ 1).f0) (.int .i64 (w_ 1).f1) (.int .i64 (w_ 2).f0) (.int .i64 (w_ 2).f1) (.int .i64 (w_ 3).f0) (.int .i64 (w_ 3).f1) d5;have lV:=ne_ eE hg;have mM:=hhd (show g7≠g6 from fun e=>lV.out e.symm);clear aD hg)
  | ((with_reducible refine zf (N:=12) rfl ?_);refine bb_ 12 rfl a9 #[.int .i64 0,.int .i64 0,.int .i64 0,.int .i64 0,.int .i64 0,.int .i64 0,.int .i64 0,.int .i64 0] 136 ?_;intro g12 W3 hg aD mD dV fY;have d7:=za_ d6 aD;have d8:=za_ d5 aD;obtain ⟨dW,dX,fZ,f6,f7,f8,f9,gA⟩:=bx8 (.int .i64 (a 0).f0) (.int .i64 (a 0).f1) (.int .i64 (a 1).f0) (.int .i64 (a 1).f1) (.int .i64 (a 2).f0) (.int .i64 (a 2).f1) (.int .i64 (a 3).f0) (.int .i64 (a 3).f1) d7;obtain ⟨gB,gC,gE,gF,gG,gH,gI,gJ⟩:=bx8 (.int .i64 (w_ 0).f0) (.int .i64 (w_ 0).f1) (.int .i64 (w_ 1).f0) (.int .i64 (w_ 1).f1) (.int .i64 (w_ 2).f0) (.int .i64 (w_ 2).f1) (.int .i64 (w_ 3).f0) (.int .i64 (w_ 3).f1) d8;clear fF fG fH fJ fK fM fO fP fQ fR fS fT fU fV fW fX;obtain ⟨eF,eG,eH,eI,eJ,eK,eM,eN⟩:=bk8 dV;have kK:=ne_ d6 hg;have mE:=hhd (show g12≠g6 from fun e=>kK.out e.symm);have kL:=ne_ d5 hg;have mF:=hhd (show g12≠g7 from fun e=>kL.out e.symm);clear aD hg))
 refine z7 (S:=fun w'=>Below W3.heap.size W3 w') (ds:=[13]) (fl 14 0) hmx rfl rfl (Below.refl _ _).drew (fun I=>?_)
 refine px_ 0 rfl ?_
 refine px_ 1 rfl ?_
 refine px_ 3 rfl ?_
 refine px_ 5 rfl ?_
 refine px_ 6 rfl ?_
 refine px_ 8 rfl ?_
 refine tx_ 2 rfl I (by rintro w' hs;obtain ⟨iA,iB⟩:=bg2 hs dW dX;go_simp;with_reducible rfl) ?_
 refine px_ 4 rfl ?_
 refine tx_ 7 rfl I (by rintro w' hs;obtain ⟨iA,iB⟩:=bg2 hs dW dX;go_simp;with_reducible rfl) ?_
 refine px_ 9 rfl ?_
 refine px_ 10 rfl ?_
 refine px_ 11 rfl ?_
 refine ox_ 12 (some 13) rfl rfl fun K hK=>?_
 refine box_step rfl rfl (cs:=#[.int .i64 0,.int .i64 0,.int .i64 0,.int .i64 0,.int .i64 0,.int .i64 0,.int .i64 0,.int .i64 0]) (t:=136) (by first | (go_simp;done) | (go_simp;rfl)) ?_
 intro g13 hg Wc a8 aD
 refine hK.out _ _ (zb I aD) (fun aC=>?_)
 have iC:w.heap.size≤g13:=by rw [hg];exact zi (zb fY I)
 have M13:W3.heap.size≤g13:=by rw [hg];exact I.size
 have B13:=hhd a8
 have dY:=hhd (show g6≠g13 from fun e=>by have:=zj d7;omega)
 have mG:=hhd (show g13≠g6 from fun e=>dY.out e.symm)
 have dZ:=hhd (show g7≠g13 from fun e=>by have:=zj d8;omega)
 have mH:=hhd (show g13≠g7 from fun e=>dZ.out e.symm)
 have dR:=hhd (show g12≠g13 from fun e=>by have:=zj dV;omega)
 have lZ:=hhd (show g13≠g12 from fun e=>dR.out e.symm)
 clear hK K I aD a8 hg
 have I:=aC
 clear aC
 refine nx_ ?_
 refine lx_ 13 none rfl rfl fun K hK=>?_
 refine zA rfl rfl 136 _ _ rfl g13 #[.int .i64 (wrap64 ((a 0).f0*2^min bits.toNat 64)),.int .i64 (wrap64 ((a 0).f1*2^min bits.toNat 64)),.int .i64 0,.int .i64 0,.int .i64 0,.int .i64 0,.int .i64 0,.int .i64 0] rfl rfl 136 #[.int .i64 0,.int .i64 0,.int .i64 0,.int .i64 0,.int .i64 0,.int .i64 0,.int .i64 0,.int .i64 0] B13.out (zcJ _ _ _ _ _ _ _ _) rfl (zeN _ _ _ _ _ _ _ _) ?_
 intro Wd hq aA aE
 refine hK.out _ _ ?_
 have dH:=hhd hq
 have HBd:=hhd (aE _ _ iC (zb fY I))
 have E6:=hhd ((aA _ dY.out).trans (zd d7 I))
 have E7:=hhd ((aA _ dZ.out).trans (zd d8 I))
 have cC:=hhd ((aA _ dR.out).trans (zd dV I))
 clear hK K I hq aA aE
 refine zE (by kernel_rfl) ?_
 have e13:=dH.out
 rw [HA0.out,HA1.out] at e13
 have F13:=hhd e13
 clear e13 dH B13 dW dX fZ f6 f7 f8 f9 gA gB gC gE gF gG gH gI gJ eF eG eH eI eJ eK eM eN fY d7 d8 dV
 go_wp2
 go_loopw [14] (fun s14 wr=>((s14=.int .i64 1∧wr.heap[g13]?=some (.cells #[.int .i64 (T 0).f0,.int .i64 (T 0).f1,.int .i64 0,.int .i64 0,.int .i64 0,.int .i64 0,.int .i64 0,.int .i64 0] 136 (0,0)))∨(s14=.int .i64 2∧wr.heap[g13]?=some (.cells #[.int .i64 (T 0).f0,.int .i64 (T 0).f1,.int .i64 (T 1).f0,.int .i64 (T 1).f1,.int .i64 0,.int .i64 0,.int .i64 0,.int .i64 0] 136 (0,0)))∨(s14=.int .i64 3∧wr.heap[g13]?=some (.cells #[.int .i64 (T 0).f0,.int .i64 (T 0).f1,.int .i64 (T 1).f0,.int .i64 (T 1).f1,.int .i64 (T 2).f0,.int .i64 (T 2).f1,.int .i64 0,.int .i64 0] 136 (0,0)))∨(s14=.int .i64 4∧wr.heap[g13]?=some (.cells #[.int .i64 (T 0).f0,.int .i64 (T 0).f1,.int .i64 (T 1).f0,.int .i64 (T 1).f1,.int .i64 (T 2).f0,.int .i64 (T 2).f1,.int .i64 (T 3).f0,.int .i64 (T 3).f1] 136 (0,0))))∧wr.heap[g6]?=some (.cells #[.int .i64 (a 0).f0,.int .i64 (a 0).f1,.int .i64 (a 1).f0,.int .i64 (a 1).f1,.int .i64 (a 2).f0,.int .i64 (a 2).f1,.int .i64 (a 3).f0,.int .i64 (a 3).f1] 136 (0,0))∧wr.heap[g7]?=some (.cells #[.int .i64 (w_ 0).f0,.int .i64 (w_ 0).f1,.int .i64 (w_ 1).f0,.int .i64 (w_ 1).f1,.int .i64 (w_ 2).f0,.int .i64 (w_ 2).f1,.int .i64 (w_ 3).f0,.int .i64 (w_ 3).f1] 136 (0,0))∧wr.heap[g12]?=some (.cells #[.int .i64 0,.int .i64 0,.int .i64 0,.int .i64 0,.int .i64 0,.int .i64 0,.int .i64 0,.int .i64 0] 136 (0,0))∧Below w.heap.size w wr) (fun i _=>4 - (intOf i).toNat)
 case atStart=>exact ⟨Or.inl ⟨rfl,F13.out⟩,E6.out,E7.out,cC.out,HBd.out⟩
 case round =>
  obtain ⟨hj,e6,e7,e12,hb⟩:=hrel
  have A6:=hhd e6
  have A7:=hhd e7
  have A12:=hhd e12
  have HBr:=hhd hb
  clear e6 e7 e12 hb E6 E7 cC HBd F13
  rcases hj with ⟨rfl,e13⟩ | ⟨rfl,e13⟩ | ⟨rfl,e13⟩ | ⟨rfl,e13⟩ <;> have A13:=hhd e13 <;> clear e13
  ·have ka0:wr.cell? ⟨g6,2,none⟩=some (.int .i64 (a 1).f0):=(za A6 2).trans rfl
   have ka1:wr.cell? ⟨g6,3,none⟩=some (.int .i64 (a 1).f1):=(za A6 3).trans rfl
   have kw0:wr.cell? ⟨g7,2,none⟩=some (.int .i64 (w_ 1).f0):=(za A7 2).trans rfl
   have kw1:wr.cell? ⟨g7,3,none⟩=some (.int .i64 (w_ 1).f1):=(za A7 3).trans rfl
   go_wp2
   refine z7 (S:=fun w'=>Below wr.heap.size wr w') (ds:=[12]) (fl 13 0) hmx rfl rfl (Below.refl _ _).drew (fun I=>?_)
   refine px_ 0 rfl ?_
   refine px_ 1 rfl ?_
   refine px_ 2 rfl ?_
   refine px_ 4 rfl ?_
   refine px_ 5 rfl ?_
   refine tx_ 3 rfl I (by rintro w' hs;obtain ⟨d9,eB,eC,eD⟩:=bg4 hs ka0 ka1 kw0 kw1;go_simp;with_reducible rfl) ?_
   refine tx_ 6 rfl I (by rintro w' hs;obtain ⟨d9,eB,eC,eD⟩:=bg4 hs ka0 ka1 kw0 kw1;go_simp;with_reducible rfl) ?_
   refine ox_ 7 (some 47) rfl rfl fun K hK=>?_
   refine zJ Tryz.func104 (by kernel_rfl) rfl #[.agg #[.int .i64 (a 1).f0,.int .i64 (a 1).f1],.agg #[.int .i64 (w_ 1).f0,.int .i64 (w_ 1).f1]] (by rfl) rfl rfl (by go_simp) ?_
   refine (HT.out 1 (by decide) (by decide) _).mono ?_
   rintro e Wc ⟨rfl,aD⟩
   refine ⟨_,rfl,?_⟩
   refine hK.out _ _ (zb I aD) (fun aC=>?_)
   clear hK K I aD
   have I:=aC
   clear aC
   refine nx_ ?_
   refine px_ 8 rfl ?_
   refine px_ 9 rfl ?_
   refine px_ 10 rfl ?_
   refine px_ 11 rfl ?_
   refine lx_ 12 none rfl rfl fun K hK=>?_
   refine zeM rfl rfl 38 _ _ rfl g13 2 (.int .i64 (T 1).f0) (.int .i64 (T 1).f1) rfl rfl 136 _ (zd A13 I) (show 2+2≤8 from by decide) zbZ rfl rfl #[.int .i64 (T 0).f0,.int .i64 (T 0).f1,.int .i64 (T 1).f0,.int .i64 (T 1).f1,.int .i64 0,.int .i64 0,.int .i64 0,.int .i64 0] rfl ?_
   intro Wd hq aA aE
   refine hK.out _ _ ?_
   have dH:=hhd hq
   have HBd:=hhd (aE _ _ iC (zb HBr I))
   have E6:=hhd ((aA _ dY.out).trans (zd A6 I))
   have E7:=hhd ((aA _ dZ.out).trans (zd A7 I))
   have cC:=hhd ((aA _ dR.out).trans (zd A12 I))
   clear hK K I hq aA aE
   refine zE (by kernel_rfl) ?_
   clear ka0 ka1 kw0 kw1
   go_wp2
   go_roundw
   case rel=>exact ⟨(Or.inr (Or.inl ⟨rfl,dH.out⟩)),E6.out,E7.out,cC.out,HBd.out⟩
   case measure=>simp [intOf]
  ·have ka0:wr.cell? ⟨g6,4,none⟩=some (.int .i64 (a 2).f0):=(za A6 4).trans rfl
   have ka1:wr.cell? ⟨g6,5,none⟩=some (.int .i64 (a 2).f1):=(za A6 5).trans rfl
   have kw0:wr.cell? ⟨g7,4,none⟩=some (.int .i64 (w_ 2).f0):=(za A7 4).trans rfl
   have kw1:wr.cell? ⟨g7,5,none⟩=some (.int .i64 (w_ 2).f1):=(za A7 5).trans rfl
   go_wp2
   refine z7 (S:=fun w'=>Below wr.heap.size wr w') (ds:=[12]) (fl 13 0) hmx rfl rfl (Below.refl _ _).drew (fun I=>?_)
   refine px_ 0 rfl ?_
   refine px_ 1 rfl ?_
   refine px_ 2 rfl ?_
   refine px_ 4 rfl ?_
   refine px_ 5 rfl ?_
   refine tx_ 3 rfl I (by rintro w' hs;obtain ⟨d9,eB,eC,eD⟩:=bg4 hs ka0 ka1 kw0 kw1;go_simp;with_reducible rfl) ?_
   refine tx_ 6 rfl I (by rintro w' hs;obtain ⟨d9,eB,eC,eD⟩:=bg4 hs ka0 ka1 kw0 kw1;go_simp;with_reducible rfl) ?_
   refine ox_ 7 (some 47) rfl rfl fun K hK=>?_
   refine zJ Tryz.func104 (by kernel_rfl) rfl #[.agg #[.int .i64 (a 2).f0,.int .i64 (a 2).f1],.agg #[.int .i64 (w_ 2).f0,.int .i64 (w_ 2).f1]] (by rfl) rfl rfl (by go_simp) ?_
   refine (HT.out 2 (by decide) (by decide) _).mono ?_
   rintro e Wc ⟨rfl,aD⟩
   refine ⟨_,rfl,?_⟩
   refine hK.out _ _ (zb I aD) (fun aC=>?_)
   clear hK K I aD
   have I:=aC
   clear aC
   refine nx_ ?_
   refine px_ 8 rfl ?_
   refine px_ 9 rfl ?_
   refine px_ 10 rfl ?_
   refine px_ 11 rfl ?_
   refine lx_ 12 none rfl rfl fun K hK=>?_
   refine zeM rfl rfl 38 _ _ rfl g13 4 (.int .i64 (T 2).f0) (.int .i64 (T 2).f1) rfl rfl 136 _ (zd A13 I) (show 4+2≤8 from by decide) zbZ rfl rfl #[.int .i64 (T 0).f0,.int .i64 (T 0).f1,.int .i64 (T 1).f0,.int .i64 (T 1).f1,.int .i64 (T 2).f0,.int .i64 (T 2).f1,.int .i64 0,.int .i64 0] rfl ?_
   intro Wd hq aA aE
   refine hK.out _ _ ?_
   have dH:=hhd hq
   have HBd:=hhd (aE _ _ iC (zb HBr I))
   have E6:=hhd ((aA _ dY.out).trans (zd A6 I))
   have E7:=hhd ((aA _ dZ.out).trans (zd A7 I))
   have cC:=hhd ((aA _ dR.out).trans (zd A12 I))
   clear hK K I hq aA aE
   refine zE (by kernel_rfl) ?_
   clear ka0 ka1 kw0 kw1
   go_wp2
   go_roundw
   case rel=>exact ⟨(Or.inr (Or.inr (Or.inl ⟨rfl,dH.out⟩))),E6.out,E7.out,cC.out,HBd.out⟩
   case measure=>simp [intOf]
  ·have ka0:wr.cell? ⟨g6,6,none⟩=some (.int .i64 (a 3).f0):=(za A6 6).trans rfl
   have ka1:wr.cell? ⟨g6,7,none⟩=some (.int .i64 (a 3).f1):=(za A6 7).trans rfl
   have kw0:wr.cell? ⟨g7,6,none⟩=some (.int .i64 (w_ 3).f0):=(za A7 6).trans rfl
   have kw1:wr.cell? ⟨g7,7,none⟩=some (.int .i64 (w_ 3).f1):=(za A7 7).trans rfl
   go_wp2
   refine z7 (S:=fun w'=>Below wr.heap.size wr w') (ds:=[12]) (fl 13 0) hmx rfl rfl (Below.refl _ _).drew (fun I=>?_)
   refine px_ 0 rfl ?_
   refine px_ 1 rfl ?_
   refine px_ 2 rfl ?_
   refine px_ 4 rfl ?_
   refine px_ 5 rfl ?_
   refine tx_ 3 rfl I (by rintro w' hs;obtain ⟨d9,eB,eC,eD⟩:=bg4 hs ka0 ka1 kw0 kw1;go_simp;with_reducible rfl) ?_
   refine tx_ 6 rfl I (by rintro w' hs;obtain ⟨d9,eB,eC,eD⟩:=bg4 hs ka0 ka1 kw0 kw1;go_simp;with_reducible rfl) ?_
   refine ox_ 7 (some 47) rfl rfl fun K hK=>?_
   refine zJ Tryz.func104 (by kernel_rfl) rfl #[.agg #[.int .i64 (a 3).f0,.int .i64 (a 3).f1],.agg #[.int .i64 (w_ 3).f0,.int .i64 (w_ 3).f1]] (by rfl) rfl rfl (by go_simp) ?_
   refine (HT.out 3 (by decide) (by decide) _).mono ?_
   rintro e Wc ⟨rfl,aD⟩
   refine ⟨_,rfl,?_⟩
   refine hK.out _ _ (zb I aD) (fun aC=>?_)
   clear hK K I aD
   have I:=aC
   clear aC
   refine nx_ ?_
   refine px_ 8 rfl ?_
   refine px_ 9 rfl ?_
   refine px_ 10 rfl ?_
   refine px_ 11 rfl ?_
   refine lx_ 12 none rfl rfl fun K hK=>?_
   refine zeM rfl rfl 38 _ _ rfl g13 6 (.int .i64 (T 3).f0) (.int .i64 (T 3).f1) rfl rfl 136 _ (zd A13 I) (show 6+2≤8 from by decide) zbZ rfl rfl #[.int .i64 (T 0).f0,.int .i64 (T 0).f1,.int .i64 (T 1).f0,.int .i64 (T 1).f1,.int .i64 (T 2).f0,.int .i64 (T 2).f1,.int .i64 (T 3).f0,.int .i64 (T 3).f1] rfl ?_
   intro Wd hq aA aE
   refine hK.out _ _ ?_
   have dH:=hhd hq
   have HBd:=hhd (aE _ _ iC (zb HBr I))
   have E6:=hhd ((aA _ dY.out).trans (zd A6 I))
   have E7:=hhd ((aA _ dZ.out).trans (zd A7 I))
   have cC:=hhd ((aA _ dR.out).trans (zd A12 I))
   clear hK K I hq aA aE
   refine zE (by kernel_rfl) ?_
   clear ka0 ka1 kw0 kw1
   go_wp2
   go_roundw
   case rel=>exact ⟨(Or.inr (Or.inr (Or.inr ⟨rfl,dH.out⟩))),E6.out,E7.out,cC.out,HBd.out⟩
   case measure=>simp [intOf]
  ·go_wp2_with (first
  | ((with_reducible refine zf (N:=15) rfl ?_);refine bb_ 15 rfl HBr #[.int .i64 0,.int .i64 0,.int .i64 0,.int .i64 0,.int .i64 0,.int .i64 0,.int .i64 0,.int .i64 0] 136 ?_;intro g15 W1 hg aD mI bZ dI;have eE:=za_ A6 aD;have kM:=za_ A7 aD;have a7:=za_ A12 aD;have aQ:=za_ A13 aD;obtain ⟨eW,eX,eY,eZ,fA,fB,fD,fE⟩:=bx8 (.int .i64 (a 0).f0) (.int .i64 (a 0).f1) (.int .i64 (a 1).f0) (.int .i64 (a 1).f1) (.int .i64 (a 2).f0) (.int .i64 (a 2).f1) (.int .i64 (a 3).f0) (.int .i64 (a 3).f1) eE;obtain ⟨kN,kO,kP,kQ,kR,kS,kT,kU⟩:=bx8 (.int .i64 (w_ 0).f0) (.int .i64 (w_ 0).f1) (.int .i64 (w_ 1).f0) (.int .i64 (w_ 1).f1) (.int .i64 (w_ 2).f0) (.int .i64 (w_ 2).f1) (.int .i64 (w_ 3).f0) (.int .i64 (w_ 3).f1) kM;obtain ⟨bB,bC,bD,bE,bF,bG,bH,bI⟩:=bk8 a7;obtain ⟨bJ,bK,bL,bM,bP,bQ,bR,bS⟩:=bx8 (.int .i64 (T 0).f0) (.int .i64 (T 0).f1) (.int .i64 (T 1).f0) (.int .i64 (T 1).f1) (.int .i64 (T 2).f0) (.int .i64 (T 2).f1) (.int .i64 (T 3).f0) (.int .i64 (T 3).f1) aQ;obtain ⟨iH,iI,iJ,iK,iL,iM,iN,iO⟩:=bk8 bZ;have gM:=ne_ A12 hg;have l3:=hhd (show g15≠g12 from fun e=>gM.out e.symm);have gN:=ne_ A13 hg;have l4:=hhd (show g15≠g13 from fun e=>gN.out e.symm);clear aD hg)
  | (go_at_call 113;(with_reducible refine (zkj inv _).mono ?_);rintro e W2 ⟨rfl,hb⟩;have a9:=zs_ dI hb;have d6:=za_ eE hb;have d5:=za_ kM hb;have aG:=za_ a7 hb;have aH:=za_ aQ hb;have aJ:=za_ bZ hb;obtain ⟨fF,fG,fH,fJ,fK,fM,fO,fP⟩:=bx8 (.int .i64 (a 0).f0) (.int .i64 (a 0).f1) (.int .i64 (a 1).f0) (.int .i64 (a 1).f1) (.int .i64 (a 2).f0) (.int .i64 (a 2).f1) (.int .i64 (a 3).f0) (.int .i64 (a 3).f1) d6;obtain ⟨fQ,fR,fS,fT,fU,fV,fW,fX⟩:=bx8 (.int .i64 (w_ 0).f0) (.int .i64 (w_ 0).f1) (.int .i64 (w_ 1).f0) (.int .i64 (w_ 1).f1) (.int .i64 (w_ 2).f0) (.int .i64 (w_ 2).f1) (.int .i64 (w_ 3).f0) (.int .i64 (w_ 3).f1) d5;obtain ⟨cI,cJ,cK,cL,cM,cN,cO,cP⟩:=bk8 aG;obtain ⟨cQ,cR,cS,cT,cU,cV,cW,cX⟩:=bx8 (.int .i64 (T 0).f0) (.int .i64 (T 0).f1) (.int .i64 (T 1).f0) (.int .i64 (T 1).f1) (.int .i64 (T 2).f0) (.int .i64 (T 2).f1) (.int .i64 (T 3).f0) (.int .i64 (T 3).f1) aH;obtain ⟨iP,iQ,iR,iS,iT,iU,iV,iW⟩:=bk8 aJ;clear eW eX eY eZ fA fB fD fE kN kO kP kQ kR kS kT kU bB bC bD bE bF bG bH bI bJ bK bL bM bP bQ bR bS iH iI iJ iK iL iM iN iO;clear hb)
  | ((with_reducible refine zf (N:=16) rfl ?_);refine bb_ 16 rfl a9 #[.int .i64 0,.int .i64 0,.int .i64 0,.int .i64 0] 164 ?_;intro g16 W3 hg aD mJ iD fY;have d7:=za_ d6 aD;have d8:=za_ d5 aD;have dV:=za_ aG aD;have iF:=za_ aH aD;have iG:=za_ aJ aD;obtain ⟨dW,dX,fZ,f6,f7,f8,f9,gA⟩:=bx8 (.int .i64 (a 0).f0) (.int .i64 (a 0).f1) (.int .i64 (a 1).f0) (.int .i64 (a 1).f1) (.int .i64 (a 2).f0) (.int .i64 (a 2).f1) (.int .i64 (a 3).f0) (.int .i64 (a 3).f1) d7;obtain ⟨gB,gC,gE,gF,gG,gH,gI,gJ⟩:=bx8 (.int .i64 (w_ 0).f0) (.int .i64 (w_ 0).f1) (.int .i64 (w_ 1).f0) (.int .i64 (w_ 1).f1) (.int .i64 (w_ 2).f0) (.int .i64 (w_ 2).f1) (.int .i64 (w_ 3).f0) (.int .i64 (w_ 3).f1) d8;obtain ⟨eF,eG,eH,eI,eJ,eK,eM,eN⟩:=bk8 dV;obtain ⟨iX,iY,iZ,i5,i6,i7,i8,i9⟩:=bx8 (.int .i64 (T 0).f0) (.int .i64 (T 0).f1) (.int .i64 (T 1).f0) (.int .i64 (T 1).f1) (.int .i64 (T 2).f0) (.int .i64 (T 2).f1) (.int .i64 (T 3).f0) (.int .i64 (T 3).f1) iF;obtain ⟨jA,jB,jC,jD,jE,jF,jG,jH⟩:=bk8 iG;clear fF fG fH fJ fK fM fO fP fQ fR fS fT fU fV fW fX cI cJ cK cL cM cN cO cP cQ cR cS cT cU cV cW cX iP iQ iR iS iT iU iV iW;obtain ⟨jI,jJ,jK,jL⟩:=bk4 iD;have gU:=ne_ d6 hg;have mK:=hhd (show g16≠g6 from fun e=>gU.out e.symm);have gV:=ne_ d5 hg;have mL:=hhd (show g16≠g7 from fun e=>gV.out e.symm);have gO:=ne_ aG hg;have l5:=hhd (show g16≠g12 from fun e=>gO.out e.symm);have gP:=ne_ aH hg;have l6:=hhd (show g16≠g13 from fun e=>gP.out e.symm);have eO:=ne_ aJ hg;have l7:=hhd (show g16≠g15 from fun e=>eO.out e.symm);clear aD hg)
  | ((with_reducible refine zo (t:=164) (p:=16) rfl ?_);refine re_ 164 16 rfl #[.int .i64 (byV inv 0),.int .i64 (byV inv 1),.int .i64 (byV inv 2),.int .i64 (byV inv 3)] iD mJ fY ?_;intro W4 aA gQ kV;have lW:=zt_ aA gU d7;have lX:=zt_ aA gV d8;have gR:=zt_ aA gO dV;have gS:=zt_ aA gP iF;have gT:=zt_ aA eO iG;obtain ⟨kW,kX,kY,kZ,lD,lH,lI,lJ⟩:=bx8 (.int .i64 (a 0).f0) (.int .i64 (a 0).f1) (.int .i64 (a 1).f0) (.int .i64 (a 1).f1) (.int .i64 (a 2).f0) (.int .i64 (a 2).f1) (.int .i64 (a 3).f0) (.int .i64 (a 3).f1) lW;obtain ⟨lK,lM,lO,lP,lQ,lR,lT,lU⟩:=bx8 (.int .i64 (w_ 0).f0) (.int .i64 (w_ 0).f1) (.int .i64 (w_ 1).f0) (.int .i64 (w_ 1).f1) (.int .i64 (w_ 2).f0) (.int .i64 (w_ 2).f1) (.int .i64 (w_ 3).f0) (.int .i64 (w_ 3).f1) lX;obtain ⟨jM,jN,jO,jP,jQ,jR,jS,jT⟩:=bk8 gR;obtain ⟨jU,jV,jW,jX,jY,jZ,j4,j5⟩:=bx8 (.int .i64 (T 0).f0) (.int .i64 (T 0).f1) (.int .i64 (T 1).f0) (.int .i64 (T 1).f1) (.int .i64 (T 2).f0) (.int .i64 (T 2).f1) (.int .i64 (T 3).f0) (.int .i64 (T 3).f1) gS;obtain ⟨j7,j8,j9,kB,kC,kD,kE,kF⟩:=bk8 gT;clear dW dX fZ f6 f7 f8 f9 gA gB gC gE gF gG gH gI gJ eF eG eH eI eJ eK eM eN iX iY iZ i5 i6 i7 i8 i9 jA jB jC jD jE jF jG jH jI jJ jK jL;obtain ⟨kG,kH,kI,kJ⟩:=bx4 (.int .i64 (byV inv 0)) (.int .i64 (byV inv 1)) (.int .i64 (byV inv 2)) (.int .i64 (byV inv 3)) gQ;clear aA))
   clear kW kX kY kZ lD lH lI lJ lK lM lO lP lQ lR lT lU jM jN jO jP jQ jR jS jT jU jV jW jX jY jZ j4 j5 j7 j8 j9 kB kC kD kE kF kG kH kI kJ
   go_loopw [53] (fun s53 wr=>∃q:Nat,q≤4∧s53=.int .i64 q∧wr.heap[g15]?=some (.cells (zc9 O q) 136 (0,0))∧wr.heap[g12]?=some (.cells #[.int .i64 0,.int .i64 0,.int .i64 0,.int .i64 0,.int .i64 0,.int .i64 0,.int .i64 0,.int .i64 0] 136 (0,0))∧wr.heap[g13]?=some (.cells #[.int .i64 (T 0).f0,.int .i64 (T 0).f1,.int .i64 (T 1).f0,.int .i64 (T 1).f1,.int .i64 (T 2).f0,.int .i64 (T 2).f1,.int .i64 (T 3).f0,.int .i64 (T 3).f1] 136 (0,0))∧wr.heap[g16]?=some (.cells #[.int .i64 (byV inv 0),.int .i64 (byV inv 1),.int .i64 (byV inv 2),.int .i64 (byV inv 3)] 164 (0,0))∧Below w.heap.size w wr) (fun i _=>4 - (intOf i).toNat)
   case atStart=>exact ⟨0,by decide,rfl,gT.out,gR.out,gS.out,gQ.out,kV.out⟩
   case round =>
    obtain ⟨q,hq,rfl,p15,p12,p13,p16,pb⟩:=hrel
    have P12:=hhd p12
    have P13:=hhd p13
    have P15:=hhd p15
    have P16:=hhd p16
    have HBo:=hhd pb
    clear p12 p13 p15 p16 pb A6 A7 A12 A13 HBr gR gS gT gQ kV
    by_cases hq4:q < 4
    ·go_wp2_with (first
  | ((with_reducible refine zf (N:=18) rfl ?_);refine bb_ 18 rfl HBo #[.int .i64 0,.int .i64 0] 38 ?_;intro g18 W1 hg aD eV bT dI;have a7:=za_ P12 aD;have aQ:=za_ P13 aD;have bZ:=za_ P15 aD;have bA:=za_ P16 aD;obtain ⟨bB,bC,bD,bE,bF,bG,bH,bI⟩:=bk8 a7;obtain ⟨bJ,bK,bL,bM,bP,bQ,bR,bS⟩:=bx8 (.int .i64 (T 0).f0) (.int .i64 (T 0).f1) (.int .i64 (T 1).f0) (.int .i64 (T 1).f1) (.int .i64 (T 2).f0) (.int .i64 (T 2).f1) (.int .i64 (T 3).f0) (.int .i64 (T 3).f1) aQ;obtain ⟨b6,b7,b8,b9⟩:=bx4 (.int .i64 (byV inv 0)) (.int .i64 (byV inv 1)) (.int .i64 (byV inv 2)) (.int .i64 (byV inv 3)) bA;obtain ⟨cA,cB⟩:=bk2 bT;have cY:=ne_ P12 hg;have l8:=hhd (show g18≠g12 from fun e=>cY.out e.symm);have cZ:=ne_ P13 hg;have l9:=hhd (show g18≠g13 from fun e=>cZ.out e.symm);have dB:=ne_ P15 hg;have mA:=hhd (show g18≠g15 from fun e=>dB.out e.symm);have dC:=ne_ P16 hg;have mB:=hhd (show g18≠g16 from fun e=>dC.out e.symm);clear aD hg)
  | ((with_reducible refine zf (N:=56) rfl ?_);refine lr_ 56 rfl 136 aQ Tryz.underlying136 ?_))
     clear bB bC bD bE bF bG bH bI bJ bK bL bM bP bQ bR bS b6 b7 b8 b9 cA cB
     go_loopw [57] (fun s57 wi=>∃k:Nat,k≤4∧((k=0∧s57=.int .i64 0)∨(k=1∧s57=.int .i64 1)∨(k=2∧s57=.int .i64 2)∨(k=3∧s57=.int .i64 3)∨(k=4∧s57=.int .i64 4))∧wi.heap[g15]?=some (.cells (zc9 O q) 136 (0,0))∧wi.heap[g18]?=some (.cells #[.int .i64 (zan P q k).f0,.int .i64 (zan P q k).f1] 38 (0,0))∧wi.heap[g12]?=some (.cells #[.int .i64 0,.int .i64 0,.int .i64 0,.int .i64 0,.int .i64 0,.int .i64 0,.int .i64 0,.int .i64 0] 136 (0,0))∧wi.heap[g13]?=some (.cells #[.int .i64 (T 0).f0,.int .i64 (T 0).f1,.int .i64 (T 1).f0,.int .i64 (T 1).f1,.int .i64 (T 2).f0,.int .i64 (T 2).f1,.int .i64 (T 3).f0,.int .i64 (T 3).f1] 136 (0,0))∧wi.heap[g16]?=some (.cells #[.int .i64 (byV inv 0),.int .i64 (byV inv 1),.int .i64 (byV inv 2),.int .i64 (byV inv 3)] 164 (0,0))∧Below w.heap.size w wi) (fun i _=>4 - (intOf i).toNat)
     case atStart=>exact ⟨0,by decide,Or.inl ⟨rfl,rfl⟩,bZ.out,bT.out,a7.out,aQ.out,bA.out,dI.out⟩
     case round =>
      obtain ⟨k,hk,hkk,r15,r18,r12,r13,r16,rb⟩:=hrel
      have R12:=hhd r12
      have R13:=hhd r13
      have R15:=hhd r15
      have R16:=hhd r16
      have R18:=hhd r18
      have HBi:=hhd rb
      clear r12 r13 r15 r16 r18 rb P12 P13 P15 P16 HBo bT a7 aQ bZ bA dI
      rcases hkk with ⟨rfl,rfl⟩ | ⟨rfl,rfl⟩ | ⟨rfl,rfl⟩ | ⟨rfl,rfl⟩ | ⟨rfl,rfl⟩
      ·have hix:=zhH (.int .i64 (T 0).f0) (.int .i64 (T 0).f1) (.int .i64 (T 1).f0) (.int .i64 (T 1).f1) (.int .i64 (T 2).f0) (.int .i64 (T 2).f1) (.int .i64 (T 3).f0) (.int .i64 (T 3).f1)
       go_wp2_with (first
       | ((with_reducible refine zf (N:=20) rfl ?_);refine bb_ 20 rfl HBi #[.int .i64 0,.int .i64 0] 38 ?_;intro g20 W1 hg aD gK dJ dI;have a7:=za_ R12 aD;have aQ:=za_ R13 aD;have bZ:=za_ R15 aD;have bA:=za_ R16 aD;have bT:=za_ R18 aD;obtain ⟨bB,bC,bD,bE,bF,bG,bH,bI⟩:=bk8 a7;obtain ⟨bJ,bK,bL,bM,bP,bQ,bR,bS⟩:=bx8 (.int .i64 (T 0).f0) (.int .i64 (T 0).f1) (.int .i64 (T 1).f0) (.int .i64 (T 1).f1) (.int .i64 (T 2).f0) (.int .i64 (T 2).f1) (.int .i64 (T 3).f0) (.int .i64 (T 3).f1) aQ;obtain ⟨b6,b7,b8,b9⟩:=bx4 (.int .i64 (byV inv 0)) (.int .i64 (byV inv 1)) (.int .i64 (byV inv 2)) (.int .i64 (byV inv 3)) bA;obtain ⟨cA,cB⟩:=bk2 bT;obtain ⟨dL,dM⟩:=bk2 dJ;have bU:=ne_ R12 hg;have eP:=hhd (show g20≠g12 from fun e=>bU.out e.symm);have bV:=ne_ R13 hg;have eQ:=hhd (show g20≠g13 from fun e=>bV.out e.symm);have bW:=ne_ R15 hg;have eR:=hhd (show g20≠g15 from fun e=>bW.out e.symm);have bX:=ne_ R16 hg;have eT:=hhd (show g20≠g16 from fun e=>bX.out e.symm);have bY:=ne_ R18 hg;have eU:=hhd (show g20≠g18 from fun e=>bY.out e.symm);clear aD hg)
       | ((with_reducible refine zo (t:=38) (p:=20) rfl ?_);refine re_ 38 20 rfl #[.int .i64 (T 0).f0,.int .i64 (T 0).f1] dJ gK dI ?_;intro W2 aA aK a9;have aG:=zt_ aA bU a7;have aH:=zt_ aA bV aQ;have aJ:=zt_ aA bW bZ;have aM:=zt_ aA bX bA;have aN:=zt_ aA bY bT;obtain ⟨cI,cJ,cK,cL,cM,cN,cO,cP⟩:=bk8 aG;obtain ⟨cQ,cR,cS,cT,cU,cV,cW,cX⟩:=bx8 (.int .i64 (T 0).f0) (.int .i64 (T 0).f1) (.int .i64 (T 1).f0) (.int .i64 (T 1).f1) (.int .i64 (T 2).f0) (.int .i64 (T 2).f1) (.int .i64 (T 3).f0) (.int .i64 (T 3).f1) aH;obtain ⟨dD,dE,dF,dG⟩:=bx4 (.int .i64 (byV inv 0)) (.int .i64 (byV inv 1)) (.int .i64 (byV inv 2)) (.int .i64 (byV inv 3)) aM;obtain ⟨dN,dO⟩:=bk2 aN;clear bB bC bD bE bF bG bH bI bJ bK bL bM bP bQ bR bS b6 b7 b8 b9 cA cB dL dM;obtain ⟨aT,aU⟩:=bx2 (.int .i64 (T 0).f0) (.int .i64 (T 0).f1) aK;clear aA))
       clear hix
       refine z7 (S:=fun w'=>Below W2.heap.size W2 w') (ds:=[11]) (fl 13 0) hmx rfl rfl (Below.refl _ _).drew (fun I=>?_)
       refine px_ 1 rfl ?_
       refine px_ 2 rfl ?_
       refine px_ 3 rfl ?_
       refine tx_ 0 rfl I (by rintro w' hs;obtain ⟨cD,cH,gX⟩:=bg3 hs aT aU dD;go_simp;with_reducible rfl) ?_
       refine tx_ 4 rfl I (by rintro w' hs;obtain ⟨cD,cH,gX⟩:=bg3 hs aT aU dD;go_simp;with_reducible rfl) ?_
       refine px_ 5 rfl ?_
       refine wx_ 6 10 (some 68) (some 21) rfl rfl rfl rfl (fun K hK=>?e11_6) fun K hK=>?e11_10
       case' e11_6 =>
        refine zJ Tryz.func96 (by kernel_rfl) rfl #[.agg #[.int .i64 (T 0).f0,.int .i64 (T 0).f1],.int .i64 (wrap64 (q*byV inv 0))] (by rfl) rfl rfl (by go_simp) ?_
        refine (HP.out q 0 hq4 (by decide) _).mono ?_
        rintro e Wc ⟨rfl,aD⟩
        refine ⟨_,rfl,?_⟩
        refine hK.out _ _ (zb I aD) (fun aC=>?_)
        clear hK K I aD
        have I:=aC
        clear aC
        refine nx_ ?_
        refine px_ 7 rfl ?_
        refine px_ 8 rfl ?_
        refine px_ 9 rfl ?_
        refine ox_ 10 (some 21) rfl rfl fun K hK=>?_
        refine box_step rfl rfl (cs:=#[.int .i64 0,.int .i64 0]) (t:=38) (by first | (go_simp;done) | (go_simp;rfl)) ?_
        intro g21 hg Wc a8 aD
        refine hK.out _ _ (zb I aD) (fun aC=>?_)
        have dP:w.heap.size≤g21:=by rw [hg];exact zi (zb a9 I)
        have M21:W2.heap.size≤g21:=by rw [hg];exact I.size
        have B21:=hhd a8
        have aV:=hhd (show g12≠g21 from fun e=>by have:=zj aG;omega)
        have aW:=hhd (show g13≠g21 from fun e=>by have:=zj aH;omega)
        have aX:=hhd (show g15≠g21 from fun e=>by have:=zj aJ;omega)
        have aY:=hhd (show g16≠g21 from fun e=>by have:=zj aM;omega)
        have aI:=hhd (show g18≠g21 from fun e=>by have:=zj aN;omega)
        have aZ:=hhd (show g20≠g21 from fun e=>by have:=zj aK;omega)
        clear hK K I aD a8 hg
        have I:=aC
        clear aC
        refine nx_ ?_
        refine lx_ 11 none rfl rfl fun K hK=>?_
        refine zA rfl rfl 38 _ _ rfl g21 #[.int .i64 (P q 0).f0,.int .i64 (P q 0).f1] rfl rfl 38 #[.int .i64 0,.int .i64 0] B21.out (zw _ _) rfl (zM _ _) ?_
        intro Wd hq_ aA aE
        refine hK.out _ _ ?_
        have dQ:=hhd hq_
        have HBd:=hhd (aE _ _ dP (zb a9 I))
        have cC:=hhd ((aA _ aV.out).trans (zd aG I))
        have dH:=hhd ((aA _ aW.out).trans (zd aH I))
        have dS:=hhd ((aA _ aX.out).trans (zd aJ I))
        have dU:=hhd ((aA _ aY.out).trans (zd aM I))
        have dK:=hhd ((aA _ aI.out).trans (zd aN I))
        have gL:=hhd ((aA _ aZ.out).trans (zd aK I))
        clear hK K I hq_ aA aE
        refine px_ 12 rfl ?_
        refine zE (by kernel_rfl) ?_
       case' e11_10 =>
        refine box_step rfl rfl (cs:=#[.int .i64 0,.int .i64 0]) (t:=38) (by first | (go_simp;done) | (go_simp;rfl)) ?_
        intro g21 hg Wc a8 aD
        refine hK.out _ _ (zb I aD) (fun aC=>?_)
        have dP:w.heap.size≤g21:=by rw [hg];exact zi (zb a9 I)
        have M21:W2.heap.size≤g21:=by rw [hg];exact I.size
        have B21:=hhd a8
        have aV:=hhd (show g12≠g21 from fun e=>by have:=zj aG;omega)
        have aW:=hhd (show g13≠g21 from fun e=>by have:=zj aH;omega)
        have aX:=hhd (show g15≠g21 from fun e=>by have:=zj aJ;omega)
        have aY:=hhd (show g16≠g21 from fun e=>by have:=zj aM;omega)
        have aI:=hhd (show g18≠g21 from fun e=>by have:=zj aN;omega)
        have aZ:=hhd (show g20≠g21 from fun e=>by have:=zj aK;omega)
        clear hK K I aD a8 hg
        have I:=aC
        clear aC
        refine nx_ ?_
        refine ox_ 6 (some 68) rfl rfl fun K hK=>?_
        refine zJ Tryz.func96 (by kernel_rfl) rfl #[.agg #[.int .i64 (T 0).f0,.int .i64 (T 0).f1],.int .i64 (wrap64 (q*byV inv 0))] (by rfl) rfl rfl (by go_simp) ?_
        refine (HP.out q 0 hq4 (by decide) _).mono ?_
        rintro e Wc ⟨rfl,aD⟩
        refine ⟨_,rfl,?_⟩
        refine hK.out _ _ (zb I aD) (fun aC=>?_)
        replace B21:=za_ B21 aD
        clear hK K I aD
        have I:=aC
        clear aC
        refine nx_ ?_
        refine px_ 7 rfl ?_
        refine px_ 8 rfl ?_
        refine px_ 9 rfl ?_
        refine lx_ 11 none rfl rfl fun K hK=>?_
        refine zA rfl rfl 38 _ _ rfl g21 #[.int .i64 (P q 0).f0,.int .i64 (P q 0).f1] rfl rfl 38 #[.int .i64 0,.int .i64 0] B21.out (zw _ _) rfl (zM _ _) ?_
        intro Wd hq_ aA aE
        refine hK.out _ _ ?_
        have dQ:=hhd hq_
        have HBd:=hhd (aE _ _ dP (zb a9 I))
        have cC:=hhd ((aA _ aV.out).trans (zd aG I))
        have dH:=hhd ((aA _ aW.out).trans (zd aH I))
        have dS:=hhd ((aA _ aX.out).trans (zd aJ I))
        have dU:=hhd ((aA _ aY.out).trans (zd aM I))
        have dK:=hhd ((aA _ aI.out).trans (zd aN I))
        have gL:=hhd ((aA _ aZ.out).trans (zd aK I))
        clear hK K I hq_ aA aE
        refine px_ 12 rfl ?_
        refine zE (by kernel_rfl) ?_
       all_goals
        clear B21 cI cJ cK cL cM cN cO cP cQ cR cS cT cU cV cW cX dD dE dF dG dN dO aT aU
        go_wp2
        have kk:Wd.drew.cell? ⟨g18,0,none⟩=some (.int .i64 (zan P q 0).f0):=(za dK 0).trans rfl
        have kc:Wd.drew.cell? ⟨g18,1,none⟩=some (.int .i64 (zan P q 0).f1):=(za dK 1).trans rfl
        refine z7 (S:=fun w'=>w'.heap[g21]?=some (.cells #[.int .i64 (P q 0).f0,.int .i64 (P q 0).f1] 38 (0,0))∧w'.cell? ⟨g18,1,none⟩=some (.int .i64 (zan P q 0).f1)) (ds:=[13]) (fl 14 0) hmx rfl rfl ⟨dQ.out,kc⟩ (fun I=>?_)
        refine px_ 0 rfl ?_
        refine px_ 2 rfl ?_
        refine px_ 5 rfl ?_
        refine px_ 7 rfl ?_
        refine tx_ 3 rfl I (by rintro w' hs;have j0:w'.cell? ⟨g21,0,none⟩=some (.int .i64 (P q 0).f0):=(za hs.1 0).trans rfl;have j1:w'.cell? ⟨g21,1,none⟩=some (.int .i64 (P q 0).f1):=(za hs.1 1).trans rfl;have j2:=hs.2;go_simp;with_reducible rfl) ?_
        refine tx_ 6 rfl I (by rintro w' hs;have j0:w'.cell? ⟨g21,0,none⟩=some (.int .i64 (P q 0).f0):=(za hs.1 0).trans rfl;have j1:w'.cell? ⟨g21,1,none⟩=some (.int .i64 (P q 0).f1):=(za hs.1 1).trans rfl;have j2:=hs.2;go_simp;with_reducible rfl) ?_
        refine tx_ 8 rfl I (by rintro w' hs;have j0:w'.cell? ⟨g21,0,none⟩=some (.int .i64 (P q 0).f0):=(za hs.1 0).trans rfl;have j1:w'.cell? ⟨g21,1,none⟩=some (.int .i64 (P q 0).f1):=(za hs.1 1).trans rfl;have j2:=hs.2;go_simp;with_reducible rfl) ?_
        refine px_ 9 rfl ?_
        refine ox_ 1 (some 72) rfl rfl fun K hK=>?_
        refine zdJ rfl rfl _ rfl g18 0 (zan P q 0).f0 rfl kk ?_
        refine hK.out _ _ I (fun _=>?_)
        clear hK K
        refine nx_ ?_
        refine px_ 4 rfl ?_
        refine px_ 10 rfl ?_
        refine ox_ 11 none rfl rfl fun K hK=>?_
        refine zbn rfl rfl 3 _ _ rfl g18 0 (.int .i64 (wrap64 ((zan P q 0).f0+(P q 0).f0))) rfl rfl 38 _ dK.out (show (0:Nat) < 2 from by decide) zbP rfl rfl #[.int .i64 (wrap64 ((zan P q 0).f0+(P q 0).f0)),.int .i64 (zan P q 0).f1] rfl ?_
        intro We hq1 hoth1 hbel1
        refine hK.out _ _ ⟨(hoth1 _ aI.out.symm).trans dQ.out,(za hq1 1).trans rfl⟩ (fun aC=>?_)
        clear hK K I kk kc
        have I:=aC
        clear aC
        refine px_ 12 rfl ?_
        refine lx_ 13 none rfl rfl fun K hK=>?_
        refine zbn rfl rfl 3 _ _ rfl g18 1 (.int .i64 (wrap64 ((zan P q 0).f1+(P q 0).f1))) rfl rfl 38 _ hq1 (show (1:Nat) < 2 from by decide) zbP rfl rfl #[.int .i64 (wrap64 ((zan P q 0).f0+(P q 0).f0)),.int .i64 (wrap64 ((zan P q 0).f1+(P q 0).f1))] rfl ?_
        intro Wf hq2 hoth2 hbel2
        refine hK.out _ _ ?_
        have F18:=hhd hq2
        have F12:=hhd ((hoth2 _ cY.out).trans ((hoth1 _ cY.out).trans cC.out))
        have F13:=hhd ((hoth2 _ cZ.out).trans ((hoth1 _ cZ.out).trans dH.out))
        have F15:=hhd ((hoth2 _ dB.out).trans ((hoth1 _ dB.out).trans dS.out))
        have F16:=hhd ((hoth2 _ dC.out).trans ((hoth1 _ dC.out).trans dU.out))
        have HBf:=hhd (hbel2 _ _ eV (hbel1 _ _ eV HBd.out.drew))
        clear hK K I hq1 hoth1 hbel1 hq2 hoth2 hbel2
        refine zE (by kernel_rfl) ?_
        go_wp2
        go_roundw
        case rel=>exact ⟨1,by decide,Or.inr (Or.inl ⟨rfl,rfl⟩),F15.out,F18.out,F12.out,F13.out,F16.out,HBf.out⟩
        case measure=>simp [intOf]
      ·have hix:=zhI (.int .i64 (T 0).f0) (.int .i64 (T 0).f1) (.int .i64 (T 1).f0) (.int .i64 (T 1).f1) (.int .i64 (T 2).f0) (.int .i64 (T 2).f1) (.int .i64 (T 3).f0) (.int .i64 (T 3).f1)
       go_wp2_with (first
       | ((with_reducible refine zf (N:=20) rfl ?_);refine bb_ 20 rfl HBi #[.int .i64 0,.int .i64 0] 38 ?_;intro g20 W1 hg aD gK dJ dI;have a7:=za_ R12 aD;have aQ:=za_ R13 aD;have bZ:=za_ R15 aD;have bA:=za_ R16 aD;have bT:=za_ R18 aD;obtain ⟨bB,bC,bD,bE,bF,bG,bH,bI⟩:=bk8 a7;obtain ⟨bJ,bK,bL,bM,bP,bQ,bR,bS⟩:=bx8 (.int .i64 (T 0).f0) (.int .i64 (T 0).f1) (.int .i64 (T 1).f0) (.int .i64 (T 1).f1) (.int .i64 (T 2).f0) (.int .i64 (T 2).f1) (.int .i64 (T 3).f0) (.int .i64 (T 3).f1) aQ;obtain ⟨b6,b7,b8,b9⟩:=bx4 (.int .i64 (byV inv 0)) (.int .i64 (byV inv 1)) (.int .i64 (byV inv 2)) (.int .i64 (byV inv 3)) bA;obtain ⟨cA,cB⟩:=bk2 bT;obtain ⟨dL,dM⟩:=bk2 dJ;have bU:=ne_ R12 hg;have eP:=hhd (show g20≠g12 from fun e=>bU.out e.symm);have bV:=ne_ R13 hg;have eQ:=hhd (show g20≠g13 from fun e=>bV.out e.symm);have bW:=ne_ R15 hg;have eR:=hhd (show g20≠g15 from fun e=>bW.out e.symm);have bX:=ne_ R16 hg;have eT:=hhd (show g20≠g16 from fun e=>bX.out e.symm);have bY:=ne_ R18 hg;have eU:=hhd (show g20≠g18 from fun e=>bY.out e.symm);clear aD hg)
       | ((with_reducible refine zo (t:=38) (p:=20) rfl ?_);refine re_ 38 20 rfl #[.int .i64 (T 1).f0,.int .i64 (T 1).f1] dJ gK dI ?_;intro W2 aA aK a9;have aG:=zt_ aA bU a7;have aH:=zt_ aA bV aQ;have aJ:=zt_ aA bW bZ;have aM:=zt_ aA bX bA;have aN:=zt_ aA bY bT;obtain ⟨cI,cJ,cK,cL,cM,cN,cO,cP⟩:=bk8 aG;obtain ⟨cQ,cR,cS,cT,cU,cV,cW,cX⟩:=bx8 (.int .i64 (T 0).f0) (.int .i64 (T 0).f1) (.int .i64 (T 1).f0) (.int .i64 (T 1).f1) (.int .i64 (T 2).f0) (.int .i64 (T 2).f1) (.int .i64 (T 3).f0) (.int .i64 (T 3).f1) aH;obtain ⟨dD,dE,dF,dG⟩:=bx4 (.int .i64 (byV inv 0)) (.int .i64 (byV inv 1)) (.int .i64 (byV inv 2)) (.int .i64 (byV inv 3)) aM;obtain ⟨dN,dO⟩:=bk2 aN;clear bB bC bD bE bF bG bH bI bJ bK bL bM bP bQ bR bS b6 b7 b8 b9 cA cB dL dM;obtain ⟨aT,aU⟩:=bx2 (.int .i64 (T 1).f0) (.int .i64 (T 1).f1) aK;clear aA))
       clear hix
       refine z7 (S:=fun w'=>Below W2.heap.size W2 w') (ds:=[11]) (fl 13 0) hmx rfl rfl (Below.refl _ _).drew (fun I=>?_)
       refine px_ 1 rfl ?_
       refine px_ 2 rfl ?_
       refine px_ 3 rfl ?_
       refine tx_ 0 rfl I (by rintro w' hs;obtain ⟨cD,cH,gY⟩:=bg3 hs aT aU dE;go_simp;with_reducible rfl) ?_
       refine tx_ 4 rfl I (by rintro w' hs;obtain ⟨cD,cH,gY⟩:=bg3 hs aT aU dE;go_simp;with_reducible rfl) ?_
       refine px_ 5 rfl ?_
       refine wx_ 6 10 (some 68) (some 21) rfl rfl rfl rfl (fun K hK=>?e21_6) fun K hK=>?e21_10
       case' e21_6 =>
        refine zJ Tryz.func96 (by kernel_rfl) rfl #[.agg #[.int .i64 (T 1).f0,.int .i64 (T 1).f1],.int .i64 (wrap64 (q*byV inv 1))] (by rfl) rfl rfl (by go_simp) ?_
        refine (HP.out q 1 hq4 (by decide) _).mono ?_
        rintro e Wc ⟨rfl,aD⟩
        refine ⟨_,rfl,?_⟩
        refine hK.out _ _ (zb I aD) (fun aC=>?_)
        clear hK K I aD
        have I:=aC
        clear aC
        refine nx_ ?_
        refine px_ 7 rfl ?_
        refine px_ 8 rfl ?_
        refine px_ 9 rfl ?_
        refine ox_ 10 (some 21) rfl rfl fun K hK=>?_
        refine box_step rfl rfl (cs:=#[.int .i64 0,.int .i64 0]) (t:=38) (by first | (go_simp;done) | (go_simp;rfl)) ?_
        intro g21 hg Wc a8 aD
        refine hK.out _ _ (zb I aD) (fun aC=>?_)
        have dP:w.heap.size≤g21:=by rw [hg];exact zi (zb a9 I)
        have M21:W2.heap.size≤g21:=by rw [hg];exact I.size
        have B21:=hhd a8
        have aV:=hhd (show g12≠g21 from fun e=>by have:=zj aG;omega)
        have aW:=hhd (show g13≠g21 from fun e=>by have:=zj aH;omega)
        have aX:=hhd (show g15≠g21 from fun e=>by have:=zj aJ;omega)
        have aY:=hhd (show g16≠g21 from fun e=>by have:=zj aM;omega)
        have aI:=hhd (show g18≠g21 from fun e=>by have:=zj aN;omega)
        have aZ:=hhd (show g20≠g21 from fun e=>by have:=zj aK;omega)
        clear hK K I aD a8 hg
        have I:=aC
        clear aC
        refine nx_ ?_
        refine lx_ 11 none rfl rfl fun K hK=>?_
        refine zA rfl rfl 38 _ _ rfl g21 #[.int .i64 (P q 1).f0,.int .i64 (P q 1).f1] rfl rfl 38 #[.int .i64 0,.int .i64 0] B21.out (zw _ _) rfl (zM _ _) ?_
        intro Wd hq_ aA aE
        refine hK.out _ _ ?_
        have dQ:=hhd hq_
        have HBd:=hhd (aE _ _ dP (zb a9 I))
        have cC:=hhd ((aA _ aV.out).trans (zd aG I))
        have dH:=hhd ((aA _ aW.out).trans (zd aH I))
        have dS:=hhd ((aA _ aX.out).trans (zd aJ I))
        have dU:=hhd ((aA _ aY.out).trans (zd aM I))
        have dK:=hhd ((aA _ aI.out).trans (zd aN I))
        have gL:=hhd ((aA _ aZ.out).trans (zd aK I))
        clear hK K I hq_ aA aE
        refine px_ 12 rfl ?_
        refine zE (by kernel_rfl) ?_
       case' e21_10 =>
        refine box_step rfl rfl (cs:=#[.int .i64 0,.int .i64 0]) (t:=38) (by first | (go_simp;done) | (go_simp;rfl)) ?_
        intro g21 hg Wc a8 aD
        refine hK.out _ _ (zb I aD) (fun aC=>?_)
        have dP:w.heap.size≤g21:=by rw [hg];exact zi (zb a9 I)
        have M21:W2.heap.size≤g21:=by rw [hg];exact I.size
        have B21:=hhd a8
        have aV:=hhd (show g12≠g21 from fun e=>by have:=zj aG;omega)
        have aW:=hhd (show g13≠g21 from fun e=>by have:=zj aH;omega)
        have aX:=hhd (show g15≠g21 from fun e=>by have:=zj aJ;omega)
        have aY:=hhd (show g16≠g21 from fun e=>by have:=zj aM;omega)
        have aI:=hhd (show g18≠g21 from fun e=>by have:=zj aN;omega)
        have aZ:=hhd (show g20≠g21 from fun e=>by have:=zj aK;omega)
        clear hK K I aD a8 hg
        have I:=aC
        clear aC
        refine nx_ ?_
        refine ox_ 6 (some 68) rfl rfl fun K hK=>?_
        refine zJ Tryz.func96 (by kernel_rfl) rfl #[.agg #[.int .i64 (T 1).f0,.int .i64 (T 1).f1],.int .i64 (wrap64 (q*byV inv 1))] (by rfl) rfl rfl (by go_simp) ?_
        refine (HP.out q 1 hq4 (by decide) _).mono ?_
        rintro e Wc ⟨rfl,aD⟩
        refine ⟨_,rfl,?_⟩
        refine hK.out _ _ (zb I aD) (fun aC=>?_)
        replace B21:=za_ B21 aD
        clear hK K I aD
        have I:=aC
        clear aC
        refine nx_ ?_
        refine px_ 7 rfl ?_
        refine px_ 8 rfl ?_
        refine px_ 9 rfl ?_
        refine lx_ 11 none rfl rfl fun K hK=>?_
        refine zA rfl rfl 38 _ _ rfl g21 #[.int .i64 (P q 1).f0,.int .i64 (P q 1).f1] rfl rfl 38 #[.int .i64 0,.int .i64 0] B21.out (zw _ _) rfl (zM _ _) ?_
        intro Wd hq_ aA aE
        refine hK.out _ _ ?_
        have dQ:=hhd hq_
        have HBd:=hhd (aE _ _ dP (zb a9 I))
        have cC:=hhd ((aA _ aV.out).trans (zd aG I))
        have dH:=hhd ((aA _ aW.out).trans (zd aH I))
        have dS:=hhd ((aA _ aX.out).trans (zd aJ I))
        have dU:=hhd ((aA _ aY.out).trans (zd aM I))
        have dK:=hhd ((aA _ aI.out).trans (zd aN I))
        have gL:=hhd ((aA _ aZ.out).trans (zd aK I))
        clear hK K I hq_ aA aE
        refine px_ 12 rfl ?_
        refine zE (by kernel_rfl) ?_
       all_goals
        clear B21 cI cJ cK cL cM cN cO cP cQ cR cS cT cU cV cW cX dD dE dF dG dN dO aT aU
        go_wp2
        have kk:Wd.drew.cell? ⟨g18,0,none⟩=some (.int .i64 (zan P q 1).f0):=(za dK 0).trans rfl
        have kc:Wd.drew.cell? ⟨g18,1,none⟩=some (.int .i64 (zan P q 1).f1):=(za dK 1).trans rfl
        refine z7 (S:=fun w'=>w'.heap[g21]?=some (.cells #[.int .i64 (P q 1).f0,.int .i64 (P q 1).f1] 38 (0,0))∧w'.cell? ⟨g18,1,none⟩=some (.int .i64 (zan P q 1).f1)) (ds:=[13]) (fl 14 0) hmx rfl rfl ⟨dQ.out,kc⟩ (fun I=>?_)
        refine px_ 0 rfl ?_
        refine px_ 2 rfl ?_
        refine px_ 5 rfl ?_
        refine px_ 7 rfl ?_
        refine tx_ 3 rfl I (by rintro w' hs;have j0:w'.cell? ⟨g21,0,none⟩=some (.int .i64 (P q 1).f0):=(za hs.1 0).trans rfl;have j1:w'.cell? ⟨g21,1,none⟩=some (.int .i64 (P q 1).f1):=(za hs.1 1).trans rfl;have j2:=hs.2;go_simp;with_reducible rfl) ?_
        refine tx_ 6 rfl I (by rintro w' hs;have j0:w'.cell? ⟨g21,0,none⟩=some (.int .i64 (P q 1).f0):=(za hs.1 0).trans rfl;have j1:w'.cell? ⟨g21,1,none⟩=some (.int .i64 (P q 1).f1):=(za hs.1 1).trans rfl;have j2:=hs.2;go_simp;with_reducible rfl) ?_
        refine tx_ 8 rfl I (by rintro w' hs;have j0:w'.cell? ⟨g21,0,none⟩=some (.int .i64 (P q 1).f0):=(za hs.1 0).trans rfl;have j1:w'.cell? ⟨g21,1,none⟩=some (.int .i64 (P q 1).f1):=(za hs.1 1).trans rfl;have j2:=hs.2;go_simp;with_reducible rfl) ?_
        refine px_ 9 rfl ?_
        refine ox_ 1 (some 72) rfl rfl fun K hK=>?_
        refine zdJ rfl rfl _ rfl g18 0 (zan P q 1).f0 rfl kk ?_
        refine hK.out _ _ I (fun _=>?_)
        clear hK K
        refine nx_ ?_
        refine px_ 4 rfl ?_
        refine px_ 10 rfl ?_
        refine ox_ 11 none rfl rfl fun K hK=>?_
        refine zbn rfl rfl 3 _ _ rfl g18 0 (.int .i64 (wrap64 ((zan P q 1).f0+(P q 1).f0))) rfl rfl 38 _ dK.out (show (0:Nat) < 2 from by decide) zbP rfl rfl #[.int .i64 (wrap64 ((zan P q 1).f0+(P q 1).f0)),.int .i64 (zan P q 1).f1] rfl ?_
        intro We hq1 hoth1 hbel1
        refine hK.out _ _ ⟨(hoth1 _ aI.out.symm).trans dQ.out,(za hq1 1).trans rfl⟩ (fun aC=>?_)
        clear hK K I kk kc
        have I:=aC
        clear aC
        refine px_ 12 rfl ?_
        refine lx_ 13 none rfl rfl fun K hK=>?_
        refine zbn rfl rfl 3 _ _ rfl g18 1 (.int .i64 (wrap64 ((zan P q 1).f1+(P q 1).f1))) rfl rfl 38 _ hq1 (show (1:Nat) < 2 from by decide) zbP rfl rfl #[.int .i64 (wrap64 ((zan P q 1).f0+(P q 1).f0)),.int .i64 (wrap64 ((zan P q 1).f1+(P q 1).f1))] rfl ?_
        intro Wf hq2 hoth2 hbel2
        refine hK.out _ _ ?_
        have F18:=hhd hq2
        have F12:=hhd ((hoth2 _ cY.out).trans ((hoth1 _ cY.out).trans cC.out))
        have F13:=hhd ((hoth2 _ cZ.out).trans ((hoth1 _ cZ.out).trans dH.out))
        have F15:=hhd ((hoth2 _ dB.out).trans ((hoth1 _ dB.out).trans dS.out))
        have F16:=hhd ((hoth2 _ dC.out).trans ((hoth1 _ dC.out).trans dU.out))
        have HBf:=hhd (hbel2 _ _ eV (hbel1 _ _ eV HBd.out.drew))
        clear hK K I hq1 hoth1 hbel1 hq2 hoth2 hbel2
        refine zE (by kernel_rfl) ?_
        go_wp2
        go_roundw
        case rel=>exact ⟨2,by decide,Or.inr (Or.inr (Or.inl ⟨rfl,rfl⟩)),F15.out,F18.out,F12.out,F13.out,F16.out,HBf.out⟩
        case measure=>simp [intOf]
      ·have hix:=zhJ (.int .i64 (T 0).f0) (.int .i64 (T 0).f1) (.int .i64 (T 1).f0) (.int .i64 (T 1).f1) (.int .i64 (T 2).f0) (.int .i64 (T 2).f1) (.int .i64 (T 3).f0) (.int .i64 (T 3).f1)
       go_wp2_with (first
       | ((with_reducible refine zf (N:=20) rfl ?_);refine bb_ 20 rfl HBi #[.int .i64 0,.int .i64 0] 38 ?_;intro g20 W1 hg aD gK dJ dI;have a7:=za_ R12 aD;have aQ:=za_ R13 aD;have bZ:=za_ R15 aD;have bA:=za_ R16 aD;have bT:=za_ R18 aD;obtain ⟨bB,bC,bD,bE,bF,bG,bH,bI⟩:=bk8 a7;obtain ⟨bJ,bK,bL,bM,bP,bQ,bR,bS⟩:=bx8 (.int .i64 (T 0).f0) (.int .i64 (T 0).f1) (.int .i64 (T 1).f0) (.int .i64 (T 1).f1) (.int .i64 (T 2).f0) (.int .i64 (T 2).f1) (.int .i64 (T 3).f0) (.int .i64 (T 3).f1) aQ;obtain ⟨b6,b7,b8,b9⟩:=bx4 (.int .i64 (byV inv 0)) (.int .i64 (byV inv 1)) (.int .i64 (byV inv 2)) (.int .i64 (byV inv 3)) bA;obtain ⟨cA,cB⟩:=bk2 bT;obtain ⟨dL,dM⟩:=bk2 dJ;have bU:=ne_ R12 hg;have eP:=hhd (show g20≠g12 from fun e=>bU.out e.symm);have bV:=ne_ R13 hg;have eQ:=hhd (show g20≠g13 from fun e=>bV.out e.symm);have bW:=ne_ R15 hg;have eR:=hhd (show g20≠g15 from fun e=>bW.out e.symm);have bX:=ne_ R16 hg;have eT:=hhd (show g20≠g16 from fun e=>bX.out e.symm);have bY:=ne_ R18 hg;have eU:=hhd (show g20≠g18 from fun e=>bY.out e.symm);clear aD hg)
       | ((with_reducible refine zo (t:=38) (p:=20) rfl ?_);refine re_ 38 20 rfl #[.int .i64 (T 2).f0,.int .i64 (T 2).f1] dJ gK dI ?_;intro W2 aA aK a9;have aG:=zt_ aA bU a7;have aH:=zt_ aA bV aQ;have aJ:=zt_ aA bW bZ;have aM:=zt_ aA bX bA;have aN:=zt_ aA bY bT;obtain ⟨cI,cJ,cK,cL,cM,cN,cO,cP⟩:=bk8 aG;obtain ⟨cQ,cR,cS,cT,cU,cV,cW,cX⟩:=bx8 (.int .i64 (T 0).f0) (.int .i64 (T 0).f1) (.int .i64 (T 1).f0) (.int .i64 (T 1).f1) (.int .i64 (T 2).f0) (.int .i64 (T 2).f1) (.int .i64 (T 3).f0) (.int .i64 (T 3).f1) aH;obtain ⟨dD,dE,dF,dG⟩:=bx4 (.int .i64 (byV inv 0)) (.int .i64 (byV inv 1)) (.int .i64 (byV inv 2)) (.int .i64 (byV inv 3)) aM;obtain ⟨dN,dO⟩:=bk2 aN;clear bB bC bD bE bF bG bH bI bJ bK bL bM bP bQ bR bS b6 b7 b8 b9 cA cB dL dM;obtain ⟨aT,aU⟩:=bx2 (.int .i64 (T 2).f0) (.int .i64 (T 2).f1) aK;clear aA))
       clear hix
       refine z7 (S:=fun w'=>Below W2.heap.size W2 w') (ds:=[11]) (fl 13 0) hmx rfl rfl (Below.refl _ _).drew (fun I=>?_)
       refine px_ 1 rfl ?_
       refine px_ 2 rfl ?_
       refine px_ 3 rfl ?_
       refine tx_ 0 rfl I (by rintro w' hs;obtain ⟨cD,cH,gZ⟩:=bg3 hs aT aU dF;go_simp;with_reducible rfl) ?_
       refine tx_ 4 rfl I (by rintro w' hs;obtain ⟨cD,cH,gZ⟩:=bg3 hs aT aU dF;go_simp;with_reducible rfl) ?_
       refine px_ 5 rfl ?_
       refine wx_ 6 10 (some 68) (some 21) rfl rfl rfl rfl (fun K hK=>?e31_6) fun K hK=>?e31_10
       case' e31_6 =>
        refine zJ Tryz.func96 (by kernel_rfl) rfl #[.agg #[.int .i64 (T 2).f0,.int .i64 (T 2).f1],.int .i64 (wrap64 (q*byV inv 2))] (by rfl) rfl rfl (by go_simp) ?_
        refine (HP.out q 2 hq4 (by decide) _).mono ?_
        rintro e Wc ⟨rfl,aD⟩
        refine ⟨_,rfl,?_⟩
        refine hK.out _ _ (zb I aD) (fun aC=>?_)
        clear hK K I aD
        have I:=aC
        clear aC
        refine nx_ ?_
        refine px_ 7 rfl ?_
        refine px_ 8 rfl ?_
        refine px_ 9 rfl ?_
        refine ox_ 10 (some 21) rfl rfl fun K hK=>?_
        refine box_step rfl rfl (cs:=#[.int .i64 0,.int .i64 0]) (t:=38) (by first | (go_simp;done) | (go_simp;rfl)) ?_
        intro g21 hg Wc a8 aD
        refine hK.out _ _ (zb I aD) (fun aC=>?_)
        have dP:w.heap.size≤g21:=by rw [hg];exact zi (zb a9 I)
        have M21:W2.heap.size≤g21:=by rw [hg];exact I.size
        have B21:=hhd a8
        have aV:=hhd (show g12≠g21 from fun e=>by have:=zj aG;omega)
        have aW:=hhd (show g13≠g21 from fun e=>by have:=zj aH;omega)
        have aX:=hhd (show g15≠g21 from fun e=>by have:=zj aJ;omega)
        have aY:=hhd (show g16≠g21 from fun e=>by have:=zj aM;omega)
        have aI:=hhd (show g18≠g21 from fun e=>by have:=zj aN;omega)
        have aZ:=hhd (show g20≠g21 from fun e=>by have:=zj aK;omega)
        clear hK K I aD a8 hg
        have I:=aC
        clear aC
        refine nx_ ?_
        refine lx_ 11 none rfl rfl fun K hK=>?_
        refine zA rfl rfl 38 _ _ rfl g21 #[.int .i64 (P q 2).f0,.int .i64 (P q 2).f1] rfl rfl 38 #[.int .i64 0,.int .i64 0] B21.out (zw _ _) rfl (zM _ _) ?_
        intro Wd hq_ aA aE
        refine hK.out _ _ ?_
        have dQ:=hhd hq_
        have HBd:=hhd (aE _ _ dP (zb a9 I))
        have cC:=hhd ((aA _ aV.out).trans (zd aG I))
        have dH:=hhd ((aA _ aW.out).trans (zd aH I))
        have dS:=hhd ((aA _ aX.out).trans (zd aJ I))
        have dU:=hhd ((aA _ aY.out).trans (zd aM I))
        have dK:=hhd ((aA _ aI.out).trans (zd aN I))
        have gL:=hhd ((aA _ aZ.out).trans (zd aK I))
        clear hK K I hq_ aA aE
        refine px_ 12 rfl ?_
        refine zE (by kernel_rfl) ?_
       case' e31_10 =>
        refine box_step rfl rfl (cs:=#[.int .i64 0,.int .i64 0]) (t:=38) (by first | (go_simp;done) | (go_simp;rfl)) ?_
        intro g21 hg Wc a8 aD
        refine hK.out _ _ (zb I aD) (fun aC=>?_)
        have dP:w.heap.size≤g21:=by rw [hg];exact zi (zb a9 I)
        have M21:W2.heap.size≤g21:=by rw [hg];exact I.size
        have B21:=hhd a8
        have aV:=hhd (show g12≠g21 from fun e=>by have:=zj aG;omega)
        have aW:=hhd (show g13≠g21 from fun e=>by have:=zj aH;omega)
        have aX:=hhd (show g15≠g21 from fun e=>by have:=zj aJ;omega)
        have aY:=hhd (show g16≠g21 from fun e=>by have:=zj aM;omega)
        have aI:=hhd (show g18≠g21 from fun e=>by have:=zj aN;omega)
        have aZ:=hhd (show g20≠g21 from fun e=>by have:=zj aK;omega)
        clear hK K I aD a8 hg
        have I:=aC
        clear aC
        refine nx_ ?_
        refine ox_ 6 (some 68) rfl rfl fun K hK=>?_
        refine zJ Tryz.func96 (by kernel_rfl) rfl #[.agg #[.int .i64 (T 2).f0,.int .i64 (T 2).f1],.int .i64 (wrap64 (q*byV inv 2))] (by rfl) rfl rfl (by go_simp) ?_
        refine (HP.out q 2 hq4 (by decide) _).mono ?_
        rintro e Wc ⟨rfl,aD⟩
        refine ⟨_,rfl,?_⟩
        refine hK.out _ _ (zb I aD) (fun aC=>?_)
        replace B21:=za_ B21 aD
        clear hK K I aD
        have I:=aC
        clear aC
        refine nx_ ?_
        refine px_ 7 rfl ?_
        refine px_ 8 rfl ?_
        refine px_ 9 rfl ?_
        refine lx_ 11 none rfl rfl fun K hK=>?_
        refine zA rfl rfl 38 _ _ rfl g21 #[.int .i64 (P q 2).f0,.int .i64 (P q 2).f1] rfl rfl 38 #[.int .i64 0,.int .i64 0] B21.out (zw _ _) rfl (zM _ _) ?_
        intro Wd hq_ aA aE
        refine hK.out _ _ ?_
        have dQ:=hhd hq_
        have HBd:=hhd (aE _ _ dP (zb a9 I))
        have cC:=hhd ((aA _ aV.out).trans (zd aG I))
        have dH:=hhd ((aA _ aW.out).trans (zd aH I))
        have dS:=hhd ((aA _ aX.out).trans (zd aJ I))
        have dU:=hhd ((aA _ aY.out).trans (zd aM I))
        have dK:=hhd ((aA _ aI.out).trans (zd aN I))
        have gL:=hhd ((aA _ aZ.out).trans (zd aK I))
        clear hK K I hq_ aA aE
        refine px_ 12 rfl ?_
        refine zE (by kernel_rfl) ?_
       all_goals
        clear B21 cI cJ cK cL cM cN cO cP cQ cR cS cT cU cV cW cX dD dE dF dG dN dO aT aU
        go_wp2
        have kk:Wd.drew.cell? ⟨g18,0,none⟩=some (.int .i64 (zan P q 2).f0):=(za dK 0).trans rfl
        have kc:Wd.drew.cell? ⟨g18,1,none⟩=some (.int .i64 (zan P q 2).f1):=(za dK 1).trans rfl
        refine z7 (S:=fun w'=>w'.heap[g21]?=some (.cells #[.int .i64 (P q 2).f0,.int .i64 (P q 2).f1] 38 (0,0))∧w'.cell? ⟨g18,1,none⟩=some (.int .i64 (zan P q 2).f1)) (ds:=[13]) (fl 14 0) hmx rfl rfl ⟨dQ.out,kc⟩ (fun I=>?_)
        refine px_ 0 rfl ?_
        refine px_ 2 rfl ?_
        refine px_ 5 rfl ?_
        refine px_ 7 rfl ?_
        refine tx_ 3 rfl I (by rintro w' hs;have j0:w'.cell? ⟨g21,0,none⟩=some (.int .i64 (P q 2).f0):=(za hs.1 0).trans rfl;have j1:w'.cell? ⟨g21,1,none⟩=some (.int .i64 (P q 2).f1):=(za hs.1 1).trans rfl;have j2:=hs.2;go_simp;with_reducible rfl) ?_
        refine tx_ 6 rfl I (by rintro w' hs;have j0:w'.cell? ⟨g21,0,none⟩=some (.int .i64 (P q 2).f0):=(za hs.1 0).trans rfl;have j1:w'.cell? ⟨g21,1,none⟩=some (.int .i64 (P q 2).f1):=(za hs.1 1).trans rfl;have j2:=hs.2;go_simp;with_reducible rfl) ?_
        refine tx_ 8 rfl I (by rintro w' hs;have j0:w'.cell? ⟨g21,0,none⟩=some (.int .i64 (P q 2).f0):=(za hs.1 0).trans rfl;have j1:w'.cell? ⟨g21,1,none⟩=some (.int .i64 (P q 2).f1):=(za hs.1 1).trans rfl;have j2:=hs.2;go_simp;with_reducible rfl) ?_
        refine px_ 9 rfl ?_
        refine ox_ 1 (some 72) rfl rfl fun K hK=>?_
        refine zdJ rfl rfl _ rfl g18 0 (zan P q 2).f0 rfl kk ?_
        refine hK.out _ _ I (fun _=>?_)
        clear hK K
        refine nx_ ?_
        refine px_ 4 rfl ?_
        refine px_ 10 rfl ?_
        refine ox_ 11 none rfl rfl fun K hK=>?_
        refine zbn rfl rfl 3 _ _ rfl g18 0 (.int .i64 (wrap64 ((zan P q 2).f0+(P q 2).f0))) rfl rfl 38 _ dK.out (show (0:Nat) < 2 from by decide) zbP rfl rfl #[.int .i64 (wrap64 ((zan P q 2).f0+(P q 2).f0)),.int .i64 (zan P q 2).f1] rfl ?_
        intro We hq1 hoth1 hbel1
        refine hK.out _ _ ⟨(hoth1 _ aI.out.symm).trans dQ.out,(za hq1 1).trans rfl⟩ (fun aC=>?_)
        clear hK K I kk kc
        have I:=aC
        clear aC
        refine px_ 12 rfl ?_
        refine lx_ 13 none rfl rfl fun K hK=>?_
        refine zbn rfl rfl 3 _ _ rfl g18 1 (.int .i64 (wrap64 ((zan P q 2).f1+(P q 2).f1))) rfl rfl 38 _ hq1 (show (1:Nat) < 2 from by decide) zbP rfl rfl #[.int .i64 (wrap64 ((zan P q 2).f0+(P q 2).f0)),.int .i64 (wrap64 ((zan P q 2).f1+(P q 2).f1))] rfl ?_
        intro Wf hq2 hoth2 hbel2
        refine hK.out _ _ ?_
        have F18:=hhd hq2
        have F12:=hhd ((hoth2 _ cY.out).trans ((hoth1 _ cY.out).trans cC.out))
        have F13:=hhd ((hoth2 _ cZ.out).trans ((hoth1 _ cZ.out).trans dH.out))
        have F15:=hhd ((hoth2 _ dB.out).trans ((hoth1 _ dB.out).trans dS.out))
        have F16:=hhd ((hoth2 _ dC.out).trans ((hoth1 _ dC.out).trans dU.out))
        have HBf:=hhd (hbel2 _ _ eV (hbel1 _ _ eV HBd.out.drew))
        clear hK K I hq1 hoth1 hbel1 hq2 hoth2 hbel2
        refine zE (by kernel_rfl) ?_
        go_wp2
        go_roundw
        case rel=>exact ⟨3,by decide,Or.inr (Or.inr (Or.inr (Or.inl ⟨rfl,rfl⟩))),F15.out,F18.out,F12.out,F13.out,F16.out,HBf.out⟩
        case measure=>simp [intOf]
      ·have hix:=zhK (.int .i64 (T 0).f0) (.int .i64 (T 0).f1) (.int .i64 (T 1).f0) (.int .i64 (T 1).f1) (.int .i64 (T 2).f0) (.int .i64 (T 2).f1) (.int .i64 (T 3).f0) (.int .i64 (T 3).f1)
       go_wp2_with (first
       | ((with_reducible refine zf (N:=20) rfl ?_);refine bb_ 20 rfl HBi #[.int .i64 0,.int .i64 0] 38 ?_;intro g20 W1 hg aD gK dJ dI;have a7:=za_ R12 aD;have aQ:=za_ R13 aD;have bZ:=za_ R15 aD;have bA:=za_ R16 aD;have bT:=za_ R18 aD;obtain ⟨bB,bC,bD,bE,bF,bG,bH,bI⟩:=bk8 a7;obtain ⟨bJ,bK,bL,bM,bP,bQ,bR,bS⟩:=bx8 (.int .i64 (T 0).f0) (.int .i64 (T 0).f1) (.int .i64 (T 1).f0) (.int .i64 (T 1).f1) (.int .i64 (T 2).f0) (.int .i64 (T 2).f1) (.int .i64 (T 3).f0) (.int .i64 (T 3).f1) aQ;obtain ⟨b6,b7,b8,b9⟩:=bx4 (.int .i64 (byV inv 0)) (.int .i64 (byV inv 1)) (.int .i64 (byV inv 2)) (.int .i64 (byV inv 3)) bA;obtain ⟨cA,cB⟩:=bk2 bT;obtain ⟨dL,dM⟩:=bk2 dJ;have bU:=ne_ R12 hg;have eP:=hhd (show g20≠g12 from fun e=>bU.out e.symm);have bV:=ne_ R13 hg;have eQ:=hhd (show g20≠g13 from fun e=>bV.out e.symm);have bW:=ne_ R15 hg;have eR:=hhd (show g20≠g15 from fun e=>bW.out e.symm);have bX:=ne_ R16 hg;have eT:=hhd (show g20≠g16 from fun e=>bX.out e.symm);have bY:=ne_ R18 hg;have eU:=hhd (show g20≠g18 from fun e=>bY.out e.symm);clear aD hg)
       | ((with_reducible refine zo (t:=38) (p:=20) rfl ?_);refine re_ 38 20 rfl #[.int .i64 (T 3).f0,.int .i64 (T 3).f1] dJ gK dI ?_;intro W2 aA aK a9;have aG:=zt_ aA bU a7;have aH:=zt_ aA bV aQ;have aJ:=zt_ aA bW bZ;have aM:=zt_ aA bX bA;have aN:=zt_ aA bY bT;obtain ⟨cI,cJ,cK,cL,cM,cN,cO,cP⟩:=bk8 aG;obtain ⟨cQ,cR,cS,cT,cU,cV,cW,cX⟩:=bx8 (.int .i64 (T 0).f0) (.int .i64 (T 0).f1) (.int .i64 (T 1).f0) (.int .i64 (T 1).f1) (.int .i64 (T 2).f0) (.int .i64 (T 2).f1) (.int .i64 (T 3).f0) (.int .i64 (T 3).f1) aH;obtain ⟨dD,dE,dF,dG⟩:=bx4 (.int .i64 (byV inv 0)) (.int .i64 (byV inv 1)) (.int .i64 (byV inv 2)) (.int .i64 (byV inv 3)) aM;obtain ⟨dN,dO⟩:=bk2 aN;clear bB bC bD bE bF bG bH bI bJ bK bL bM bP bQ bR bS b6 b7 b8 b9 cA cB dL dM;obtain ⟨aT,aU⟩:=bx2 (.int .i64 (T 3).f0) (.int .i64 (T 3).f1) aK;clear aA))
       clear hix
       refine z7 (S:=fun w'=>Below W2.heap.size W2 w') (ds:=[11]) (fl 13 0) hmx rfl rfl (Below.refl _ _).drew (fun I=>?_)
       refine px_ 1 rfl ?_
       refine px_ 2 rfl ?_
       refine px_ 3 rfl ?_
       refine tx_ 0 rfl I (by rintro w' hs;obtain ⟨cD,cH,hZ⟩:=bg3 hs aT aU dG;go_simp;with_reducible rfl) ?_
       refine tx_ 4 rfl I (by rintro w' hs;obtain ⟨cD,cH,hZ⟩:=bg3 hs aT aU dG;go_simp;with_reducible rfl) ?_
       refine px_ 5 rfl ?_
       refine wx_ 6 10 (some 68) (some 21) rfl rfl rfl rfl (fun K hK=>?e41_6) fun K hK=>?e41_10
       case' e41_6 =>
        refine zJ Tryz.func96 (by kernel_rfl) rfl #[.agg #[.int .i64 (T 3).f0,.int .i64 (T 3).f1],.int .i64 (wrap64 (q*byV inv 3))] (by rfl) rfl rfl (by go_simp) ?_
        refine (HP.out q 3 hq4 (by decide) _).mono ?_
        rintro e Wc ⟨rfl,aD⟩
        refine ⟨_,rfl,?_⟩
        refine hK.out _ _ (zb I aD) (fun aC=>?_)
        clear hK K I aD
        have I:=aC
        clear aC
        refine nx_ ?_
        refine px_ 7 rfl ?_
        refine px_ 8 rfl ?_
        refine px_ 9 rfl ?_
        refine ox_ 10 (some 21) rfl rfl fun K hK=>?_
        refine box_step rfl rfl (cs:=#[.int .i64 0,.int .i64 0]) (t:=38) (by first | (go_simp;done) | (go_simp;rfl)) ?_
        intro g21 hg Wc a8 aD
        refine hK.out _ _ (zb I aD) (fun aC=>?_)
        have dP:w.heap.size≤g21:=by rw [hg];exact zi (zb a9 I)
        have M21:W2.heap.size≤g21:=by rw [hg];exact I.size
        have B21:=hhd a8
        have aV:=hhd (show g12≠g21 from fun e=>by have:=zj aG;omega)
        have aW:=hhd (show g13≠g21 from fun e=>by have:=zj aH;omega)
        have aX:=hhd (show g15≠g21 from fun e=>by have:=zj aJ;omega)
        have aY:=hhd (show g16≠g21 from fun e=>by have:=zj aM;omega)
        have aI:=hhd (show g18≠g21 from fun e=>by have:=zj aN;omega)
        have aZ:=hhd (show g20≠g21 from fun e=>by have:=zj aK;omega)
        clear hK K I aD a8 hg
        have I:=aC
        clear aC
        refine nx_ ?_
        refine lx_ 11 none rfl rfl fun K hK=>?_
        refine zA rfl rfl 38 _ _ rfl g21 #[.int .i64 (P q 3).f0,.int .i64 (P q 3).f1] rfl rfl 38 #[.int .i64 0,.int .i64 0] B21.out (zw _ _) rfl (zM _ _) ?_
        intro Wd hq_ aA aE
        refine hK.out _ _ ?_
        have dQ:=hhd hq_
        have HBd:=hhd (aE _ _ dP (zb a9 I))
        have cC:=hhd ((aA _ aV.out).trans (zd aG I))
        have dH:=hhd ((aA _ aW.out).trans (zd aH I))
        have dS:=hhd ((aA _ aX.out).trans (zd aJ I))
        have dU:=hhd ((aA _ aY.out).trans (zd aM I))
        have dK:=hhd ((aA _ aI.out).trans (zd aN I))
        have gL:=hhd ((aA _ aZ.out).trans (zd aK I))
        clear hK K I hq_ aA aE
        refine px_ 12 rfl ?_
        refine zE (by kernel_rfl) ?_
       case' e41_10 =>
        refine box_step rfl rfl (cs:=#[.int .i64 0,.int .i64 0]) (t:=38) (by first | (go_simp;done) | (go_simp;rfl)) ?_
        intro g21 hg Wc a8 aD
        refine hK.out _ _ (zb I aD) (fun aC=>?_)
        have dP:w.heap.size≤g21:=by rw [hg];exact zi (zb a9 I)
        have M21:W2.heap.size≤g21:=by rw [hg];exact I.size
        have B21:=hhd a8
        have aV:=hhd (show g12≠g21 from fun e=>by have:=zj aG;omega)
        have aW:=hhd (show g13≠g21 from fun e=>by have:=zj aH;omega)
        have aX:=hhd (show g15≠g21 from fun e=>by have:=zj aJ;omega)
        have aY:=hhd (show g16≠g21 from fun e=>by have:=zj aM;omega)
        have aI:=hhd (show g18≠g21 from fun e=>by have:=zj aN;omega)
        have aZ:=hhd (show g20≠g21 from fun e=>by have:=zj aK;omega)
        clear hK K I aD a8 hg
        have I:=aC
        clear aC
        refine nx_ ?_
        refine ox_ 6 (some 68) rfl rfl fun K hK=>?_
        refine zJ Tryz.func96 (by kernel_rfl) rfl #[.agg #[.int .i64 (T 3).f0,.int .i64 (T 3).f1],.int .i64 (wrap64 (q*byV inv 3))] (by rfl) rfl rfl (by go_simp) ?_
        refine (HP.out q 3 hq4 (by decide) _).mono ?_
        rintro e Wc ⟨rfl,aD⟩
        refine ⟨_,rfl,?_⟩
        refine hK.out _ _ (zb I aD) (fun aC=>?_)
        replace B21:=za_ B21 aD
        clear hK K I aD
        have I:=aC
        clear aC
        refine nx_ ?_
        refine px_ 7 rfl ?_
        refine px_ 8 rfl ?_
        refine px_ 9 rfl ?_
        refine lx_ 11 none rfl rfl fun K hK=>?_
        refine zA rfl rfl 38 _ _ rfl g21 #[.int .i64 (P q 3).f0,.int .i64 (P q 3).f1] rfl rfl 38 #[.int .i64 0,.int .i64 0] B21.out (zw _ _) rfl (zM _ _) ?_
        intro Wd hq_ aA aE
        refine hK.out _ _ ?_
        have dQ:=hhd hq_
        have HBd:=hhd (aE _ _ dP (zb a9 I))
        have cC:=hhd ((aA _ aV.out).trans (zd aG I))
        have dH:=hhd ((aA _ aW.out).trans (zd aH I))
        have dS:=hhd ((aA _ aX.out).trans (zd aJ I))
        have dU:=hhd ((aA _ aY.out).trans (zd aM I))
        have dK:=hhd ((aA _ aI.out).trans (zd aN I))
        have gL:=hhd ((aA _ aZ.out).trans (zd aK I))
        clear hK K I hq_ aA aE
        refine px_ 12 rfl ?_
        refine zE (by kernel_rfl) ?_
       all_goals
        clear B21 cI cJ cK cL cM cN cO cP cQ cR cS cT cU cV cW cX dD dE dF dG dN dO aT aU
        go_wp2
        have kk:Wd.drew.cell? ⟨g18,0,none⟩=some (.int .i64 (zan P q 3).f0):=(za dK 0).trans rfl
        have kc:Wd.drew.cell? ⟨g18,1,none⟩=some (.int .i64 (zan P q 3).f1):=(za dK 1).trans rfl
        refine z7 (S:=fun w'=>w'.heap[g21]?=some (.cells #[.int .i64 (P q 3).f0,.int .i64 (P q 3).f1] 38 (0,0))∧w'.cell? ⟨g18,1,none⟩=some (.int .i64 (zan P q 3).f1)) (ds:=[13]) (fl 14 0) hmx rfl rfl ⟨dQ.out,kc⟩ (fun I=>?_)
        refine px_ 0 rfl ?_
        refine px_ 2 rfl ?_
        refine px_ 5 rfl ?_
        refine px_ 7 rfl ?_
        refine tx_ 3 rfl I (by rintro w' hs;have j0:w'.cell? ⟨g21,0,none⟩=some (.int .i64 (P q 3).f0):=(za hs.1 0).trans rfl;have j1:w'.cell? ⟨g21,1,none⟩=some (.int .i64 (P q 3).f1):=(za hs.1 1).trans rfl;have j2:=hs.2;go_simp;with_reducible rfl) ?_
        refine tx_ 6 rfl I (by rintro w' hs;have j0:w'.cell? ⟨g21,0,none⟩=some (.int .i64 (P q 3).f0):=(za hs.1 0).trans rfl;have j1:w'.cell? ⟨g21,1,none⟩=some (.int .i64 (P q 3).f1):=(za hs.1 1).trans rfl;have j2:=hs.2;go_simp;with_reducible rfl) ?_
        refine tx_ 8 rfl I (by rintro w' hs;have j0:w'.cell? ⟨g21,0,none⟩=some (.int .i64 (P q 3).f0):=(za hs.1 0).trans rfl;have j1:w'.cell? ⟨g21,1,none⟩=some (.int .i64 (P q 3).f1):=(za hs.1 1).trans rfl;have j2:=hs.2;go_simp;with_reducible rfl) ?_
        refine px_ 9 rfl ?_
        refine ox_ 1 (some 72) rfl rfl fun K hK=>?_
        refine zdJ rfl rfl _ rfl g18 0 (zan P q 3).f0 rfl kk ?_
        refine hK.out _ _ I (fun _=>?_)
        clear hK K
        refine nx_ ?_
        refine px_ 4 rfl ?_
        refine px_ 10 rfl ?_
        refine ox_ 11 none rfl rfl fun K hK=>?_
        refine zbn rfl rfl 3 _ _ rfl g18 0 (.int .i64 (wrap64 ((zan P q 3).f0+(P q 3).f0))) rfl rfl 38 _ dK.out (show (0:Nat) < 2 from by decide) zbP rfl rfl #[.int .i64 (wrap64 ((zan P q 3).f0+(P q 3).f0)),.int .i64 (zan P q 3).f1] rfl ?_
        intro We hq1 hoth1 hbel1
        refine hK.out _ _ ⟨(hoth1 _ aI.out.symm).trans dQ.out,(za hq1 1).trans rfl⟩ (fun aC=>?_)
        clear hK K I kk kc
        have I:=aC
        clear aC
        refine px_ 12 rfl ?_
        refine lx_ 13 none rfl rfl fun K hK=>?_
        refine zbn rfl rfl 3 _ _ rfl g18 1 (.int .i64 (wrap64 ((zan P q 3).f1+(P q 3).f1))) rfl rfl 38 _ hq1 (show (1:Nat) < 2 from by decide) zbP rfl rfl #[.int .i64 (wrap64 ((zan P q 3).f0+(P q 3).f0)),.int .i64 (wrap64 ((zan P q 3).f1+(P q 3).f1))] rfl ?_
        intro Wf hq2 hoth2 hbel2
        refine hK.out _ _ ?_
        have F18:=hhd hq2
        have F12:=hhd ((hoth2 _ cY.out).trans ((hoth1 _ cY.out).trans cC.out))
        have F13:=hhd ((hoth2 _ cZ.out).trans ((hoth1 _ cZ.out).trans dH.out))
        have F15:=hhd ((hoth2 _ dB.out).trans ((hoth1 _ dB.out).trans dS.out))
        have F16:=hhd ((hoth2 _ dC.out).trans ((hoth1 _ dC.out).trans dU.out))
        have HBf:=hhd (hbel2 _ _ eV (hbel1 _ _ eV HBd.out.drew))
        clear hK K I hq1 hoth1 hbel1 hq2 hoth2 hbel2
        refine zE (by kernel_rfl) ?_
        go_wp2
        go_roundw
        case rel=>exact ⟨4,by decide,Or.inr (Or.inr (Or.inr (Or.inr (⟨rfl,rfl⟩)))),F15.out,F18.out,F12.out,F13.out,F16.out,HBf.out⟩
        case measure=>simp [intOf]
      ·skip
       go_wp2_with (first
        | ((with_reducible refine zf (N:=86) rfl ?_);refine lr_ 86 rfl 38 R18 Tryz.underlying38 ?_)
        | (go_at_call 70;(with_reducible refine (HO.out q hq4 _).mono ?_);rintro e W1 ⟨rfl,hb⟩;have bZ:=za_ R15 hb;have dI:=zs_ HBi hb;have a7:=za_ R12 hb;have aQ:=za_ R13 hb;have bA:=za_ R16 hb;have bT:=za_ R18 hb;obtain ⟨bB,bC,bD,bE,bF,bG,bH,bI⟩:=bk8 a7;obtain ⟨bJ,bK,bL,bM,bP,bQ,bR,bS⟩:=bx8 (.int .i64 (T 0).f0) (.int .i64 (T 0).f1) (.int .i64 (T 1).f0) (.int .i64 (T 1).f1) (.int .i64 (T 2).f0) (.int .i64 (T 2).f1) (.int .i64 (T 3).f0) (.int .i64 (T 3).f1) aQ;obtain ⟨b6,b7,b8,b9⟩:=bx4 (.int .i64 (byV inv 0)) (.int .i64 (byV inv 1)) (.int .i64 (byV inv 2)) (.int .i64 (byV inv 3)) bA;obtain ⟨cA,cB⟩:=bk2 bT;clear hb)
        | ((with_reducible refine zo (t:=38) (p:=94) rfl ?_);refine zdf rfl rfl 38 _ _ rfl g15 (q*2) (.int .i64 (O q).f0) (.int .i64 (O q).f1) rfl rfl 136 _ bZ.out (by rw [zdK];omega) zbZ rfl rfl (zc9 O (q+1)) (zhG O q hq4) ?_;intro Wd hq_ aA aE;have dS:=hhd hq_;have HBd:=hhd (aE _ _ mI dI.out);have cC:=zt_ aA gM a7;have dH:=zt_ aA gN aQ;have dU:=hhd ((aA _ eO.out.symm).trans bA.out);clear hq_ aA aE))
       go_roundw
       case rel=>exact ⟨q+1,by omega,by go_num,dS.out,cC.out,dH.out,dU.out,HBd.out⟩
       case measure=>simp [intOf];omega
    ·obtain rfl:q=4:=by omega
     skip
     go_wp2_with (first
      | ((with_reducible refine zf (N:=96) rfl ?_);refine lr_ 96 rfl 136 P15 Tryz.underlying136 ?_)
      | ((with_reducible refine zo (t:=136) (p:=12) rfl ?_);refine zN rfl 136 _ _ rfl g12 #[.int .i64 (O 0).f0,.int .i64 (O 0).f1,.int .i64 (O 1).f0,.int .i64 (O 1).f1,.int .i64 (O 2).f0,.int .i64 (O 2).f1,.int .i64 (O 3).f0,.int .i64 (O 3).f1] rfl rfl 136 #[.int .i64 0,.int .i64 0,.int .i64 0,.int .i64 0,.int .i64 0,.int .i64 0,.int .i64 0,.int .i64 0] P12.out (zcJ _ _ _ _ _ _ _ _) rfl (zeN _ _ _ _ _ _ _ _) ?_;intro We hq_ aA aE;have cC:=hhd hq_;have HBe:=hhd (aE _ _ mD HBo.out);clear hq_ aA aE))
     refine bodyPost_ret (results_cell_row rfl _ _ g12 136 #[.int .i64 (O 0).f0,.int .i64 (O 0).f1,.int .i64 (O 1).f0,.int .i64 (O 1).f1,.int .i64 (O 2).f0,.int .i64 (O 2).f1,.int .i64 (O 3).f0,.int .i64 (O 3).f1] (0,0) _ rfl cC.out Tryz.underlying136 rfl (zcJ _ _ _ _ _ _ _ _)) rfl ?_
     exact ⟨rfl,HBe.out⟩
end Go.Proofs.YteieahbadclppaaGreat.P

