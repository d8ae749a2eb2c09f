/- Part 17 of 36 of the proof: the texts that it reaches, one behind the other. No condition. -/
import Derived.Test.YteieahbadclppaaGreatKr15
import Derived.Test.YteieahbadclppaaGreatKr16
namespace Go.Proofs.YteieahbadclppaaGreat.P
open Go.RowKit Go.Proofs.YteieahbadclppaaGreatW.PrintWords Go.Proofs.YteieahbadclppaaGreatW.PrintLast Go.Proofs.YteieahbadclppaaGreatW.PrintMore
attribute [local go_sem] zF zG zK zL
set_option linter.unusedVariables false
set_option linter.unusedSimpArgs false
theorem zoA (a b:Value):(Tryz.prog.info? 59).map (·.size)=some (#[a,b]:Array Value).size:=by kernel_rfl
def zcb (RUN:Option Addr→Nat→Array Value) (L:List S38) (n k:Nat) (Y Y':List S38) (e e':Int) (ps:S59):Prop :=
 ∀(W:World) (Ax:Option Addr) (cx:Nat) (As:Option Addr) (cs:Nat) (sh:List Int) (Aw:Option Addr) (cw:Nat),Kd.C k38 W Ax Y.length Y→Y.length≤cx→Kd.C (Kd.int .i64) W As sh.length sh→sh.length≤cs→sh.length=k→Kd.C k38 W Aw L.length L→L.length≤cw →
  Calls Tryz.prog 20 #[.agg (RUN Aw cw),.agg #[.slice Ax n cx,.int .i64 e,.bool false,.slice As k cs],.agg #[.int .i64 ps.f0,.int .i64 ps.f1]] W fun r w'=>∃A' c' As' cs' sh',r=.returned (.agg #[.slice A' n c',.int .i64 e',.bool false,.slice As' (k+1) cs'])∧Kd.R k38 38 w' W.heap.size (fun _=>True) (.slice A' n c') Y'∧Kd.R (Kd.int .i64) 3 w' W.heap.size (fun _=>True) (.slice As' (k+1) cs') sh'∧Below W.heap.size W w'
theorem zcG {e base:Nat} {ok:Nat→Prop} {w:World} {A:Option Addr} {n c:Nat} {xs:List Int} (h:Kd.R (Kd.int .i64) e w base ok (.slice A n c) xs):xs.length=n∧xs.length≤c∧Kd.C (Kd.int .i64) w A xs.length xs:=by
 obtain ⟨A',c',hv,h1,h2⟩:=Kd.R_reads h
 injection hv with e1 e2 e3
 subst e1;subst e3
 exact ⟨e2.symm,h1,h2⟩
theorem zkd {α:Type} {d:Kd α} (hE:d.E=[]) {e base g:Nat} {ok:Nat→Prop} {W w1:World} {v:Value} {xs:List α} (h:d.R e W base ok v xs) (hw:∀k,k≠g→w1.heap[k]?=W.heap[k]?) (hne:some g≠v.ownBlock):d.R e w1 base ok v xs :=
 Kd.R_mono (Kd.R_step (Kd.R_tight hE h) (fun k hk _=>hw k (fun e_=>hne (by rw [← e_];exact hk)))) (fun k hk=>h.1 k hk.symm)
theorem zl2 {e base:Nat} {ok:Nat→Prop} {w:World} {A:Option Addr} {n c:Nat} {xs:List S59} (h:Kd.R k59 e w base ok (.slice A n c) xs):Kd.C k59 w A xs.length xs:=by
 obtain ⟨A',c',hv,h1,h2⟩:=Kd.R_reads h
 injection hv with e1 e2 e3
 subst e1
 exact h2
theorem zl3 {e base:Nat} {ok:Nat→Prop} {w:World} {A:Option Addr} {n c:Nat} {xs:List S38} (h:Kd.R k38 e w base ok (.slice A n c) xs):xs.length=n:=by
 obtain ⟨A',c',hv,h1,h2⟩:=Kd.R_reads h
 injection hv with e1 e2 e3
 exact e2.symm
theorem zcb.go {RUN:Option Addr→Nat→Array Value} {L:List S38} {n k:Nat} {Y Y':List S38} {e e':Int} {ps:S59} (h:zcb RUN L n k Y Y' e e' ps) {b1 b2 b3 cx cs cw:Nat} {o1 o2 o3:Nat→Prop} {W:World} {Ax As Aw:Option Addr} {sh:List Int}
  (hy:Kd.R k38 38 W b1 o1 (.slice Ax n cx) Y) (hs:Kd.R (Kd.int .i64) 3 W b2 o2 (.slice As k cs) sh) (hw:Kd.R k38 38 W b3 o3 (.slice Aw L.length cw) L) :
  Calls Tryz.prog 20 #[.agg (RUN Aw cw),.agg #[.slice Ax n cx,.int .i64 e,.bool false,.slice As k cs],.agg #[.int .i64 ps.f0,.int .i64 ps.f1]] W fun r w'=>∃A' c' As' cs' sh',r=.returned (.agg #[.slice A' n c',.int .i64 e',.bool false,.slice As' (k+1) cs'])∧Kd.R k38 38 w' W.heap.size (fun _=>True) (.slice A' n c') Y'∧Kd.R (Kd.int .i64) 3 w' W.heap.size (fun _=>True) (.slice As' (k+1) cs') sh'∧Below W.heap.size W w' :=
 h W Ax cx As cs sh Aw cw (R_C hy).2 (R_C hy).1 (zcG hs).2.2 (zcG hs).2.1 (zcG hs).1 (R_C hw).2 (R_C hw).1
set_option maxRecDepth 100000 in
set_option maxHeartbeats 4000000 in
theorem zfO (p0 b:Int) (hbt:sat_Bits.f p0=some (b,0)) (p1 p2 p4:Int) (p5:Bool) (L:List S38) (A:Option Addr) (c:Nat) (l:List S38) (n kp:Nat) (ps:List S59) (Y:Nat→List S38) (EX:Nat→Int) (h2:(p2 == 2)=false) (w:World) (hr:Kd.C k38 w A l.length l) (hm:ps.length≤10) (hE:EX 0=1)
  (htw:roots_Twiddles.f p1 p0=some (L,0)) (hps:plan_Passes.f kp p0 p1 p2 0 p4 p5=some (ps,0))
  (hrd:∀W:World,Kd.C k38 W A l.length l→Calls Tryz.prog 16 #[.slice A l.length c,.agg #[.int .i64 p0,.int .i64 p1,.int .i64 p2,.int .i64 0,.int .i64 p4,.bool p5]] W fun e w'=>∃A' c',e=.returned (.tuple #[.agg #[.slice A' n c',.int .i64 1,.bool false,.slice none 0 0],.int .i64 0])∧Kd.R k38 38 w' W.heap.size (fun _=>True) (.slice A' n c') (Y 0)∧Below W.heap.size W w')
  (hnx:∀k,k < ps.length→zcb (fun Aw cw=>#[.int .i64 p0,.int .i64 p1,.int .i64 p2,.int .i64 0,.int .i64 p4,.bool p5,.iface 97 (.agg #[]),.int .i64 b,.slice Aw L.length cw]) L n k (Y k) (Y (k+1)) (EX k) (EX (k+1)) (ps.getD k z59)) :
  Calls Tryz.prog 7 #[.slice A l.length c,.agg (zay p0 p1 p2 0 p4 p5)] w fun e w'=>∃A' c' As' cs',e=.returned (.tuple #[.agg #[.slice A' n c',.int .i64 (EX ps.length),.bool false,.slice As' ps.length cs'],.int .i64 0])∧Kd.R k38 38 w' w.heap.size (fun _=>True) (.slice A' n c') (Y ps.length)∧Below w.heap.size w w':=by
 have HR:=hhd hr
 have HRD:=hhd hrd
 have HNXA:=hhd hnx
 have HBI:=hhd (hbt)
 have HTW:=hhd htw
 have HPS:=hhd hps
 have HE:=hhd hE
 have lV:=hhd (Below.refl w.heap.size w)
 clear hr hrd hnx htw hps hE
 unfold zay
 go_enter Tryz.func7,Tryz.ntmps7
 go_wp2_with (first
  | ((with_reducible refine zf (N:=3) rfl ?_);refine bb_ 3 rfl lV #[.int .i64 p0,.int .i64 p1,.int .i64 p2,.int .i64 0,.int .i64 p4,.bool p5] 24 ?_;intro g3 W1 hg aA L3 aG bT;have l3:=zc_ HR bT;obtain ⟨aN,aQ,aT,aU,aV,aW⟩:=bk6 aG;clear aA hg)
  | ((with_reducible refine zf (N:=4) rfl ?_);refine bb_ 4 rfl bT #[.slice none 0 0,.int .i64 0,.bool false,.slice none 0 0] 28 ?_;intro g4 W2 hg aA L4 aX aC;have aH:=za_ aG aA;have kE:=zc_ HR aC;obtain ⟨aY,aZ,a7,a8,a9,bA⟩:=bk6 aH;clear aN aQ aT aU aV aW;obtain ⟨bB,bC,bD,bE⟩:=bk4 aX;have lZ:=ne_ aG hg;clear aA hg)
  | ((with_reducible refine zf (N:=15) rfl ?_);refine lr_ 15 rfl 24 aH Tryz.underlying24 ?_)
  | (go_at_call 16;refine (HRD.out _ kE.out).mono ?_;rintro e W3 ⟨A1,c1,rfl,ho,hb⟩;have cN:=hhd (Kd.R_lower ho (zi aC));have bU:=zs_ aC hb;have aI:=za_ aH hb;have aJ:=za_ aX hb;have l4:=zc_ HR bU;obtain ⟨bF,bG,bH,bI,bJ,bK⟩:=bk6 aI;obtain ⟨bL,bM,bP,bQ⟩:=bk4 aJ;clear aY aZ a7 a8 a9 bA bB bC bD bE;clear hb ho)
  | ((with_reducible refine zf (N:=6) rfl ?_);refine bb_ 6 rfl bU #[.slice none 0 0,.int .i64 0,.bool false,.slice none 0 0] 28 ?_;intro g6 W4 hg aA L6 aK bV;have bR:=za_ aI aA;have bS:=za_ aJ aA;have cO:=zr_ cN aA;have l5:=zc_ HR bV;obtain ⟨bZ,b6,b7,b8,b9,cA⟩:=bk6 bR;obtain ⟨cB,cC,cD,cH⟩:=bk4 bS;clear bF bG bH bI bJ bK bL bM bP bQ;obtain ⟨cI,cJ,cK,cL⟩:=bk4 aK;have dC:=ne_ aI hg;have dD:=ne_ aJ hg;clear aA hg)
  | ((with_reducible refine zo (t:=28) (p:=6) rfl ?_);refine re_ 28 6 rfl #[.slice A1 n c1,.int .i64 1,.bool false,.slice none 0 0] aK L6 bV ?_;intro W5 I fJ cP;have cQ:=zt_ I dC bR;have fK:=zt_ I dD bS;have kF:=zg_ cO aK I;obtain ⟨fM,fO,fP,fQ,fR,fS⟩:=bk6 cQ;obtain ⟨fT,fU,fV,fW⟩:=bk4 fK;clear bZ b6 b7 b8 b9 cA cB cC cD cH cI cJ cK cL;obtain ⟨fX,fY,fZ,f6⟩:=bk4 fJ;have l6:=zc_ HR cP;clear I)
  | ((with_reducible refine zf (N:=47) rfl ?_);refine lr_ 47 rfl 24 cQ Tryz.underlying24 ?_)
  | (go_at_call 18;(with_reducible refine (plan_Passes.calls kp p0 p1 p2 0 p4 p5 ps 0 _ HPS.out).mono ?_);rintro e W6 ⟨vp,rfl,ho,hb⟩;obtain ⟨Ap,cp,ev⟩:=Kd.R_slice ho;subst ev;have kG:=hhd (Kd.R_lower ho (zi cP));have cR:=zs_ cP hb;have cS:=za_ cQ hb;have f7:=za_ fK hb;have f8:=za_ fJ hb;have kH:=zr_ kF hb;have l7:=zc_ HR cR;obtain ⟨f9,gA,gB,gC,gE,gF⟩:=bk6 cS;obtain ⟨gG,gH,gI,gJ⟩:=bk4 f7;obtain ⟨gK,gL,gM,gN⟩:=bk4 f8;clear fM fO fP fQ fR fS fT fU fV fW fX fY fZ f6;clear hb ho)
  | ((with_reducible refine zf (N:=51) rfl ?_);refine lr_ 51 rfl 24 cS Tryz.underlying24 ?_)
  | (go_at_call 19;refine (ze0 p0 p1 p2 p4 b p5 L HBI.out HTW.out _).mono ?_;rintro e W7 ⟨Aw,cw,rfl,ho,hb⟩;have kI:=hhd (Kd.R_lower ho (zi cR));have gO:=zs_ cR hb;have cT:=za_ cS hb;have cU:=za_ f7 hb;have cV:=za_ f8 hb;have kJ:=zr_ kH hb;have kK:=zr_ kG hb;have l8:=zc_ HR gO;obtain ⟨gP,gQ,gR,gS,gT,gU⟩:=bk6 cT;obtain ⟨gV,gX,gY,gZ⟩:=bk4 cU;obtain ⟨hZ,iA,iB,iC⟩:=bk4 cV;clear f9 gA gB gC gE gF gG gH gI gJ gK gL gM gN;clear hb ho)
  | ((with_reducible refine zf (N:=10) rfl ?_);refine bb_ 10 rfl gO #[.int .i64 0,.int .i64 0,.int .i64 0,.int .i64 0,.int .i64 0,.bool false,.nilIface,.int .i64 0,.slice none 0 0] 56 ?_;intro g10 W8 hg aA lW aD iD;have iF:=za_ cT aA;have iG:=za_ cU aA;have iH:=za_ cV aA;have kL:=zr_ kJ aA;have kM:=zr_ kK aA;have kN:=zr_ kI aA;have l9:=zc_ HR iD;obtain ⟨iI,iJ,iK,iL,iM,iN⟩:=bk6 iF;obtain ⟨iO,iP,iQ,iR⟩:=bk4 iG;obtain ⟨iS,iT,iU,iV⟩:=bk4 iH;clear gP gQ gR gS gT gU gV gX gY gZ hZ iA iB iC;obtain ⟨dI,dJ,dK,dL,dM,dN,dO,dP,dQ⟩:=bk9 aD;have iW:=ne_ cT hg;have iX:=ne_ cU hg;have cM:=ne_ cV hg;clear aA hg)
  | ((with_reducible refine zo (t:=56) (p:=10) rfl ?_);refine re_ 56 10 rfl #[.int .i64 p0,.int .i64 p1,.int .i64 p2,.int .i64 0,.int .i64 p4,.bool p5,.iface 97 (.agg #[]),.int .i64 b,.slice Aw L.length cw] aD lW iD ?_;intro W9 I bW cW;have cX:=zt_ I iW iF;have cY:=zt_ I iX iG;have cZ:=zt_ I cM iH;have iY:=zg_ kL aD I;have iZ:=zg_ kM aD I;have i5:=zg_ kN aD I;obtain ⟨i6,i7,i8,i9,jA,jB⟩:=bk6 cX;obtain ⟨jC,jD,jE,jF⟩:=bk4 cY;obtain ⟨jG,jH,jI,jJ⟩:=bk4 cZ;clear iI iJ iK iL iM iN iO iP iQ iR iS iT iU iV dI dJ dK dL dM dN dO dP dQ;obtain ⟨dR,dS,dU,dV,dW,dX,dY,dZ,d5⟩:=bk9 bW;have mA:=zc_ HR cW;clear I))
 have N36:=dC
 have N46:=dD
 have N106:=hhd (show g10≠g6 from fun e=>cM.out e.symm)
 have ER0:=hhd (Kd.R_nil (Kd.int .i64) 3 W9 w.heap.size (fun _=>True))
 go_loopw [55] (fun s55 wr=>∃k:Nat,k≤ps.length∧s55=.int .i64 k∧∃Ax cx As cs sh,wr.heap[g3]?=some (.cells #[.int .i64 p0,.int .i64 p1,.int .i64 p2,.int .i64 0,.int .i64 p4,.bool p5] 24 (0,0))∧wr.heap[g4]?=some (.cells #[.slice none 0 0,.int .i64 0,.bool false,.slice none 0 0] 28 (0,0))∧wr.heap[g10]?=some (.cells #[.int .i64 p0,.int .i64 p1,.int .i64 p2,.int .i64 0,.int .i64 p4,.bool p5,.iface 97 (.agg #[]),.int .i64 b,.slice Aw L.length cw] 56 (0,0))∧wr.heap[g6]?=some (.cells #[.slice Ax n cx,.int .i64 (EX k),.bool false,.slice As k cs] 28 (0,0))∧Kd.R k38 38 wr w.heap.size (fun _=>True) (.slice Ax n cx) (Y k)∧Kd.R (Kd.int .i64) 3 wr w.heap.size (fun _=>True) (.slice As k cs) sh∧Kd.R k59 59 wr w.heap.size (fun _=>True) (.slice Ap ps.length cp) ps∧Kd.R k38 38 wr w.heap.size (fun _=>True) (.slice Aw L.length cw) L∧Below w.heap.size w wr) (fun i _=>ps.length - (intOf i).toNat)
 case atStart=>exact ⟨0,by omega,rfl,A1,c1,none,0,[],cX.out,cY.out,bW.out,by rw [HE.out];exact cZ.out,iY.out,ER0.out,iZ.out,i5.out,cW.out⟩
 case round =>
  obtain ⟨k,hk,rfl,Ax,cx,As,cs,sh,e3,e4,e10,e6,ry,rs,rp,rw_,hb⟩:=hrel
  have E3:=hhd e3
  have E4:=hhd e4
  have kD:=hhd e10
  have E6:=hhd e6
  have ERy:=hhd ry
  have ERs:=hhd rs
  have ERp:=hhd rp
  have ERw:=hhd rw_
  have HBr:=hhd hb
  clear e3 e4 e10 e6 ry rs rp rw_ hb cX cY bW cZ iY iZ i5 cW i6 i7 i8 i9 jA jB jC jD jE jF jG jH jI jJ dR dS dU dV dW dX dY dZ d5 ER0
  by_cases hlt:k < ps.length
  ·have HNX:=hhd (HNXA.out k hlt)
   obtain ⟨ad,rfl,h0,h1⟩:=zfI (zl2 ERp.out) (k:Int) (by omega) (by omega)
   rw [Int.toNat_natCast] at h0 h1
   have hx:zb4 ps k=ps.getD k z59:=by unfold zb4;rw [Int.toNat_natCast]
   rw [hx] at h0 h1
   generalize ps.getD k z59=x at *
   clear hx
   go_wp2_with (first
    | ((with_reducible refine zf (N:=12) rfl ?_);refine bb_ 12 rfl HBr #[.int .i64 0,.int .i64 0] 59 ?_;intro g12 W1 hg aA lX aE bT;have aG:=za_ E3 aA;have jK:=za_ E4 aA;have jL:=za_ E6 aA;have dE:=za_ kD aA;have kO:=zr_ ERy aA;have kP:=zr_ ERp aA;have kQ:=zr_ ERw aA;have kR:=zr_ ERs aA;obtain ⟨aN,aQ,aT,aU,aV,aW⟩:=bk6 aG;obtain ⟨jM,jN,jO,jP⟩:=bk4 jK;obtain ⟨jQ,jR,jS,jT⟩:=bk4 jL;obtain ⟨d6,d7,d8,d9,eB,eC,eD,eE,eF⟩:=bk9 dE;obtain ⟨eG,eH⟩:=bk2 aE;have jU:=ne_ E3 hg;have jV:=ne_ E4 hg;have NRp12:=hhd (show some g12≠_ from by rw [hg];exact Kd.R_ne_new ERp.out 0);have N126:=hhd (show g12≠g6 from fun e=>by have:=zj E6;omega);have NRp12:=hhd (show some g12≠_ from by rw [hg];exact Kd.R_ne_new ERp.out 0);have N126:=hhd (show g12≠g6 from fun e=>by have:=zj E6;omega);have jW:=ne_ E6 hg;have eI:=ne_ kD hg;clear aA hg)
    | ((with_reducible refine zo (t:=59) (p:=12) rfl ?_);refine re_ 59 12 rfl #[.int .i64 x.f0,.int .i64 x.f1] aE lX bT ?_;intro W2 I bX aC;have aH:=zt_ I jU aG;have aX:=zt_ I jV jK;have dB:=zt_ I jW jL;have bY:=zt_ I eI dE;have kS:=zg_ kO aE I;have kT:=hhd (zkd rfl kP.out I NRp12.out);have jX:=zg_ kQ aE I;have kU:=zg_ kR aE I;obtain ⟨aY,aZ,a7,a8,a9,bA⟩:=bk6 aH;obtain ⟨bB,bC,bD,bE⟩:=bk4 aX;obtain ⟨jY,jZ,j4,j5⟩:=bk4 dB;obtain ⟨eJ,eK,eM,eN,eO,eP,eQ,eR,eT⟩:=bk9 bY;clear aN aQ aT aU aV aW jM jN jO jP jQ jR jS jT d6 d7 d8 d9 eB eC eD eE eF eG eH;obtain ⟨eU,eV⟩:=bk2 bX;clear I)
    | ((with_reducible refine zf (N:=59) rfl ?_);refine lr_ 59 rfl 56 bY Tryz.underlying56 ?_)
    | ((with_reducible refine zf (N:=60) rfl ?_);refine lr_ 60 rfl 28 dB Tryz.underlying28 ?_)
    | ((with_reducible refine zf (N:=61) rfl ?_);refine lr_ 61 rfl 59 bX Tryz.underlying59 ?_)
    | (go_at_call 20;refine (HNX.out.go kS.out kU.out jX.out).mono ?_;rintro e W3 ⟨A3,c3,A4,c4,sh4,rfl,ho,hs,hb⟩;have cN:=hhd (Kd.R_lower ho (zi aC));have kV:=hhd (Kd.R_lower hs (zi aC));have bU:=zs_ aC hb;have aI:=za_ aH hb;have aJ:=za_ aX hb;have aM:=za_ dB hb;have dF:=za_ bY hb;have dG:=za_ bX hb;have kW:=zr_ kT hb;have kX:=zr_ jX hb;obtain ⟨bF,bG,bH,bI,bJ,bK⟩:=bk6 aI;obtain ⟨bL,bM,bP,bQ⟩:=bk4 aJ;obtain ⟨j7,j8,j9,kB⟩:=bk4 aM;obtain ⟨eW,eX,eY,eZ,fA,fB,fD,fE,fF⟩:=bk9 dF;obtain ⟨fG,fH⟩:=bk2 dG;clear aY aZ a7 a8 a9 bA bB bC bD bE jY jZ j4 j5 eJ eK eM eN eO eP eQ eR eT eU eV;clear hb ho hs)
    | ((with_reducible refine zo (t:=28) (p:=6) rfl ?_);refine re_ 28 6 rfl #[.slice A3 n c3,.int .i64 (EX (k+1)),.bool false,.slice A4 (k+1) c4] aM L6 bU ?_;intro W4 I aK bV;have bR:=zt_ I N36 aI;have bS:=zt_ I N46 aJ;have dH:=zt_ I N106 dF;have kC:=zt_ I N126 dG;have kY:=zg_ kW aM I;have kZ:=zg_ kX aM I;have cO:=zg_ cN aM I;have lD:=zg_ kV aM I;obtain ⟨bZ,b6,b7,b8,b9,cA⟩:=bk6 bR;obtain ⟨cB,cC,cD,cH⟩:=bk4 bS;obtain ⟨lH,lI,lJ,lK,lM,lO,lP,lQ,lR⟩:=bk9 dH;obtain ⟨lT,lU⟩:=bk2 kC;clear bF bG bH bI bJ bK bL bM bP bQ j7 j8 j9 kB eW eX eY eZ fA fB fD fE fF fG fH;obtain ⟨cI,cJ,cK,cL⟩:=bk4 aK;clear I))
   go_roundw
   case rel=>exact ⟨k+1,by omega,by go_num,A3,c3,A4,c4,sh4,bR.out,bS.out,dH.out,aK.out,cO.out,lD.out,kY.out,kZ.out,bV.out⟩
   case measure=>simp [intOf];omega
  ·obtain rfl:k=ps.length:=by omega
   have j6:=E6
   go_wp2_with (first
    | ((with_reducible refine zf (N:=64) rfl ?_);refine lr_ 64 rfl 28 E6 Tryz.underlying28 ?_)
    | ((with_reducible refine zo (t:=28) (p:=4) rfl ?_);refine re_ 28 4 rfl #[.slice Ax n cx,.int .i64 (EX ps.length),.bool false,.slice As ps.length cs] E4 L4 HBr ?_;intro We I B4e HBe;have Rye:=zg_ ERy E4 I;clear I))
   refine bodyPost_ret (zW rfl _ _ g4 28 #[.slice Ax n cx,.int .i64 (EX ps.length),.bool false,.slice As ps.length cs] (0,0) _ rfl B4e.out Tryz.underlying28 rfl (zV _ _ _ _)) rfl ?_
   exact ⟨Ax,cx,As,cs,rfl,Rye.out,HBe.out⟩
set_option maxRecDepth 100000 in
set_option maxHeartbeats 4000000 in
theorem zil (p1 p2 p4:Int) (p5:Bool) (L:List S38) (A:Option Addr) (c:Nat) (l:List S38) (n kp:Nat) (ps:List S59) (Y:Nat→List S38) (EX:Nat→Int) (h2:(p2 == 2)=false) (w:World) (hr:Kd.C k38 w A l.length l) (hm:ps.length≤10) (hE:EX 0=0)
  (htw:roots_Twiddles.f p1 0=some (L,0)) (hps:plan_Passes.f kp 0 p1 p2 2 p4 p5=some (ps,0))
  (hrd:∀W:World,Kd.C k38 W A l.length l→Calls Tryz.prog 16 #[.slice A l.length c,.agg #[.int .i64 0,.int .i64 p1,.int .i64 p2,.int .i64 2,.int .i64 p4,.bool p5]] W fun e w'=>∃A' c',e=.returned (.tuple #[.agg #[.slice A' n c',.int .i64 0,.bool false,.slice none 0 0],.int .i64 0])∧Kd.R k38 38 w' W.heap.size (fun _=>True) (.slice A' n c') (Y 0)∧Below W.heap.size W w')
  (hnx:∀k,k < ps.length→zcb (fun Aw cw=>#[.int .i64 0,.int .i64 p1,.int .i64 p2,.int .i64 2,.int .i64 p4,.bool p5,.iface 100 (.agg #[]),.int .i64 15,.slice Aw L.length cw]) L n k (Y k) (Y (k+1)) (EX k) (EX (k+1)) (ps.getD k z59)) :
  Calls Tryz.prog 7 #[.slice A l.length c,.agg (zay 0 p1 p2 2 p4 p5)] w fun e w'=>∃A' c' As' cs',e=.returned (.tuple #[.agg #[.slice A' n c',.int .i64 (EX ps.length),.bool false,.slice As' ps.length cs'],.int .i64 0])∧Kd.R k38 38 w' w.heap.size (fun _=>True) (.slice A' n c') (Y ps.length)∧Below w.heap.size w w':=by
 have HR:=hhd hr
 have HRD:=hhd hrd
 have HNXA:=hhd hnx
 have HBI:=hhd (show sat_Bits.f 0=some (15,0) from rfl)
 have HTW:=hhd htw
 have HPS:=hhd hps
 have HE:=hhd hE
 have lV:=hhd (Below.refl w.heap.size w)
 clear hr hrd hnx htw hps hE
 unfold zay
 go_enter Tryz.func7,Tryz.ntmps7
 go_wp2_with (first
  | ((with_reducible refine zf (N:=3) rfl ?_);refine bb_ 3 rfl lV #[.int .i64 0,.int .i64 p1,.int .i64 p2,.int .i64 2,.int .i64 p4,.bool p5] 24 ?_;intro g3 W1 hg aA L3 aG bT;have l3:=zc_ HR bT;obtain ⟨aN,aQ,aT,aU,aV,aW⟩:=bk6 aG;clear aA hg)
  | ((with_reducible refine zf (N:=4) rfl ?_);refine bb_ 4 rfl bT #[.slice none 0 0,.int .i64 0,.bool false,.slice none 0 0] 28 ?_;intro g4 W2 hg aA L4 aX aC;have aH:=za_ aG aA;have kE:=zc_ HR aC;obtain ⟨aY,aZ,a7,a8,a9,bA⟩:=bk6 aH;clear aN aQ aT aU aV aW;obtain ⟨bB,bC,bD,bE⟩:=bk4 aX;have lZ:=ne_ aG hg;clear aA hg)
  | ((with_reducible refine zf (N:=15) rfl ?_);refine lr_ 15 rfl 24 aH Tryz.underlying24 ?_)
  | (go_at_call 16;refine (HRD.out _ kE.out).mono ?_;rintro e W3 ⟨A1,c1,rfl,ho,hb⟩;have cN:=hhd (Kd.R_lower ho (zi aC));have bU:=zs_ aC hb;have aI:=za_ aH hb;have aJ:=za_ aX hb;have l4:=zc_ HR bU;obtain ⟨bF,bG,bH,bI,bJ,bK⟩:=bk6 aI;obtain ⟨bL,bM,bP,bQ⟩:=bk4 aJ;clear aY aZ a7 a8 a9 bA bB bC bD bE;clear hb ho)
  | ((with_reducible refine zf (N:=6) rfl ?_);refine bb_ 6 rfl bU #[.slice none 0 0,.int .i64 0,.bool false,.slice none 0 0] 28 ?_;intro g6 W4 hg aA L6 aK bV;have bR:=za_ aI aA;have bS:=za_ aJ aA;have cO:=zr_ cN aA;have l5:=zc_ HR bV;obtain ⟨bZ,b6,b7,b8,b9,cA⟩:=bk6 bR;obtain ⟨cB,cC,cD,cH⟩:=bk4 bS;clear bF bG bH bI bJ bK bL bM bP bQ;obtain ⟨cI,cJ,cK,cL⟩:=bk4 aK;have dC:=ne_ aI hg;have dD:=ne_ aJ hg;clear aA hg)
  | ((with_reducible refine zo (t:=28) (p:=6) rfl ?_);refine re_ 28 6 rfl #[.slice A1 n c1,.int .i64 0,.bool false,.slice none 0 0] aK L6 bV ?_;intro W5 I fJ cP;have cQ:=zt_ I dC bR;have fK:=zt_ I dD bS;have kF:=zg_ cO aK I;obtain ⟨fM,fO,fP,fQ,fR,fS⟩:=bk6 cQ;obtain ⟨fT,fU,fV,fW⟩:=bk4 fK;clear bZ b6 b7 b8 b9 cA cB cC cD cH cI cJ cK cL;obtain ⟨fX,fY,fZ,f6⟩:=bk4 fJ;have l6:=zc_ HR cP;clear I)
  | ((with_reducible refine zf (N:=47) rfl ?_);refine lr_ 47 rfl 24 cQ Tryz.underlying24 ?_)
  | (go_at_call 18;(with_reducible refine (plan_Passes.calls kp 0 p1 p2 2 p4 p5 ps 0 _ HPS.out).mono ?_);rintro e W6 ⟨vp,rfl,ho,hb⟩;obtain ⟨Ap,cp,ev⟩:=Kd.R_slice ho;subst ev;have kG:=hhd (Kd.R_lower ho (zi cP));have cR:=zs_ cP hb;have cS:=za_ cQ hb;have f7:=za_ fK hb;have f8:=za_ fJ hb;have kH:=zr_ kF hb;have l7:=zc_ HR cR;obtain ⟨f9,gA,gB,gC,gE,gF⟩:=bk6 cS;obtain ⟨gG,gH,gI,gJ⟩:=bk4 f7;obtain ⟨gK,gL,gM,gN⟩:=bk4 f8;clear fM fO fP fQ fR fS fT fU fV fW fX fY fZ f6;clear hb ho)
  | ((with_reducible refine zf (N:=51) rfl ?_);refine lr_ 51 rfl 24 cS Tryz.underlying24 ?_)
  | (go_at_call 19;refine (ziA 0 p1 p2 p4 15 p5 L HBI.out HTW.out _).mono ?_;rintro e W7 ⟨Aw,cw,rfl,ho,hb⟩;have kI:=hhd (Kd.R_lower ho (zi cR));have gO:=zs_ cR hb;have cT:=za_ cS hb;have cU:=za_ f7 hb;have cV:=za_ f8 hb;have kJ:=zr_ kH hb;have kK:=zr_ kG hb;have l8:=zc_ HR gO;obtain ⟨gP,gQ,gR,gS,gT,gU⟩:=bk6 cT;obtain ⟨gV,gX,gY,gZ⟩:=bk4 cU;obtain ⟨hZ,iA,iB,iC⟩:=bk4 cV;clear f9 gA gB gC gE gF gG gH gI gJ gK gL gM gN;clear hb ho)
  | ((with_reducible refine zf (N:=10) rfl ?_);refine bb_ 10 rfl gO #[.int .i64 0,.int .i64 0,.int .i64 0,.int .i64 0,.int .i64 0,.bool false,.nilIface,.int .i64 0,.slice none 0 0] 56 ?_;intro g10 W8 hg aA lW aD iD;have iF:=za_ cT aA;have iG:=za_ cU aA;have iH:=za_ cV aA;have kL:=zr_ kJ aA;have kM:=zr_ kK aA;have kN:=zr_ kI aA;have l9:=zc_ HR iD;obtain ⟨iI,iJ,iK,iL,iM,iN⟩:=bk6 iF;obtain ⟨iO,iP,iQ,iR⟩:=bk4 iG;obtain ⟨iS,iT,iU,iV⟩:=bk4 iH;clear gP gQ gR gS gT gU gV gX gY gZ hZ iA iB iC;obtain ⟨dI,dJ,dK,dL,dM,dN,dO,dP,dQ⟩:=bk9 aD;have iW:=ne_ cT hg;have iX:=ne_ cU hg;have cM:=ne_ cV hg;clear aA hg)
  | ((with_reducible refine zo (t:=56) (p:=10) rfl ?_);refine re_ 56 10 rfl #[.int .i64 0,.int .i64 p1,.int .i64 p2,.int .i64 2,.int .i64 p4,.bool p5,.iface 100 (.agg #[]),.int .i64 15,.slice Aw L.length cw] aD lW iD ?_;intro W9 I bW cW;have cX:=zt_ I iW iF;have cY:=zt_ I iX iG;have cZ:=zt_ I cM iH;have iY:=zg_ kL aD I;have iZ:=zg_ kM aD I;have i5:=zg_ kN aD I;obtain ⟨i6,i7,i8,i9,jA,jB⟩:=bk6 cX;obtain ⟨jC,jD,jE,jF⟩:=bk4 cY;obtain ⟨jG,jH,jI,jJ⟩:=bk4 cZ;clear iI iJ iK iL iM iN iO iP iQ iR iS iT iU iV dI dJ dK dL dM dN dO dP dQ;obtain ⟨dR,dS,dU,dV,dW,dX,dY,dZ,d5⟩:=bk9 bW;have mA:=zc_ HR cW;clear I))
 have N36:=dC
 have N46:=dD
 have N106:=hhd (show g10≠g6 from fun e=>cM.out e.symm)
 have ER0:=hhd (Kd.R_nil (Kd.int .i64) 3 W9 w.heap.size (fun _=>True))
 go_loopw [55] (fun s55 wr=>∃k:Nat,k≤ps.length∧s55=.int .i64 k∧∃Ax cx As cs sh,wr.heap[g3]?=some (.cells #[.int .i64 0,.int .i64 p1,.int .i64 p2,.int .i64 2,.int .i64 p4,.bool p5] 24 (0,0))∧wr.heap[g4]?=some (.cells #[.slice none 0 0,.int .i64 0,.bool false,.slice none 0 0] 28 (0,0))∧wr.heap[g10]?=some (.cells #[.int .i64 0,.int .i64 p1,.int .i64 p2,.int .i64 2,.int .i64 p4,.bool p5,.iface 100 (.agg #[]),.int .i64 15,.slice Aw L.length cw] 56 (0,0))∧wr.heap[g6]?=some (.cells #[.slice Ax n cx,.int .i64 (EX k),.bool false,.slice As k cs] 28 (0,0))∧Kd.R k38 38 wr w.heap.size (fun _=>True) (.slice Ax n cx) (Y k)∧Kd.R (Kd.int .i64) 3 wr w.heap.size (fun _=>True) (.slice As k cs) sh∧Kd.R k59 59 wr w.heap.size (fun _=>True) (.slice Ap ps.length cp) ps∧Kd.R k38 38 wr w.heap.size (fun _=>True) (.slice Aw L.length cw) L∧Below w.heap.size w wr) (fun i _=>ps.length - (intOf i).toNat)
 case atStart=>exact ⟨0,by omega,rfl,A1,c1,none,0,[],cX.out,cY.out,bW.out,by rw [HE.out];exact cZ.out,iY.out,ER0.out,iZ.out,i5.out,cW.out⟩
 case round =>
  obtain ⟨k,hk,rfl,Ax,cx,As,cs,sh,e3,e4,e10,e6,ry,rs,rp,rw_,hb⟩:=hrel
  have E3:=hhd e3
  have E4:=hhd e4
  have kD:=hhd e10
  have E6:=hhd e6
  have ERy:=hhd ry
  have ERs:=hhd rs
  have ERp:=hhd rp
  have ERw:=hhd rw_
  have HBr:=hhd hb
  clear e3 e4 e10 e6 ry rs rp rw_ hb cX cY bW cZ iY iZ i5 cW i6 i7 i8 i9 jA jB jC jD jE jF jG jH jI jJ dR dS dU dV dW dX dY dZ d5 ER0
  by_cases hlt:k < ps.length
  ·have HNX:=hhd (HNXA.out k hlt)
   obtain ⟨ad,rfl,h0,h1⟩:=zfI (zl2 ERp.out) (k:Int) (by omega) (by omega)
   rw [Int.toNat_natCast] at h0 h1
   have hx:zb4 ps k=ps.getD k z59:=by unfold zb4;rw [Int.toNat_natCast]
   rw [hx] at h0 h1
   generalize ps.getD k z59=x at *
   clear hx
   go_wp2_with (first
    | ((with_reducible refine zf (N:=12) rfl ?_);refine bb_ 12 rfl HBr #[.int .i64 0,.int .i64 0] 59 ?_;intro g12 W1 hg aA lX aE bT;have aG:=za_ E3 aA;have jK:=za_ E4 aA;have jL:=za_ E6 aA;have dE:=za_ kD aA;have kO:=zr_ ERy aA;have kP:=zr_ ERp aA;have kQ:=zr_ ERw aA;have kR:=zr_ ERs aA;obtain ⟨aN,aQ,aT,aU,aV,aW⟩:=bk6 aG;obtain ⟨jM,jN,jO,jP⟩:=bk4 jK;obtain ⟨jQ,jR,jS,jT⟩:=bk4 jL;obtain ⟨d6,d7,d8,d9,eB,eC,eD,eE,eF⟩:=bk9 dE;obtain ⟨eG,eH⟩:=bk2 aE;have jU:=ne_ E3 hg;have jV:=ne_ E4 hg;have NRp12:=hhd (show some g12≠_ from by rw [hg];exact Kd.R_ne_new ERp.out 0);have N126:=hhd (show g12≠g6 from fun e=>by have:=zj E6;omega);have jW:=ne_ E6 hg;have eI:=ne_ kD hg;clear aA hg)
    | ((with_reducible refine zo (t:=59) (p:=12) rfl ?_);refine re_ 59 12 rfl #[.int .i64 x.f0,.int .i64 x.f1] aE lX bT ?_;intro W2 I bX aC;have aH:=zt_ I jU aG;have aX:=zt_ I jV jK;have dB:=zt_ I jW jL;have bY:=zt_ I eI dE;have kS:=zg_ kO aE I;have kT:=hhd (zkd rfl kP.out I NRp12.out);have jX:=zg_ kQ aE I;have kU:=zg_ kR aE I;obtain ⟨aY,aZ,a7,a8,a9,bA⟩:=bk6 aH;obtain ⟨bB,bC,bD,bE⟩:=bk4 aX;obtain ⟨jY,jZ,j4,j5⟩:=bk4 dB;obtain ⟨eJ,eK,eM,eN,eO,eP,eQ,eR,eT⟩:=bk9 bY;clear aN aQ aT aU aV aW jM jN jO jP jQ jR jS jT d6 d7 d8 d9 eB eC eD eE eF eG eH;obtain ⟨eU,eV⟩:=bk2 bX;clear I)
    | ((with_reducible refine zf (N:=59) rfl ?_);refine lr_ 59 rfl 56 bY Tryz.underlying56 ?_)
    | ((with_reducible refine zf (N:=60) rfl ?_);refine lr_ 60 rfl 28 dB Tryz.underlying28 ?_)
    | ((with_reducible refine zf (N:=61) rfl ?_);refine lr_ 61 rfl 59 bX Tryz.underlying59 ?_)
    | (go_at_call 20;refine (HNX.out.go kS.out kU.out jX.out).mono ?_;rintro e W3 ⟨A3,c3,A4,c4,sh4,rfl,ho,hs,hb⟩;have cN:=hhd (Kd.R_lower ho (zi aC));have kV:=hhd (Kd.R_lower hs (zi aC));have bU:=zs_ aC hb;have aI:=za_ aH hb;have aJ:=za_ aX hb;have aM:=za_ dB hb;have dF:=za_ bY hb;have dG:=za_ bX hb;have kW:=zr_ kT hb;have kX:=zr_ jX hb;obtain ⟨bF,bG,bH,bI,bJ,bK⟩:=bk6 aI;obtain ⟨bL,bM,bP,bQ⟩:=bk4 aJ;obtain ⟨j7,j8,j9,kB⟩:=bk4 aM;obtain ⟨eW,eX,eY,eZ,fA,fB,fD,fE,fF⟩:=bk9 dF;obtain ⟨fG,fH⟩:=bk2 dG;clear aY aZ a7 a8 a9 bA bB bC bD bE jY jZ j4 j5 eJ eK eM eN eO eP eQ eR eT eU eV;clear hb ho hs)
    | ((with_reducible refine zo (t:=28) (p:=6) rfl ?_);refine re_ 28 6 rfl #[.slice A3 n c3,.int .i64 (EX (k+1)),.bool false,.slice A4 (k+1) c4] aM L6 bU ?_;intro W4 I aK bV;have bR:=zt_ I N36 aI;have bS:=zt_ I N46 aJ;have dH:=zt_ I N106 dF;have kC:=zt_ I N126 dG;have kY:=zg_ kW aM I;have kZ:=zg_ kX aM I;have cO:=zg_ cN aM I;have lD:=zg_ kV aM I;obtain ⟨bZ,b6,b7,b8,b9,cA⟩:=bk6 bR;obtain ⟨cB,cC,cD,cH⟩:=bk4 bS;obtain ⟨lH,lI,lJ,lK,lM,lO,lP,lQ,lR⟩:=bk9 dH;obtain ⟨lT,lU⟩:=bk2 kC;clear bF bG bH bI bJ bK bL bM bP bQ j7 j8 j9 kB eW eX eY eZ fA fB fD fE fF fG fH;obtain ⟨cI,cJ,cK,cL⟩:=bk4 aK;clear I))
   go_roundw
   case rel=>exact ⟨k+1,by omega,by go_num,A3,c3,A4,c4,sh4,bR.out,bS.out,dH.out,aK.out,cO.out,lD.out,kY.out,kZ.out,bV.out⟩
   case measure=>simp [intOf];omega
  ·obtain rfl:k=ps.length:=by omega
   have j6:=E6
   go_wp2_with (first
    | ((with_reducible refine zf (N:=64) rfl ?_);refine lr_ 64 rfl 28 E6 Tryz.underlying28 ?_)
    | ((with_reducible refine zo (t:=28) (p:=4) rfl ?_);refine re_ 28 4 rfl #[.slice Ax n cx,.int .i64 (EX ps.length),.bool false,.slice As ps.length cs] E4 L4 HBr ?_;intro We I B4e HBe;have Rye:=zg_ ERy E4 I;clear I))
   refine bodyPost_ret (zW rfl _ _ g4 28 #[.slice Ax n cx,.int .i64 (EX ps.length),.bool false,.slice As ps.length cs] (0,0) _ rfl B4e.out Tryz.underlying28 rfl (zV _ _ _ _)) rfl ?_
   exact ⟨Ax,cx,As,cs,rfl,Rye.out,HBe.out⟩
end Go.Proofs.YteieahbadclppaaGreat.P

