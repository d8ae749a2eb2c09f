/- Part 22 of 36 of the proof: the texts that it reaches, one behind the other. No condition. -/
import Derived.Test.YteieahbadclppaaGreatKr19
import Derived.Test.YteieahbadclppaaGreatKr21
namespace Go.Proofs.YteieahbadclppaaGreat.P
open Go.RowKit Go.Shelf Go.Proofs.YteieahbadclppaaGreatW.PrintWords Go.Proofs.YteieahbadclppaaGreatW.PrintLast Go.Proofs.YteieahbadclppaaGreatW.PrintMore
set_option linter.unusedVariables false
set_option linter.unusedSimpArgs false
theorem zoB (a b c d e f g h:Value):(Tryz.prog.info? 118).map (·.size)=some (#[a,b,c,d,e,f,g,h]:Array Value).size:=by kernel_rfl
theorem zoE (a b c d e x:Int) (f:Bool) (A:Option Addr) (n m:Nat):(#[.int .i64 a,.int .i64 b,.int .i64 c,.int .i64 d,.int .i64 e,.bool f,.int .i64 x,.slice A n m]:Array Value).all (·.oneCell')=true:=by simp [Value.oneCell']
theorem zni {w:World} {g:Nat} {a b c d e f x y:Value} {t:TypeId} (h:w.heap[g]?=some (.cells #[a,b,c,d,e,f,x,y] t (0,0))):w.cell? ⟨g,0,none⟩=some a∧w.cell? ⟨g,1,none⟩=some b∧w.cell? ⟨g,2,none⟩=some c∧w.cell? ⟨g,3,none⟩=some d∧w.cell? ⟨g,4,none⟩=some e∧w.cell? ⟨g,5,none⟩=some f∧w.cell? ⟨g,6,none⟩=some x∧w.cell? ⟨g,7,none⟩=some y :=
 ⟨(za h 0).trans rfl,(za h 1).trans rfl,(za h 2).trans rfl,(za h 3).trans rfl,(za h 4).trans rfl,(za h 5).trans rfl,(za h 6).trans rfl,(za h 7).trans rfl⟩
set_option maxRecDepth 100000 in
set_option maxHeartbeats 4000000 in
theorem zhD (p0 p1 p2 p4 b q bits E E1:Int) (p5 sat:Bool) (A A3:Option Addr) (c n3 c3:Nat) (l L Y:List S38) (w:World) (hr:Kd.C k38 w A l.length l) (hc:l.length≤c) (hl0:0 < l.length) (hl1:l.length≤100) (hL:l.length < L.length)
  (hq:wrap64 (p1+1)=q) (hE:wrap64 (E+1)=E1) (hbi:sat_Bits.f p0=some (b,0)) (hbb:wrap64 (b - 2)=bits) (htw:roots_Twiddles.f q p0=some (L,0))
  (hY:Y.length=l.length+1)
  (h1:∀(k:Nat) (Aw:Option Addr) (cw:Nat) (W:World),k≤l.length→Calls Tryz.prog 62 #[.agg #[.int .i64 p0,.int .i64 p1,.int .i64 p2,.int .i64 0,.int .i64 p4,.bool p5,.int .i64 bits,.slice Aw L.length cw],.agg #[.int .i64 (l.getD (k % l.length) z38).f0,.int .i64 (l.getD (k % l.length) z38).f1],.agg #[.int .i64 (l.getD ((l.length - k) % l.length) z38).f0,.int .i64 (l.getD ((l.length - k) % l.length) z38).f1],.agg #[.int .i64 (L.getD k z38).f0,.int .i64 (L.getD k z38).f1]] W fun e w'=>e=.returned (.agg #[.int .i64 (Y.getD k z38).f0,.int .i64 (Y.getD k z38).f1])∧Below W.heap.size W w') :
  Calls Tryz.prog 36 #[.agg #[.slice A l.length c,.int .i64 E,.bool sat,.slice A3 n3 c3],.agg #[.int .i64 p0,.int .i64 p1,.int .i64 p2,.int .i64 0,.int .i64 p4,.bool p5]] w fun e w'=>∃A' c',e=.returned (.agg #[.slice A' (l.length+1) c',.int .i64 E1,.bool sat,.slice A3 n3 c3])∧Kd.R k38 38 w' w.heap.size (fun _=>True) (.slice A' (l.length+1) c') Y∧Below w.heap.size w w':=by
 have hmx:Tryz.prog.follows .mixedOrders=true:=by kernel_rfl
 have HR:=hhd hr
 have HBI:=hhd hbi
 have HTW:=hhd htw
 have H1:=hhd h1
 have HY:=hhd hY
 have jR:=hhd (Below.refl w.heap.size w)
 clear hr hbi htw h1 hY
 go_enter Tryz.func36,Tryz.ntmps36
 go_wp2_with (first
  | ((with_reducible refine zf (N:=2) rfl ?_);refine bb_ 2 rfl jR #[.slice A l.length c,.int .i64 E,.bool sat,.slice A3 n3 c3] 28 ?_;intro g2 W1 hg aA L2 a8 bT;have jZ:=zc_ HR bT;obtain ⟨bU,bV,bW,bX⟩:=bk4 a8;clear aA hg)
  | ((with_reducible refine zf (N:=3) rfl ?_);refine bb_ 3 rfl bT #[.int .i64 p0,.int .i64 p1,.int .i64 p2,.int .i64 0,.int .i64 p4,.bool p5] 24 ?_;intro g3 W2 hg aA L3 a9 bY;have bA:=za_ a8 aA;have j4:=zc_ HR bY;obtain ⟨bZ,b6,b7,b8⟩:=bk4 bA;clear bU bV bW bX;obtain ⟨b9,cA,cB,cC,cD,cH⟩:=bk6 a9;have jW:=ne_ a8 hg;clear aA hg)
  | ((with_reducible refine zf (N:=4) rfl ?_);refine bb_ 4 rfl bY #[.slice none 0 0,.int .i64 0,.bool false,.slice none 0 0] 28 ?_;intro g4 W3 hg aA L4 cI cJ;have cK:=za_ bA aA;have cL:=za_ a9 aA;have j5:=zc_ HR cJ;obtain ⟨cM,cN,cO,cP⟩:=bk4 cK;obtain ⟨cQ,cR,cS,cT,cU,cV⟩:=bk6 cL;clear bZ b6 b7 b8 b9 cA cB cC cD cH;obtain ⟨cW,cX,cY,cZ⟩:=bk4 cI;have jX:=ne_ bA hg;have jY:=ne_ a9 hg;clear aA hg)
  | (go_at_call 41;(with_reducible refine (sat_Bits.calls p0 b 0 _ HBI.out).mono ?_);rintro e W4 ⟨rfl,hd⟩;have hb:=hd.below;clear hd;have bB:=zs_ cJ hb;have dB:=za_ cK hb;have dC:=za_ cL hb;have dD:=za_ cI hb;have j7:=zc_ HR bB;obtain ⟨dE,dF,dG,dH⟩:=bk4 dB;obtain ⟨dI,dJ,dK,dL,dM,dN⟩:=bk6 dC;obtain ⟨dO,dP,dQ,dR⟩:=bk4 dD;clear cM cN cO cP cQ cR cS cT cU cV cW cX cY cZ;clear hb)
  | (go_at_call 46;(with_reducible refine (roots_Twiddles.calls q p0 L 0 _ HTW.out).mono ?_);rintro e W5 ⟨vt,rfl,ho,hb⟩;obtain ⟨Aw,cw,ev⟩:=Kd.R_slice ho;subst ev;have jL:=hhd (Kd.R_lower ho (zi bB));have bC:=zs_ bB hb;have aW:=za_ dB hb;have aV:=za_ dC hb;have aX:=za_ dD hb;have jM:=zc_ HR bC;obtain ⟨dS,dU,dV,dW⟩:=bk4 aW;obtain ⟨dX,dY,dZ,d5,d6,d7⟩:=bk6 aV;obtain ⟨d8,d9,eB,eC⟩:=bk4 aX;clear dE dF dG dH dI dJ dK dL dM dN dO dP dQ dR;have CW5:=hhd (zct jL.out).2;have HBb:=hhd (Below.refl W5.heap.size W5);clear hb ho)
  | ((with_reducible refine zf (N:=30) rfl ?_);refine lr_ 30 rfl 24 aV Tryz.underlying24 ?_)
  | ((with_reducible refine zf (N:=9) rfl ?_);refine ba_ 9 rfl #[.int .i64 0,.int .i64 0,.int .i64 0,.int .i64 0,.int .i64 0,.bool false,.int .i64 0,.slice none 0 0] 118 ?_;intro g9 hg W6 aE aA;have L9:W5.heap.size≤g9:=(by rw [hg];exact zi HBb);have eD:=hhd aE;have jN:=zs_ HBb aA;have eE:=za_ aW aA;have eF:=za_ aV aA;have eG:=za_ aX aA;obtain ⟨eH,eI,eJ,eK⟩:=bk4 eE;obtain ⟨eM,eN,eO,eP,eQ,eR⟩:=bk6 eF;obtain ⟨eT,eU,eV,eW⟩:=bk4 eG;clear dS dU dV dW dX dY dZ d5 d6 d7 d8 d9 eB eC;obtain ⟨eX,eY,eZ,fA,fB,fD,fE,fF⟩:=bk8 eD;have jE:=hhd (show g2≠g9 from fun e=>by have:=zj aW;omega);have jF:=hhd (show g3≠g9 from fun e=>by have:=zj aV;omega);have jG:=hhd (show g4≠g9 from fun e=>by have:=zj aX;omega);clear aE aA hg)
  | ((with_reducible refine zo (t:=118) (p:=9) rfl ?_);refine re_ 118 9 rfl #[.int .i64 p0,.int .i64 p1,.int .i64 p2,.int .i64 0,.int .i64 p4,.bool p5,.int .i64 bits,.slice Aw L.length cw] eD L9 jN ?_;intro W7 aC bD fG;have bE:=zt_ aC jE eE;have bF:=zt_ aC jF eF;have bG:=zt_ aC jG eG;obtain ⟨fH,fJ,fK,fM⟩:=bk4 bE;obtain ⟨fO,fP,fQ,fR,fS,fT⟩:=bk6 bF;obtain ⟨fU,fV,fW,fX⟩:=bk4 bG;clear eH eI eJ eK eM eN eO eP eQ eR eT eU eV eW eX eY eZ fA fB fD fE fF;obtain ⟨fY,fZ,f6,f7,f8,f9,gA,gB⟩:=bk8 bD;clear aC)
  | ((with_reducible refine zf (N:=11) rfl ?_);refine ba_ 11 rfl #[.slice none 0 0,.int .i64 0,.bool false,.slice none 0 0] 28 ?_;intro g11 hg W8 aE aA;have jH:W5.heap.size≤g11:=(by rw [hg];exact zi fG);have bI:=hhd aE;have jO:=zs_ fG aA;have gC:=za_ bE aA;have gE:=za_ bF aA;have gF:=za_ bG aA;have gG:=za_ bD aA;obtain ⟨gH,gI,gJ,gK⟩:=bk4 gC;obtain ⟨gL,gM,gN,gO,gP,gQ⟩:=bk6 gE;obtain ⟨gR,gS,gT,gU⟩:=bk4 gF;obtain ⟨gV,gX,gY,gZ,hZ,iA,iB,iC⟩:=bk8 gG;clear fH fJ fK fM fO fP fQ fR fS fT fU fV fW fX fY fZ f6 f7 f8 f9 gA gB;obtain ⟨bJ,bK,bL,bM⟩:=bk4 bI;have iD:=hhd (show g2≠g11 from fun e=>by have:=zj bE;omega);have iF:=hhd (show g3≠g11 from fun e=>by have:=zj bF;omega);have iG:=hhd (show g4≠g11 from fun e=>by have:=zj bG;omega);have a7:=hhd (show g9≠g11 from fun e=>by have:=zj bD;omega);clear aE aA hg)
  | ((with_reducible refine zo (t:=28) (p:=11) rfl ?_);refine re_ 28 11 rfl #[.slice none 0 0,.int .i64 E1,.bool sat,.slice A3 n3 c3] bI jH jO ?_;intro W9 aC aY iH;have iI:=zt_ aC iD gC;have iJ:=zt_ aC iF gE;have iK:=zt_ aC iG gF;have bH:=zt_ aC a7 gG;obtain ⟨iL,iM,iN,iO⟩:=bk4 iI;obtain ⟨iP,iQ,iR,iS,iT,iU⟩:=bk6 iJ;obtain ⟨iV,iW,iX,iY⟩:=bk4 iK;obtain ⟨iZ,i5,i6,i7,i8,i9,jA,jB⟩:=bk8 bH;clear gH gI gJ gK gL gM gN gO gP gQ gR gS gT gU gV gX gY gZ hZ iA iB iC bJ bK bL bM;obtain ⟨bP,bQ,bR,bS⟩:=bk4 aY;clear aC))
 have jI:=hhd (Kd.R_nil k38 38 W9 W5.heap.size (fun _=>True))
 go_loopw [48] (fun s48 wr=>∃(k:Nat) (Ao:Option Addr) (co:Nat),k≤l.length+1∧s48=.int .i64 k∧Kd.R k38 38 wr W5.heap.size (fun _=>True) (.slice Ao k co) (Y.take k)∧wr.heap[g9]?=some (.cells #[.int .i64 p0,.int .i64 p1,.int .i64 p2,.int .i64 0,.int .i64 p4,.bool p5,.int .i64 bits,.slice Aw L.length cw] 118 (0,0))∧wr.heap[g11]?=some (.cells #[.slice Ao k co,.int .i64 E1,.bool sat,.slice A3 n3 c3] 28 (0,0))∧Below W5.heap.size W5 wr) (fun i _=>l.length+1 - (intOf i).toNat)
 case atStart=>exact ⟨0,none,0,by omega,rfl,jI.out,bH.out,aY.out,iH.out⟩
 case round =>
  obtain ⟨k,Ao,co,hk,rfl,ro,e9,e11,hb⟩:=hrel
  have E2:=za_ aW hb
  have E3:=za_ aV hb
  have E4:=za_ aX hb
  have E9:=hhd e9
  have jJ:=hhd e11
  have ERo:=hhd ro
  have HBr:=hhd hb
  have CWr:=hhd (Kd.C_below CW5.out hb)
  have CXr:=hhd (Kd.C_below jM.out hb)
  clear e9 e11 ro hb jI iI iJ iK bH aY iH iL iM iN iO iP iQ iR iS iT iU iV iW iX iY iZ i5 i6 i7 i8 i9 jA jB bP bQ bR bS
  by_cases hlt:k < l.length+1
  ·have m1:=Nat.mod_lt k hl0
   have m2:=Nat.mod_lt (l.length - k) hl0
   obtain ⟨ad,rfl,x0,x1⟩:=zag CXr.out ((k % l.length:Nat):Int) (by omega) (by omega)
   obtain ⟨ad',e4,x2,x3⟩:=zag CXr.out (((l.length - k) % l.length:Nat):Int) (by omega) (by omega)
   injection e4 with e5
   subst e5
   obtain ⟨aw,rfl,y0,y1⟩:=zag CWr.out (k:Int) (by omega) (by omega)
   rw [Int.toNat_natCast] at x0 x1 x2 x3 y0 y1
   have hx1:zk l ((k % l.length:Nat):Int)=l.getD (k % l.length) z38:=by unfold zk;rw [Int.toNat_natCast]
   have hx2:zk l (((l.length - k) % l.length:Nat):Int)=l.getD ((l.length - k) % l.length) z38:=by unfold zk;rw [Int.toNat_natCast]
   have hx3:zk L (k:Int)=L.getD k z38:=by unfold zk;rw [Int.toNat_natCast]
   rw [hx1] at x0 x1
   rw [hx2] at x2 x3
   rw [hx3] at y0 y1
   have Q1:=hhd (fun W=>H1.out k (some aw) cw W (by omega))
   have r1:Int.tmod (k:Int) (l.length:Int)=((k % l.length:Nat):Int):=by rw [Int.tmod_eq_emod_of_nonneg (by omega)];exact (Int.natCast_emod _ _).symm
   have r2:Int.tmod ((l.length:Int) - k) (l.length:Int)=(((l.length - k) % l.length:Nat):Int):=by rw [show ((l.length:Int) - k)=((l.length - k:Nat):Int) from by omega,Int.tmod_eq_emod_of_nonneg (by omega)];exact (Int.natCast_emod _ _).symm
   have r3:wrap64 ((l.length:Int) - k)=(l.length:Int) - k:=by unfold wrap64;omega
   have r4:((l.length:Int) == 0)=false:=by simpa using (by omega:¬(l.length:Int)=0)
   have r5:((l.length:Int)=0)=False:=eq_false (by omega)
   clear hx1 hx2 hx3
   generalize l.getD (k % l.length) z38=a at *
   generalize l.getD ((l.length - k) % l.length) z38=d at *
   generalize L.getD k z38=v at *
   have HYk:=hhd (show Y.take (k+1)=Y.take k++[Y.getD k z38] by
    rw [List.take_succ_eq_append_getElem (by have:=HY.out;omega),List.getD_eq_getElem?_getD,List.getElem?_eq_getElem (by have:=HY.out;omega)]
    rfl)
   generalize Y.getD k z38=y at *
   generalize k % l.length=i1 at *
   generalize (l.length - k) % l.length=i2 at *
   have r6:(l=[])=False:=eq_false (fun e=>by rw [e] at hl0;exact absurd hl0 (by decide))
   have r7:(k < L.length)=True:=eq_true (by omega)
   have r8:(i1 < l.length)=True:=eq_true m1
   have r9:(i2 < l.length)=True:=eq_true m2
   have k2_0:=(za E2 0).trans rfl
   obtain ⟨k9_0,k9_1,k9_2,k9_3,k9_4,k9_5,k9_6,k9_7⟩:=zni E9.out
   go_wp2
   refine z7 (S:=fun w'=>Below wr.heap.size wr w') (ds:=[23]) (fl 24 0) hmx rfl rfl (Below.refl _ _).drew (fun I=>?_)
   refine px_ 1 rfl ?_
   refine px_ 3 rfl ?_
   refine px_ 4 rfl ?_
   refine px_ 5 rfl ?_
   refine px_ 8 rfl ?_
   refine px_ 10 rfl ?_
   refine px_ 11 rfl ?_
   refine px_ 12 rfl ?_
   refine px_ 13 rfl ?_
   refine px_ 14 rfl ?_
   refine px_ 17 rfl ?_
   refine px_ 18 rfl ?_
   refine px_ 19 rfl ?_
   refine tx_ 0 rfl I (by rintro w' hs;obtain ⟨j_x0,j_x1,j_x2,j_x3,j_y0,j_y1⟩:=bg6 hs x0 x1 x2 x3 y0 y1;obtain ⟨aG,aH,aI,aJ,aK,aM⟩:=bg6 hs k2_0 k9_0 k9_1 k9_2 k9_3 k9_4;obtain ⟨aN,aQ,aT⟩:=bg3 hs k9_5 k9_6 k9_7;go_simp;with_reducible rfl) ?_
   refine tx_ 2 rfl I (by rintro w' hs;obtain ⟨j_x0,j_x1,j_x2,j_x3,j_y0,j_y1⟩:=bg6 hs x0 x1 x2 x3 y0 y1;obtain ⟨aG,aH,aI,aJ,aK,aM⟩:=bg6 hs k2_0 k9_0 k9_1 k9_2 k9_3 k9_4;obtain ⟨aN,aQ,aT⟩:=bg3 hs k9_5 k9_6 k9_7;go_simp;with_reducible rfl) ?_
   refine px_ 6 rfl ?_
   refine tx_ 7 rfl I (by rintro w' hs;obtain ⟨j_x0,j_x1,j_x2,j_x3,j_y0,j_y1⟩:=bg6 hs x0 x1 x2 x3 y0 y1;obtain ⟨aG,aH,aI,aJ,aK,aM⟩:=bg6 hs k2_0 k9_0 k9_1 k9_2 k9_3 k9_4;obtain ⟨aN,aQ,aT⟩:=bg3 hs k9_5 k9_6 k9_7;go_simp;with_reducible rfl) ?_
   refine tx_ 9 rfl I (by rintro w' hs;obtain ⟨j_x0,j_x1,j_x2,j_x3,j_y0,j_y1⟩:=bg6 hs x0 x1 x2 x3 y0 y1;obtain ⟨aG,aH,aI,aJ,aK,aM⟩:=bg6 hs k2_0 k9_0 k9_1 k9_2 k9_3 k9_4;obtain ⟨aN,aQ,aT⟩:=bg3 hs k9_5 k9_6 k9_7;go_simp;with_reducible rfl) ?_
   refine px_ 15 rfl ?_
   refine tx_ 16 rfl I (by rintro w' hs;obtain ⟨j_x0,j_x1,j_x2,j_x3,j_y0,j_y1⟩:=bg6 hs x0 x1 x2 x3 y0 y1;obtain ⟨aG,aH,aI,aJ,aK,aM⟩:=bg6 hs k2_0 k9_0 k9_1 k9_2 k9_3 k9_4;obtain ⟨aN,aQ,aT⟩:=bg3 hs k9_5 k9_6 k9_7;go_simp;with_reducible rfl) ?_
   refine tx_ 20 rfl I (by rintro w' hs;obtain ⟨j_x0,j_x1,j_x2,j_x3,j_y0,j_y1⟩:=bg6 hs x0 x1 x2 x3 y0 y1;obtain ⟨aG,aH,aI,aJ,aK,aM⟩:=bg6 hs k2_0 k9_0 k9_1 k9_2 k9_3 k9_4;obtain ⟨aN,aQ,aT⟩:=bg3 hs k9_5 k9_6 k9_7;go_simp;with_reducible rfl) ?_
   refine wx_ 21 22 (some 72) (some 13) rfl rfl rfl rfl (fun K hK=>?_) fun K hK=>?_
   focus
    refine zJ Tryz.func62 (by kernel_rfl) rfl #[.agg #[.int .i64 p0,.int .i64 p1,.int .i64 p2,.int .i64 0,.int .i64 p4,.bool p5,.int .i64 bits,.slice (some aw) L.length cw],.agg #[.int .i64 a.f0,.int .i64 a.f1],.agg #[.int .i64 d.f0,.int .i64 d.f1],.agg #[.int .i64 v.f0,.int .i64 v.f1]] (by rfl) rfl rfl (by go_simp;done) ?_
    refine (Q1.out _).mono ?_
    rintro e Wc ⟨rfl,aA⟩
    refine ⟨_,rfl,?_⟩
    refine hK.out _ _ (zb I aA) (fun aD=>?_)
    clear hK K I aA
    have I:=aD
    clear aD
    refine nx_ ?_
    refine ox_ 22 (some 13) rfl rfl fun K hK=>?_
    refine box_step rfl rfl (cs:=#[.int .i64 0,.int .i64 0]) (t:=38) (by first | (go_simp;done) | (go_simp;rfl)) ?_
    intro g13 hg Wc aE aA
    refine hK.out _ _ (zb I aA) (fun aD=>?_)
    have jS:W5.heap.size≤g13:=by rw [hg];exact zi (zb HBr I)
    have M13:wr.heap.size≤g13:=by rw [hg];exact I.size
    have B13:=hhd aE
    clear hK K I aA aE hg
    have I:=aD
    clear aD
    refine nx_ ?_
    refine lx_ 23 none rfl rfl fun K hK=>?_
    refine zA rfl rfl 38 _ _ rfl g13 #[.int .i64 y.f0,.int .i64 y.f1] rfl rfl 38 #[.int .i64 0,.int .i64 0] B13.out (zw _ _) rfl (zM _ _) ?_
    intro Wd hq aC aU
    refine hK.out _ _ ?_
    have jK:=hhd hq
    have HBd:=hhd (aU _ _ M13 I)
    clear hK K I hq aC aU
    refine zE (by kernel_rfl) ?_
   rotate_left 1
   focus
    refine box_step rfl rfl (cs:=#[.int .i64 0,.int .i64 0]) (t:=38) (by first | (go_simp;done) | (go_simp;rfl)) ?_
    intro g13 hg Wc aE aA
    refine hK.out _ _ (zb I aA) (fun aD=>?_)
    have jS:W5.heap.size≤g13:=by rw [hg];exact zi (zb HBr I)
    have M13:wr.heap.size≤g13:=by rw [hg];exact I.size
    have B13:=hhd aE
    clear hK K I aA aE hg
    have I:=aD
    clear aD
    refine nx_ ?_
    refine ox_ 21 (some 72) rfl rfl fun K hK=>?_
    refine zJ Tryz.func62 (by kernel_rfl) rfl #[.agg #[.int .i64 p0,.int .i64 p1,.int .i64 p2,.int .i64 0,.int .i64 p4,.bool p5,.int .i64 bits,.slice (some aw) L.length cw],.agg #[.int .i64 a.f0,.int .i64 a.f1],.agg #[.int .i64 d.f0,.int .i64 d.f1],.agg #[.int .i64 v.f0,.int .i64 v.f1]] (by rfl) rfl rfl (by go_simp;done) ?_
    refine (Q1.out _).mono ?_
    rintro e Wc ⟨rfl,aA⟩
    refine ⟨_,rfl,?_⟩
    refine hK.out _ _ (zb I aA) (fun aD=>?_)
    replace B13:=za_ B13 aA
    clear hK K I aA
    have I:=aD
    clear aD
    refine nx_ ?_
    refine lx_ 23 none rfl rfl fun K hK=>?_
    refine zA rfl rfl 38 _ _ rfl g13 #[.int .i64 y.f0,.int .i64 y.f1] rfl rfl 38 #[.int .i64 0,.int .i64 0] B13.out (zw _ _) rfl (zM _ _) ?_
    intro Wd hq aC aU
    refine hK.out _ _ ?_
    have jK:=hhd hq
    have HBd:=hhd (aU _ _ M13 I)
    clear hK K I hq aC aU
    refine zE (by kernel_rfl) ?_
   all_goals
    have aZ:=hhd (zd jJ HBd)
    have jT:=hhd (zd E3 HBd)
    have jC:=hhd (zd E9 HBd)
    have ERd:=hhd (Kd.R_below ERo.out HBd.out)
    have HBe:=hhd (zb HBr HBd)
    have kk3:=(za jT 3).trans rfl
    have kk11:=(za aZ 0).trans rfl
    have HTL:=hhd (show (Y.take k).length≤1000 by rw [List.length_take];omega)
    have HLN:=hhd (show (Y.take k++[y]).length=k+1 by rw [List.length_append,List.length_take];have:=HY.out;simp;omega)
    clear x0 x1 x2 x3 y0 y1 k2_0 k9_0 k9_1 k9_2 k9_3 k9_4 k9_5 k9_6 k9_7 r1 r2
    generalize Y.take k=Yk at *
    go_wp2_with (first
     | ((with_reducible refine zf (N:=90) rfl ?_);refine lr_ 90 rfl 38 jK Tryz.underlying38 ?_)
     | ((with_reducible refine zaw (b:=.append) (xs:=#[.tmp 89,.tmp 91]) rfl ?_);at_builtin;refine Kd.R_append k38 (w0:=W5) W5.heap.size rfl (.tmp 89) (.tmp 91) 22 38 (.agg #[(.int .i64 0),(.int .i64 0)]) 16 rfl Tryz.underlying22 zbF rfl (by decide) (by omega) (.slice Ao k co) Yk y [.int .i64 y.f0,.int .i64 y.f1] (fun _=>True) (fun _=>False) rfl rfl ?aP (fun _ hk=>hk.elim) ?aF ?aO ?aB ?aS ?aL ?_;(case aP=>exact zaA _ _ _ y);(case aB=>exact HBe.out);(case aF=>exact (fun _ _=>trivial));(case aO=>exact ERd.out);(case aS=>exact zi HBe);(case aL=>have:=HTL.out;omega);intro v92 j8 ho hb hg hat;obtain ⟨A2,c2,ev⟩:=Kd.R_slice ho;rw [HLN.out] at ev;subst ev;have HO:=hhd ho;have jP:=hhd hb;have jD:=hhd ((hg.block g11 (zj aZ) (Kd.R_ne ERd.out aZ.out (by decide))).trans aZ.out);have jU:=hhd ((hg.block g9 (zj jC) (Kd.R_ne ERd.out jC.out (by decide))).trans jC.out);clear ho hb hg hat)
     | ((with_reducible refine zo (t:=22) (p:=93) rfl ?_);refine zba rfl rfl 22 _ _ rfl g11 0 (.slice A2 (k+1) c2) rfl rfl 28 _ jD.out (show (0:Nat) < 4 from by decide) zeI rfl rfl #[.slice A2 (k+1) c2,.int .i64 E1,.bool sat,.slice A3 n3 c3] rfl ?_;intro Wf hq aC aU;have jQ:=hhd hq;have HBf:=hhd (aU _ _ jH jP.out);have jV:=zt_ aC a7 jU;have HOf:=zg_ HO jD aC;clear hq aC aU))
    exact ⟨⟨k+1,A2,c2,by omega,rfl,by rw [HYk.out];exact HOf.out,jV.out,jQ.out,HBf.out⟩,by simp [intOf];omega⟩
  ·obtain rfl:k=l.length+1:=by omega
   have RY:=hhd (show Kd.R k38 38 wr w.heap.size (fun _=>True) (.slice Ao (l.length+1) co) Y by have h:=Kd.R_lower ERo.out (zi bC);rwa [List.take_of_length_le (by have:=HY.out;omega)] at h)
   have HBw:=hhd (zb bC HBr)
   go_wp2_with (first
    | ((with_reducible refine zf (N:=95) rfl ?_);refine lr_ 95 rfl 28 jJ Tryz.underlying28 ?_)
    | ((with_reducible refine zo (t:=28) (p:=4) rfl ?_);refine re_ 28 4 rfl #[.slice Ao (l.length+1) co,.int .i64 E1,.bool sat,.slice A3 n3 c3] E4 L4 HBw ?_;intro Wf aC F4 HBf;have RYf:=zg_ RY E4 aC;clear aC))
   refine bodyPost_ret (results_cell_row rfl _ _ g4 28 #[.slice Ao (l.length+1) co,.int .i64 E1,.bool sat,.slice A3 n3 c3] (0,0) _ rfl F4.out Tryz.underlying28 rfl (zV _ _ _ _)) rfl ?_
   exact ⟨_,_,rfl,RYf.out,HBf.out⟩
set_option maxRecDepth 100000 in
set_option maxHeartbeats 4000000 in
theorem zgh (p0 p1 p2 p3 p4 bad:Int) (p5:Bool) (g:Nat) (h6:p1 < 6) (h5:p5=false) (w:World) (hg:w.heap[g]?=some (.cells #[.int .i64 p0,.int .i64 p1,.int .i64 p2,.int .i64 p3,.int .i64 p4,.bool p5] 24 (0,0)))
  (hck:∀W:World,Calls Tryz.prog 37 #[.agg #[.int .i64 p0,.int .i64 p1,.int .i64 p2,.int .i64 p3,.int .i64 p4,.bool p5]] W fun e w'=>e=.returned (.int .i64 0)∧Below W.heap.size W w') :
  Calls Tryz.prog 61 #[.pointer (some ⟨g,0,none⟩)] w fun e w'=>e=.returned (.int .i64 0)∧Below w.heap.size w w':=by
 have h6a:decide (6≤p1)=false:=decide_eq_false (by omega)
 have h6b:(6≤p1)=False:=eq_false (by omega)
 have h6c:(p1 < 6)=True:=eq_true h6
 subst h5
 have B:=hhd hg
 have HCK:=hhd hck
 have k0:=(za B 0).trans rfl
 have k1:=(za B 1).trans rfl
 have k2:=(za B 2).trans rfl
 have k3:=(za B 3).trans rfl
 have k4:=(za B 4).trans rfl
 have k5:=(za B 5).trans rfl
 clear hg hck
 go_enter Tryz.func61,Tryz.ntmps61
 go_wp2_with (first
  | ((with_reducible refine zf (N:=3) rfl ?_);refine lr_ 3 rfl 24 B Tryz.underlying24 ?_)
  | (go_at_call 37;refine (HCK.out _).mono ?_;rintro e I ⟨rfl,hb⟩;have HB:=hhd hb;have B1:=za_ B hb;clear hb k0 k1 k2 k3 k4 k5;have k1:=(za B1 1).trans rfl;have k5:=(za B1 5).trans rfl))
 go_ret
 exact ⟨rfl,HB.out⟩
set_option maxRecDepth 100000 in
set_option maxHeartbeats 4000000 in
theorem znj (p0 p1 p2 p3 p4 bad:Int) (p5:Bool) (g:Nat) (hb0:bad≠0) (w:World) (hg:w.heap[g]?=some (.cells #[.int .i64 p0,.int .i64 p1,.int .i64 p2,.int .i64 p3,.int .i64 p4,.bool p5] 24 (0,0)))
  (hck:∀W:World,Calls Tryz.prog 37 #[.agg #[.int .i64 p0,.int .i64 p1,.int .i64 p2,.int .i64 p3,.int .i64 p4,.bool p5]] W fun e w'=>e=.returned (.int .i64 bad)∧Below W.heap.size W w') :
  Calls Tryz.prog 61 #[.pointer (some ⟨g,0,none⟩)] w fun e w'=>e=.returned (.int .i64 4)∧Below w.heap.size w w':=by
 have hb1:(bad == 0)=false:=by simpa using hb0
 have hb2:(bad=0)=False:=eq_false hb0
 have B:=hhd hg
 have HCK:=hhd hck
 have k0:=(za B 0).trans rfl
 have k1:=(za B 1).trans rfl
 have k2:=(za B 2).trans rfl
 have k3:=(za B 3).trans rfl
 have k4:=(za B 4).trans rfl
 have k5:=(za B 5).trans rfl
 clear hg hck
 go_enter Tryz.func61,Tryz.ntmps61
 go_wp2_with (first
  | ((with_reducible refine zf (N:=3) rfl ?_);refine lr_ 3 rfl 24 B Tryz.underlying24 ?_)
  | (go_at_call 37;refine (HCK.out _).mono ?_;rintro e I ⟨rfl,hb⟩;have HB:=hhd hb;have B1:=za_ B hb;clear hb k0 k1 k2 k3 k4 k5;have k1:=(za B1 1).trans rfl;have k5:=(za B1 5).trans rfl))
 go_ret
 exact ⟨rfl,HB.out⟩
set_option maxRecDepth 100000 in
set_option maxHeartbeats 4000000 in
theorem zmz (p0 p1 p2 p3 p4 bad:Int) (p5:Bool) (g:Nat) (h6:6≤p1) (w:World) (hg:w.heap[g]?=some (.cells #[.int .i64 p0,.int .i64 p1,.int .i64 p2,.int .i64 p3,.int .i64 p4,.bool p5] 24 (0,0)))
  (hck:∀W:World,Calls Tryz.prog 37 #[.agg #[.int .i64 p0,.int .i64 p1,.int .i64 p2,.int .i64 p3,.int .i64 p4,.bool p5]] W fun e w'=>e=.returned (.int .i64 0)∧Below W.heap.size W w') :
  Calls Tryz.prog 61 #[.pointer (some ⟨g,0,none⟩)] w fun e w'=>e=.returned (.int .i64 4)∧Below w.heap.size w w':=by
 have h6a:decide (6≤p1)=true:=decide_eq_true h6
 have h6b:(6≤p1)=True:=eq_true h6
 have B:=hhd hg
 have HCK:=hhd hck
 have k0:=(za B 0).trans rfl
 have k1:=(za B 1).trans rfl
 have k2:=(za B 2).trans rfl
 have k3:=(za B 3).trans rfl
 have k4:=(za B 4).trans rfl
 have k5:=(za B 5).trans rfl
 clear hg hck
 go_enter Tryz.func61,Tryz.ntmps61
 go_wp2_with (first
  | ((with_reducible refine zf (N:=3) rfl ?_);refine lr_ 3 rfl 24 B Tryz.underlying24 ?_)
  | (go_at_call 37;refine (HCK.out _).mono ?_;rintro e I ⟨rfl,hb⟩;have HB:=hhd hb;have B1:=za_ B hb;clear hb k0 k1 k2 k3 k4 k5;have k1:=(za B1 1).trans rfl;have k5:=(za B1 5).trans rfl))
 go_ret
 exact ⟨rfl,HB.out⟩
set_option maxRecDepth 100000 in
set_option maxHeartbeats 4000000 in
theorem zmA (p0 p1 p2 p3 p4 bad:Int) (p5:Bool) (g:Nat) (h6:p1 < 6) (h5:p5=true) (w:World) (hg:w.heap[g]?=some (.cells #[.int .i64 p0,.int .i64 p1,.int .i64 p2,.int .i64 p3,.int .i64 p4,.bool p5] 24 (0,0)))
  (hck:∀W:World,Calls Tryz.prog 37 #[.agg #[.int .i64 p0,.int .i64 p1,.int .i64 p2,.int .i64 p3,.int .i64 p4,.bool p5]] W fun e w'=>e=.returned (.int .i64 0)∧Below W.heap.size W w') :
  Calls Tryz.prog 61 #[.pointer (some ⟨g,0,none⟩)] w fun e w'=>e=.returned (.int .i64 4)∧Below w.heap.size w w':=by
 have h6a:decide (6≤p1)=false:=decide_eq_false (by omega)
 have h6b:(6≤p1)=False:=eq_false (by omega)
 have h6c:(p1 < 6)=True:=eq_true h6
 subst h5
 have B:=hhd hg
 have HCK:=hhd hck
 have k0:=(za B 0).trans rfl
 have k1:=(za B 1).trans rfl
 have k2:=(za B 2).trans rfl
 have k3:=(za B 3).trans rfl
 have k4:=(za B 4).trans rfl
 have k5:=(za B 5).trans rfl
 clear hg hck
 go_enter Tryz.func61,Tryz.ntmps61
 go_wp2_with (first
  | ((with_reducible refine zf (N:=3) rfl ?_);refine lr_ 3 rfl 24 B Tryz.underlying24 ?_)
  | (go_at_call 37;refine (HCK.out _).mono ?_;rintro e I ⟨rfl,hb⟩;have HB:=hhd hb;have B1:=za_ B hb;clear hb k0 k1 k2 k3 k4 k5;have k1:=(za B1 1).trans rfl;have k5:=(za B1 5).trans rfl))
 go_ret
 exact ⟨rfl,HB.out⟩
set_option maxRecDepth 100000 in
set_option maxHeartbeats 4000000 in
theorem ziD (p0 p1 p2 p3 p4 S:Int) (p5:Bool) (A:Option Addr) (n c g2 g3:Nat) (h0:0≤p1) (hS:wrap64 (2*2^min p1.toNat 64)=S) (hn:(n:Int)=S) (w:World) (hg:w.heap[g3]?=some (.cells #[.int .i64 p0,.int .i64 p1,.int .i64 p2,.int .i64 p3,.int .i64 p4,.bool p5] 24 (0,0))) (hx:w.heap[g2]?=some (.cells #[.slice A n c] 26 (0,0))) :
  Calls Tryz.prog 34 #[.pointer (some ⟨g2,0,none⟩),.pointer (some ⟨g3,0,none⟩)] w fun e w'=>e=.returned (.int .i64 0)∧Below w.heap.size w w':=by
 have hmx:Tryz.prog.follows .mixedOrders=true:=by kernel_rfl
 have k0:w.cell? ⟨g2,0,none⟩=some (.slice A n c):=(za hx 0).trans rfl
 have k1:w.cell? ⟨g3,1,none⟩=some (.int .i64 p1):=(za hg 1).trans rfl
 have hb1:(0≤p1)=True:=eq_true h0
 have hb2:decide (0≤p1)=true:=decide_eq_true h0
 have hb3:(p1 < 0)=False:=eq_false (by omega)
 have hn1:((n:Int) == S)=true:=by simpa using hn
 have hn2:((n:Int)=S)=True:=eq_true hn
 have hn3:((n:Int) != S)=false:=by simpa using hn
 clear hg hx
 go_enter Tryz.func34,Tryz.ntmps34
 try go_wp2
 refine z7 (S:=fun w'=>Below w.heap.size w w') (ds:=[]) (fl 6 0) hmx rfl rfl (Below.refl _ _).drew (fun I=>?_)
 refine px_ 2 rfl ?_
 refine tx_ 0 rfl I (by rintro w' hs;obtain ⟨aA,aC⟩:=bg2 hs k0 k1;go_simp;with_reducible rfl) ?_
 refine px_ 1 rfl ?_
 refine tx_ 3 rfl I (by rintro w' hs;obtain ⟨aA,aC⟩:=bg2 hs k0 k1;go_simp;with_reducible rfl) ?_
 refine px_ 4 rfl ?_
 refine px_ 5 rfl ?_
 refine zE (by kernel_rfl) ?_
 go_wp2
 go_ret
 exact ⟨rfl,(Below.refl _ _).drew⟩
set_option maxRecDepth 100000 in
set_option maxHeartbeats 4000000 in
theorem znk (p0 p1 p2 p3 p4 S:Int) (p5:Bool) (A:Option Addr) (n c g2 g3:Nat) (h0:0≤p1) (hS:wrap64 (2*2^min p1.toNat 64)=S) (hn:(n:Int)≠S) (w:World) (hg:w.heap[g3]?=some (.cells #[.int .i64 p0,.int .i64 p1,.int .i64 p2,.int .i64 p3,.int .i64 p4,.bool p5] 24 (0,0))) (hx:w.heap[g2]?=some (.cells #[.slice A n c] 26 (0,0))) :
  Calls Tryz.prog 34 #[.pointer (some ⟨g2,0,none⟩),.pointer (some ⟨g3,0,none⟩)] w fun e w'=>e=.returned (.int .i64 3)∧Below w.heap.size w w':=by
 have hmx:Tryz.prog.follows .mixedOrders=true:=by kernel_rfl
 have k0:w.cell? ⟨g2,0,none⟩=some (.slice A n c):=(za hx 0).trans rfl
 have k1:w.cell? ⟨g3,1,none⟩=some (.int .i64 p1):=(za hg 1).trans rfl
 have hb1:(0≤p1)=True:=eq_true h0
 have hb2:decide (0≤p1)=true:=decide_eq_true h0
 have hb3:(p1 < 0)=False:=eq_false (by omega)
 have hn1:((n:Int) == S)=false:=by simpa using hn
 have hn2:((n:Int)=S)=False:=eq_false hn
 have hn3:((n:Int) != S)=true:=by simpa using hn
 clear hg hx
 go_enter Tryz.func34,Tryz.ntmps34
 try go_wp2
 refine z7 (S:=fun w'=>Below w.heap.size w w') (ds:=[]) (fl 6 0) hmx rfl rfl (Below.refl _ _).drew (fun I=>?_)
 refine px_ 2 rfl ?_
 refine tx_ 0 rfl I (by rintro w' hs;obtain ⟨aA,aC⟩:=bg2 hs k0 k1;go_simp;with_reducible rfl) ?_
 refine px_ 1 rfl ?_
 refine tx_ 3 rfl I (by rintro w' hs;obtain ⟨aA,aC⟩:=bg2 hs k0 k1;go_simp;with_reducible rfl) ?_
 refine px_ 4 rfl ?_
 refine px_ 5 rfl ?_
 refine zE (by kernel_rfl) ?_
 go_wp2
 go_ret
 exact ⟨rfl,(Below.refl _ _).drew⟩
set_option maxRecDepth 100000 in
set_option maxHeartbeats 4000000 in
theorem zdV (p0 p1 p2 p3 p4:Int) (p5:Bool) (w:World) :
  Calls Tryz.prog 33 #[.agg #[.int .i64 p0,.int .i64 p1,.int .i64 p2,.int .i64 p3,.int .i64 p4,.bool p5]] w fun e w'=>∃g,e=.returned (.func (.func 61) #[] #[.pointer (some ⟨g,0,none⟩)])∧w'.heap[g]?=some (.cells #[.int .i64 p0,.int .i64 p1,.int .i64 p2,.int .i64 p3,.int .i64 p4,.bool p5] 24 (0,0))∧w.heap.size≤g∧Below w.heap.size w w':=by
 have aC:=hhd (Below.refl w.heap.size w)
 go_enter Tryz.func33,Tryz.ntmps33
 go_wp2_with (first
  | ((with_reducible refine zf (N:=1) rfl ?_);refine bb_ 1 rfl aC #[.int .i64 p0,.int .i64 p1,.int .i64 p2,.int .i64 p3,.int .i64 p4,.bool p5] 24 ?_;intro g1 W1 hg aD L1 I aA;obtain ⟨aE,aG,aH,aI,aJ,aK⟩:=bk6 I;clear aD hg))
 go_ret
 exact ⟨g1,rfl,I.out,L1,aA.out⟩
set_option maxRecDepth 100000 in
set_option maxHeartbeats 4000000 in
theorem zls (p0 p1 p2 p3 p4 e E:Int) (p5:Bool) (A:Option Addr) (n c:Nat) (w:World) (hE:wrap64 (e+256)=E)
  (hch:∀(W:World) (g:Nat),W.heap[g]?=some (.cells #[.int .i64 p0,.int .i64 p1,.int .i64 p2,.int .i64 p3,.int .i64 p4,.bool p5] 24 (0,0))→Calls Tryz.prog 61 #[.pointer (some ⟨g,0,none⟩)] W fun e w'=>e=.returned (.int .i64 0)∧Below W.heap.size W w')
  (hof:∀W:World,Below w.heap.size w W→Calls Tryz.prog 10 #[.agg #[.int .i64 p0,.int .i64 p1,.int .i64 p2,.int .i64 p3,.int .i64 p4,.bool p5],.slice A n c] W fun e_ w'=>e_=.returned (.tuple #[.int .i64 e,.int .i64 0])∧Below W.heap.size W w') :
  Calls Tryz.prog 15 #[.agg #[.int .i64 p0,.int .i64 p1,.int .i64 p2,.int .i64 p3,.int .i64 p4,.bool p5],.slice A n c] w fun e w'=>e=.returned (.tuple #[.int .i64 E,.int .i64 0])∧Below w.heap.size w w':=by
 subst hE
 have HCH:=hhd hch
 have HOF:=hhd hof
 have bD:=hhd (Below.refl w.heap.size w)
 clear hch hof
 go_enter Tryz.func15,Tryz.ntmps15
 go_wp2_with (first
  | ((with_reducible refine zf (N:=2) rfl ?_);refine bb_ 2 rfl bD #[.int .i64 p0,.int .i64 p1,.int .i64 p2,.int .i64 p3,.int .i64 p4,.bool p5] 24 ?_;intro g2 W1 hg bE L2 I a9;obtain ⟨aC,aD,aE,aG,aH,aI⟩:=bk6 I;clear bE hg)
  | ((with_reducible refine zf (N:=9) rfl ?_);refine lr_ 9 rfl 24 I Tryz.underlying24 ?_)
  | (go_at_call 33;(with_reducible refine (zdV p0 p1 p2 p3 p4 p5 _).mono ?_);rintro e W2 ⟨gq,rfl,hq,Lq,hb⟩;have Bq:=hhd hq;clear hq;have bA:=zs_ a9 hb;have aJ:=za_ I hb;obtain ⟨aK,aM,aN,aQ,aT,aU⟩:=bk6 aJ;clear aC aD aE aG aH aI;clear hb)
  | (go_at_call 61;(with_reducible refine (HCH.out _ _ Bq.out).mono ?_);rintro e W3 ⟨rfl,hb⟩;have aV:=zs_ bA hb;have aA:=za_ aJ hb;obtain ⟨aW,aX,aY,aZ,a7,a8⟩:=bk6 aA;clear aK aM aN aQ aT aU;clear hb)
  | ((with_reducible refine zf (N:=16) rfl ?_);refine lr_ 16 rfl 24 aA Tryz.underlying24 ?_)
  | (go_at_call 10;(with_reducible refine (HOF.out _ aV.out).mono ?_);rintro e W4 ⟨rfl,hb⟩;have bB:=zs_ aV hb;have bC:=za_ aA hb;obtain ⟨bF,bG,bH,bI,bJ,bK⟩:=bk6 bC;clear aW aX aY aZ a7 a8;clear hb))
 go_ret2
 exact ⟨rfl,bB.out⟩
set_option maxRecDepth 100000 in
set_option maxHeartbeats 4000000 in
theorem zgC (ga:Nat) (tt:TypeId) (l0 l1:Array Value) (w:World) (hg:w.heap[ga]?=some (.cells #[.func (.func 61) #[] l0,.func (.func 34) #[] l1] tt (0,0)))
  (h0:∀W:World,Below w.heap.size w W→Calls Tryz.prog 61 l0 W fun e w'=>e=.returned (.int .i64 0)∧Below W.heap.size W w')
  (h1:∀W:World,Below w.heap.size w W→Calls Tryz.prog 34 l1 W fun e w'=>e=.returned (.int .i64 0)∧Below W.heap.size W w') :
  Calls Tryz.prog 32 #[.slice (some ⟨ga,0,none⟩) 2 2] w fun e w'=>e=.returned (.int .i64 0)∧Below w.heap.size w w':=by
 have H0:=hhd h0
 have H1:=hhd h1
 have B:=hhd hg
 clear h0 h1 hg
 go_enter Tryz.func32,Tryz.ntmps32
 go_wp2
 go_loopw [8] (fun s8 wr=>∃k:Nat,k≤2∧s8=.int .i64 k∧Below w.heap.size w wr) (fun i _=>2 - (intOf i).toNat)
 case atStart=>exact ⟨0,by omega,rfl,Below.refl _ _⟩
 case round =>
  obtain ⟨k,hk,rfl,hb⟩:=hrel
  have HBr:=hhd hb
  have Br:=za_ B hb
  clear hb
  have k0:wr.cell? ⟨ga,0,none⟩=some (.func (.func 61) #[] l0):=(za Br 0).trans rfl
  have k1:wr.cell? ⟨ga,1,none⟩=some (.func (.func 34) #[] l1):=(za Br 1).trans rfl
  obtain rfl | rfl | rfl:k=0∨k=1∨k=2:=by omega
  ·go_wp2_with (first
    | (go_at_call 61;refine (H0.out _ HBr.out).mono ?_;rintro e W1 ⟨rfl,hb⟩;have I:=zs_ HBr hb;clear hb))
   exact ⟨⟨1,by omega,rfl,I.out⟩,by simp [intOf]⟩
  ·go_wp2_with (first
    | (go_at_call 34;refine (H1.out _ HBr.out).mono ?_;rintro e W1 ⟨rfl,hb⟩;have I:=zs_ HBr hb;clear hb))
   exact ⟨⟨2,by omega,rfl,I.out⟩,by simp [intOf]⟩
  ·go_wp2
   go_ret
   exact ⟨rfl,HBr.out⟩
set_option maxRecDepth 100000 in
set_option maxHeartbeats 4000000 in
theorem zeL (ga:Nat) (tt:TypeId) (l0 l1:Array Value) (bad:Int) (hb0:bad≠0) (w:World) (hg:w.heap[ga]?=some (.cells #[.func (.func 61) #[] l0,.func (.func 34) #[] l1] tt (0,0)))
  (h0:∀W:World,Below w.heap.size w W→Calls Tryz.prog 61 l0 W fun e w'=>e=.returned (.int .i64 bad)∧Below W.heap.size W w') :
  Calls Tryz.prog 32 #[.slice (some ⟨ga,0,none⟩) 2 2] w fun e w'=>e=.returned (.int .i64 bad)∧Below w.heap.size w w':=by
 have H0:=hhd h0
 have B:=hhd hg
 have hb1:(bad == 0)=false:=by simpa using hb0
 have hb2:(bad=0)=False:=eq_false hb0
 clear h0 hg
 go_enter Tryz.func32,Tryz.ntmps32
 go_wp2
 go_loopw [8] (fun s8 wr=>∃k:Nat,k≤0∧s8=.int .i64 k∧Below w.heap.size w wr) (fun i _=>2 - (intOf i).toNat)
 case atStart=>exact ⟨0,by omega,rfl,Below.refl _ _⟩
 case round =>
  obtain ⟨k,hk,rfl,hb⟩:=hrel
  have HBr:=hhd hb
  have Br:=za_ B hb
  clear hb
  have k0:wr.cell? ⟨ga,0,none⟩=some (.func (.func 61) #[] l0):=(za Br 0).trans rfl
  have k1:wr.cell? ⟨ga,1,none⟩=some (.func (.func 34) #[] l1):=(za Br 1).trans rfl
  obtain rfl:k=0:=by omega
  go_wp2_with (first
    | (go_at_call 61;refine (H0.out _ HBr.out).mono ?_;rintro e W1 ⟨rfl,hb⟩;have I:=zs_ HBr hb;clear hb))
  go_ret
  exact ⟨rfl,I.out⟩
set_option maxRecDepth 100000 in
set_option maxHeartbeats 4000000 in
theorem zki (ga:Nat) (tt:TypeId) (l0 l1:Array Value) (bad:Int) (hb0:bad≠0) (w:World) (hg:w.heap[ga]?=some (.cells #[.func (.func 61) #[] l0,.func (.func 34) #[] l1] tt (0,0)))
  (h0:∀W:World,Below w.heap.size w W→Calls Tryz.prog 61 l0 W fun e w'=>e=.returned (.int .i64 0)∧Below W.heap.size W w')
  (h1:∀W:World,Below w.heap.size w W→Calls Tryz.prog 34 l1 W fun e w'=>e=.returned (.int .i64 bad)∧Below W.heap.size W w') :
  Calls Tryz.prog 32 #[.slice (some ⟨ga,0,none⟩) 2 2] w fun e w'=>e=.returned (.int .i64 bad)∧Below w.heap.size w w':=by
 have H0:=hhd h0
 have H1:=hhd h1
 have B:=hhd hg
 have hb1:(bad == 0)=false:=by simpa using hb0
 have hb2:(bad=0)=False:=eq_false hb0
 clear h0 hg h1
 go_enter Tryz.func32,Tryz.ntmps32
 go_wp2
 go_loopw [8] (fun s8 wr=>∃k:Nat,k≤1∧s8=.int .i64 k∧Below w.heap.size w wr) (fun i _=>2 - (intOf i).toNat)
 case atStart=>exact ⟨0,by omega,rfl,Below.refl _ _⟩
 case round =>
  obtain ⟨k,hk,rfl,hb⟩:=hrel
  have HBr:=hhd hb
  have Br:=za_ B hb
  clear hb
  have k0:wr.cell? ⟨ga,0,none⟩=some (.func (.func 61) #[] l0):=(za Br 0).trans rfl
  have k1:wr.cell? ⟨ga,1,none⟩=some (.func (.func 34) #[] l1):=(za Br 1).trans rfl
  obtain rfl | rfl:k=0∨k=1:=by omega
  ·go_wp2_with (first
    | (go_at_call 61;refine (H0.out _ HBr.out).mono ?_;rintro e W1 ⟨rfl,hb⟩;have I:=zs_ HBr hb;clear hb))
   exact ⟨⟨1,by omega,rfl,I.out⟩,by simp [intOf]⟩
  ·go_wp2_with (first
    | (go_at_call 34;refine (H1.out _ HBr.out).mono ?_;rintro e W1 ⟨rfl,hb⟩;have I:=zs_ HBr hb;clear hb))
   go_ret
   exact ⟨rfl,I.out⟩
set_option maxRecDepth 100000 in
set_option maxHeartbeats 4000000 in
theorem ze5 (p0 p1 p2 p4 bad:Int) (p5:Bool) (A:Option Addr) (n c:Nat) (w:World) (hb0:bad≠0)
  (hf:∀(ga gq g2 g3:Nat) (W:World),W.heap[ga]?=some (.cells #[.func (.func 61) #[] #[.pointer (some ⟨gq,0,none⟩)],.func (.func 34) #[] #[.pointer (some ⟨g2,0,none⟩),.pointer (some ⟨g3,0,none⟩)]] 80 (0,0))→W.heap[gq]?=some (.cells #[.int .i64 p0,.int .i64 p1,.int .i64 p2,.int .i64 0,.int .i64 p4,.bool p5] 24 (0,0))→W.heap[g2]?=some (.cells #[.slice A n c] 26 (0,0))→W.heap[g3]?=some (.cells #[.int .i64 p0,.int .i64 p1,.int .i64 p2,.int .i64 0,.int .i64 p4,.bool p5] 24 (0,0))→Calls Tryz.prog 32 #[.slice (some ⟨ga,0,none⟩) 2 2] W fun e w'=>e=.returned (.int .i64 bad)∧Below W.heap.size W w') :
  Calls Tryz.prog 14 #[.slice A n c,.agg #[.int .i64 p0,.int .i64 p1,.int .i64 p2,.int .i64 0,.int .i64 p4,.bool p5]] w fun e w'=>e=.returned (.tuple #[.agg #[.slice none 0 0,.int .i64 0,.bool false,.slice none 0 0],.int .i64 bad])∧Below w.heap.size w w':=by
 have HF:=hhd hf
 have hb1:(bad == 0)=false:=by simpa using hb0
 have hb2:(bad=0)=False:=eq_false hb0
 clear hf
 have bR:=hhd (Below.refl w.heap.size w)
 go_enter Tryz.func14,Tryz.ntmps14
 go_wp2_with (first
  | ((with_reducible refine zf (N:=2) rfl ?_);refine bb_ 2 rfl bR #[.slice A n c] 26 ?_;intro g2 W1 hg I L2 aC bH;have aD:=bk1 aC;clear I hg)
  | ((with_reducible refine zf (N:=3) rfl ?_);refine bb_ 3 rfl bH #[.int .i64 p0,.int .i64 p1,.int .i64 p2,.int .i64 0,.int .i64 p4,.bool p5] 24 ?_;intro g3 W2 hg I L3 aE bI;have aG:=za_ aC I;have aH:=bk1 aG;clear aD;obtain ⟨aI,aJ,aK,aM,aN,aQ⟩:=bk6 aE;clear I hg)
  | ((with_reducible refine zf (N:=4) rfl ?_);refine bb_ 4 rfl bI #[.slice none 0 0,.int .i64 0,.bool false,.slice none 0 0] 28 ?_;intro g4 W3 hg I L4 aT bJ;have aU:=za_ aG I;have aA:=za_ aE I;have aV:=bk1 aU;obtain ⟨aW,aX,aY,aZ,a7,a8⟩:=bk6 aA;clear aH aI aJ aK aM aN aQ;obtain ⟨a9,bA,bB,bC⟩:=bk4 aT;clear I hg)
  | ((with_reducible refine zf (N:=8) rfl ?_);refine lr_ 8 rfl 24 aA Tryz.underlying24 ?_)
  | (go_at_call 33;(with_reducible refine (zdV p0 p1 p2 0 p4 p5 _).mono ?_);rintro e W4 ⟨gq,rfl,hq,Lq,hb⟩;have Bq:=hhd hq;clear hq;have bK:=zs_ bJ hb;have bD:=za_ aU hb;have bE:=za_ aA hb;have bF:=za_ aT hb;have bS:=bk1 bD;obtain ⟨bT,bU,bV,bW,bX,bY⟩:=bk6 bE;obtain ⟨bZ,b6,b7,b8⟩:=bk4 bF;clear aV aW aX aY aZ a7 a8 a9 bA bB bC;clear hb)
  | (go_at_call 32;have hal:=ze (Below.refl W4.heap.size W4) (Obj.cells #[.func (.func 61) #[] #[.pointer (some ⟨gq,0,none⟩)],.func (.func 34) #[] #[.pointer (some ⟨g2,0,none⟩),.pointer (some ⟨g3,0,none⟩)]] 80);refine (HF.out _ gq g2 g3 _ (zbb W4 _) (zd Bq hal) (zd bD hal) (zd bE hal)).mono ?_;rintro e W5 ⟨rfl,hb⟩;have bL:=hhd (zb (zb bK hal) hb);have bM:=hhd (zd (zd bF hal) hb);clear hb hal)
  | ((with_reducible refine zo (t:=28) (p:=4) rfl ?_);refine re_ 28 4 rfl #[.slice none 0 0,.int .i64 0,.bool false,.slice none 0 0] bM L4 bL ?_;intro W6 bP bG bQ;obtain ⟨b9,cA,cB,cC⟩:=bk4 bG;clear bP))
 refine bodyPost_ret (zW rfl _ _ g4 28 #[.slice none 0 0,.int .i64 0,.bool false,.slice none 0 0] (0,0) _ rfl bG.out Tryz.underlying28 rfl (zV _ _ _ _)) rfl ?_
 exact ⟨rfl,bQ.out⟩
end Go.Proofs.YteieahbadclppaaGreat.P

