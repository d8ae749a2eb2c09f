/- Part 21 of 36 of the proof: the texts that it reaches, one behind the other. No condition. -/
import Derived.Test.YteieahbadclppaaGreatKr12
namespace Go.Proofs.YteieahbadclppaaGreat.P
open Go.RowKit Go.Shelf Go.Proofs.YteieahbadclppaaGreatW.PrintWords Go.Proofs.YteieahbadclppaaGreatW.PrintLast Go.Proofs.YteieahbadclppaaGreatW.PrintMore
set_option linter.unusedVariables false
set_option linter.unusedSimpArgs false
set_option maxRecDepth 100000 in
set_option maxHeartbeats 4000000 in
theorem zlr (a b v s t y:S38) (p0 p1 p2 p3 p4 bits SS rt ry:Int) (p5:Bool) (Aw:Option Addr) (wn cw:Nat) (hb0:0≤bits) (hs:s=⟨wrap64 (a.f0+b.f0),wrap64 (a.f1 - b.f1)⟩) (hSS:wrap64 (bits+2)=SS) (w:World)
  (hT:∀W:World,Calls Tryz.prog 96 #[.agg #[.int .i64 (wrap64 (a.f0 - b.f0)),.int .i64 (wrap64 (a.f1+b.f1))],.int .i64 (-1)] W fun e w'=>e=.returned (.tuple #[.agg #[.int .i64 t.f0,.int .i64 t.f1],.int .i64 rt])∧Below W.heap.size W w')
  (hY:∀W:World,Calls Tryz.prog 70 #[.agg #[.int .i64 (wrap64 (wrap64 (wrap64 (wrap64 (a.f0+b.f0)*2^min bits.toNat 64)+wrap64 (t.f0*v.f0)) - wrap64 (t.f1*v.f1))),.int .i64 (wrap64 (wrap64 (wrap64 (wrap64 (a.f1 - b.f1)*2^min bits.toNat 64)+wrap64 (t.f0*v.f1))+wrap64 (t.f1*v.f0)))],.int .i64 SS,.int .i64 p4] W fun e w'=>e=.returned (.tuple #[.agg #[.int .i64 y.f0,.int .i64 y.f1],.int .i64 ry])∧Below W.heap.size W w') :
  Calls Tryz.prog 62 #[.agg #[.int .i64 p0,.int .i64 p1,.int .i64 p2,.int .i64 p3,.int .i64 p4,.bool p5,.int .i64 bits,.slice Aw wn cw],.agg #[.int .i64 a.f0,.int .i64 a.f1],.agg #[.int .i64 b.f0,.int .i64 b.f1],.agg #[.int .i64 v.f0,.int .i64 v.f1]] w fun e w'=>e=.returned (.agg #[.int .i64 y.f0,.int .i64 y.f1])∧Below w.heap.size w w':=by
 have hmx:Tryz.prog.follows .mixedOrders=true:=by kernel_rfl
 have HT:=hhd hT
 have HS:=hhd hY
 have iN:=hhd (Below.refl w.heap.size w)
 have hb1:(0≤bits)=True:=eq_true hb0
 have hb2:decide (0≤bits)=true:=decide_eq_true hb0
 have hb3:(bits < 0)=False:=eq_false (by omega)
 have hb4:¬bits < 0:=by omega
 have e0:wrap64 (a.f0+b.f0)=s.f0:=by rw [hs]
 have e1:wrap64 (a.f1 - b.f1)=s.f1:=by rw [hs]
 have iT:=hhd e0
 have iU:=hhd e1
 clear hT hY hs e0 e1
 go_enter Tryz.func62,Tryz.ntmps62
 go_wp2_with (first
  | ((with_reducible refine zf (N:=4) rfl ?_);refine bb_ 4 rfl iN #[.int .i64 p0,.int .i64 p1,.int .i64 p2,.int .i64 p3,.int .i64 p4,.bool p5,.int .i64 bits,.slice Aw wn cw] 118 ?_;intro g4 W1 hg aC L4 dU gX;obtain ⟨dV,dW,dX,dY,dZ,d5,d6,d7⟩:=bk8 dU;clear aC hg)
  | ((with_reducible refine zf (N:=5) rfl ?_);refine bb_ 5 rfl gX #[.int .i64 a.f0,.int .i64 a.f1] 38 ?_;intro g5 W2 hg aC L5 d8 gY;have d9:=za_ dU aC;obtain ⟨eB,eC,eD,eE,eF,eG,eH,eI⟩:=bk8 d9;clear dV dW dX dY dZ d5 d6 d7;obtain ⟨eJ,eK⟩:=bk2 d8;clear aC hg)
  | ((with_reducible refine zf (N:=6) rfl ?_);refine bb_ 6 rfl gY #[.int .i64 b.f0,.int .i64 b.f1] 38 ?_;intro g6 W3 hg aC L6 eM gZ;have eN:=za_ d9 aC;have eO:=za_ d8 aC;obtain ⟨eP,eQ,eR,eT,eU,eV,eW,eX⟩:=bk8 eN;obtain ⟨eY,eZ⟩:=bk2 eO;clear eB eC eD eE eF eG eH eI eJ eK;obtain ⟨fA,fB⟩:=bk2 eM;clear aC hg)
  | ((with_reducible refine zf (N:=7) rfl ?_);refine bb_ 7 rfl gZ #[.int .i64 v.f0,.int .i64 v.f1] 38 ?_;intro g7 W4 hg aC L7 b7 hZ;have b8:=za_ eN aC;have b9:=za_ eO aC;have cA:=za_ eM aC;obtain ⟨fD,fE,fF,fG,fH,fJ,fK,fM⟩:=bk8 b8;obtain ⟨fO,fP⟩:=bk2 b9;obtain ⟨fQ,fR⟩:=bk2 cA;clear eP eQ eR eT eU eV eW eX eY eZ fA fB;obtain ⟨fS,fT⟩:=bk2 b7;clear aC hg)
  | ((with_reducible refine zf (N:=8) rfl ?_);refine bb_ 8 rfl hZ #[.int .i64 0,.int .i64 0] 38 ?_;intro g8 W5 hg aC L8 bH bL;have bI:=za_ b8 aC;have iA:=za_ b9 aC;have iB:=za_ cA aC;have bJ:=za_ b7 aC;obtain ⟨fU,fV,fW,fX,fY,fZ,f6,f7⟩:=bk8 bI;obtain ⟨bD,bE⟩:=bk2 iA;obtain ⟨bF,bG⟩:=bk2 iB;obtain ⟨f8,f9⟩:=bk2 bJ;clear fD fE fF fG fH fJ fK fM fO fP fQ fR fS fT;obtain ⟨gA,gB⟩:=bk2 bH;have iP:=ne_ b8 hg;have iQ:=ne_ b9 hg;have iR:=ne_ cA hg;have iS:=ne_ b7 hg;clear aC hg))
 refine z7 (S:=fun w'=>Below W5.heap.size W5 w') (ds:=[25]) (fl 26 0) hmx rfl rfl (Below.refl _ _).drew (fun I=>?_)
 refine px_ 0 rfl ?_
 refine px_ 2 rfl ?_
 refine px_ 5 rfl ?_
 refine px_ 7 rfl ?_
 refine px_ 11 rfl ?_
 refine px_ 13 rfl ?_
 refine px_ 16 rfl ?_
 refine px_ 18 rfl ?_
 refine tx_ 1 rfl I (by rintro w' hs;obtain ⟨a9,bA,bB,bC⟩:=bg4 hs bD bE bF bG;go_simp;with_reducible rfl) ?_
 refine tx_ 3 rfl I (by rintro w' hs;obtain ⟨a9,bA,bB,bC⟩:=bg4 hs bD bE bF bG;go_simp;with_reducible rfl) ?_
 refine px_ 4 rfl ?_
 refine tx_ 6 rfl I (by rintro w' hs;obtain ⟨a9,bA,bB,bC⟩:=bg4 hs bD bE bF bG;go_simp;with_reducible rfl) ?_
 refine tx_ 8 rfl I (by rintro w' hs;obtain ⟨a9,bA,bB,bC⟩:=bg4 hs bD bE bF bG;go_simp;with_reducible rfl) ?_
 refine px_ 9 rfl ?_
 refine px_ 10 rfl ?_
 refine tx_ 12 rfl I (by rintro w' hs;obtain ⟨a9,bA,bB,bC⟩:=bg4 hs bD bE bF bG;go_simp;with_reducible rfl) ?_
 refine tx_ 14 rfl I (by rintro w' hs;obtain ⟨a9,bA,bB,bC⟩:=bg4 hs bD bE bF bG;go_simp;with_reducible rfl) ?_
 refine px_ 15 rfl ?_
 refine tx_ 17 rfl I (by rintro w' hs;obtain ⟨a9,bA,bB,bC⟩:=bg4 hs bD bE bF bG;go_simp;with_reducible rfl) ?_
 refine tx_ 19 rfl I (by rintro w' hs;obtain ⟨a9,bA,bB,bC⟩:=bg4 hs bD bE bF bG;go_simp;with_reducible rfl) ?_
 refine px_ 20 rfl ?_
 refine px_ 21 rfl ?_
 refine wx_ 22 23 (some 9) (some 10) rfl rfl rfl rfl (fun K hK=>?e1_22) fun K hK=>?e1_23
 case' e1_22 =>
  refine box_step rfl rfl (cs:=#[.int .i64 0,.int .i64 0]) (t:=38) (by first | (go_simp;done) | (go_simp;rfl)) ?_
  intro g9 hg Wc a7 aC
  refine hK.out _ _ (zb I aC) (fun aA=>?_)
  have L9:w.heap.size≤g9:=by rw [hg];exact zi (zb bL I)
  have M9:W5.heap.size≤g9:=by rw [hg];exact I.size
  have B9:=hhd a7
  have gM:=hhd (show g4≠g9 from fun e=>by have:=zj (zd bI I);omega)
  have gN:=hhd (show g7≠g9 from fun e=>by have:=zj (zd bJ I);omega)
  have gO:=hhd (show g8≠g9 from fun e=>by have:=zj (zd bH I);omega)
  clear hK K I aC a7 hg
  have I:=aA
  clear aA
  refine nx_ ?_
  refine ox_ 23 (some 10) rfl rfl fun K hK=>?_
  refine box_step rfl rfl (cs:=#[.int .i64 0,.int .i64 0]) (t:=38) (by first | (go_simp;done) | (go_simp;rfl)) ?_
  intro g10 hg Wc a7 aC
  have bY:=hhd (show g9≠g10 by have:=zj B9;omega)
  refine hK.out _ _ (zb I aC) (fun aA=>?_)
  replace B9:=za_ B9 aC
  have gC:w.heap.size≤g10:=by rw [hg];exact zi (zb bL I)
  have M10:W5.heap.size≤g10:=by rw [hg];exact I.size
  have B10:=hhd a7
  have bP:=hhd (show g4≠g10 from fun e=>by have:=zj (zd bI I);omega)
  have bQ:=hhd (show g7≠g10 from fun e=>by have:=zj (zd bJ I);omega)
  have bR:=hhd (show g8≠g10 from fun e=>by have:=zj (zd bH I);omega)
  clear hK K I aC a7 hg
  have I:=aA
  clear aA
  refine nx_ ?_
  refine ox_ 24 none rfl rfl fun K hK=>?_
  refine zA rfl rfl 38 _ _ rfl g9 #[.int .i64 (wrap64 (a.f0+b.f0)),.int .i64 (wrap64 (a.f1 - b.f1))] rfl rfl 38 #[.int .i64 0,.int .i64 0] B9.out (zw _ _) rfl (zM _ _) ?_
  intro Wd hq aG a8
  refine hK.out _ _ (a8 _ _ M9 I) (fun aA=>?_)
  replace B9:=hhd hq
  replace B10:=hhd ((aG _ (Ne.symm bY.out)).trans B10.out)
  clear hK K hq aG a8 I
  have I:=aA
  clear aA
  refine lx_ 25 none rfl rfl fun K hK=>?_
  refine zA rfl rfl 38 _ _ rfl g10 #[.int .i64 (wrap64 (a.f0 - b.f0)),.int .i64 (wrap64 (a.f1+b.f1))] rfl rfl 38 #[.int .i64 0,.int .i64 0] B10.out (zw _ _) rfl (zM _ _) ?_
  intro We hq aG a8
  refine hK.out _ _ ?_
  have gE:=hhd hq
  have E9:=zt_ aG bY B9
  have HBe:=hhd (a8 _ _ gC (zb bL I))
  have E4:=hhd ((aG _ bP.out).trans (zd bI I))
  have E7:=hhd ((aG _ bQ.out).trans (zd bJ I))
  have E8:=hhd ((aG _ bR.out).trans (zd bH I))
  clear hK K I hq aG a8
  refine zE (by kernel_rfl) ?_
 case' e1_23 =>
  refine box_step rfl rfl (cs:=#[.int .i64 0,.int .i64 0]) (t:=38) (by first | (go_simp;done) | (go_simp;rfl)) ?_
  intro g10 hg Wc a7 aC
  refine hK.out _ _ (zb I aC) (fun aA=>?_)
  have gC:w.heap.size≤g10:=by rw [hg];exact zi (zb bL I)
  have M10:W5.heap.size≤g10:=by rw [hg];exact I.size
  have B10:=hhd a7
  have bP:=hhd (show g4≠g10 from fun e=>by have:=zj (zd bI I);omega)
  have bQ:=hhd (show g7≠g10 from fun e=>by have:=zj (zd bJ I);omega)
  have bR:=hhd (show g8≠g10 from fun e=>by have:=zj (zd bH I);omega)
  clear hK K I aC a7 hg
  have I:=aA
  clear aA
  refine nx_ ?_
  refine ox_ 22 (some 9) rfl rfl fun K hK=>?_
  refine box_step rfl rfl (cs:=#[.int .i64 0,.int .i64 0]) (t:=38) (by first | (go_simp;done) | (go_simp;rfl)) ?_
  intro g9 hg Wc a7 aC
  have bY:=hhd (show g9≠g10 by have:=zj B10;omega)
  refine hK.out _ _ (zb I aC) (fun aA=>?_)
  replace B10:=za_ B10 aC
  have L9:w.heap.size≤g9:=by rw [hg];exact zi (zb bL I)
  have M9:W5.heap.size≤g9:=by rw [hg];exact I.size
  have B9:=hhd a7
  have gM:=hhd (show g4≠g9 from fun e=>by have:=zj (zd bI I);omega)
  have gN:=hhd (show g7≠g9 from fun e=>by have:=zj (zd bJ I);omega)
  have gO:=hhd (show g8≠g9 from fun e=>by have:=zj (zd bH I);omega)
  clear hK K I aC a7 hg
  have I:=aA
  clear aA
  refine nx_ ?_
  refine ox_ 24 none rfl rfl fun K hK=>?_
  refine zA rfl rfl 38 _ _ rfl g9 #[.int .i64 (wrap64 (a.f0+b.f0)),.int .i64 (wrap64 (a.f1 - b.f1))] rfl rfl 38 #[.int .i64 0,.int .i64 0] B9.out (zw _ _) rfl (zM _ _) ?_
  intro Wd hq aG a8
  refine hK.out _ _ (a8 _ _ M9 I) (fun aA=>?_)
  replace B9:=hhd hq
  replace B10:=hhd ((aG _ (Ne.symm bY.out)).trans B10.out)
  clear hK K hq aG a8 I
  have I:=aA
  clear aA
  refine lx_ 25 none rfl rfl fun K hK=>?_
  refine zA rfl rfl 38 _ _ rfl g10 #[.int .i64 (wrap64 (a.f0 - b.f0)),.int .i64 (wrap64 (a.f1+b.f1))] rfl rfl 38 #[.int .i64 0,.int .i64 0] B10.out (zw _ _) rfl (zM _ _) ?_
  intro We hq aG a8
  refine hK.out _ _ ?_
  have gE:=hhd hq
  have E9:=zt_ aG bY B9
  have HBe:=hhd (a8 _ _ gC (zb bL I))
  have E4:=hhd ((aG _ bP.out).trans (zd bI I))
  have E7:=hhd ((aG _ bQ.out).trans (zd bJ I))
  have E8:=hhd ((aG _ bR.out).trans (zd bH I))
  clear hK K I hq aG a8
  refine zE (by kernel_rfl) ?_
 all_goals
  clear B9 B10 fU fV fW fX fY fZ f6 f7 bD bE bF bG f8 f9 gA gB
  have X4:=E4
  have X7:=E7
  have X8:=E8
  have X9:=E9
  have X10:=gE
  have HBx:=HBe
  clear E4 E7 E8 E9 gE HBe
  generalize We=Wx at *
  go_wp2_with (first
   | ((with_reducible refine zf (N:=38) rfl ?_);refine lr_ 38 rfl 38 X10 Tryz.underlying38 ?_)
   | (go_at_call 96;( refine (HT.out _).mono ?_);rintro e iV ⟨rfl,hb⟩;have gP:=zs_ HBx hb;have bU:=za_ X4 hb;have bV:=za_ X7 hb;have bW:=za_ X8 hb;have bX:=za_ X9 hb;have bS:=za_ X10 hb;obtain ⟨cP,cQ,cR,cS,cT,cU,cV,cW⟩:=bk8 bU;obtain ⟨cX,cY⟩:=bk2 bV;obtain ⟨cZ,dB⟩:=bk2 bW;obtain ⟨dC,dD⟩:=bk2 bX;obtain ⟨cB,cC⟩:=bk2 bS;clear hb)
   | ((with_reducible refine zf (N:=11) rfl ?_);refine bb_ 11 rfl gP #[.int .i64 0,.int .i64 0] 38 ?_;intro g11 iW hg aC iO bZ gQ;have cK:=za_ bU aC;have cL:=za_ bV aC;have cM:=za_ bW aC;have cN:=za_ bX aC;have b6:=za_ bS aC;obtain ⟨dE,dF,dG,dH,dI,dJ,dK,dL⟩:=bk8 cK;obtain ⟨dM,dN⟩:=bk2 cL;obtain ⟨dO,dP⟩:=bk2 cM;obtain ⟨dQ,dR⟩:=bk2 cN;obtain ⟨cD,cH⟩:=bk2 b6;clear cP cQ cR cS cT cU cV cW cX cY cZ dB dC dD cB cC;obtain ⟨cI,cJ⟩:=bk2 bZ;have gF:=ne_ bU hg;have gG:=ne_ bV hg;have gH:=ne_ bW hg;have gI:=ne_ bX hg;have dS:=ne_ bS hg;clear aC hg)
   | ((with_reducible refine zo (t:=38) (p:=11) rfl ?_);refine re_ 38 11 rfl #[.int .i64 t.f0,.int .i64 t.f1] bZ iO gQ ?_;intro gU aG gJ bM;have gR:=zt_ aG gF cK;have gS:=zt_ aG gG cL;have bK:=zt_ aG gH cM;have gT:=zt_ aG gI cN;have gK:=zt_ aG dS b6;obtain ⟨iF,iG,iH,iI,aU,iJ,aV,iK⟩:=bk8 gR;obtain ⟨aW,aX⟩:=bk2 gS;obtain ⟨iL,iM⟩:=bk2 bK;obtain ⟨aY,aZ⟩:=bk2 gT;obtain ⟨iC,iD⟩:=bk2 gK;clear dE dF dG dH dI dJ dK dL dM dN dO dP dQ dR cD cH cI cJ;obtain ⟨aQ,aT⟩:=bk2 gJ;clear aG))
  refine z7 (S:=fun w'=>Below gU.heap.size gU w') (ds:=[46]) (fl 48 0) hmx rfl rfl (Below.refl _ _).drew (fun I=>?_)
  refine px_ 0 rfl ?_
  refine px_ 2 rfl ?_
  refine px_ 5 rfl ?_
  refine px_ 7 rfl ?_
  refine px_ 11 rfl ?_
  refine px_ 13 rfl ?_
  refine px_ 17 rfl ?_
  refine px_ 19 rfl ?_
  refine px_ 22 rfl ?_
  refine px_ 24 rfl ?_
  refine px_ 28 rfl ?_
  refine px_ 30 rfl ?_
  refine px_ 35 rfl ?_
  refine px_ 38 rfl ?_
  refine px_ 39 rfl ?_
  refine tx_ 1 rfl I (by rintro w' hs;obtain ⟨aH,aI,aJ,aK,aD,aE⟩:=bg6 hs aW aX aY aZ aQ aT;obtain ⟨aM,aN⟩:=bg2 hs aV aU;go_simp;with_reducible rfl) ?_
  refine tx_ 3 rfl I (by rintro w' hs;obtain ⟨aH,aI,aJ,aK,aD,aE⟩:=bg6 hs aW aX aY aZ aQ aT;obtain ⟨aM,aN⟩:=bg2 hs aV aU;go_simp;with_reducible rfl) ?_
  refine px_ 4 rfl ?_
  refine tx_ 6 rfl I (by rintro w' hs;obtain ⟨aH,aI,aJ,aK,aD,aE⟩:=bg6 hs aW aX aY aZ aQ aT;obtain ⟨aM,aN⟩:=bg2 hs aV aU;go_simp;with_reducible rfl) ?_
  refine tx_ 8 rfl I (by rintro w' hs;obtain ⟨aH,aI,aJ,aK,aD,aE⟩:=bg6 hs aW aX aY aZ aQ aT;obtain ⟨aM,aN⟩:=bg2 hs aV aU;go_simp;with_reducible rfl) ?_
  refine px_ 9 rfl ?_
  refine px_ 10 rfl ?_
  refine tx_ 12 rfl I (by rintro w' hs;obtain ⟨aH,aI,aJ,aK,aD,aE⟩:=bg6 hs aW aX aY aZ aQ aT;obtain ⟨aM,aN⟩:=bg2 hs aV aU;go_simp;with_reducible rfl) ?_
  refine tx_ 14 rfl I (by rintro w' hs;obtain ⟨aH,aI,aJ,aK,aD,aE⟩:=bg6 hs aW aX aY aZ aQ aT;obtain ⟨aM,aN⟩:=bg2 hs aV aU;go_simp;with_reducible rfl) ?_
  refine px_ 15 rfl ?_
  refine px_ 16 rfl ?_
  refine tx_ 18 rfl I (by rintro w' hs;obtain ⟨aH,aI,aJ,aK,aD,aE⟩:=bg6 hs aW aX aY aZ aQ aT;obtain ⟨aM,aN⟩:=bg2 hs aV aU;go_simp;with_reducible rfl) ?_
  refine tx_ 20 rfl I (by rintro w' hs;obtain ⟨aH,aI,aJ,aK,aD,aE⟩:=bg6 hs aW aX aY aZ aQ aT;obtain ⟨aM,aN⟩:=bg2 hs aV aU;go_simp;with_reducible rfl) ?_
  refine px_ 21 rfl ?_
  refine tx_ 23 rfl I (by rintro w' hs;obtain ⟨aH,aI,aJ,aK,aD,aE⟩:=bg6 hs aW aX aY aZ aQ aT;obtain ⟨aM,aN⟩:=bg2 hs aV aU;go_simp;with_reducible rfl) ?_
  refine tx_ 25 rfl I (by rintro w' hs;obtain ⟨aH,aI,aJ,aK,aD,aE⟩:=bg6 hs aW aX aY aZ aQ aT;obtain ⟨aM,aN⟩:=bg2 hs aV aU;go_simp;with_reducible rfl) ?_
  refine px_ 26 rfl ?_
  refine px_ 27 rfl ?_
  refine tx_ 29 rfl I (by rintro w' hs;obtain ⟨aH,aI,aJ,aK,aD,aE⟩:=bg6 hs aW aX aY aZ aQ aT;obtain ⟨aM,aN⟩:=bg2 hs aV aU;go_simp;with_reducible rfl) ?_
  refine tx_ 31 rfl I (by rintro w' hs;obtain ⟨aH,aI,aJ,aK,aD,aE⟩:=bg6 hs aW aX aY aZ aQ aT;obtain ⟨aM,aN⟩:=bg2 hs aV aU;go_simp;with_reducible rfl) ?_
  refine px_ 32 rfl ?_
  refine px_ 33 rfl ?_
  refine px_ 34 rfl ?_
  refine tx_ 36 rfl I (by rintro w' hs;obtain ⟨aH,aI,aJ,aK,aD,aE⟩:=bg6 hs aW aX aY aZ aQ aT;obtain ⟨aM,aN⟩:=bg2 hs aV aU;go_simp;with_reducible rfl) ?_
  refine px_ 37 rfl ?_
  refine tx_ 40 rfl I (by rintro w' hs;obtain ⟨aH,aI,aJ,aK,aD,aE⟩:=bg6 hs aW aX aY aZ aQ aT;obtain ⟨aM,aN⟩:=bg2 hs aV aU;go_simp;with_reducible rfl) ?_
  refine wx_ 41 45 (some 84) (some 13) rfl rfl rfl rfl (fun K hK=>?_) fun K hK=>?_
  focus
   refine zJ Tryz.func70 (by kernel_rfl) rfl #[.agg #[.int .i64 (wrap64 (wrap64 (wrap64 (wrap64 (a.f0+b.f0)*2^min bits.toNat 64)+wrap64 (t.f0*v.f0)) - wrap64 (t.f1*v.f1))),.int .i64 (wrap64 (wrap64 (wrap64 (wrap64 (a.f1 - b.f1)*2^min bits.toNat 64)+wrap64 (t.f0*v.f1))+wrap64 (t.f1*v.f0)))],.int .i64 SS,.int .i64 p4] (by rfl) rfl rfl (by go_simp;done) ?_
   refine (HS.out _).mono ?_
   rintro e Wc ⟨rfl,aC⟩
   refine ⟨_,rfl,?_⟩
   refine hK.out _ _ (zb I aC) (fun aA=>?_)
   clear hK K I aC
   have I:=aA
   clear aA
   refine nx_ ?_
   refine px_ 42 rfl ?_
   refine px_ 43 rfl ?_
   refine px_ 44 rfl ?_
   refine ox_ 45 (some 13) rfl rfl fun K hK=>?_
   refine box_step rfl rfl (cs:=#[.int .i64 0,.int .i64 0]) (t:=38) (by first | (go_simp;done) | (go_simp;rfl)) ?_
   intro g13 hg Wc a7 aC
   refine hK.out _ _ (zb I aC) (fun aA=>?_)
   have gL:w.heap.size≤g13:=by rw [hg];exact zi (zb bM I)
   have B13:=hhd a7
   have bT:=hhd (show g8≠g13 from fun e=>by have:=zj (zd bK I);omega)
   clear hK K I aC a7 hg
   have I:=aA
   clear aA
   refine nx_ ?_
   refine lx_ 46 none rfl rfl fun K hK=>?_
   refine zA rfl rfl 38 _ _ rfl g13 #[.int .i64 y.f0,.int .i64 y.f1] rfl rfl 38 #[.int .i64 0,.int .i64 0] B13.out (zw _ _) rfl (zM _ _) ?_
   intro Wd hq aG a8
   refine hK.out _ _ ?_
   have gV:=hhd hq
   have HBd:=hhd (a8 _ _ gL (zb bM I))
   have cO:=hhd ((aG _ bT.out).trans (zd bK I))
   clear hK K I hq aG a8
   refine px_ 47 rfl ?_
   refine zE (by kernel_rfl) ?_
  rotate_left 1
  focus
   refine box_step rfl rfl (cs:=#[.int .i64 0,.int .i64 0]) (t:=38) (by first | (go_simp;done) | (go_simp;rfl)) ?_
   intro g13 hg Wc a7 aC
   refine hK.out _ _ (zb I aC) (fun aA=>?_)
   have gL:w.heap.size≤g13:=by rw [hg];exact zi (zb bM I)
   have B13:=hhd a7
   have bT:=hhd (show g8≠g13 from fun e=>by have:=zj (zd bK I);omega)
   clear hK K I aC a7 hg
   have I:=aA
   clear aA
   refine nx_ ?_
   refine ox_ 41 (some 84) rfl rfl fun K hK=>?_
   refine zJ Tryz.func70 (by kernel_rfl) rfl #[.agg #[.int .i64 (wrap64 (wrap64 (wrap64 (wrap64 (a.f0+b.f0)*2^min bits.toNat 64)+wrap64 (t.f0*v.f0)) - wrap64 (t.f1*v.f1))),.int .i64 (wrap64 (wrap64 (wrap64 (wrap64 (a.f1 - b.f1)*2^min bits.toNat 64)+wrap64 (t.f0*v.f1))+wrap64 (t.f1*v.f0)))],.int .i64 SS,.int .i64 p4] (by rfl) rfl rfl (by go_simp;done) ?_
   refine (HS.out _).mono ?_
   rintro e Wc ⟨rfl,aC⟩
   refine ⟨_,rfl,?_⟩
   refine hK.out _ _ (zb I aC) (fun aA=>?_)
   replace B13:=za_ B13 aC
   clear hK K I aC
   have I:=aA
   clear aA
   refine nx_ ?_
   refine px_ 42 rfl ?_
   refine px_ 43 rfl ?_
   refine px_ 44 rfl ?_
   refine lx_ 46 none rfl rfl fun K hK=>?_
   refine zA rfl rfl 38 _ _ rfl g13 #[.int .i64 y.f0,.int .i64 y.f1] rfl rfl 38 #[.int .i64 0,.int .i64 0] B13.out (zw _ _) rfl (zM _ _) ?_
   intro Wd hq aG a8
   refine hK.out _ _ ?_
   have gV:=hhd hq
   have HBd:=hhd (a8 _ _ gL (zb bM I))
   have cO:=hhd ((aG _ bT.out).trans (zd bK I))
   clear hK K I hq aG a8
   refine px_ 47 rfl ?_
   refine zE (by kernel_rfl) ?_
  all_goals
   go_wp2_with (first
    | ((with_reducible refine zf (N:=87) rfl ?_);refine lr_ 87 rfl 38 gV Tryz.underlying38 ?_)
    | ((with_reducible refine zo (t:=38) (p:=8) rfl ?_);refine re_ 38 8 rfl #[.int .i64 y.f0,.int .i64 y.f1] cO L8 HBd ?_;intro Wf aG F8 HBf;clear aG))
   refine bodyPost_ret (results_cell_row rfl _ _ g8 38 #[.int .i64 y.f0,.int .i64 y.f1] (0,0) _ rfl F8.out Tryz.underlying38 rfl (zw _ _)) rfl ?_
   exact ⟨rfl,HBf.out⟩
end Go.Proofs.YteieahbadclppaaGreat.P

