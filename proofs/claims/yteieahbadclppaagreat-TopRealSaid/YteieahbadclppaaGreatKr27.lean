/- Part 27 of 36 of the proof: the texts that it reaches, one behind the other. No condition. -/
import Derived.Test.YteieahbadclppaaGreatKr26
namespace Go.Proofs.YteieahbadclppaaGreat.P
open Go.RowKit Go.Shelf Go.Proofs.YteieahbadclppaaGreatW.PrintWords Go.Proofs.YteieahbadclppaaGreatW.PrintLast Go.Proofs.YteieahbadclppaaGreatW.PrintMore
set_option linter.unusedVariables false
set_option linter.unusedSimpArgs false
set_option maxRecDepth 100000 in
set_option maxHeartbeats 4000000 in
theorem zkr (Aw:Option Addr) (wn cw:Nat) (u v y z w1 w3 t1 t3 s1 s3:S38) (r:Nat→S38) (bits mode turn:Int) (hb0:0≤bits) (hb1:bits≤29) (w:World)
  (hT1:∀W:World,Calls Tryz.prog 104 #[.agg #[.int .i64 y.f0,.int .i64 y.f1],.agg #[.int .i64 w1.f0,.int .i64 w1.f1]] W fun e w'=>e=.returned (.tuple #[.agg #[.int .i64 t1.f0,.int .i64 t1.f1],.int .i64 0])∧Below W.heap.size W w')
  (hT3:∀W:World,Calls Tryz.prog 104 #[.agg #[.int .i64 z.f0,.int .i64 z.f1],.agg #[.int .i64 w3.f0,.int .i64 w3.f1]] W fun e w'=>e=.returned (.tuple #[.agg #[.int .i64 t3.f0,.int .i64 t3.f1],.int .i64 0])∧Below W.heap.size W w')
  (hS1:∀W:World,Calls Tryz.prog 96 #[.agg #[.int .i64 t1.f0,.int .i64 t1.f1],.int .i64 turn] W fun e w'=>e=.returned (.tuple #[.agg #[.int .i64 s1.f0,.int .i64 s1.f1],.int .i64 0])∧Below W.heap.size W w')
  (hS3:∀W:World,Calls Tryz.prog 96 #[.agg #[.int .i64 t3.f0,.int .i64 t3.f1],.int .i64 turn] W fun e w'=>e=.returned (.tuple #[.agg #[.int .i64 s3.f0,.int .i64 s3.f1],.int .i64 0])∧Below W.heap.size W w')
  (hO:∀(x:S38) (sg:Int) (q:Nat),(x=zcv u (⟨(wrap64 (t1.f0+t3.f0)),(wrap64 (t1.f1+t3.f1))⟩:S38) bits 1∧q=0)∨(x=zcv v (⟨(wrap64 (s1.f0 - s3.f0)),(wrap64 (s1.f1 - s3.f1))⟩:S38) bits 1∧q=1)∨(x=zcv u (⟨(wrap64 (t1.f0+t3.f0)),(wrap64 (t1.f1+t3.f1))⟩:S38) bits (-1)∧q=2)∨(x=zcv v (⟨(wrap64 (s1.f0 - s3.f0)),(wrap64 (s1.f1 - s3.f1))⟩:S38) bits (-1)∧q=3)→∀W:World,Calls Tryz.prog 70 #[.agg #[.int .i64 x.f0,.int .i64 x.f1],.int .i64 (bits+2),.int .i64 mode] W fun e w'=>e=.returned (.tuple #[.agg #[.int .i64 (r q).f0,.int .i64 (r q).f1],.int .i64 0])∧Below W.heap.size W w') :
  Calls Tryz.prog 73 #[.agg #[.slice Aw wn cw,.int .i64 bits,.int .i64 mode,.int .i64 turn],.agg #[.int .i64 u.f0,.int .i64 u.f1],.agg #[.int .i64 v.f0,.int .i64 v.f1],.agg #[.int .i64 y.f0,.int .i64 y.f1],.agg #[.int .i64 z.f0,.int .i64 z.f1],.agg #[.int .i64 w1.f0,.int .i64 w1.f1],.agg #[.int .i64 w3.f0,.int .i64 w3.f1]] w fun e w'=>e=.returned (.agg #[.int .i64 (r 0).f0,.int .i64 (r 0).f1,.int .i64 (r 1).f0,.int .i64 (r 1).f1,.int .i64 (r 2).f0,.int .i64 (r 2).f1,.int .i64 (r 3).f0,.int .i64 (r 3).f1])∧Below w.heap.size w w':=by
 have hmx:Tryz.prog.follows .mixedOrders=true:=by kernel_rfl
 have HT1:=hhd hT1
 have HT3:=hhd hT3
 have HS1:=hhd hS1
 have HS3:=hhd hS3
 have HO:=hhd hO
 have AW:=hhd (Below.refl w.heap.size w)
 have HBI:=hhd (And.intro hb0 hb1)
 clear hT1 hT3 hS1 hS3 hO hb0 hb1
 go_enter Tryz.func73,Tryz.ntmps73
 go_wp2_with (first
  | ((with_reducible refine zf (N:=7) rfl ?_);refine bb_ 7 rfl AW #[.slice Aw wn cw,.int .i64 bits,.int .i64 mode,.int .i64 turn] 95 ?_;intro g7 W1 hg aA L7 u7 AN;obtain ⟨u8,u9,vA,vB⟩:=bk4 u7;clear aA hg)
  | ((with_reducible refine zf (N:=8) rfl ?_);refine bb_ 8 rfl AN #[.int .i64 u.f0,.int .i64 u.f1] 38 ?_;intro g8 W2 hg aA L8 vC AO;have vD:=za_ u7 aA;obtain ⟨vE,vF,vG,vH⟩:=bk4 vD;clear u8 u9 vA vB;obtain ⟨vI,vJ⟩:=bk2 vC;clear aA hg)
  | ((with_reducible refine zf (N:=9) rfl ?_);refine bb_ 9 rfl AO #[.int .i64 v.f0,.int .i64 v.f1] 38 ?_;intro g9 W3 hg aA L9 vK AP;have vL:=za_ vD aA;have vM:=za_ vC aA;obtain ⟨vN,vO,vP,vQ⟩:=bk4 vL;obtain ⟨vR,vS⟩:=bk2 vM;clear vE vF vG vH vI vJ;obtain ⟨vT,vU⟩:=bk2 vK;clear aA hg)
  | ((with_reducible refine zf (N:=10) rfl ?_);refine bb_ 10 rfl AP #[.int .i64 y.f0,.int .i64 y.f1] 38 ?_;intro g10 W4 hg aA BH nY AQ;have vV:=za_ vL aA;have vW:=za_ vM aA;have vX:=za_ vK aA;obtain ⟨vY,vZ,wA,wB⟩:=bk4 vV;obtain ⟨wC,wD⟩:=bk2 vW;obtain ⟨wE,wF⟩:=bk2 vX;clear vN vO vP vQ vR vS vT vU;obtain ⟨o9,pA⟩:=bk2 nY;clear aA hg)
  | ((with_reducible refine zf (N:=11) rfl ?_);refine bb_ 11 rfl AQ #[.int .i64 z.f0,.int .i64 z.f1] 38 ?_;intro g11 W5 hg aA BI nZ AR;have wG:=za_ vV aA;have wH:=za_ vW aA;have wI:=za_ vX aA;have oA:=za_ nY aA;obtain ⟨wJ,wK,wL,wM⟩:=bk4 wG;obtain ⟨wN,wO⟩:=bk2 wH;obtain ⟨wP,wQ⟩:=bk2 wI;obtain ⟨pB,pC⟩:=bk2 oA;clear vY vZ wA wB wC wD wE wF o9 pA;obtain ⟨pD,pE⟩:=bk2 nZ;clear aA hg)
  | ((with_reducible refine zf (N:=12) rfl ?_);refine bb_ 12 rfl AR #[.int .i64 w1.f0,.int .i64 w1.f1] 38 ?_;intro g12 W6 hg aA BJ oB AS;have wR:=za_ wG aA;have wS:=za_ wH aA;have wT:=za_ wI aA;have oC:=za_ oA aA;have oD:=za_ nZ aA;obtain ⟨wU,wV,wW,wX⟩:=bk4 wR;obtain ⟨wY,wZ⟩:=bk2 wS;obtain ⟨xA,xB⟩:=bk2 wT;obtain ⟨pF,pG⟩:=bk2 oC;obtain ⟨pH,pI⟩:=bk2 oD;clear wJ wK wL wM wN wO wP wQ pB pC pD pE;obtain ⟨pJ,pK⟩:=bk2 oB;clear aA hg)
  | ((with_reducible refine zf (N:=13) rfl ?_);refine bb_ 13 rfl AS #[.int .i64 w3.f0,.int .i64 w3.f1] 38 ?_;intro g13 W7 hg aA BK oE AT;have xC:=za_ wR aA;have xD:=za_ wS aA;have xE:=za_ wT aA;have oF:=za_ oC aA;have oG:=za_ oD aA;have oH:=za_ oB aA;obtain ⟨xF,xG,xH,xI⟩:=bk4 xC;obtain ⟨xJ,xK⟩:=bk2 xD;obtain ⟨xL,xM⟩:=bk2 xE;obtain ⟨pL,pM⟩:=bk2 oF;obtain ⟨pN,pO⟩:=bk2 oG;obtain ⟨pP,pQ⟩:=bk2 oH;clear wU wV wW wX wY wZ xA xB pF pG pH pI pJ pK;obtain ⟨pR,pS⟩:=bk2 oE;clear aA hg)
  | ((with_reducible refine zf (N:=14) rfl ?_);refine bb_ 14 rfl AT #[.int .i64 0,.int .i64 0,.int .i64 0,.int .i64 0,.int .i64 0,.int .i64 0,.int .i64 0,.int .i64 0] 136 ?_;intro g14 W8 hg aA AX oI AU;have xN:=za_ xC aA;have xO:=za_ xD aA;have xP:=za_ xE aA;have cC:=za_ oF aA;have oJ:=za_ oG aA;have cD:=za_ oH aA;have oK:=za_ oE aA;obtain ⟨xQ,xR,xS,xT⟩:=bk4 xN;obtain ⟨xU,xV⟩:=bk2 xO;obtain ⟨xW,xX⟩:=bk2 xP;obtain ⟨pT,pU⟩:=bk2 cC;obtain ⟨pV,pW⟩:=bk2 oJ;obtain ⟨pX,pY⟩:=bk2 cD;obtain ⟨pZ,p7⟩:=bk2 oK;clear xF xG xH xI xJ xK xL xM pL pM pN pO pP pQ pR pS;obtain ⟨p8,p9,qA,qB,qC,qD,qE,qF⟩:=bk8 oI;clear aA hg)
  | ((with_reducible refine zf (N:=27) rfl ?_);simp only [Act.put,zzA,zzB,zzC];refine wpList_load_row rfl 38 _ rfl g10 rfl 38 #[.int .i64 y.f0,.int .i64 y.f1] (0,0) _ cC.out Tryz.underlying38 rfl (zw _ _) ?_)
  | ((with_reducible refine zf (N:=28) rfl ?_);simp only [Act.put,zzA,zzB,zzC];refine wpList_load_row rfl 38 _ rfl g12 rfl 38 #[.int .i64 w1.f0,.int .i64 w1.f1] (0,0) _ cD.out Tryz.underlying38 rfl (zw _ _) ?_)
  | (go_at_call 104;(with_reducible refine (HT1.out _).mono ?_);rintro e W9 ⟨rfl,hb⟩;have AV:=zs_ AU hb;have eQ:=za_ xN hb;have eR:=za_ xO hb;have eT:=za_ xP hb;have cH:=za_ cC hb;have cI:=za_ oJ hb;have cJ:=za_ cD hb;have cK:=za_ oK hb;have cL:=za_ oI hb;obtain ⟨xY,xZ,yA,yB⟩:=bk4 eQ;obtain ⟨yC,yD⟩:=bk2 eR;obtain ⟨yE,yF⟩:=bk2 eT;obtain ⟨qG,qH⟩:=bk2 cH;obtain ⟨qI,qJ⟩:=bk2 cI;obtain ⟨qK,qL⟩:=bk2 cJ;obtain ⟨qM,qO⟩:=bk2 cK;obtain ⟨qP,qQ,qR,qS,qT,qU,qV,qW⟩:=bk8 cL;clear xQ xR xS xT xU xV xW xX pT pU pV pW pX pY pZ p7 p8 p9 qA qB qC qD qE qF;clear hb)
  | ((with_reducible refine zf (N:=15) rfl ?_);refine bb_ 15 rfl AV #[.int .i64 0,.int .i64 0] 38 ?_;intro g15 BM hg aA AY cV y9;have oL:=za_ eQ aA;have oM:=za_ eR aA;have oN:=za_ eT aA;have cW:=za_ cH aA;have cX:=za_ cI aA;have cY:=za_ cJ aA;have cZ:=za_ cK aA;have dB:=za_ cL aA;obtain ⟨qX,qY,qZ,q9⟩:=bk4 oL;obtain ⟨rA,rB⟩:=bk2 oM;obtain ⟨rC,rD⟩:=bk2 oN;obtain ⟨eU,eV⟩:=bk2 cW;obtain ⟨eW,eX⟩:=bk2 cX;obtain ⟨eY,eZ⟩:=bk2 cY;obtain ⟨fA,fB⟩:=bk2 cZ;obtain ⟨fD,fE,fF,fG,fH,fJ,fK,fM⟩:=bk8 dB;clear xY xZ yA yB yC yD yE yF qG qH qI qJ qK qL qM qO qP qQ qR qS qT qU qV qW;obtain ⟨fO,fP⟩:=bk2 cV;have yG:=ne_ eQ hg;have yH:=ne_ eR hg;have yI:=ne_ eT hg;have rE:=ne_ cH hg;have rF:=ne_ cI hg;have rG:=ne_ cJ hg;have rH:=ne_ cK hg;have rI:=ne_ cL hg;clear aA hg)
  | ((with_reducible refine zo (t:=38) (p:=15) rfl ?_);refine re_ 38 15 rfl #[.int .i64 t1.f0,.int .i64 t1.f1] cV AY y9 ?_;intro BN aC dC AA;have oO:=zt_ aC yG oL;have oP:=zt_ aC yH oM;have oQ:=zt_ aC yI oN;have dD:=zt_ aC rE cW;have bE:=zt_ aC rF cX;have dE:=zt_ aC rG cY;have bF:=zt_ aC rH cZ;have dF:=zt_ aC rI dB;obtain ⟨rJ,rK,rL,rM⟩:=bk4 oO;obtain ⟨rN,rO⟩:=bk2 oP;obtain ⟨rP,rQ⟩:=bk2 oQ;obtain ⟨fQ,fR⟩:=bk2 dD;obtain ⟨fS,fT⟩:=bk2 bE;obtain ⟨fU,fV⟩:=bk2 dE;obtain ⟨fW,fX⟩:=bk2 bF;obtain ⟨fY,fZ,f6,f7,f8,f9,gA,gB⟩:=bk8 dF;clear qX qY qZ q9 rA rB rC rD eU eV eW eX eY eZ fA fB fD fE fF fG fH fJ fK fM fO fP;obtain ⟨gC,gE⟩:=bk2 dC;clear aC)
  | ((with_reducible refine zf (N:=33) rfl ?_);simp only [Act.put,zzA,zzB,zzC];refine wpList_load_row rfl 38 _ rfl g11 rfl 38 #[.int .i64 z.f0,.int .i64 z.f1] (0,0) _ bE.out Tryz.underlying38 rfl (zw _ _) ?_)
  | ((with_reducible refine zf (N:=34) rfl ?_);simp only [Act.put,zzA,zzB,zzC];refine wpList_load_row rfl 38 _ rfl g13 rfl 38 #[.int .i64 w3.f0,.int .i64 w3.f1] (0,0) _ bF.out Tryz.underlying38 rfl (zw _ _) ?_)
  | (go_at_call 104;(with_reducible refine (HT3.out _).mono ?_);rintro e BO ⟨rfl,hb⟩;have AB:=zs_ AA hb;have cM:=za_ oO hb;have cN:=za_ oP hb;have cO:=za_ oQ hb;have bG:=za_ dD hb;have bH:=za_ bE hb;have bI:=za_ dE hb;have bJ:=za_ bF hb;have bK:=za_ dF hb;have bL:=za_ dC hb;obtain ⟨rR,rS,rT,rU⟩:=bk4 cM;obtain ⟨rV,rW⟩:=bk2 cN;obtain ⟨rX,rY⟩:=bk2 cO;obtain ⟨gF,gG⟩:=bk2 bG;obtain ⟨gH,gI⟩:=bk2 bH;obtain ⟨gJ,gK⟩:=bk2 bI;obtain ⟨gL,gM⟩:=bk2 bJ;obtain ⟨gN,gO,gP,gQ,gR,gS,gT,gU⟩:=bk8 bK;obtain ⟨gV,gX⟩:=bk2 bL;clear rJ rK rL rM rN rO rP rQ fQ fR fS fT fU fV fW fX fY fZ f6 f7 f8 f9 gA gB gC gE;clear hb)
  | ((with_reducible refine zf (N:=17) rfl ?_);refine bb_ 17 rfl AB #[.int .i64 0,.int .i64 0] 38 ?_;intro g17 BP hg aA AZ dG AC;have oR:=za_ cM aA;have oS:=za_ cN aA;have oT:=za_ cO aA;have dH:=za_ bG aA;have dI:=za_ bH aA;have dJ:=za_ bI aA;have dK:=za_ bJ aA;have dL:=za_ bK aA;have dM:=za_ bL aA;obtain ⟨rZ,sA,sB,sC⟩:=bk4 oR;obtain ⟨sD,sE⟩:=bk2 oS;obtain ⟨sF,sG⟩:=bk2 oT;obtain ⟨gY,gZ⟩:=bk2 dH;obtain ⟨hZ,iA⟩:=bk2 dI;obtain ⟨iB,iC⟩:=bk2 dJ;obtain ⟨iD,iF⟩:=bk2 dK;obtain ⟨iG,iH,iI,iJ,iK,iL,iM,iN⟩:=bk8 dL;obtain ⟨iO,iP⟩:=bk2 dM;clear rR rS rT rU rV rW rX rY gF gG gH gI gJ gK gL gM gN gO gP gQ gR gS gT gU gV gX;obtain ⟨iQ,iR⟩:=bk2 dG;have yJ:=ne_ cM hg;have yK:=ne_ cN hg;have yL:=ne_ cO hg;have sH:=ne_ bG hg;have sI:=ne_ bH hg;have sJ:=ne_ bI hg;have sK:=ne_ bJ hg;have sL:=ne_ bK hg;have sM:=ne_ bL hg;clear aA hg)
  | ((with_reducible refine zo (t:=38) (p:=17) rfl ?_);refine re_ 38 17 rfl #[.int .i64 t3.f0,.int .i64 t3.f1] dG AZ AC ?_;intro BQ aC dN AD;have oU:=zt_ aC yJ oR;have oV:=zt_ aC yK oS;have oW:=zt_ aC yL oT;have dO:=zt_ aC sH dH;have dP:=zt_ aC sI dI;have dQ:=zt_ aC sJ dJ;have dR:=zt_ aC sK dK;have dS:=zt_ aC sL dL;have bM:=zt_ aC sM dM;obtain ⟨sN,sO,sP,sQ⟩:=bk4 oU;obtain ⟨sR,sS⟩:=bk2 oV;obtain ⟨sU,sV⟩:=bk2 oW;obtain ⟨iS,iT⟩:=bk2 dO;obtain ⟨iU,iV⟩:=bk2 dP;obtain ⟨iW,iX⟩:=bk2 dQ;obtain ⟨iY,iZ⟩:=bk2 dR;obtain ⟨i5,i6,i7,i8,i9,jA,jB,jC⟩:=bk8 dS;obtain ⟨jD,jE⟩:=bk2 bM;clear rZ sA sB sC sD sE sF sG gY gZ hZ iA iB iC iD iF iG iH iI iJ iK iL iM iN iO iP iQ iR;obtain ⟨jF,jG⟩:=bk2 dN;clear aC)
  | ((with_reducible refine zf (N:=39) rfl ?_);simp only [Act.put,zzA,zzB,zzC];refine wpList_load_row rfl 38 _ rfl g15 rfl 38 #[.int .i64 t1.f0,.int .i64 t1.f1] (0,0) _ bM.out Tryz.underlying38 rfl (zw _ _) ?_)
  | (go_at_call 96;(with_reducible refine (HS1.out _).mono ?_);rintro e BR ⟨rfl,hb⟩;have AH:=zs_ AD hb;have cP:=za_ oU hb;have cQ:=za_ oV hb;have cR:=za_ oW hb;have bP:=za_ dO hb;have bQ:=za_ dP hb;have bR:=za_ dQ hb;have bS:=za_ dR hb;have bT:=za_ dS hb;have bU:=za_ bM hb;have bV:=za_ dN hb;obtain ⟨sW,sX,sY,sZ⟩:=bk4 cP;obtain ⟨s9,tA⟩:=bk2 cQ;obtain ⟨tB,tC⟩:=bk2 cR;obtain ⟨jH,jI⟩:=bk2 bP;obtain ⟨jJ,jK⟩:=bk2 bQ;obtain ⟨jL,jM⟩:=bk2 bR;obtain ⟨jN,jO⟩:=bk2 bS;obtain ⟨jP,jQ,jR,jS,jT,jU,jV,jW⟩:=bk8 bT;obtain ⟨jX,jY⟩:=bk2 bU;obtain ⟨jZ,j4⟩:=bk2 bV;clear sN sO sP sQ sR sS sU sV iS iT iU iV iW iX iY iZ i5 i6 i7 i8 i9 jA jB jC jD jE jF jG;clear hb)
  | ((with_reducible refine zf (N:=19) rfl ?_);refine bb_ 19 rfl AH #[.int .i64 0,.int .i64 0] 38 ?_;intro g19 BS hg aA A9 dU AI;have oX:=za_ cP aA;have oY:=za_ cQ aA;have oZ:=za_ cR aA;have dV:=za_ bP aA;have dW:=za_ bQ aA;have dX:=za_ bR aA;have dY:=za_ bS aA;have dZ:=za_ bT aA;have d5:=za_ bU aA;have d6:=za_ bV aA;obtain ⟨tD,tE,tF,tG⟩:=bk4 oX;obtain ⟨tH,tI⟩:=bk2 oY;obtain ⟨tJ,tK⟩:=bk2 oZ;obtain ⟨j5,j7⟩:=bk2 dV;obtain ⟨j8,j9⟩:=bk2 dW;obtain ⟨kB,kC⟩:=bk2 dX;obtain ⟨kD,kE⟩:=bk2 dY;obtain ⟨kF,kG,kH,kI,kJ,kK,kL,kM⟩:=bk8 dZ;obtain ⟨kN,kO⟩:=bk2 d5;obtain ⟨kP,kQ⟩:=bk2 d6;clear sW sX sY sZ s9 tA tB tC jH jI jJ jK jL jM jN jO jP jQ jR jS jT jU jV jW jX jY jZ j4;obtain ⟨kR,kS⟩:=bk2 dU;have yM:=ne_ cP hg;have yN:=ne_ cQ hg;have yO:=ne_ cR hg;have tL:=ne_ bP hg;have tM:=ne_ bQ hg;have tN:=ne_ bR hg;have tO:=ne_ bS hg;have tP:=ne_ bT hg;have tQ:=ne_ bU hg;have tR:=ne_ bV hg;clear aA hg)
  | ((with_reducible refine zo (t:=38) (p:=19) rfl ?_);refine re_ 38 19 rfl #[.int .i64 s1.f0,.int .i64 s1.f1] dU A9 AI ?_;intro BT aC d7 AJ;have o0:=zt_ aC yM oX;have o4:=zt_ aC yN oY;have o5:=zt_ aC yO oZ;have d8:=zt_ aC tL dV;have d9:=zt_ aC tM dW;have eB:=zt_ aC tN dX;have eC:=zt_ aC tO dY;have eD:=zt_ aC tP dZ;have eE:=zt_ aC tQ d5;have bW:=zt_ aC tR d6;obtain ⟨tS,tT,tU,tV⟩:=bk4 o0;obtain ⟨tW,tX⟩:=bk2 o4;obtain ⟨tY,tZ⟩:=bk2 o5;obtain ⟨kT,kU⟩:=bk2 d8;obtain ⟨kV,kW⟩:=bk2 d9;obtain ⟨kX,kY⟩:=bk2 eB;obtain ⟨kZ,lD⟩:=bk2 eC;obtain ⟨lH,lI,lJ,lK,lM,lO,lP,lQ⟩:=bk8 eD;obtain ⟨lR,lT⟩:=bk2 eE;obtain ⟨lU,lV⟩:=bk2 bW;clear tD tE tF tG tH tI tJ tK j5 j7 j8 j9 kB kC kD kE kF kG kH kI kJ kK kL kM kN kO kP kQ kR kS;obtain ⟨lW,lX⟩:=bk2 d7;clear aC)
  | ((with_reducible refine zf (N:=46) rfl ?_);simp only [Act.put,zzA,zzB,zzC];refine wpList_load_row rfl 38 _ rfl g17 rfl 38 #[.int .i64 t3.f0,.int .i64 t3.f1] (0,0) _ bW.out Tryz.underlying38 rfl (zw _ _) ?_)
  | (go_at_call 96;(with_reducible refine (HS3.out _).mono ?_);rintro e BU ⟨rfl,hb⟩;have AK:=zs_ AJ hb;have cS:=za_ o0 hb;have cT:=za_ o4 hb;have cU:=za_ o5 hb;have bX:=za_ d8 hb;have bY:=za_ d9 hb;have bZ:=za_ eB hb;have b6:=za_ eC hb;have b7:=za_ eD hb;have b8:=za_ eE hb;have b9:=za_ bW hb;have cA:=za_ d7 hb;obtain ⟨t4,t5,t6,t7⟩:=bk4 cS;obtain ⟨t8,t9⟩:=bk2 cT;obtain ⟨uA,uB⟩:=bk2 cU;obtain ⟨lZ,l3⟩:=bk2 bX;obtain ⟨l4,l5⟩:=bk2 bY;obtain ⟨l6,l7⟩:=bk2 bZ;obtain ⟨l8,l9⟩:=bk2 b6;obtain ⟨mA,mB,mC,mD,mE,mF,mG,mH⟩:=bk8 b7;obtain ⟨mI,mJ⟩:=bk2 b8;obtain ⟨mK,mL⟩:=bk2 b9;obtain ⟨mM,mN⟩:=bk2 cA;clear tS tT tU tV tW tX tY tZ kT kU kV kW kX kY kZ lD lH lI lJ lK lM lO lP lQ lR lT lU lV lW lX;clear hb)
  | ((with_reducible refine zf (N:=21) rfl ?_);refine bb_ 21 rfl AK #[.int .i64 0,.int .i64 0] 38 ?_;intro g21 BV hg aA BE eF AL;have o6:=za_ cS aA;have o7:=za_ cT aA;have o8:=za_ cU aA;have eG:=za_ bX aA;have eH:=za_ bY aA;have eI:=za_ bZ aA;have eJ:=za_ b6 aA;have eK:=za_ b7 aA;have eM:=za_ b8 aA;have eN:=za_ b9 aA;have eO:=za_ cA aA;obtain ⟨uC,uD,uE,uF⟩:=bk4 o6;obtain ⟨uG,uH⟩:=bk2 o7;obtain ⟨uI,uJ⟩:=bk2 o8;obtain ⟨mO,mP⟩:=bk2 eG;obtain ⟨mQ,mR⟩:=bk2 eH;obtain ⟨mS,mT⟩:=bk2 eI;obtain ⟨mU,mV⟩:=bk2 eJ;obtain ⟨mW,mX,mY,mZ,m5,m6,m7,m8⟩:=bk8 eK;obtain ⟨m9,nA⟩:=bk2 eM;obtain ⟨nB,nC⟩:=bk2 eN;obtain ⟨nD,nE⟩:=bk2 eO;clear t4 t5 t6 t7 t8 t9 uA uB lZ l3 l4 l5 l6 l7 l8 l9 mA mB mC mD mE mF mG mH mI mJ mK mL mM mN;obtain ⟨nF,nG⟩:=bk2 eF;have yP:=ne_ cS hg;have yQ:=ne_ cT hg;have yR:=ne_ cU hg;have uK:=ne_ bX hg;have uL:=ne_ bY hg;have uM:=ne_ bZ hg;have uN:=ne_ b6 hg;have uO:=ne_ b7 hg;have uP:=ne_ b8 hg;have uQ:=ne_ b9 hg;have uR:=ne_ cA hg;clear aA hg)
  | ((with_reducible refine zo (t:=38) (p:=21) rfl ?_);refine re_ 38 21 rfl #[.int .i64 s3.f0,.int .i64 s3.f1] eF BE AL ?_;intro cB aC yS bA;have bB:=zt_ aC yP o6;have bC:=zt_ aC yQ o7;have bD:=zt_ aC yR o8;have yT:=zt_ aC uK eG;have yU:=zt_ aC uL eH;have yV:=zt_ aC uM eI;have yW:=zt_ aC uN eJ;have a9:=zt_ aC uO eK;have yX:=zt_ aC uP eM;have yY:=zt_ aC uQ eN;have yZ:=zt_ aC uR eO;obtain ⟨uS,uT,uU,uV⟩:=bk4 bB;obtain ⟨uW,uX⟩:=bk2 bC;obtain ⟨uY,uZ⟩:=bk2 bD;obtain ⟨nH,nI⟩:=bk2 yT;obtain ⟨nJ,nK⟩:=bk2 yU;obtain ⟨nL,nM⟩:=bk2 yV;obtain ⟨nN,nO⟩:=bk2 yW;obtain ⟨nP,nQ,nR,nS,nU,nV,nW,nX⟩:=bk8 a9;obtain ⟨aE,aG⟩:=bk2 yX;obtain ⟨aH,aI⟩:=bk2 yY;obtain ⟨aJ,aK⟩:=bk2 yZ;clear uC uD uE uF uG uH uI uJ mO mP mQ mR mS mT mU mV mW mX mY mZ m5 m6 m7 m8 m9 nA nB nC nD nE nF nG;obtain ⟨aM,aN⟩:=bk2 yS;clear aC))
 refine z7 (S:=fun w'=>Below cB.heap.size cB w') (ds:=[25]) (fl 26 0) hmx rfl rfl (Below.refl _ _).drew (fun I=>?_)
 refine px_ 0 rfl ?_
 refine px_ 2 rfl ?_
 refine px_ 5 rfl ?_
 refine px_ 7 rfl ?_
 refine px_ 11 rfl ?_
 refine px_ 13 rfl ?_
 refine px_ 16 rfl ?_
 refine px_ 18 rfl ?_
 refine tx_ 1 rfl I (by rintro w' hs;obtain ⟨aQ,aT,aU,aV,aW,aX⟩:=bg6 hs aE aG aH aI aJ aK;obtain ⟨aY,aZ⟩:=bg2 hs aM aN;go_simp;with_reducible rfl) ?_
 refine tx_ 3 rfl I (by rintro w' hs;obtain ⟨aQ,aT,aU,aV,aW,aX⟩:=bg6 hs aE aG aH aI aJ aK;obtain ⟨aY,aZ⟩:=bg2 hs aM aN;go_simp;with_reducible rfl) ?_
 refine px_ 4 rfl ?_
 refine tx_ 6 rfl I (by rintro w' hs;obtain ⟨aQ,aT,aU,aV,aW,aX⟩:=bg6 hs aE aG aH aI aJ aK;obtain ⟨aY,aZ⟩:=bg2 hs aM aN;go_simp;with_reducible rfl) ?_
 refine tx_ 8 rfl I (by rintro w' hs;obtain ⟨aQ,aT,aU,aV,aW,aX⟩:=bg6 hs aE aG aH aI aJ aK;obtain ⟨aY,aZ⟩:=bg2 hs aM aN;go_simp;with_reducible rfl) ?_
 refine px_ 9 rfl ?_
 refine px_ 10 rfl ?_
 refine tx_ 12 rfl I (by rintro w' hs;obtain ⟨aQ,aT,aU,aV,aW,aX⟩:=bg6 hs aE aG aH aI aJ aK;obtain ⟨aY,aZ⟩:=bg2 hs aM aN;go_simp;with_reducible rfl) ?_
 refine tx_ 14 rfl I (by rintro w' hs;obtain ⟨aQ,aT,aU,aV,aW,aX⟩:=bg6 hs aE aG aH aI aJ aK;obtain ⟨aY,aZ⟩:=bg2 hs aM aN;go_simp;with_reducible rfl) ?_
 refine px_ 15 rfl ?_
 refine tx_ 17 rfl I (by rintro w' hs;obtain ⟨aQ,aT,aU,aV,aW,aX⟩:=bg6 hs aE aG aH aI aJ aK;obtain ⟨aY,aZ⟩:=bg2 hs aM aN;go_simp;with_reducible rfl) ?_
 refine tx_ 19 rfl I (by rintro w' hs;obtain ⟨aQ,aT,aU,aV,aW,aX⟩:=bg6 hs aE aG aH aI aJ aK;obtain ⟨aY,aZ⟩:=bg2 hs aM aN;go_simp;with_reducible rfl) ?_
 refine px_ 20 rfl ?_
 refine px_ 21 rfl ?_
 refine wx_ 22 23 (some 23) (some 24) rfl rfl rfl rfl (fun K hK=>?e1_22) fun K hK=>?e1_23
 case' e1_22 =>
  refine box_step rfl rfl (cs:=#[.int .i64 0,.int .i64 0]) (t:=38) (by first | (go_simp;done) | (go_simp;rfl)) ?_
  intro g23 hg Wc a8 aA
  refine hK.out _ _ (zb I aA) (fun aD=>?_)
  have BF:w.heap.size≤g23:=by rw [hg];exact zi (zb bA I)
  have M23:cB.heap.size≤g23:=by rw [hg];exact I.size
  have B23:=hhd a8
  clear hK K I aA a8 hg
  have I:=aD
  clear aD
  refine nx_ ?_
  refine ox_ 23 (some 24) rfl rfl fun K hK=>?_
  refine box_step rfl rfl (cs:=#[.int .i64 0,.int .i64 0]) (t:=38) (by first | (go_simp;done) | (go_simp;rfl)) ?_
  intro g24 hg Wc a8 aA
  have eP:=hhd (show g23≠g24 by have:=zj B23;omega)
  refine hK.out _ _ (zb I aA) (fun aD=>?_)
  replace B23:=za_ B23 aA
  have y6:w.heap.size≤g24:=by rw [hg];exact zi (zb bA I)
  have M24:cB.heap.size≤g24:=by rw [hg];exact I.size
  have B24:=hhd a8
  clear hK K I aA a8 hg
  have I:=aD
  clear aD
  refine nx_ ?_
  refine ox_ 24 none rfl rfl fun K hK=>?_
  refine zA rfl rfl 38 _ _ rfl g23 #[.int .i64 (wrap64 (t1.f0+t3.f0)),.int .i64 (wrap64 (t1.f1+t3.f1))] rfl rfl 38 #[.int .i64 0,.int .i64 0] B23.out (zw _ _) rfl (zM _ _) ?_
  intro Wd hq aC a7
  refine hK.out _ _ (a7 _ _ M23 I) (fun aD=>?_)
  replace B24:=hhd ((aC _ eP.out.symm).trans B24.out)
  replace B23:=hhd hq
  clear hK K hq aC a7 I
  have I:=aD
  clear aD
  refine lx_ 25 none rfl rfl fun K hK=>?_
  refine zA rfl rfl 38 _ _ rfl g24 #[.int .i64 (wrap64 (s1.f0 - s3.f0)),.int .i64 (wrap64 (s1.f1 - s3.f1))] rfl rfl 38 #[.int .i64 0,.int .i64 0] B24.out (zw _ _) rfl (zM _ _) ?_
  intro We hq aC a7
  refine hK.out _ _ ?_
  have y7:=hhd hq
  have y8:=zt_ aC eP B23
  have HBd:=hhd (a7 _ _ y6 (zb bA I))
  have E7:=hhd ((aC _ (fun e=>by have:=zj bB;omega)).trans (zd bB I))
  have E8:=hhd ((aC _ (fun e=>by have:=zj bC;omega)).trans (zd bC I))
  have E9:=hhd ((aC _ (fun e=>by have:=zj bD;omega)).trans (zd bD I))
  have AM:=hhd ((aC _ (fun e=>by have:=zj a9;omega)).trans (zd a9 I))
  clear hK K I hq aC a7
  refine zE (by kernel_rfl) ?_
 case' e1_23 =>
  refine box_step rfl rfl (cs:=#[.int .i64 0,.int .i64 0]) (t:=38) (by first | (go_simp;done) | (go_simp;rfl)) ?_
  intro g24 hg Wc a8 aA
  refine hK.out _ _ (zb I aA) (fun aD=>?_)
  have y6:w.heap.size≤g24:=by rw [hg];exact zi (zb bA I)
  have M24:cB.heap.size≤g24:=by rw [hg];exact I.size
  have B24:=hhd a8
  clear hK K I aA a8 hg
  have I:=aD
  clear aD
  refine nx_ ?_
  refine ox_ 22 (some 23) rfl rfl fun K hK=>?_
  refine box_step rfl rfl (cs:=#[.int .i64 0,.int .i64 0]) (t:=38) (by first | (go_simp;done) | (go_simp;rfl)) ?_
  intro g23 hg Wc a8 aA
  have eP:=hhd (show g23≠g24 by have:=zj B24;omega)
  refine hK.out _ _ (zb I aA) (fun aD=>?_)
  replace B24:=za_ B24 aA
  have BF:w.heap.size≤g23:=by rw [hg];exact zi (zb bA I)
  have M23:cB.heap.size≤g23:=by rw [hg];exact I.size
  have B23:=hhd a8
  clear hK K I aA a8 hg
  have I:=aD
  clear aD
  refine nx_ ?_
  refine ox_ 24 none rfl rfl fun K hK=>?_
  refine zA rfl rfl 38 _ _ rfl g23 #[.int .i64 (wrap64 (t1.f0+t3.f0)),.int .i64 (wrap64 (t1.f1+t3.f1))] rfl rfl 38 #[.int .i64 0,.int .i64 0] B23.out (zw _ _) rfl (zM _ _) ?_
  intro Wd hq aC a7
  refine hK.out _ _ (a7 _ _ M23 I) (fun aD=>?_)
  replace B24:=hhd ((aC _ eP.out.symm).trans B24.out)
  replace B23:=hhd hq
  clear hK K hq aC a7 I
  have I:=aD
  clear aD
  refine lx_ 25 none rfl rfl fun K hK=>?_
  refine zA rfl rfl 38 _ _ rfl g24 #[.int .i64 (wrap64 (s1.f0 - s3.f0)),.int .i64 (wrap64 (s1.f1 - s3.f1))] rfl rfl 38 #[.int .i64 0,.int .i64 0] B24.out (zw _ _) rfl (zM _ _) ?_
  intro We hq aC a7
  refine hK.out _ _ ?_
  have y7:=hhd hq
  have y8:=zt_ aC eP B23
  have HBd:=hhd (a7 _ _ y6 (zb bA I))
  have E7:=hhd ((aC _ (fun e=>by have:=zj bB;omega)).trans (zd bB I))
  have E8:=hhd ((aC _ (fun e=>by have:=zj bC;omega)).trans (zd bC I))
  have E9:=hhd ((aC _ (fun e=>by have:=zj bD;omega)).trans (zd bD I))
  have AM:=hhd ((aC _ (fun e=>by have:=zj a9;omega)).trans (zd a9 I))
  clear hK K I hq aC a7
  refine zE (by kernel_rfl) ?_
 all_goals
  clear B23 B24 uS uT uU uV uW uX uY uZ nH nI nJ nK nL nM nN nO nP nQ nR nS nU nV nW nX aE aG aH aI aJ aK aM aN
  go_wp2
  have q8_0:We.cell? ⟨g8,0,none⟩=some (.int .i64 u.f0):=(za E8 0).trans rfl
  have q8_1:We.cell? ⟨g8,1,none⟩=some (.int .i64 u.f1):=(za E8 1).trans rfl
  have q9_0:We.cell? ⟨g9,0,none⟩=some (.int .i64 v.f0):=(za E9 0).trans rfl
  have q9_1:We.cell? ⟨g9,1,none⟩=some (.int .i64 v.f1):=(za E9 1).trans rfl
  have q23_0:We.cell? ⟨g23,0,none⟩=some (.int .i64 (wrap64 (t1.f0+t3.f0))):=(za y8 0).trans rfl
  have q23_1:We.cell? ⟨g23,1,none⟩=some (.int .i64 (wrap64 (t1.f1+t3.f1))):=(za y8 1).trans rfl
  have q24_0:We.cell? ⟨g24,0,none⟩=some (.int .i64 (wrap64 (s1.f0 - s3.f0))):=(za y7 0).trans rfl
  have q24_1:We.cell? ⟨g24,1,none⟩=some (.int .i64 (wrap64 (s1.f1 - s3.f1))):=(za y7 1).trans rfl
  refine z7 (S:=fun w'=>Below We.heap.size We w') (ds:=[17]) (fl 18 0) hmx rfl rfl (Below.refl _ _).drew (fun I=>?_)
  refine px_ 0 rfl ?_
  refine px_ 4 rfl ?_
  refine px_ 8 rfl ?_
  refine px_ 12 rfl ?_
  refine tx_ 1 rfl I (by rintro w' hs;obtain ⟨j_q8_0,j_q8_1,j_q9_0,j_q9_1,j_q23_0,j_q23_1⟩:=bg6 hs q8_0 q8_1 q9_0 q9_1 q23_0 q23_1;obtain ⟨j_q24_0,j_q24_1⟩:=bg2 hs q24_0 q24_1;go_simp;with_reducible rfl) ?_
  refine tx_ 2 rfl I (by rintro w' hs;obtain ⟨j_q8_0,j_q8_1,j_q9_0,j_q9_1,j_q23_0,j_q23_1⟩:=bg6 hs q8_0 q8_1 q9_0 q9_1 q23_0 q23_1;obtain ⟨j_q24_0,j_q24_1⟩:=bg2 hs q24_0 q24_1;go_simp;with_reducible rfl) ?_
  refine tx_ 5 rfl I (by rintro w' hs;obtain ⟨j_q8_0,j_q8_1,j_q9_0,j_q9_1,j_q23_0,j_q23_1⟩:=bg6 hs q8_0 q8_1 q9_0 q9_1 q23_0 q23_1;obtain ⟨j_q24_0,j_q24_1⟩:=bg2 hs q24_0 q24_1;go_simp;with_reducible rfl) ?_
  refine tx_ 6 rfl I (by rintro w' hs;obtain ⟨j_q8_0,j_q8_1,j_q9_0,j_q9_1,j_q23_0,j_q23_1⟩:=bg6 hs q8_0 q8_1 q9_0 q9_1 q23_0 q23_1;obtain ⟨j_q24_0,j_q24_1⟩:=bg2 hs q24_0 q24_1;go_simp;with_reducible rfl) ?_
  refine tx_ 9 rfl I (by rintro w' hs;obtain ⟨j_q8_0,j_q8_1,j_q9_0,j_q9_1,j_q23_0,j_q23_1⟩:=bg6 hs q8_0 q8_1 q9_0 q9_1 q23_0 q23_1;obtain ⟨j_q24_0,j_q24_1⟩:=bg2 hs q24_0 q24_1;go_simp;with_reducible rfl) ?_
  refine tx_ 10 rfl I (by rintro w' hs;obtain ⟨j_q8_0,j_q8_1,j_q9_0,j_q9_1,j_q23_0,j_q23_1⟩:=bg6 hs q8_0 q8_1 q9_0 q9_1 q23_0 q23_1;obtain ⟨j_q24_0,j_q24_1⟩:=bg2 hs q24_0 q24_1;go_simp;with_reducible rfl) ?_
  refine tx_ 13 rfl I (by rintro w' hs;obtain ⟨j_q8_0,j_q8_1,j_q9_0,j_q9_1,j_q23_0,j_q23_1⟩:=bg6 hs q8_0 q8_1 q9_0 q9_1 q23_0 q23_1;obtain ⟨j_q24_0,j_q24_1⟩:=bg2 hs q24_0 q24_1;go_simp;with_reducible rfl) ?_
  refine tx_ 14 rfl I (by rintro w' hs;obtain ⟨j_q8_0,j_q8_1,j_q9_0,j_q9_1,j_q23_0,j_q23_1⟩:=bg6 hs q8_0 q8_1 q9_0 q9_1 q23_0 q23_1;obtain ⟨j_q24_0,j_q24_1⟩:=bg2 hs q24_0 q24_1;go_simp;with_reducible rfl) ?_
  refine ox_ 3 (some 78) rfl rfl fun K hK=>?_
  refine zfV Tryz.func105 (by kernel_rfl) #[.agg #[.int .i64 u.f0,.int .i64 u.f1],.agg #[.int .i64 (wrap64 (t1.f0+t3.f0)),.int .i64 (wrap64 (t1.f1+t3.f1))],.int .i64 1,.pointer (some ⟨g7,0,none⟩)] (lb:=#[.pointer (some ⟨g7,0,none⟩)]) rfl (by rfl) rfl rfl rfl (by go_simp) ?_
  refine (ze7 g7 Aw wn cw u (⟨(wrap64 (t1.f0+t3.f0)),(wrap64 (t1.f1+t3.f1))⟩:S38) (r 0) bits mode 1 turn HBI.out.1 HBI.out.2 _ (zd E7 I) (HO.out _ 1 0 (Or.inl ⟨rfl,rfl⟩))).mono ?_
  rintro e Wc ⟨rfl,aA⟩
  refine ⟨_,rfl,?_⟩
  refine hK.out _ _ (zb I aA) (fun aD=>?_)
  clear hK K I aA
  have I:=aD
  clear aD
  refine nx_ ?_
  refine ox_ 7 (some 82) rfl rfl fun K hK=>?_
  refine zfV Tryz.func105 (by kernel_rfl) #[.agg #[.int .i64 v.f0,.int .i64 v.f1],.agg #[.int .i64 (wrap64 (s1.f0 - s3.f0)),.int .i64 (wrap64 (s1.f1 - s3.f1))],.int .i64 1,.pointer (some ⟨g7,0,none⟩)] (lb:=#[.pointer (some ⟨g7,0,none⟩)]) rfl (by rfl) rfl rfl rfl (by go_simp) ?_
  refine (ze7 g7 Aw wn cw v (⟨(wrap64 (s1.f0 - s3.f0)),(wrap64 (s1.f1 - s3.f1))⟩:S38) (r 1) bits mode 1 turn HBI.out.1 HBI.out.2 _ (zd E7 I) (HO.out _ 1 1 (Or.inr (Or.inl ⟨rfl,rfl⟩)))).mono ?_
  rintro e Wc ⟨rfl,aA⟩
  refine ⟨_,rfl,?_⟩
  refine hK.out _ _ (zb I aA) (fun aD=>?_)
  clear hK K I aA
  have I:=aD
  clear aD
  refine nx_ ?_
  refine ox_ 11 (some 86) rfl rfl fun K hK=>?_
  refine zfV Tryz.func105 (by kernel_rfl) #[.agg #[.int .i64 u.f0,.int .i64 u.f1],.agg #[.int .i64 (wrap64 (t1.f0+t3.f0)),.int .i64 (wrap64 (t1.f1+t3.f1))],.int .i64 (-1),.pointer (some ⟨g7,0,none⟩)] (lb:=#[.pointer (some ⟨g7,0,none⟩)]) rfl (by rfl) rfl rfl rfl (by go_simp) ?_
  refine (ze7 g7 Aw wn cw u (⟨(wrap64 (t1.f0+t3.f0)),(wrap64 (t1.f1+t3.f1))⟩:S38) (r 2) bits mode (-1) turn HBI.out.1 HBI.out.2 _ (zd E7 I) (HO.out _ (-1) 2 (Or.inr (Or.inr (Or.inl ⟨rfl,rfl⟩))))).mono ?_
  rintro e Wc ⟨rfl,aA⟩
  refine ⟨_,rfl,?_⟩
  refine hK.out _ _ (zb I aA) (fun aD=>?_)
  clear hK K I aA
  have I:=aD
  clear aD
  refine nx_ ?_
  refine ox_ 15 (some 90) rfl rfl fun K hK=>?_
  refine zfV Tryz.func105 (by kernel_rfl) #[.agg #[.int .i64 v.f0,.int .i64 v.f1],.agg #[.int .i64 (wrap64 (s1.f0 - s3.f0)),.int .i64 (wrap64 (s1.f1 - s3.f1))],.int .i64 (-1),.pointer (some ⟨g7,0,none⟩)] (lb:=#[.pointer (some ⟨g7,0,none⟩)]) rfl (by rfl) rfl rfl rfl (by go_simp) ?_
  refine (ze7 g7 Aw wn cw v (⟨(wrap64 (s1.f0 - s3.f0)),(wrap64 (s1.f1 - s3.f1))⟩:S38) (r 3) bits mode (-1) turn HBI.out.1 HBI.out.2 _ (zd E7 I) (HO.out _ (-1) 3 (Or.inr (Or.inr (Or.inr ⟨rfl,rfl⟩))))).mono ?_
  rintro e Wc ⟨rfl,aA⟩
  refine ⟨_,rfl,?_⟩
  refine hK.out _ _ (zb I aA) (fun aD=>?_)
  clear hK K I aA
  have I:=aD
  clear aD
  refine nx_ ?_
  refine px_ 16 rfl ?_
  refine lx_ 17 none rfl rfl fun K hK=>?_
  refine zA rfl rfl 136 _ _ rfl g14 #[.int .i64 (r 0).f0,.int .i64 (r 0).f1,.int .i64 (r 1).f0,.int .i64 (r 1).f1,.int .i64 (r 2).f0,.int .i64 (r 2).f1,.int .i64 (r 3).f0,.int .i64 (r 3).f1] rfl rfl 136 #[.int .i64 0,.int .i64 0,.int .i64 0,.int .i64 0,.int .i64 0,.int .i64 0,.int .i64 0,.int .i64 0] (zd AM I) (zcJ _ _ _ _ _ _ _ _) rfl (zeN _ _ _ _ _ _ _ _) ?_
  intro Wf hq aC a7
  refine hK.out _ _ ?_
  have F14:=hhd hq
  have HBf:=hhd (a7 _ _ AX (zb HBd I))
  clear hK K I hq aC a7
  refine zE (by kernel_rfl) ?_
  go_wp2
  refine bodyPost_ret (results_cell_row rfl _ _ g14 136 #[.int .i64 (r 0).f0,.int .i64 (r 0).f1,.int .i64 (r 1).f0,.int .i64 (r 1).f1,.int .i64 (r 2).f0,.int .i64 (r 2).f1,.int .i64 (r 3).f0,.int .i64 (r 3).f1] (0,0) _ rfl F14.out Tryz.underlying136 rfl (zcJ _ _ _ _ _ _ _ _)) rfl ?_
  exact ⟨rfl,HBf.out⟩
end Go.Proofs.YteieahbadclppaaGreat.P

