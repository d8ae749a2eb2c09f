/- Part 15 of 36 of the proof: the texts that it reaches, one behind the other. No condition. -/
import Derived.Test.YteieahbadclppaaGreatKr13
import Derived.Test.YteieahbadclppaaGreatKr14
namespace Go.Proofs.YteieahbadclppaaGreat.P
open Go.RowKit Go.Shelf Go.Proofs.YteieahbadclppaaGreatW.PrintWords Go.Proofs.YteieahbadclppaaGreatW.PrintLast Go.Proofs.YteieahbadclppaaGreatW.PrintMore
attribute [local go_sem] Oper.semAt_some
set_option linter.unusedVariables false
set_option linter.unusedSimpArgs false
end Go.Proofs.YteieahbadclppaaGreat.P

namespace Go.Proofs.YteieahbadclppaaGreat.P
open Go.RowKit Go.Proofs.YteieahbadclppaaGreatW.PrintWords Go.Proofs.YteieahbadclppaaGreatW.PrintLast Go.Proofs.YteieahbadclppaaGreatW.PrintMore
attribute [local go_sem] zF zG zK zL
set_option linter.unusedVariables false
set_option linter.unusedSimpArgs false
theorem zoz (a b c d e f:Value):(Tryz.prog.info? 24).map (·.size)=some (#[a,b,c,d,e,f]:Array Value).size:=by kernel_rfl
set_option maxRecDepth 100000 in
set_option maxHeartbeats 4000000 in
theorem zhv (p0 b lo hi:Int) (hbt:sat_Bits.f p0=some (b,0)) (hB3:(b=15∧lo=-32768∧hi=32767)∨(b=31∧lo=-2147483648∧hi=2147483647)) (p1 p2 p4:Int) (p5:Bool) (L:List S38) (A:Option Addr) (c:Nat) (l l1:List S38) (k:Nat) (h0:0≤p4) (h1:p4 < 3) (q0:0≤p1) (q1:p1≤40) (w:World) (hr:Kd.C k38 w A l.length l) (hc:l.length≤c) (hl:l.length≤1000) (hl1:l1.length≤1000)
  (hck:plan_Check.f p0 p1 p2 0 p4 p5=some 0) (htw:roots_Twiddles.f p1 p0=some (L,0)) (hn:(l.length:Int)=2^p1.toNat) (ho:l.any (zaH (lo) hi)=false) (hf:flip_Flip.f k l=some (l1,0)) (h2:(p2 != 2)=true) :
  Calls Tryz.prog 16 #[.slice A l.length c,.agg (zay p0 p1 p2 0 p4 p5)] w fun e w'=>∃A' c',e=.returned (.tuple #[.agg #[.slice A' l1.length c',.int .i64 1,.bool false,.slice none 0 0],.int .i64 0])∧Kd.R k38 38 w' w.heap.size (fun _=>True) (.slice A' l1.length c') (l1.map (shC 1 p4))∧Below w.heap.size w w':=by
 have hmx:Tryz.prog.follows .mixedOrders=true:=by kernel_rfl
 have HR:=hhd hr
 have HC:=hhd hc
 have HCK:=hhd hck
 have HBI:=hhd hbt
 have eN:=hhd hB3
 have hb0:0≤b:=by omega
 have hb1:(0≤b)=True:=eq_true hb0
 have hb2:(b < 0)=False:=eq_false (by omega)
 have hb3:¬b < 0:=by omega
 have hb4:decide (0≤b)=true:=decide_eq_true hb0
 clear hbt hB3 hb0
 have HTW:=hhd htw
 have HL:=hhd hl1
 have HN:=hhd hn
 have HO:=hhd ho
 have HF:=hhd hf
 have eO:=hhd (Below.refl w.heap.size w)
 clear hr hc hl hl1 hck htw hn ho hf
 unfold zay
 go_enter Tryz.func16,Tryz.ntmps16
 go_wp2_with (first
  | ((with_reducible refine zf (N:=3) rfl ?_);refine bb_ 3 rfl eO #[.int .i64 p0,.int .i64 p1,.int .i64 p2,.int .i64 0,.int .i64 p4,.bool p5] 24 ?_;intro g3 W1 hg aA L3 bL bT;have eU:=zc_ HR bT;obtain ⟨bU,bV,bW,bX,bY,bZ⟩:=bk6 bL;clear aA hg)
  | ((with_reducible refine zf (N:=4) rfl ?_);refine bb_ 4 rfl bT #[.slice none 0 0,.int .i64 0,.bool false,.slice none 0 0] 28 ?_;intro g4 W2 hg aA L4 b6 b7;have bM:=za_ bL aA;have eV:=zc_ HR b7;obtain ⟨b8,b9,cA,cB,cC,cD⟩:=bk6 bM;clear bU bV bW bX bY bZ;obtain ⟨cH,cI,cJ,cK⟩:=bk4 b6;have eW:=ne_ bL hg;clear aA hg)
  | ((with_reducible refine zf (N:=9) rfl ?_);refine lr_ 9 rfl 24 bM Tryz.underlying24 ?_)
  | (go_at_call 37;(with_reducible refine (plan_Check.calls p0 p1 p2 0 p4 p5 0 _ HCK.out).mono ?_);rintro e W3 ⟨rfl,hb⟩;have bP:=zs_ b7 hb;have bQ:=za_ bM hb;have cL:=za_ b6 hb;have eX:=zc_ HR bP;obtain ⟨cM,cN,cO,cP,cQ,cR⟩:=bk6 bQ;obtain ⟨cS,cT,cU,cV⟩:=bk4 cL;clear b8 b9 cA cB cC cD cH cI cJ cK;clear hb)
  | ((with_reducible refine zf (N:=15) rfl ?_);refine lr_ 15 rfl 24 bQ Tryz.underlying24 ?_)
  | (go_at_call 19;refine (ze0 p0 p1 p2 p4 b p5 L HBI.out HTW.out _).mono ?_;rintro e W4 ⟨Aw,cw,rfl,ho,hb⟩;have cW:=hhd (Kd.R_lower ho (zi bP));have cX:=zs_ bP hb;have bR:=za_ bQ hb;have bS:=za_ cL hb;have eY:=zc_ HR cX;obtain ⟨cY,cZ,dB,dC,dD,dE⟩:=bk6 bR;obtain ⟨dF,dG,dH,dI⟩:=bk4 bS;clear cM cN cO cP cQ cR cS cT cU cV;clear hb ho)
  | ((with_reducible refine zf (N:=7) rfl ?_);refine bb_ 7 rfl cX #[.int .i64 0,.int .i64 0,.int .i64 0,.int .i64 0,.int .i64 0,.bool false,.nilIface,.int .i64 0,.slice none 0 0] 56 ?_;intro g7 W5 hg aA L7 dJ dK;have dL:=za_ bR aA;have dM:=za_ bS aA;have eH:=zr_ cW aA;have eZ:=zc_ HR dK;obtain ⟨dN,dO,dP,dQ,dR,dS⟩:=bk6 dL;obtain ⟨dU,dV,dW,dX⟩:=bk4 dM;clear cY cZ dB dC dD dE dF dG dH dI;obtain ⟨dY,dZ,d5,d6,d7,d8,d9,eB,eC⟩:=bk9 dJ;have eI:=ne_ bR hg;have eJ:=ne_ bS hg;have NR7:=hhd (show some g7≠_ from by rw [hg];exact Kd.R_ne_new cW.out 0);clear aA hg)
  | ((with_reducible refine zo (t:=56) (p:=7) rfl ?_);refine re_ 56 7 rfl #[.int .i64 p0,.int .i64 p1,.int .i64 p2,.int .i64 0,.int .i64 p4,.bool p5,.iface 97 (.agg #[]),.int .i64 b,.slice Aw L.length cw] dJ L7 dK ?_;intro W6 aC eD eE;have eF:=zt_ aC eI dL;have eG:=zt_ aC eJ dM;have eK:=hhd (zI eH.out aC NR7.out);obtain ⟨aD,aE,aG,aH,aI,aJ⟩:=bk6 eF;obtain ⟨eP,eQ,eR,eT⟩:=bk4 eG;clear dN dO dP dQ dR dS dU dV dW dX dY dZ d5 d6 d7 d8 d9 eB eC;obtain ⟨aK,aM,aN,aQ,aT,aU,aV,aW,aX⟩:=bk9 eD;have eM:=zc_ HR eE;clear aC))
 refine z7 (S:=fun w'=>Below W6.heap.size W6 w') (ds:=[]) (fl 11 0) hmx rfl rfl (Below.refl _ _).drew (fun I=>?_)
 refine px_ 0 rfl ?_
 refine px_ 2 rfl ?_
 refine px_ 5 rfl ?_
 refine tx_ 1 rfl I (by rintro w' hs;obtain ⟨aY,aZ,a7,a8,a9,bA⟩:=bg6 hs aD aE aG aH aI aJ;obtain ⟨bB,bC,bD,bE,bF,bG⟩:=bg6 hs aK aM aN aQ aT aU;obtain ⟨bH,bI,bJ⟩:=bg3 hs aV aW aX;go_simp;with_reducible rfl) ?_
 refine tx_ 3 rfl I (by rintro w' hs;obtain ⟨aY,aZ,a7,a8,a9,bA⟩:=bg6 hs aD aE aG aH aI aJ;obtain ⟨bB,bC,bD,bE,bF,bG⟩:=bg6 hs aK aM aN aQ aT aU;obtain ⟨bH,bI,bJ⟩:=bg3 hs aV aW aX;go_simp;with_reducible rfl) ?_
 refine px_ 4 rfl ?_
 refine tx_ 6 rfl I (by rintro w' hs;obtain ⟨aY,aZ,a7,a8,a9,bA⟩:=bg6 hs aD aE aG aH aI aJ;obtain ⟨bB,bC,bD,bE,bF,bG⟩:=bg6 hs aK aM aN aQ aT aU;obtain ⟨bH,bI,bJ⟩:=bg3 hs aV aW aX;go_simp;with_reducible rfl) ?_
 refine px_ 7 rfl ?_
 refine px_ 8 rfl ?_
 refine ox_ 9 (some 26) rfl rfl fun K hK=>?_
 refine zJ Tryz.func38 (by kernel_rfl) rfl #[.slice A l.length c,.agg (zay p0 p1 p2 0 p4 p5),.int .i64 (lo),.int .i64 hi] (by rfl) rfl rfl (by go_simp;rcases eN.out with ⟨rfl,rfl,rfl⟩ | ⟨rfl,rfl,rfl⟩ <;> exact ⟨rfl,by decide +kernel,by decide +kernel⟩) ?_
 refine (zcl false p0 p1 p2 0 p4 p5 (lo) hi A c l _ (Kd.C_below eM.out I) HC.out q0 q1 HN.out HO.out).mono ?_
 rintro e Wc ⟨rfl,aA⟩
 refine ⟨_,rfl,?_⟩
 refine hK.out _ _ (zb I aA) (fun bK=>?_)
 clear hK K I aA
 have I:=bK
 clear bK
 refine nx_ ?_
 refine px_ 10 rfl ?_
 refine zE (by kernel_rfl) ?_
 have HBc:=zs_ eE I
 have B3c:=za_ eF I
 have B4c:=za_ eG I
 have B7c:=za_ eD I
 have Rwc:=zr_ eK I
 clear I
 go_wp2_with (first
  | ((with_reducible refine zf (N:=31) rfl ?_);refine lr_ 31 rfl 56 B7c Tryz.underlying56 ?_)
  | (go_at_call 39;refine (zlc p0 p1 p2 p4 b p5 Aw L.length cw A c l l1 k h0 h1 _ (Kd.C_below HR.out HBc.out) HC.out HL.out HF.out h2).mono ?_;rintro e We ⟨A2,c2,rfl,ho,hb⟩;have Rze:=hhd (Kd.R_lower ho (zi HBc));have B4e:=za_ B4c hb;have HBe:=zs_ HBc hb;clear ho hb)
  | ((with_reducible refine zo (t:=28) (p:=4) rfl ?_);refine re_ 28 4 rfl #[.slice A2 l1.length c2,.int .i64 1,.bool false,.slice none 0 0] B4e L4 HBe ?_;intro Wf aC B4f HBf;have Rzf:=zg_ Rze B4e aC;clear aC))
 refine bodyPost_ret (zW rfl _ _ g4 28 #[.slice A2 l1.length c2,.int .i64 1,.bool false,.slice none 0 0] (0,0) _ rfl B4f.out Tryz.underlying28 rfl (zV _ _ _ _)) rfl ?_
 exact ⟨A2,c2,rfl,Rzf.out,HBf.out⟩
set_option maxRecDepth 100000 in
set_option maxHeartbeats 4000000 in
theorem zhw (p0 b lo hi:Int) (hbt:sat_Bits.f p0=some (b,0)) (hB3:(b=15∧lo=-32768∧hi=32767)∨(b=31∧lo=-2147483648∧hi=2147483647)) (p1 p4:Int) (p5:Bool) (L:List S38) (A:Option Addr) (c:Nat) (l:List S38) (h0:0≤p4) (h1:p4 < 3) (q0:0≤p1) (q1:p1≤40) (w:World) (hr:Kd.C k38 w A l.length l) (hc:l.length≤c) (hl:l.length≤1000) (hl1:l.length≤1000)
  (hck:plan_Check.f p0 p1 2 0 p4 p5=some 0) (htw:roots_Twiddles.f p1 p0=some (L,0)) (hn:(l.length:Int)=2^p1.toNat) (ho:l.any (zaH (lo) hi)=false) :
  Calls Tryz.prog 16 #[.slice A l.length c,.agg (zay p0 p1 2 0 p4 p5)] w fun e w'=>∃A' c',e=.returned (.tuple #[.agg #[.slice A' l.length c',.int .i64 1,.bool false,.slice none 0 0],.int .i64 0])∧Kd.R k38 38 w' w.heap.size (fun _=>True) (.slice A' l.length c') (l.map (shC 1 p4))∧Below w.heap.size w w':=by
 have hmx:Tryz.prog.follows .mixedOrders=true:=by kernel_rfl
 have HR:=hhd hr
 have HC:=hhd hc
 have HCK:=hhd hck
 have HBI:=hhd hbt
 have eN:=hhd hB3
 have hb0:0≤b:=by omega
 have hb1:(0≤b)=True:=eq_true hb0
 have hb2:(b < 0)=False:=eq_false (by omega)
 have hb3:¬b < 0:=by omega
 have hb4:decide (0≤b)=true:=decide_eq_true hb0
 clear hbt hB3 hb0
 have HTW:=hhd htw
 have HL:=hhd hl1
 have HN:=hhd hn
 have HO:=hhd ho
 have eO:=hhd (Below.refl w.heap.size w)
 clear hr hc hl hl1 hck htw hn ho
 unfold zay
 go_enter Tryz.func16,Tryz.ntmps16
 go_wp2_with (first
  | ((with_reducible refine zf (N:=3) rfl ?_);refine bb_ 3 rfl eO #[.int .i64 p0,.int .i64 p1,.int .i64 2,.int .i64 0,.int .i64 p4,.bool p5] 24 ?_;intro g3 W1 hg aA L3 bL bT;have eU:=zc_ HR bT;obtain ⟨bU,bV,bW,bX,bY,bZ⟩:=bk6 bL;clear aA hg)
  | ((with_reducible refine zf (N:=4) rfl ?_);refine bb_ 4 rfl bT #[.slice none 0 0,.int .i64 0,.bool false,.slice none 0 0] 28 ?_;intro g4 W2 hg aA L4 b6 b7;have bM:=za_ bL aA;have eV:=zc_ HR b7;obtain ⟨b8,b9,cA,cB,cC,cD⟩:=bk6 bM;clear bU bV bW bX bY bZ;obtain ⟨cH,cI,cJ,cK⟩:=bk4 b6;have eW:=ne_ bL hg;clear aA hg)
  | ((with_reducible refine zf (N:=9) rfl ?_);refine lr_ 9 rfl 24 bM Tryz.underlying24 ?_)
  | (go_at_call 37;(with_reducible refine (plan_Check.calls p0 p1 2 0 p4 p5 0 _ HCK.out).mono ?_);rintro e W3 ⟨rfl,hb⟩;have bP:=zs_ b7 hb;have bQ:=za_ bM hb;have cL:=za_ b6 hb;have eX:=zc_ HR bP;obtain ⟨cM,cN,cO,cP,cQ,cR⟩:=bk6 bQ;obtain ⟨cS,cT,cU,cV⟩:=bk4 cL;clear b8 b9 cA cB cC cD cH cI cJ cK;clear hb)
  | ((with_reducible refine zf (N:=15) rfl ?_);refine lr_ 15 rfl 24 bQ Tryz.underlying24 ?_)
  | (go_at_call 19;refine (ze0 p0 p1 2 p4 b p5 L HBI.out HTW.out _).mono ?_;rintro e W4 ⟨Aw,cw,rfl,ho,hb⟩;have cW:=hhd (Kd.R_lower ho (zi bP));have cX:=zs_ bP hb;have bR:=za_ bQ hb;have bS:=za_ cL hb;have eY:=zc_ HR cX;obtain ⟨cY,cZ,dB,dC,dD,dE⟩:=bk6 bR;obtain ⟨dF,dG,dH,dI⟩:=bk4 bS;clear cM cN cO cP cQ cR cS cT cU cV;clear hb ho)
  | ((with_reducible refine zf (N:=7) rfl ?_);refine bb_ 7 rfl cX #[.int .i64 0,.int .i64 0,.int .i64 0,.int .i64 0,.int .i64 0,.bool false,.nilIface,.int .i64 0,.slice none 0 0] 56 ?_;intro g7 W5 hg aA L7 dJ dK;have dL:=za_ bR aA;have dM:=za_ bS aA;have eH:=zr_ cW aA;have eZ:=zc_ HR dK;obtain ⟨dN,dO,dP,dQ,dR,dS⟩:=bk6 dL;obtain ⟨dU,dV,dW,dX⟩:=bk4 dM;clear cY cZ dB dC dD dE dF dG dH dI;obtain ⟨dY,dZ,d5,d6,d7,d8,d9,eB,eC⟩:=bk9 dJ;have eI:=ne_ bR hg;have eJ:=ne_ bS hg;have NR7:=hhd (show some g7≠_ from by rw [hg];exact Kd.R_ne_new cW.out 0);clear aA hg)
  | ((with_reducible refine zo (t:=56) (p:=7) rfl ?_);refine re_ 56 7 rfl #[.int .i64 p0,.int .i64 p1,.int .i64 2,.int .i64 0,.int .i64 p4,.bool p5,.iface 97 (.agg #[]),.int .i64 b,.slice Aw L.length cw] dJ L7 dK ?_;intro W6 aC eD eE;have eF:=zt_ aC eI dL;have eG:=zt_ aC eJ dM;have eK:=hhd (zI eH.out aC NR7.out);obtain ⟨aD,aE,aG,aH,aI,aJ⟩:=bk6 eF;obtain ⟨eP,eQ,eR,eT⟩:=bk4 eG;clear dN dO dP dQ dR dS dU dV dW dX dY dZ d5 d6 d7 d8 d9 eB eC;obtain ⟨aK,aM,aN,aQ,aT,aU,aV,aW,aX⟩:=bk9 eD;have eM:=zc_ HR eE;clear aC))
 refine z7 (S:=fun w'=>Below W6.heap.size W6 w') (ds:=[]) (fl 11 0) hmx rfl rfl (Below.refl _ _).drew (fun I=>?_)
 refine px_ 0 rfl ?_
 refine px_ 2 rfl ?_
 refine px_ 5 rfl ?_
 refine tx_ 1 rfl I (by rintro w' hs;obtain ⟨aY,aZ,a7,a8,a9,bA⟩:=bg6 hs aD aE aG aH aI aJ;obtain ⟨bB,bC,bD,bE,bF,bG⟩:=bg6 hs aK aM aN aQ aT aU;obtain ⟨bH,bI,bJ⟩:=bg3 hs aV aW aX;go_simp;with_reducible rfl) ?_
 refine tx_ 3 rfl I (by rintro w' hs;obtain ⟨aY,aZ,a7,a8,a9,bA⟩:=bg6 hs aD aE aG aH aI aJ;obtain ⟨bB,bC,bD,bE,bF,bG⟩:=bg6 hs aK aM aN aQ aT aU;obtain ⟨bH,bI,bJ⟩:=bg3 hs aV aW aX;go_simp;with_reducible rfl) ?_
 refine px_ 4 rfl ?_
 refine tx_ 6 rfl I (by rintro w' hs;obtain ⟨aY,aZ,a7,a8,a9,bA⟩:=bg6 hs aD aE aG aH aI aJ;obtain ⟨bB,bC,bD,bE,bF,bG⟩:=bg6 hs aK aM aN aQ aT aU;obtain ⟨bH,bI,bJ⟩:=bg3 hs aV aW aX;go_simp;with_reducible rfl) ?_
 refine px_ 7 rfl ?_
 refine px_ 8 rfl ?_
 refine ox_ 9 (some 26) rfl rfl fun K hK=>?_
 refine zJ Tryz.func38 (by kernel_rfl) rfl #[.slice A l.length c,.agg (zay p0 p1 2 0 p4 p5),.int .i64 (lo),.int .i64 hi] (by rfl) rfl rfl (by go_simp;rcases eN.out with ⟨rfl,rfl,rfl⟩ | ⟨rfl,rfl,rfl⟩ <;> exact ⟨rfl,by decide +kernel,by decide +kernel⟩) ?_
 refine (zcl false p0 p1 2 0 p4 p5 (lo) hi A c l _ (Kd.C_below eM.out I) HC.out q0 q1 HN.out HO.out).mono ?_
 rintro e Wc ⟨rfl,aA⟩
 refine ⟨_,rfl,?_⟩
 refine hK.out _ _ (zb I aA) (fun bK=>?_)
 clear hK K I aA
 have I:=bK
 clear bK
 refine nx_ ?_
 refine px_ 10 rfl ?_
 refine zE (by kernel_rfl) ?_
 have HBc:=zs_ eE I
 have B3c:=za_ eF I
 have B4c:=za_ eG I
 have B7c:=za_ eD I
 have Rwc:=zr_ eK I
 clear I
 go_wp2_with (first
  | ((with_reducible refine zf (N:=31) rfl ?_);refine lr_ 31 rfl 56 B7c Tryz.underlying56 ?_)
  | (go_at_call 39;refine (zlb p0 p1 p4 b p5 Aw L.length cw A c l h0 h1 _ (Kd.C_below HR.out HBc.out) HC.out HL.out).mono ?_;rintro e We ⟨A2,c2,rfl,ho,hb⟩;have Rze:=hhd (Kd.R_lower ho (zi HBc));have B4e:=za_ B4c hb;have HBe:=zs_ HBc hb;clear ho hb)
  | ((with_reducible refine zo (t:=28) (p:=4) rfl ?_);refine re_ 28 4 rfl #[.slice A2 l.length c2,.int .i64 1,.bool false,.slice none 0 0] B4e L4 HBe ?_;intro Wf aC B4f HBf;have Rzf:=zg_ Rze B4e aC;clear aC))
 refine bodyPost_ret (zW rfl _ _ g4 28 #[.slice A2 l.length c2,.int .i64 1,.bool false,.slice none 0 0] (0,0) _ rfl B4f.out Tryz.underlying28 rfl (zV _ _ _ _)) rfl ?_
 exact ⟨A2,c2,rfl,Rzf.out,HBf.out⟩
set_option maxRecDepth 100000 in
set_option maxHeartbeats 4000000 in
theorem zkc (p1 p2 p4:Int) (p5:Bool) (L:List S38) (A:Option Addr) (c:Nat) (l l1:List S38) (k:Nat) (h0:0≤p4) (h1:p4 < 3) (q0:0≤p1) (q1:p1≤40) (w:World) (hr:Kd.C k38 w A l.length l) (hc:l.length≤c) (hl:l.length≤1000) (hl1:l1.length≤1000)
  (hck:plan_Check.f 0 p1 p2 2 p4 p5=some 0) (htw:roots_Twiddles.f p1 0=some (L,0)) (hn:(l.length:Int)=2^p1.toNat) (ho:l.any (zaH (-32768) 32767)=false) (hf:flip_Flip.f k l=some (l1,0)) (h2:(p2 != 2)=true) :
  Calls Tryz.prog 16 #[.slice A l.length c,.agg (zay 0 p1 p2 2 p4 p5)] w fun e w'=>∃A' c',e=.returned (.tuple #[.agg #[.slice A' l1.length c',.int .i64 0,.bool false,.slice none 0 0],.int .i64 0])∧Kd.R k38 38 w' w.heap.size (fun _=>True) (.slice A' l1.length c') (l1.map (shC 0 p4))∧Below w.heap.size w w':=by
 have hmx:Tryz.prog.follows .mixedOrders=true:=by kernel_rfl
 have HR:=hhd hr
 have HC:=hhd hc
 have HCK:=hhd hck
 have HBI:=hhd (show sat_Bits.f 0=some (15,0) from rfl)
 have HTW:=hhd htw
 have HL:=hhd hl1
 have HN:=hhd hn
 have HO:=hhd ho
 have HF:=hhd hf
 have eN:=hhd (Below.refl w.heap.size w)
 clear hr hc hl hl1 hck htw hn ho hf
 unfold zay
 go_enter Tryz.func16,Tryz.ntmps16
 go_wp2_with (first
  | ((with_reducible refine zf (N:=3) rfl ?_);refine bb_ 3 rfl eN #[.int .i64 0,.int .i64 p1,.int .i64 p2,.int .i64 2,.int .i64 p4,.bool p5] 24 ?_;intro g3 W1 hg aA L3 bL bT;have eT:=zc_ HR bT;obtain ⟨bU,bV,bW,bX,bY,bZ⟩:=bk6 bL;clear aA hg)
  | ((with_reducible refine zf (N:=4) rfl ?_);refine bb_ 4 rfl bT #[.slice none 0 0,.int .i64 0,.bool false,.slice none 0 0] 28 ?_;intro g4 W2 hg aA L4 b6 b7;have bM:=za_ bL aA;have eU:=zc_ HR b7;obtain ⟨b8,b9,cA,cB,cC,cD⟩:=bk6 bM;clear bU bV bW bX bY bZ;obtain ⟨cH,cI,cJ,cK⟩:=bk4 b6;have eV:=ne_ bL hg;clear aA hg)
  | ((with_reducible refine zf (N:=9) rfl ?_);refine lr_ 9 rfl 24 bM Tryz.underlying24 ?_)
  | (go_at_call 37;(with_reducible refine (plan_Check.calls 0 p1 p2 2 p4 p5 0 _ HCK.out).mono ?_);rintro e W3 ⟨rfl,hb⟩;have bP:=zs_ b7 hb;have bQ:=za_ bM hb;have cL:=za_ b6 hb;have eW:=zc_ HR bP;obtain ⟨cM,cN,cO,cP,cQ,cR⟩:=bk6 bQ;obtain ⟨cS,cT,cU,cV⟩:=bk4 cL;clear b8 b9 cA cB cC cD cH cI cJ cK;clear hb)
  | ((with_reducible refine zf (N:=15) rfl ?_);refine lr_ 15 rfl 24 bQ Tryz.underlying24 ?_)
  | (go_at_call 19;refine (ziA 0 p1 p2 p4 15 p5 L HBI.out HTW.out _).mono ?_;rintro e W4 ⟨Aw,cw,rfl,ho,hb⟩;have cW:=hhd (Kd.R_lower ho (zi bP));have cX:=zs_ bP hb;have bR:=za_ bQ hb;have bS:=za_ cL hb;have eX:=zc_ HR cX;obtain ⟨cY,cZ,dB,dC,dD,dE⟩:=bk6 bR;obtain ⟨dF,dG,dH,dI⟩:=bk4 bS;clear cM cN cO cP cQ cR cS cT cU cV;clear hb ho)
  | ((with_reducible refine zf (N:=7) rfl ?_);refine bb_ 7 rfl cX #[.int .i64 0,.int .i64 0,.int .i64 0,.int .i64 0,.int .i64 0,.bool false,.nilIface,.int .i64 0,.slice none 0 0] 56 ?_;intro g7 W5 hg aA L7 dJ dK;have dL:=za_ bR aA;have dM:=za_ bS aA;have eH:=zr_ cW aA;have eY:=zc_ HR dK;obtain ⟨dN,dO,dP,dQ,dR,dS⟩:=bk6 dL;obtain ⟨dU,dV,dW,dX⟩:=bk4 dM;clear cY cZ dB dC dD dE dF dG dH dI;obtain ⟨dY,dZ,d5,d6,d7,d8,d9,eB,eC⟩:=bk9 dJ;have eI:=ne_ bR hg;have eJ:=ne_ bS hg;have NR7:=hhd (show some g7≠_ from by rw [hg];exact Kd.R_ne_new cW.out 0);clear aA hg)
  | ((with_reducible refine zo (t:=56) (p:=7) rfl ?_);refine re_ 56 7 rfl #[.int .i64 0,.int .i64 p1,.int .i64 p2,.int .i64 2,.int .i64 p4,.bool p5,.iface 100 (.agg #[]),.int .i64 15,.slice Aw L.length cw] dJ L7 dK ?_;intro W6 aC eD eE;have eF:=zt_ aC eI dL;have eG:=zt_ aC eJ dM;have eK:=hhd (zI eH.out aC NR7.out);obtain ⟨aD,aE,aG,aH,aI,aJ⟩:=bk6 eF;obtain ⟨eO,eP,eQ,eR⟩:=bk4 eG;clear dN dO dP dQ dR dS dU dV dW dX dY dZ d5 d6 d7 d8 d9 eB eC;obtain ⟨aK,aM,aN,aQ,aT,aU,aV,aW,aX⟩:=bk9 eD;have eM:=zc_ HR eE;clear aC))
 refine z7 (S:=fun w'=>Below W6.heap.size W6 w') (ds:=[]) (fl 11 0) hmx rfl rfl (Below.refl _ _).drew (fun I=>?_)
 refine px_ 0 rfl ?_
 refine px_ 2 rfl ?_
 refine px_ 5 rfl ?_
 refine tx_ 1 rfl I (by rintro w' hs;obtain ⟨aY,aZ,a7,a8,a9,bA⟩:=bg6 hs aD aE aG aH aI aJ;obtain ⟨bB,bC,bD,bE,bF,bG⟩:=bg6 hs aK aM aN aQ aT aU;obtain ⟨bH,bI,bJ⟩:=bg3 hs aV aW aX;go_simp;with_reducible rfl) ?_
 refine tx_ 3 rfl I (by rintro w' hs;obtain ⟨aY,aZ,a7,a8,a9,bA⟩:=bg6 hs aD aE aG aH aI aJ;obtain ⟨bB,bC,bD,bE,bF,bG⟩:=bg6 hs aK aM aN aQ aT aU;obtain ⟨bH,bI,bJ⟩:=bg3 hs aV aW aX;go_simp;with_reducible rfl) ?_
 refine px_ 4 rfl ?_
 refine tx_ 6 rfl I (by rintro w' hs;obtain ⟨aY,aZ,a7,a8,a9,bA⟩:=bg6 hs aD aE aG aH aI aJ;obtain ⟨bB,bC,bD,bE,bF,bG⟩:=bg6 hs aK aM aN aQ aT aU;obtain ⟨bH,bI,bJ⟩:=bg3 hs aV aW aX;go_simp;with_reducible rfl) ?_
 refine px_ 7 rfl ?_
 refine px_ 8 rfl ?_
 refine ox_ 9 (some 26) rfl rfl fun K hK=>?_
 refine zJ Tryz.func38 (by kernel_rfl) rfl #[.slice A l.length c,.agg (zay 0 p1 p2 2 p4 p5),.int .i64 (-32768),.int .i64 32767] (by rfl) rfl rfl (by go_simp;exact ⟨rfl,by unfold wrap64;omega,by unfold wrap64;omega⟩) ?_
 refine (zcl false 0 p1 p2 2 p4 p5 (-32768) 32767 A c l _ (Kd.C_below eM.out I) HC.out q0 q1 HN.out HO.out).mono ?_
 rintro e Wc ⟨rfl,aA⟩
 refine ⟨_,rfl,?_⟩
 refine hK.out _ _ (zb I aA) (fun bK=>?_)
 clear hK K I aA
 have I:=bK
 clear bK
 refine nx_ ?_
 refine px_ 10 rfl ?_
 refine zE (by kernel_rfl) ?_
 have HBc:=zs_ eE I
 have B3c:=za_ eF I
 have B4c:=za_ eG I
 have B7c:=za_ eD I
 have Rwc:=zr_ eK I
 clear I
 go_wp2_with (first
  | ((with_reducible refine zf (N:=31) rfl ?_);refine lr_ 31 rfl 56 B7c Tryz.underlying56 ?_)
  | (go_at_call 39;refine (zld 0 p1 p2 p4 15 p5 Aw L.length cw A c l l1 k h0 h1 _ (Kd.C_below HR.out HBc.out) HC.out HL.out HF.out h2).mono ?_;rintro e We ⟨A2,c2,rfl,ho,hb⟩;have Rze:=hhd (Kd.R_lower ho (zi HBc));have B4e:=za_ B4c hb;have HBe:=zs_ HBc hb;clear ho hb)
  | ((with_reducible refine zo (t:=28) (p:=4) rfl ?_);refine re_ 28 4 rfl #[.slice A2 l1.length c2,.int .i64 0,.bool false,.slice none 0 0] B4e L4 HBe ?_;intro Wf aC B4f HBf;have Rzf:=zg_ Rze B4e aC;clear aC))
 refine bodyPost_ret (zW rfl _ _ g4 28 #[.slice A2 l1.length c2,.int .i64 0,.bool false,.slice none 0 0] (0,0) _ rfl B4f.out Tryz.underlying28 rfl (zV _ _ _ _)) rfl ?_
 exact ⟨A2,c2,rfl,Rzf.out,HBf.out⟩
end Go.Proofs.YteieahbadclppaaGreat.P

