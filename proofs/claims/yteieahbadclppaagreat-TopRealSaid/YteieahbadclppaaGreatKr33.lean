/- Part 33 of 36 of the proof: the texts that it reaches, one behind the other. No condition. -/
import Derived.Test.YteieahbadclppaaGreatKr32
import Derived.BigRegion
import Derived.RegionTactic
import Derived.WideKeyRuns
import Derived.Deep.RegionWith
import Derived.Outline
namespace Go.Proofs.YteieahbadclppaaGreat.P
open Go.RowKit Go.Proofs.YteieahbadclppaaGreatW.PrintWords Go.Proofs.YteieahbadclppaaGreatW.PrintLast Go.Proofs.YteieahbadclppaaGreatW.PrintMore
attribute [local go_sem] zF zG zK zL
set_option linter.unusedVariables false
set_option linter.unusedSimpArgs false
set_option maxRecDepth 100000 in
set_option maxHeartbeats 4000000 in
theorem zh3 (p0 b lo hi:Int) (hbt:sat_Bits.f p0=some (b,0)) (hB3:(b=15∧lo=-32768∧hi=32767)∨(b=31∧lo=-2147483648∧hi=2147483647)) (p1 p2 p4 bad:Int) (p5:Bool) (L:List S38) (A:Option Addr) (c:Nat) (l:List S38) (w:World) (hr:Kd.C k38 w A l.length l)
  (hck:plan_Check.f p0 p1 p2 0 p4 p5=some 0) (htw:roots_Twiddles.f p1 p0=some (L,0)) (hb:bad≠0)
  (hmy:∀W:World,Kd.C k38 W A l.length l→Calls Tryz.prog 38 #[.slice A l.length c,.agg (zay p0 p1 p2 0 p4 p5),.int .i64 (lo),.int .i64 hi] W fun e w'=>e=.returned (.int .i64 bad)∧Below W.heap.size W w') :
  Calls Tryz.prog 16 #[.slice A l.length c,.agg (zay p0 p1 p2 0 p4 p5)] w fun e w'=>e=.returned (.tuple #[.agg #[.slice none 0 0,.int .i64 0,.bool false,.slice none 0 0],.int .i64 bad])∧Below w.heap.size w w':=by
 have hmx:Tryz.prog.follows .mixedOrders=true:=by kernel_rfl
 have HR:=hhd hr
 have HCK:=hhd hck
 have HBI:=hhd hbt
 have eM:=hhd hB3
 have hb0:0≤b:=by omega
 have hb1:(0≤b)=True:=eq_true hb0
 have hb2:(b < 0)=False:=eq_false (by omega)
 have hb3:¬b < 0:=by omega
 have hb4:decide (0≤b)=true:=decide_eq_true hb0
 clear hbt hB3 hb0
 have HTW:=hhd htw
 have HMY:=hhd hmy
 have eN:=hhd (Below.refl w.heap.size w)
 have hb1:(bad == 0)=false:=by simpa using hb
 have hb2:(bad=0)=False:=eq_false hb
 clear hr hck htw hmy
 unfold zay
 go_enter Tryz.func16,Tryz.ntmps16
 go_wp2_with (first
  | ((with_reducible refine zf (N:=3) rfl ?_);refine bb_ 3 rfl eN #[.int .i64 p0,.int .i64 p1,.int .i64 p2,.int .i64 0,.int .i64 p4,.bool p5] 24 ?_;intro g3 W1 hg aA L3 bL bT;have eT:=zc_ HR bT;obtain ⟨bU,bV,bW,bX,bY,bZ⟩:=bk6 bL;clear aA hg)
  | ((with_reducible refine zf (N:=4) rfl ?_);refine bb_ 4 rfl bT #[.slice none 0 0,.int .i64 0,.bool false,.slice none 0 0] 28 ?_;intro g4 W2 hg aA L4 b6 b7;have bM:=za_ bL aA;have eU:=zc_ HR b7;obtain ⟨b8,b9,cA,cB,cC,cD⟩:=bk6 bM;clear bU bV bW bX bY bZ;obtain ⟨cH,cI,cJ,cK⟩:=bk4 b6;have eV:=ne_ bL hg;clear aA hg)
  | ((with_reducible refine zf (N:=9) rfl ?_);refine lr_ 9 rfl 24 bM Tryz.underlying24 ?_)
  | (go_at_call 37;(with_reducible refine (plan_Check.calls p0 p1 p2 0 p4 p5 0 _ HCK.out).mono ?_);rintro e W3 ⟨rfl,hb⟩;have bP:=zs_ b7 hb;have bQ:=za_ bM hb;have cL:=za_ b6 hb;have eW:=zc_ HR bP;obtain ⟨cM,cN,cO,cP,cQ,cR⟩:=bk6 bQ;obtain ⟨cS,cT,cU,cV⟩:=bk4 cL;clear b8 b9 cA cB cC cD cH cI cJ cK;clear hb)
  | ((with_reducible refine zf (N:=15) rfl ?_);refine lr_ 15 rfl 24 bQ Tryz.underlying24 ?_)
  | (go_at_call 19;refine (ze0 p0 p1 p2 p4 b p5 L HBI.out HTW.out _).mono ?_;rintro e W4 ⟨Aw,cw,rfl,ho,hb⟩;have cW:=hhd (Kd.R_lower ho (zi bP));have cX:=zs_ bP hb;have bR:=za_ bQ hb;have bS:=za_ cL hb;have eX:=zc_ HR cX;obtain ⟨cY,cZ,dB,dC,dD,dE⟩:=bk6 bR;obtain ⟨dF,dG,dH,dI⟩:=bk4 bS;clear cM cN cO cP cQ cR cS cT cU cV;clear hb ho)
  | ((with_reducible refine zf (N:=7) rfl ?_);refine bb_ 7 rfl cX #[.int .i64 0,.int .i64 0,.int .i64 0,.int .i64 0,.int .i64 0,.bool false,.nilIface,.int .i64 0,.slice none 0 0] 56 ?_;intro g7 W5 hg aA L7 dJ dK;have dL:=za_ bR aA;have dM:=za_ bS aA;have eF:=zr_ cW aA;have eY:=zc_ HR dK;obtain ⟨dN,dO,dP,dQ,dR,dS⟩:=bk6 dL;obtain ⟨dU,dV,dW,dX⟩:=bk4 dM;clear cY cZ dB dC dD dE dF dG dH dI;obtain ⟨dY,dZ,d5,d6,d7,d8,d9,eB,eC⟩:=bk9 dJ;have eG:=ne_ bR hg;have eH:=ne_ bS hg;have NR7:=hhd (show some g7≠_ from by rw [hg];exact Kd.R_ne_new cW.out 0);clear aA hg)
  | ((with_reducible refine zo (t:=56) (p:=7) rfl ?_);refine re_ 56 7 rfl #[.int .i64 p0,.int .i64 p1,.int .i64 p2,.int .i64 0,.int .i64 p4,.bool p5,.iface 97 (.agg #[]),.int .i64 b,.slice Aw L.length cw] dJ L7 dK ?_;intro W6 aC eI eD;have eJ:=zt_ aC eG dL;have eE:=zt_ aC eH dM;have eZ:=hhd (zI eF.out aC NR7.out);obtain ⟨aD,aE,aG,aH,aI,aJ⟩:=bk6 eJ;obtain ⟨eO,eP,eQ,eR⟩:=bk4 eE;clear dN dO dP dQ dR dS dU dV dW dX dY dZ d5 d6 d7 d8 d9 eB eC;obtain ⟨aK,aM,aN,aQ,aT,aU,aV,aW,aX⟩:=bk9 eI;have eK:=zc_ HR eD;clear aC))
 refine z7 (S:=fun w'=>Below W6.heap.size W6 w') (ds:=[]) (fl 11 0) hmx rfl rfl (Below.refl _ _).drew (fun I=>?_)
 refine px_ 0 rfl ?_
 refine px_ 2 rfl ?_
 refine px_ 5 rfl ?_
 refine tx_ 1 rfl I (by rintro w' hs;obtain ⟨aY,aZ,a7,a8,a9,bA⟩:=bg6 hs aD aE aG aH aI aJ;obtain ⟨bB,bC,bD,bE,bF,bG⟩:=bg6 hs aK aM aN aQ aT aU;obtain ⟨bH,bI,bJ⟩:=bg3 hs aV aW aX;go_simp;with_reducible rfl) ?_
 refine tx_ 3 rfl I (by rintro w' hs;obtain ⟨aY,aZ,a7,a8,a9,bA⟩:=bg6 hs aD aE aG aH aI aJ;obtain ⟨bB,bC,bD,bE,bF,bG⟩:=bg6 hs aK aM aN aQ aT aU;obtain ⟨bH,bI,bJ⟩:=bg3 hs aV aW aX;go_simp;with_reducible rfl) ?_
 refine px_ 4 rfl ?_
 refine tx_ 6 rfl I (by rintro w' hs;obtain ⟨aY,aZ,a7,a8,a9,bA⟩:=bg6 hs aD aE aG aH aI aJ;obtain ⟨bB,bC,bD,bE,bF,bG⟩:=bg6 hs aK aM aN aQ aT aU;obtain ⟨bH,bI,bJ⟩:=bg3 hs aV aW aX;go_simp;with_reducible rfl) ?_
 refine px_ 7 rfl ?_
 refine px_ 8 rfl ?_
 refine ox_ 9 (some 26) rfl rfl fun K hK=>?_
 refine zJ Tryz.func38 (by kernel_rfl) rfl #[.slice A l.length c,.agg (zay p0 p1 p2 0 p4 p5),.int .i64 (lo),.int .i64 hi] (by rfl) rfl rfl (by go_simp;rcases eM.out with ⟨rfl,rfl,rfl⟩ | ⟨rfl,rfl,rfl⟩ <;> exact ⟨rfl,by decide +kernel,by decide +kernel⟩) ?_
 refine (HMY.out _ (Kd.C_below eK.out I)).mono ?_
 rintro e Wc ⟨rfl,aA⟩
 refine ⟨_,rfl,?_⟩
 refine hK.out _ _ (zb I aA) (fun bK=>?_)
 clear hK K I aA
 have I:=bK
 clear bK
 refine nx_ ?_
 refine px_ 10 rfl ?_
 refine zE (by kernel_rfl) ?_
 have HBc:=zs_ eD I
 have B4c:=za_ eE I
 clear I
 go_wp2_with ((with_reducible refine zo (t:=28) (p:=4) rfl ?_);refine re_ 28 4 rfl #[.slice none 0 0,.int .i64 0,.bool false,.slice none 0 0] B4c L4 HBc ?_;intro Wf aC B4f HBf;clear aC)
 refine bodyPost_ret (zW rfl _ _ g4 28 #[.slice none 0 0,.int .i64 0,.bool false,.slice none 0 0] (0,0) _ rfl B4f.out Tryz.underlying28 rfl (zV _ _ _ _)) rfl ?_
 exact ⟨rfl,HBf.out⟩
end Go.Proofs.YteieahbadclppaaGreat.P

namespace Go.Proofs.YteieahbadclppaaGreat.P
open Go.RowKit Go.Shelf Go.Proofs.YteieahbadclppaaGreatW.PrintWords Go.Proofs.YteieahbadclppaaGreatW.PrintLast Go.Proofs.YteieahbadclppaaGreatW.PrintMore
set_option linter.unusedVariables false
set_option linter.unusedSimpArgs false
theorem zgq (Aw:Option Addr) (cw:Nat) (wl:List S38) (bits mode:Int) (inv:Bool) (hcw:wl.length≤cw) (hwl:wl.length≤64) (hwl0:0 < wl.length) (hw:∀x,x∈wl→inB 536870912 x=true) (hb0:0≤bits) (hb1:bits≤29) (m0:0≤mode) (m1:mode < 3):∀l:Nat,l≤6→zdp Aw cw wl bits mode inv l
 | 0,_=>zlG Aw cw wl bits mode inv
 | 1,_=>zmE Aw cw wl bits mode inv m0 m1
 | l+2,h=>zlK Aw cw wl bits mode inv l (by omega) hcw hwl hwl0 hw hb0 hb1 m0 m1 (zgq Aw cw wl bits mode inv hcw hwl hwl0 hw hb0 hb1 m0 m1 l (by omega)) (zgq Aw cw wl bits mode inv hcw hwl hwl0 hw hb0 hb1 m0 m1 (l+1) (by omega))
theorem zmS:(Tryz.prog.info? 3).map (·.size)=some 1:=by kernel_rfl
theorem zmT (inv:Bool):split_turns.f inv=some (zaV inv):=by cases inv <;> rfl
set_option maxRecDepth 100000 in
set_option maxHeartbeats 4000000 in
theorem zh4 (A:Option Addr) (c:Nat) (l L:List S38) (p0 b b1 mm mode lg:Int) (inv:Bool) (lN:Nat) (w:World) (hr:Kd.C k38 w A l.length l) (hc:l.length≤c) (hll:l.length=2^lN) (hlN:lN≤6) (h1:1≤lN)
  (hlog:flip_Log.f 10 l.length=some (lg,0)) (hbt:sat_Bits.f p0=some (b,0)) (hsh:round_Shift.f 0 0 mode=some (0,0)) (hb10:0≤b1) (hb11:b1≤40) (hb12:wrap64 (b - 1)=b1) (hmm:mm=2^b1.toNat) (hx:∀x,x∈l→inB mm x=true)
  (htw:roots_Twiddles.f lg p0=some (L,0)) (hL:L.length≤64) (hL0:0 < L.length) (hw:∀x,x∈L→inB 536870912 x=true) (hb0:0≤b - 2) (hb1:b - 2≤29) (m0:0≤mode) (m1:mode < 3) (hok:okS L (b - 2) mode inv lN l) :
  Calls Tryz.prog 17 #[.slice A l.length c,.int .i64 p0,.int .i64 mode,.bool inv] w fun e w'=>∃A' c',e=.returned (.tuple #[.slice A' (2^lN) c',.int .i64 0])∧Kd.R k38 38 w' w.heap.size (fun _=>True) (.slice A' (2^lN) c') (zaq L (b - 2) mode inv lN l)∧Below w.heap.size w w':=by
 have hmx:Tryz.prog.follows .mixedOrders=true:=by kernel_rfl
 have HR:=hhd hr
 have HC:=hhd hc
 have HLL:=hhd hll
 have HLG:=hhd hlN
 have H1:=hhd h1
 have HLOG:=hhd hlog
 have HBT:=hhd hbt
 have HSH:=hhd hsh
 have HX:=hhd hx
 have HTW:=hhd htw
 have HLN:=hhd (And.intro hL hL0)
 have HWI:=hhd hw
 have HM:=hhd (And.intro hb0 (And.intro hb1 (And.intro m0 m1)))
 have HOK:=hhd hok
 have bC:=hhd (Below.refl w.heap.size w)
 have hs2:wrap64 (b - 2)=b - 2:=zv (by omega) (by omega)
 clear hr hc hll hlN h1 hlog hbt hsh hx htw hL hL0 hw hb0 hb1 m0 m1 hok
 go_enter Tryz.func17,Tryz.ntmps17
 go_wp2_with (first
  | (go_at_call 40;(with_reducible refine (flip_Log.calls 10 _ _ _ _ HLOG.out).mono ?_);rintro e W1 ⟨rfl,hd⟩;have hb:=hd.below;clear hd;have aT:=zs_ bC hb;have bE:=zc_ HR aT;clear hb)
  | (go_at_call 41;(with_reducible refine (sat_Bits.calls p0 b 0 _ HBT.out).mono ?_);rintro e W2 ⟨rfl,hd⟩;have hb:=hd.below;clear hd;have aU:=zs_ aT hb;have bF:=zc_ HR aU;clear hb)
  | ((with_reducible refine zf (N:=12) rfl ?_);refine bb_ 12 rfl aU #[.int .i64 0] 3 ?_;intro g12 W3 hg aA bD aG aV;have bG:=zc_ HR aV;have aJ:=bk1 aG;clear aA hg)
  | ((with_reducible refine zo (t:=3) (p:=12) rfl ?_);refine zee rfl rfl 3 _ _ rfl g12 (.int .i64 b) rfl rfl 3 _ aG.out zmS rfl rfl ?_;intro W4 hq a9 aW;have aH:=hhd hq;have aX:=hhd (aW _ _ bD aV.out);clear aJ;have bH:=zc_ HR aX;have aK:=bk1 aH;clear hq a9 aW)
  | (go_at_call 42;(with_reducible refine (round_Shift.calls 0 0 mode 0 0 _ HSH.out).mono ?_);rintro e W5 ⟨rfl,hb⟩;have aY:=zs_ aX hb;have aC:=za_ aH hb;have bA:=zc_ HR aY;have aM:=bk1 aC;clear aK;clear hb)
  | (go_at_call 43;( refine (zhh A c l g12 b b1 mm hb10 hb11 hb12 hmm _ bA.out HC.out aC.out HX.out).mono ?_);rintro e W6 ⟨rfl,hb⟩;have aZ:=zs_ aY hb;have aI:=za_ aC hb;have bI:=zc_ HR aZ;have aN:=bk1 aI;clear aM;clear hb)
  | (go_at_call 46;refine (roots_Twiddles.calls lg p0 L 0 _ HTW.out).mono ?_;rintro e W7 ⟨vt,rfl,ho,hb⟩;obtain ⟨Aw,cw,ev,hcw,hCw⟩:=Kd.R_reads ho;subst ev;have CW:=hhd hCw;have HCW:=hhd hcw;have aE:=zs_ aZ hb;have a7:=za_ aI hb;have bB:=zc_ HR aE;have aQ:=bk1 a7;clear aN;clear hb ho hCw hcw))
 refine z7 (S:=fun w'=>Below W7.heap.size W7 w') (ds:=[8]) (fl 11 0) hmx rfl rfl (Below.refl _ _).drew (fun I=>?_)
 refine px_ 0 rfl ?_
 refine px_ 3 rfl ?_
 refine px_ 4 rfl ?_
 refine px_ 7 rfl ?_
 refine tx_ 1 rfl I (by rintro w' hs;have a8:=bg hs aQ;go_simp;with_reducible rfl) ?_
 refine px_ 2 rfl ?_
 refine ox_ 5 (some 56) rfl rfl fun K hK=>?_
 refine zJ Tryz.func47 (by kernel_rfl) rfl #[.bool inv] (by rfl) rfl rfl (by go_simp) ?_
 refine (split_turns.calls inv (zaV inv) _ (zmT inv)).mono ?_
 rintro e Wc ⟨rfl,hd⟩
 have aA:=hd.below
 clear hd
 refine ⟨_,rfl,?_⟩
 refine hK.out _ _ (zb I aA) (fun aD=>?_)
 clear hK K I aA
 have I:=aD
 clear aD
 refine nx_ ?_
 refine px_ 6 rfl ?_
 refine lx_ 8 (some 59) rfl rfl fun K hK=>?_
 refine zJ Tryz.func48 (by kernel_rfl) rfl #[.agg #[.slice Aw L.length cw,.int .i64 (b - 2),.int .i64 mode,.int .i64 (zaV inv)],.slice A l.length c] (by rfl) rfl rfl (by go_simp) ?_
 refine (zgq Aw cw L (b - 2) mode inv HCW.out HLN.out.1 HLN.out.2 HWI.out HM.out.1 HM.out.2.1 HM.out.2.2.1 HM.out.2.2.2 lN HLG.out l A c _ HLL.out HOK.out (Kd.C_below bB.out I) HC.out (Kd.C_below CW.out I)).mono ?_
 rintro e Wd ⟨A',c',rfl,_,_,hR,aA⟩
 refine ⟨_,rfl,?_⟩
 refine hK.out _ _ ?_
 have RD:=hhd (Kd.R_lower (Kd.R_lower (hR H1.out) I.size) (zi aE))
 have HBd:=hhd (zb aE (zb I aA))
 clear hK K I aA hR
 refine nx_ ?_
 refine px_ 9 rfl ?_
 refine px_ 10 rfl ?_
 refine zE (by kernel_rfl) ?_
 go_wp2
 refine bodyPost_ret (zdU rfl _ _ _) rfl ?_
 exact ⟨_,_,rfl,RD.out,HBd.out⟩
end Go.Proofs.YteieahbadclppaaGreat.P

namespace Go.Proofs.YteieahbadclppaaGreat.P
open Go.RowKit Go.Proofs.YteieahbadclppaaGreatW.PrintWords Go.Proofs.YteieahbadclppaaGreatW.PrintLast Go.Proofs.YteieahbadclppaaGreatW.PrintMore
set_option linter.unusedVariables false
set_option linter.unusedSimpArgs false
theorem znD:([0,1].all fun fm=>[2,3,4,5,6].all fun g=>[0,1,2].all fun ker=>[0,1,2].all fun mode=>[true,false].all fun inv=>plan_Check.f (fm:Nat) (g:Nat) (ker:Nat) 0 (mode:Nat) inv == some 0)=true:=by decide +kernel
theorem zd6 {fm g ker mode:Nat} (inv:Bool) (hf:fm < 2) (h2:2≤g) (h6:g≤6) (hk:ker < 3) (hm:mode < 3):plan_Check.f fm g ker 0 mode inv=some 0 :=
 beq_iff_eq.1 (List.all_eq_true.1 (List.all_eq_true.1 (List.all_eq_true.1 (List.all_eq_true.1 (List.all_eq_true.1 znD fm (zbG hf)) g (zb6 h2 h6)) ker (by simp;omega)) mode (by simp;omega)) inv (by cases inv <;> simp))
def ze9 (fm g ker mode:Nat) (inv:Bool) (A:Option Addr) (c:Nat) (l:List S38) (w:World):Prop :=
 Calls Tryz.prog 7 #[.slice A l.length c,.agg (zay fm g ker 0 mode inv)] w fun e w'=>∃A' c' As' m cs',e=.returned (.tuple #[.agg #[.slice A' (2^g) c',.int .i64 (1+g),.bool false,.slice As' m cs'],.int .i64 0])∧Kd.R k38 38 w' w.heap.size (fun _=>True) (.slice A' (2^g) c') (zaU fm g ker inv mode l)∧Below w.heap.size w w'
theorem zh5 {b:Int} {l:List S38} (h:l.any (zaH (-b) (b - 1))=false):∀z,z∈l→-b≤z.f0∧z.f0≤b - 1∧-b≤z.f1∧z.f1≤b - 1:=by
 intro z hz
 have h1:=List.any_eq_false.1 h z hz
 unfold zaH at h1
 simp only [decide_eq_true_eq] at h1
 omega
theorem zev {g:Nat} (x:List S38):(zb7 g x).length=2^g:=by simp [zb7]
theorem zlR {fm g ker:Nat} {inv:Bool} {mode:Int} {x:List S38} {k:Nat} (hk:k < (pcL ker g).length):zcQ fm g ker inv mode x (k+1)=zaf (zad fm g inv ((pcL ker g).getD k (false,0))).1 mode (zad fm g inv ((pcL ker g).getD k (false,0))).2 (zcQ fm g ker inv mode x k):=by
 unfold zcQ goT
 rw [List.take_succ_eq_append_getElem hk,List.map_append,List.foldl_append,List.getD_eq_getElem?_getD,List.getElem?_eq_getElem hk]
 rfl
theorem zl7 (ker g:Nat):∀k,1≤zc8 ker g k∧zc8 ker g k≤1+2*k
 | 0=>by simp [zc8]
 | k+1=>by
  have:=zl7 ker g k
  rw [zc8]
  split <;> omega
theorem zmU {b m:Int} {mode:Nat} (hm:b=2*m) (h0:0≤m) (h1:m≤1073741824) {z:S38} (h:-b≤z.f0∧z.f0≤b - 1∧-b≤z.f1∧z.f1≤b - 1):inB m (shC 1 mode z)=true:=by
 have key:∀x:Int,-b≤x→x≤b - 1→-m≤shV x 1 mode∧shV x 1 mode≤m:=by
  intro x hx0 hx1
  have e:(1:Int).toNat=1:=rfl
  unfold shV
  rw [if_neg (by decide),e,Int.pow_succ,Int.pow_zero,Int.one_mul]
  have w:wrap64 (x / 2+1)=x / 2+1:=zv (by omega) (by omega)
  split
  ·rw [w];omega
  ·omega
 obtain ⟨a1,a2,a3,a4⟩:=h
 have k0:=key _ a1 a2
 have k1:=key _ a3 a4
 exact za3 ⟨k0.2,k1.2,k0.1,k1.1⟩
theorem znE {fm g ker mode:Nat} (inv:Bool) (hf:fm < 2) (h2:2≤g) (h6:g≤6) (hk:ker < 2) (hm:mode < 3) (A:Option Addr) (c:Nat) (l:List S38) (w:World) (hr:Kd.C k38 w A l.length l) (hc:l.length≤c) (hl:l.length=2^g) (ho:l.any (zaH (-(4*2^bN fm)) (4*2^bN fm - 1))=false):ze9 fm g ker mode inv A c l w:=by
 obtain ⟨t1,t2,t3⟩:=za7 hf h2 h6
 obtain ⟨q0,q1⟩:=qN fm
 obtain ⟨l0,l1⟩:=zgY h6
 have hps:=zft inv hf h2 h6 hk hm
 have hck:=zd6 inv hf h2 h6 (show ker < 3 by omega) hm
 have hfl:=zmB h2 h6 l hl
 have hpl:=zfQ h2 h6 hk
 have hsl:(psL ker g).length=(pcL ker g).length:=by simp [psL]
 have hz:=zh5 ho
 have hmost:zak (364*2^bN fm) l:=(ze8 (m:=4*2^bN fm) (by omega) (fun z hz1=>by have:=hz z hz1;exact za3 (by omega))).up (by omega)
 have hat:=fun k=>(zkB inv mode hf h2 h6 hk hl (zeu l) hmost (by decide) k).2
 have hend:zcQ fm g ker inv mode l (psL ker g).length=zaU fm g ker inv mode l:=by
  unfold zcQ zaU zjn zgk
  rw [hsl,List.take_length,if_neg (by omega)]
 have hex:=zno h2 h6 hk
 rw [← hsl] at hex
 have hn:(l.length:Int)=2^((g:Nat):Int).toNat:=by rw [hl,Int.toNat_natCast];exact zcT g
 have hps2:∀k,k < (psL ker g).length→(psL ker g).getD k z59=zji ((pcL ker g).getD k (false,0)):=by
  intro k hk1
  rw [hsl] at hk1
  simp [psL,List.getD_eq_getElem?_getD,hk1]
 have hsays:∀(p0 b:Int),b=(bN fm:Int)+2→∀k,k < (psL ker g).length→zcb (fun Aw cw=>#[.int .i64 p0,.int .i64 g,.int .i64 ker,.int .i64 0,.int .i64 mode,.bool inv,.iface 97 (.agg #[]),.int .i64 b,.slice Aw (twL fm g).length cw]) (twL fm g) (2^g) k (zcQ fm g ker inv mode l k) (zcQ fm g ker inv mode l (k+1)) (zc8 ker g k) (zc8 ker g (k+1)) ((psL ker g).getD k z59):=by
  intro p0 b hb k hk1
  obtain ⟨m1,m2⟩:=hat k
  have hx:=zl7 ker g k
  rw [hps2 k hk1,zlR (by omega),zc8]
  have hpc:=zfu h2 h6 hk ((pcL ker g).getD k (false,0)) (by rw [List.getD_eq_getElem?_getD,List.getElem?_eq_getElem (by omega)];exact List.getElem_mem _)
  generalize (pcL ker g).getD k (false,0)=p at *
  obtain ⟨f,t⟩:=p
  cases f with
  | false=>exact zog p0 g ker mode b _ inv k _ hf h2 h6 hpc hb (by omega) (by omega) (by omega) (by omega) (by omega) m2 m1
  | true=>exact zoh p0 g ker mode b _ inv k _ hf h2 h6 hpc hb (by omega) (by omega) (by omega) (by omega) (by omega) m2 m1
 have hk2:(((ker:Nat):Int) == 2)=false:=by simp;omega
 have hk3:(((ker:Nat):Int) != 2)=true:=by simp;omega
 have hbN:fm=0∨fm=1:=by omega
 unfold ze9
 rcases hbN with rfl | rfl
 ·have h:=zfO 0 15 rfl g ker mode inv (twL 0 g) A c l (2^g) 40 (psL ker g) (zcQ 0 g ker inv mode l) (zc8 ker g) hk2 w hr (by omega) rfl t1 hps
   (fun W hC=>by
    have h:=zhv 0 15 (-32768) 32767 rfl (.inl ⟨rfl,rfl,rfl⟩) g ker mode inv (twL 0 g) A c l (zb7 g l) 80 (by omega) (by omega) (by omega) (by omega) W hC hc (by omega) (by rw [zev];omega) hck t1 hn ho hfl hk3
    rw [zev] at h
    exact h) (hsays 0 15 rfl)
  rw [hend,hex] at h
  refine h.mono ?_
  rintro e w' ⟨A',c',As',cs',rfl,r1,r2⟩
  exact ⟨A',c',As',_,cs',rfl,r1,r2⟩
 ·have h:=zfO 1 31 rfl g ker mode inv (twL 1 g) A c l (2^g) 40 (psL ker g) (zcQ 1 g ker inv mode l) (zc8 ker g) hk2 w hr (by omega) rfl t1 hps
   (fun W hC=>by
    have h:=zhv 1 31 (-2147483648) 2147483647 rfl (.inr ⟨rfl,rfl,rfl⟩) g ker mode inv (twL 1 g) A c l (zb7 g l) 80 (by omega) (by omega) (by omega) (by omega) W hC hc (by omega) (by rw [zev];omega) hck t1 hn ho hfl hk3
    rw [zev] at h
    exact h) (hsays 1 31 rfl)
  rw [hend,hex] at h
  refine h.mono ?_
  rintro e w' ⟨A',c',As',cs',rfl,r1,r2⟩
  exact ⟨A',c',As',_,cs',rfl,r1,r2⟩
theorem znF {fm g mode:Nat} (inv:Bool) (hf:fm < 2) (h2:2≤g) (h6:g≤6) (hm:mode < 3) (A:Option Addr) (c:Nat) (l:List S38) (w:World) (hr:Kd.C k38 w A l.length l) (hc:l.length≤c) (hl:l.length=2^g) (ho:l.any (zaH (-(4*2^bN fm)) (4*2^bN fm - 1))=false):ze9 fm g 2 mode inv A c l w:=by
 obtain ⟨t1,t2,t3⟩:=za7 hf h2 h6
 obtain ⟨q0,q1⟩:=qN fm
 obtain ⟨b0,b1⟩:=zep fm
 obtain ⟨l0,l1⟩:=zgY h6
 have hck:=zd6 inv hf h2 h6 (show 2 < 3 by omega) hm
 have hz:=zh5 ho
 have hmost:zak (364*2^bN fm) l:=(ze8 (m:=4*2^bN fm) (by omega) (fun z hz1=>by have:=hz z hz1;exact za3 (by omega))).up (by omega)
 have hok:=(zgF inv mode hf h2 h6 hl (zeu l) hmost (by decide)).2.2
 have hn:(l.length:Int)=2^((g:Nat):Int).toNat:=by rw [hl,Int.toNat_natCast];exact zcT g
 have hlm:(l.map (shC 1 mode)).length=2^g:=by rw [List.length_map,hl]
 have hhalf:∀x,x∈l.map (shC 1 mode)→inB (2*2^bN fm) x=true:=by
  intro x hx
  obtain ⟨z,hz1,rfl⟩:=List.mem_map.1 hx
  exact zmU (b:=4*2^bN fm) (by omega) (by omega) (by omega) (hz z hz1)
 have hsh:round_Shift.f 0 0 mode=some (0,0):=by
  have h:mode=0∨mode=1∨mode=2:=by omega
  rcases h with rfl | rfl | rfl <;> decide +kernel
 have hpw:(2:Int)*2^bN fm=2^(bN fm+1):=by rw [Int.pow_succ];omega
 have hrun:∀(p0 b:Int),p0=fm→b=(bN fm:Int)+2→sat_Bits.f p0=some (b,0)→∀(W:World) (A':Option Addr) (c':Nat),Kd.C k38 W A' (2^g) (l.map (shC 1 mode))→2^g≤c'→Calls Tryz.prog 17 #[.slice A' (2^g) c',.int .i64 p0,.int .i64 mode,.bool inv] W fun e w'=>∃A2 c2,e=.returned (.tuple #[.slice A2 (2^g) c2,.int .i64 0])∧Kd.R k38 38 w' W.heap.size (fun _=>True) (.slice A2 (2^g) c2) (zaU fm g 2 inv mode l)∧Below W.heap.size W w':=by
  intro p0 b hp0 hb hbt W A' c' hC hc'
  subst hp0
  have e:b - 2=(bN fm:Int):=by omega
  rw [← hlm] at hC hc'
  have h:=zh4 A' c' (l.map (shC 1 mode)) (twL fm g) fm b (b - 1) (2*2^bN fm) mode g inv g W hC hc' hlm h6 (by omega) (by rw [hlm];exact zhE h2 h6) hbt hsh (by omega) (by omega) (zv (by omega) (by omega)) (by rw [hpw];congr 1;omega) hhalf t1 (by omega) (by omega) (ziO hf h2 h6) (by omega) (by omega) (by omega) (by omega) (by rw [e];exact hok)
  rw [hlm,e] at h
  exact h
 have hbN:fm=0∨fm=1:=by omega
 have hw1:wrap64 (1+(g:Int))=1+g:=zv (by omega) (by omega)
 unfold ze9
 rcases hbN with rfl | rfl
 ·have h:=zgB 0 g mode inv A c l (2^g) (l.map (shC 1 mode)) (zaU 0 g 2 inv mode l) w hr
   (fun W hC=>by
    have h:=zhw 0 15 (-32768) 32767 rfl (.inl ⟨rfl,rfl,rfl⟩) g mode inv (twL 0 g) A c l (by omega) (by omega) (by omega) (by omega) W hC hc (by omega) (by omega) hck t1 hn ho
    rw [hl] at h ⊢
    exact h) (hrun 0 15 rfl rfl rfl)
  rw [hw1] at h
  refine h.mono ?_
  rintro e w' ⟨A',c',rfl,r1,r2⟩
  exact ⟨A',c',_,_,_,rfl,r1,r2⟩
 ·have h:=zgB 1 g mode inv A c l (2^g) (l.map (shC 1 mode)) (zaU 1 g 2 inv mode l) w hr
   (fun W hC=>by
    have h:=zhw 1 31 (-2147483648) 2147483647 rfl (.inr ⟨rfl,rfl,rfl⟩) g mode inv (twL 1 g) A c l (by omega) (by omega) (by omega) (by omega) W hC hc (by omega) (by omega) hck t1 hn ho
    rw [hl] at h ⊢
    exact h) (hrun 1 31 rfl rfl rfl)
  rw [hw1] at h
  refine h.mono ?_
  rintro e w' ⟨A',c',rfl,r1,r2⟩
  exact ⟨A',c',_,_,_,rfl,r1,r2⟩
theorem ziP {fm g ker mode:Nat} (inv:Bool) (hf:fm < 2) (h2:2≤g) (h6:g≤6) (hk:ker < 3) (hm:mode < 3) (A:Option Addr) (c:Nat) (l:List S38) (w:World) (hr:Kd.C k38 w A l.length l) (hc:l.length≤c) (hl:l.length=2^g) (ho:l.any (zaH (-(4*2^bN fm)) (4*2^bN fm - 1))=false):ze9 fm g ker mode inv A c l w:=by
 by_cases h:ker=2
 ·subst h
  exact znF inv hf h2 h6 hm A c l w hr hc hl ho
 ·exact znE inv hf h2 h6 (by omega) hm A c l w hr hc hl ho
end Go.Proofs.YteieahbadclppaaGreat.P

namespace Go.Proofs.YteieahbadclppaaGreat.P
open Go.RowKit Go.Proofs.YteieahbadclppaaGreatW.PrintWords Go.Proofs.YteieahbadclppaaGreatW.PrintLast Go.Proofs.YteieahbadclppaaGreatW.PrintMore
attribute [local go_sem] zF zG zK zL zY zZ z9 zaa
set_option linter.unusedVariables false
set_option linter.unusedSimpArgs false
@[reducible] def zcA (a:Int) (p:Bool):Value:=.agg #[.int .i64 a,.bool p]
set_option maxRecDepth 100000 in
theorem ziQ (w:World) (a b:Int) (p q:Bool):(Op.equal 67 (zcA a p) (zcA b q)).run Tryz.prog w=.ok (a == b && (p == q)) w:=by
 show (Op.equalIn (9998+2) 67 _ _).run Tryz.prog w=_
 refine zjG Tryz.underlying67 (by kernel_rfl) ?_
 refine zg5 (by rfl) (by go_simp;rfl) (by go_simp;rfl) (by go_simp) ?_
 exact zg4 (by rfl) (by go_simp;rfl) (by go_simp;rfl) (by go_simp)
set_option maxRecDepth 100000 in
theorem zfz (e:Bool) (w:World) (a:Int) (p:Bool):(Instr.checkKey e 10000 67 (zcA a p)).run Tryz.prog w=.ok () w:=by
 rfl
def zbL:List (Int×Bool×Int)→Nat→List MapEntry
 | [],_=>[]
 | (a,p,v) :: l,n=>⟨zcA a p,.int .i64 v,n⟩ :: zbL l (n+1)
def has (l:List (Int×Bool×Int)) (a:Int) (p:Bool):Option Int:=(l.find? fun x=>x.1 == a && (x.2.1 == p)).map fun x=>x.2.2
theorem zdC (w:World) (a:Int) (p:Bool):∀(l:List (Int×Bool×Int)) (n i:Nat),
  ∃j,(Instr.findAsking 67 (zcA a p) (zbL l n) i).run Tryz.prog w=.ok ((has l a p).map fun v=>(j,.int .i64 v)) w
 | [],n,i=>⟨0,rfl⟩
 | (b,q,v) :: l,n,i=>by
  by_cases h:(a == b && (p == q))=true
  ·refine ⟨i,?_⟩
   have hh:(b == a && (q == p))=true:=by simp only [Bool.and_eq_true,beq_iff_eq] at h ⊢;exact ⟨h.1.symm,h.2.symm⟩
   simp [zbL,Instr.findAsking,ziQ,h,has,hh]
  ·obtain ⟨j,hj⟩:=zdC w a p l (n+1) (i+1)
   have hh:(b == a && (q == p))=false:=by
    rw [Bool.eq_false_iff];intro hc;apply h;simp only [Bool.and_eq_true,beq_iff_eq] at hc ⊢;exact ⟨hc.1.symm,hc.2.symm⟩
   have h':(a == b && (p == q))=false:=by simpa using h
   refine ⟨j,?_⟩
   simp only [zbL,Instr.findAsking]
   simp only [has] at hj ⊢
   rw [List.find?_cons_of_neg (by simpa using hh)]
   simp [ziQ,h',hj]


theorem zeT (a:Int) (p:Bool) (v:Int):∀(l:List (Int×Bool×Int)) (n:Nat),zbL (l++[(a,p,v)]) n=zbL l n++[⟨zcA a p,.int .i64 v,n+l.length⟩]
 | [],n=>rfl
 | (b,q,u) :: l,n=>by simp [zbL,zeT a p v l (n+1),Nat.add_assoc,Nat.add_comm 1]
def za1 (l:List (Int×Bool×Int)):Obj:=.map (zbL l 0).toArray l.length
theorem zmV:(match Tryz.prog.underlying 67 with | some (.array _ _) | some (.struct _)=>true | _=>false)=true:=by rw [Tryz.underlying67]

set_option maxRecDepth 100000 in
theorem zeU (w:World) (x:Value) (es:List MapEntry):(Instr.findKey 67 x es).run Tryz.prog w=(Instr.findAsking 67 x es).run Tryz.prog w:=run_findKey_eq w zmV x es
set_option maxRecDepth 100000 in
theorem zdS {w:World} {b:Nat} {l:List (Int×Bool×Int)} (hb:w.heap[b]?=some (za1 l)) (a:Int) (p c:Bool) :
  (Instr.lookup 64 (.map (some b)) (zcA a p) c).run Tryz.prog w=.ok (if c then .tuple #[.int .i64 ((has l a p).getD 0),.bool (has l a p).isSome] else .int .i64 ((has l a p).getD 0)) w:=by
 obtain ⟨j,hj⟩:=zdC w a p l 0 0
 have hz:(zeroValue 3).run Tryz.prog w=.ok (.int .i64 0) w:=by rfl
 unfold za1 at hb
 simp only [Instr.lookup]
 cases h:has l a p with
 | none =>
  simp only [h] at hj
  cases c <;> simp [run_underlying Tryz.underlying64,MapKept.run_getObj_map hb,zfz,zeU,hj,hz]
 | some v =>
  simp only [h] at hj
  cases c <;> simp [run_underlying Tryz.underlying64,MapKept.run_getObj_map hb,zfz,zeU,hj,hz]

set_option maxRecDepth 100000 in
theorem zf0 {w:World} {b:Nat} {l:List (Int×Bool×Int)} (hb:w.heap[b]?=some (za1 l)) (a:Int) (p:Bool) (v:Int) (hn:has l a p=none) :
  (Instr.mapUpdate 64 (.map (some b)) (zcA a p) (.int .i64 v)).run Tryz.prog w=.ok () { w with heap:=w.heap.setIfInBounds b (za1 (l++[(a,p,v)])) }:=by
 obtain ⟨j,hj⟩:=zdC w a p l 0 0
 rw [hn] at hj
 have hj:(Instr.findAsking 67 (zcA a p) (zbL l 0) 0).run Tryz.prog w=.ok none w:=hj
 have hb':=hb
 unfold za1 at hb
 have he:za1 (l++[(a,p,v)])=.map ((zbL l 0).toArray.push ⟨zcA a p,.int .i64 v,l.length⟩) (l.length+1):=by
  unfold za1
  rw [zeT]
  simp
 simp [Instr.mapUpdate,run_underlying Tryz.underlying64,MapKept.run_getObj_map hb,zfz,zeU,hj,MapKept.run_setObj_map _ hb,he,Result.andThen]

theorem zgr (w:World) (n:Nat) (l:List (Int×Bool×Int)) (a:Int) (p:Bool) (v:Int) (hn:has l a p=none) :
  (Instr.mapUpdate 64 (.map (some w.heap.size)) (zcA a p) (.int .i64 v)).run Tryz.prog ((w.alloc (za1 l)).drewN n)=.ok () ((w.alloc (za1 (l++[(a,p,v)]))).drewN n):=by
 have hb:((w.alloc (za1 l)).drewN n).heap[w.heap.size]?=some (za1 l):=heap_alloc_new w _
 rw [zf0 hb a p v hn]
 simp [World.drewN,World.alloc_eq]
 refine ⟨?_,rfl,rfl⟩
 show (w.heap.push (za1 l)).setIfInBounds w.heap.size (za1 (l++[(a,p,v)]))=w.heap.push (za1 (l++[(a,p,v)]))
 apply Array.ext_getElem?
 intro i
 rw [Array.getElem?_setIfInBounds,Array.getElem?_push,Array.getElem?_push]
 by_cases e:w.heap.size=i
 ·subst e;simp
 ·have e':¬i=w.heap.size:=fun h=>e h.symm
  rw [if_neg e,if_neg e',if_neg e']

def znG (l:List (Int×Bool×Int)):Prop:=∀a p,has l a p=if a=2 then some (if p then 608 else 224) else if a=4 then some (if p then 1632 else 288) else none

theorem zmW {l:List (Int×Bool×Int)} (h2:has l 2 false=some 224∧has l 2 true=some 608∧has l 4 false=some 288∧has l 4 true=some 1632) (hk:∀x∈l,x.1=2∨x.1=4):znG l:=by
 intro a p
 by_cases e2:a=2
 ·subst e2;cases p
  ·exact h2.1
  ·exact h2.2.1
 ·by_cases e4:a=4
  ·subst e4;cases p
   ·exact h2.2.2.1
   ·exact h2.2.2.2
  ·rw [if_neg e2,if_neg e4]
   unfold has
   rw [Option.map_eq_none_iff,List.find?_eq_none]
   intro x hx hc
   simp only [Bool.and_eq_true,beq_iff_eq] at hc
   rcases hk x hx with h | h
   ·exact e2 (hc.1.symm.trans h)
   ·exact e4 (hc.1.symm.trans h)

def zgH (w:World) (e:Ending) (w':World):Prop:=∃l,e=.returned (.map (some w.heap.size))∧znG l∧∃n,w'=(w.alloc (za1 l)).drewN n
theorem zkJ (w:World) (l:List (Int×Bool×Int)) (h2:has l 2 false=some 224∧has l 2 true=some 608∧has l 4 false=some 288∧has l 4 true=some 1632) (hk:∀x∈l,x.1=2∨x.1=4) (e:Ending) (he:e=.returned (.map (some w.heap.size))) :
  zgH w e (w.alloc (za1 l)).drew:=⟨l,he,zmW h2 hk,1,rfl⟩
section
attribute [local go_sem] has
set_option maxHeartbeats 8000000 in
set_option maxRecDepth 100000 in
theorem zbM (w:World):Calls Tryz.prog 23 #[] w (zgH w):=by
 have hmm:∀W:World,(Instr.makeMap 64 none).run Tryz.prog W=.ok (.map (some W.heap.size)) (W.alloc (za1 [])):=fun W=>rfl
 have hup:∀(l:List (Int×Bool×Int)) (a:Int) (p:Bool) (v:Int),has l a p=none→(Instr.mapUpdate 64 (.map (some w.heap.size)) (.agg #[.int .i64 a,.bool p]) (.int .i64 v)).run Tryz.prog ((w.alloc (za1 l)).drew)=.ok () ((w.alloc (za1 (l++[(a,p,v)]))).drew):=fun l a p v h=>zgr w 1 l a p v h
 go_enter Tryz.func23,Tryz.ntmps23
 go_wp2
 go_region
 all_goals
  clear hmm hup
  go_wp2
  go_ret
  exact zkJ _ _ (by decide) (by decide) _ rfl
end


end Go.Proofs.YteieahbadclppaaGreat.P

namespace Go.Proofs.YteieahbadclppaaGreat.P
open Go.RowKit Go.Proofs.YteieahbadclppaaGreatW.PrintWords Go.Proofs.YteieahbadclppaaGreatW.PrintLast Go.Proofs.YteieahbadclppaaGreatW.PrintMore
attribute [local go_sem] zF zG zK zL zY zZ z9 zaa
set_option linter.unusedVariables false
set_option linter.unusedSimpArgs false
def zd7 (k:Int) (p:Bool):Int:=(if k=2 then some (if p then 608 else 224) else if k=4 then some (if p then 1632 else 288) else none:Option Int).getD 0
def za2 (e k:Int) (p:Bool) (s:Nat):Int:=wrap64 ((wrap64 (wrap64 (wrap64 (k*e)+wrap64 (2^s)) - 1)) / 2^s+zd7 k p)
def budget_step.f (a0:Int) (a1:Int) (a2:Int) (a3:Int):Option (Int) :=
 if a2=2 then some (za2 a0 a1 true 0) else if a3=0 then some (za2 a0 a1 false 0) else if a3=1 then some (za2 a0 a1 false 1) else if a3=2 then some (za2 a0 a1 false 2) else if a3=3 then some (za2 a0 a1 false 3) else none
theorem zd8 {a b:Int} (h:a=b):Ending.returned (.int .i64 a)=.returned (.int .i64 b):=by rw [h]
theorem zf1 (w:World):∀(X:Obj) (l:List (Int×Bool×Int)) (n:Nat) (a:Int) (p:Bool),(Instr.lookup 64 (.map (some (w.heap.size+1))) (.agg #[.int .i64 a,.bool p]) false).run Tryz.prog (((w.alloc X).alloc (za1 l)).drewN n)=.ok (.int .i64 ((has l a p).getD 0)) (((w.alloc X).alloc (za1 l)).drewN n):=fun X l n a p=>by
 have h:=zdS (w:=((w.alloc X).alloc (za1 l)).drewN n) (b:=(w.alloc X).heap.size) (heap_alloc_new (w.alloc X) (za1 l)) a p false
 rw [World.size_alloc] at h
 exact h
set_option maxHeartbeats 8000000 in
set_option maxRecDepth 100000 in
theorem zkK (e k s:Int) (w:World):Calls Tryz.prog 24 #[.int .i64 e,.int .i64 k,.int .i64 2,.int .i64 s] w fun e_ w'=>e_=.returned (.int .i64 (za2 e k true 0))∧Below w.heap.size w w':=by
 have hu77:=Tryz.underlying67
 have hlk:=zf1 w
 go_enter Tryz.func24,Tryz.ntmps24
 go_wp2
 go_region_with (go_at_call 23;refine (zbM _).mono ?_;rintro e1 w1 ⟨l,rfl,hs,n,rfl⟩)
 all_goals
  clear hlk
  go_wp2
  go_ret
  refine ⟨zd8 ?_,zc (ze (ze (Below.refl _ _) _) _) _⟩
  rw [hs]
  simp only [IntWalk.i64_left]
  first | rfl | (simp [za2,zd7];done)
set_option maxHeartbeats 8000000 in
set_option maxRecDepth 100000 in
theorem znH (e k sc:Int) (w:World) (h:(sc == 2)=false):Calls Tryz.prog 24 #[.int .i64 e,.int .i64 k,.int .i64 sc,.int .i64 0] w fun e_ w'=>e_=.returned (.int .i64 (za2 e k false 0))∧Below w.heap.size w w':=by
 have hu77:=Tryz.underlying67
 have hlk:=zf1 w
 go_enter Tryz.func24,Tryz.ntmps24
 go_wp2
 go_region_with (go_at_call 23;refine (zbM _).mono ?_;rintro e1 w1 ⟨l,rfl,hs,n,rfl⟩)
 all_goals
  clear hlk
  go_wp2
  go_ret
  refine ⟨zd8 ?_,zc (ze (ze (Below.refl _ _) _) _) _⟩
  rw [hs]
  simp only [IntWalk.i64_left]
  first | rfl | (simp [za2,zd7];done)
set_option maxHeartbeats 8000000 in
set_option maxRecDepth 100000 in
theorem znI (e k sc:Int) (w:World) (h:(sc == 2)=false):Calls Tryz.prog 24 #[.int .i64 e,.int .i64 k,.int .i64 sc,.int .i64 1] w fun e_ w'=>e_=.returned (.int .i64 (za2 e k false 1))∧Below w.heap.size w w':=by
 have hu77:=Tryz.underlying67
 have hlk:=zf1 w
 go_enter Tryz.func24,Tryz.ntmps24
 go_wp2
 go_region_with (go_at_call 23;refine (zbM _).mono ?_;rintro e1 w1 ⟨l,rfl,hs,n,rfl⟩)
 all_goals
  clear hlk
  go_wp2
  go_ret
  refine ⟨zd8 ?_,zc (ze (ze (Below.refl _ _) _) _) _⟩
  rw [hs]
  simp only [IntWalk.i64_left]
  first | rfl | (simp [za2,zd7];done)
set_option maxHeartbeats 8000000 in
set_option maxRecDepth 100000 in
theorem znJ (e k sc:Int) (w:World) (h:(sc == 2)=false):Calls Tryz.prog 24 #[.int .i64 e,.int .i64 k,.int .i64 sc,.int .i64 2] w fun e_ w'=>e_=.returned (.int .i64 (za2 e k false 2))∧Below w.heap.size w w':=by
 have hu77:=Tryz.underlying67
 have hlk:=zf1 w
 go_enter Tryz.func24,Tryz.ntmps24
 go_wp2
 go_region_with (go_at_call 23;refine (zbM _).mono ?_;rintro e1 w1 ⟨l,rfl,hs,n,rfl⟩)
 all_goals
  clear hlk
  go_wp2
  go_ret
  refine ⟨zd8 ?_,zc (ze (ze (Below.refl _ _) _) _) _⟩
  rw [hs]
  simp only [IntWalk.i64_left]
  first | rfl | (simp [za2,zd7];done)
set_option maxHeartbeats 8000000 in
set_option maxRecDepth 100000 in
theorem znK (e k sc:Int) (w:World) (h:(sc == 2)=false):Calls Tryz.prog 24 #[.int .i64 e,.int .i64 k,.int .i64 sc,.int .i64 3] w fun e_ w'=>e_=.returned (.int .i64 (za2 e k false 3))∧Below w.heap.size w w':=by
 have hu77:=Tryz.underlying67
 have hlk:=zf1 w
 go_enter Tryz.func24,Tryz.ntmps24
 go_wp2
 go_region_with (go_at_call 23;refine (zbM _).mono ?_;rintro e1 w1 ⟨l,rfl,hs,n,rfl⟩)
 all_goals
  clear hlk
  go_wp2
  go_ret
  refine ⟨zd8 ?_,zc (ze (ze (Below.refl _ _) _) _) _⟩
  rw [hs]
  simp only [IntWalk.i64_left]
  first | rfl | (simp [za2,zd7];done)
theorem budget_step.calls (a0:Int) (a1:Int) (a2:Int) (a3:Int) (r:Int) (w:World) (h:budget_step.f a0 a1 a2 a3=some r) :
  Calls Tryz.prog 24 #[.int .i64 a0,.int .i64 a1,.int .i64 a2,.int .i64 a3] w fun e w'=>e=.returned (.int .i64 r)∧Below w.heap.size w w':=by
 unfold budget_step.f at h
 by_cases h2:a2=2
 ·rw [if_pos h2] at h;obtain rfl:=Option.some.inj h;subst h2;exact zkK a0 a1 a3 w
 ·rw [if_neg h2] at h
  have hb:(a2 == 2)=false:=beq_eq_false_iff_ne.2 h2
  by_cases s0:a3=0
  ·rw [if_pos s0] at h;obtain rfl:=Option.some.inj h;subst s0;exact znH a0 a1 a2 w hb
  ·rw [if_neg s0] at h
   by_cases s1:a3=1
   ·rw [if_pos s1] at h;obtain rfl:=Option.some.inj h;subst s1;exact znI a0 a1 a2 w hb
   ·rw [if_neg s1] at h
    by_cases s2:a3=2
    ·rw [if_pos s2] at h;obtain rfl:=Option.some.inj h;subst s2;exact znJ a0 a1 a2 w hb
    ·rw [if_neg s2] at h
     by_cases s3:a3=3
     ·rw [if_pos s3] at h;obtain rfl:=Option.some.inj h;subst s3;exact znK a0 a1 a2 w hb
     ·rw [if_neg s3] at h;cases h

end Go.Proofs.YteieahbadclppaaGreat.P

namespace Go.Proofs.YteieahbadclppaaGreat.P
open Go.RowKit Go.Proofs.YteieahbadclppaaGreatW.PrintWords Go.Proofs.YteieahbadclppaaGreatW.PrintLast Go.Proofs.YteieahbadclppaaGreatW.PrintMore
set_option linter.unusedVariables false
set_option linter.unusedSimpArgs false
theorem zl8 {e base:Nat} {ok:Nat→Prop} {w:World} {A:Option Addr} {n c:Nat} {xs:List S59} (h:Kd.R k59 e w base ok (.slice A n c) xs):Kd.C k59 w A xs.length xs:=by
 obtain ⟨A',c',hv,h1,h2⟩:=Kd.R_reads h
 injection hv with e1 e2 e3
 subst e1
 exact h2
set_option maxRecDepth 100000 in
set_option maxHeartbeats 4000000 in
theorem zkL (p0 p1 p2 p4:Int) (p5:Bool) (kp:Nat) (ps:List S59) (E:Nat→Int) (sh:List Int) (A:Option Addr) (c:Nat) (w:World) (hr:Kd.C (Kd.int .i64) w A sh.length sh) (hc:sh.length≤c) (hm:ps.length≤10) (h2:(p2 == 2)=false) (hlen:sh.length=ps.length)
  (hps:plan_Passes.f kp p0 p1 p2 0 p4 p5=some (ps,0)) (hst:budget_Start.f p0 p1 p2 0 p4 p5=some (E 0,0))
  (hgr:∀k:Nat,k < ps.length→0≤rd sh k∧budget_greatest.f p0 p1 p2 0 p4 p5 (ps.getD k z59).f0=some (rd sh k,true)∧budget_step.f (E k) (ps.getD k z59).f0 0 (rd sh k)=some (E (k+1))) :
  Calls Tryz.prog 10 #[.agg #[.int .i64 p0,.int .i64 p1,.int .i64 p2,.int .i64 0,.int .i64 p4,.bool p5],.slice A sh.length c] w fun e w'=>e=.returned (.tuple #[.int .i64 (E ps.length),.int .i64 0])∧Below w.heap.size w w':=by
 have HR:=hhd hr
 have HC:=hhd hc
 have HPS:=hhd hps
 have HST:=hhd hst
 have HGR:=hhd hgr
 have HLN:=hhd hlen
 have h2b:(p2=2)=False:=eq_false (by simpa using h2)
 have hl1:((sh.length:Int) == (ps.length:Int))=true:=by rw [hlen];simp
 have hl2:((sh.length:Int)=(ps.length:Int))=True:=eq_true (by omega)
 have bF:=hhd (Below.refl w.heap.size w)
 clear hr hc hps hst hgr hlen
 go_enter Tryz.func10,Tryz.ntmps10
 go_wp2_with (first
  | ((with_reducible refine zf (N:=2) rfl ?_);refine bb_ 2 rfl bF #[.int .i64 p0,.int .i64 p1,.int .i64 p2,.int .i64 0,.int .i64 p4,.bool p5] 24 ?_;intro g2 W1 hg I L2 aA aC;have bI:=zc_ HR aC;obtain ⟨aH,aI,aJ,aK,aM,aN⟩:=bk6 aA;clear I hg)
  | ((with_reducible refine zf (N:=16) rfl ?_);refine lr_ 16 rfl 24 aA Tryz.underlying24 ?_)
  | (go_at_call 18;(with_reducible refine (plan_Passes.calls kp p0 p1 p2 0 p4 p5 ps 0 _ HPS.out).mono ?_);rintro e W2 ⟨vp,rfl,ho,hb⟩;obtain ⟨Ap,cp,ev⟩:=Kd.R_slice ho;subst ev;have bE:=hhd (Kd.R_lower ho (zi aC));have aQ:=zs_ aC hb;have aD:=za_ aA hb;have bJ:=zc_ HR aQ;obtain ⟨aT,aU,aV,aW,aX,aY⟩:=bk6 aD;clear aH aI aJ aK aM aN;clear hb ho)
  | ((with_reducible refine zf (N:=29) rfl ?_);refine lr_ 29 rfl 24 aD Tryz.underlying24 ?_)
  | (go_at_call 22;(with_reducible refine (budget_Start.calls p0 p1 p2 0 p4 p5 (E 0) 0 _ HST.out).mono ?_);rintro e W3 ⟨rfl,hb⟩;have aE:=zs_ aQ hb;have aG:=za_ aD hb;have aZ:=zr_ bE hb;have bK:=zc_ HR aE;obtain ⟨a7,a8,a9,bA,bB,bC⟩:=bk6 aG;clear aT aU aV aW aX aY;clear hb))
 go_loopw [8,46] (fun s8 s46 wr=>∃k:Nat,k≤ps.length∧s46=.int .i64 k∧s8=.int .i64 (E k)∧wr.heap[g2]?=some (.cells #[.int .i64 p0,.int .i64 p1,.int .i64 p2,.int .i64 0,.int .i64 p4,.bool p5] 24 (0,0))∧Kd.R k59 59 wr w.heap.size (fun _=>True) (.slice Ap ps.length cp) ps∧Below w.heap.size w wr) (fun _ i _=>ps.length - (intOf i).toNat)
 case atStart=>exact ⟨0,by omega,rfl,rfl,aG.out,aZ.out,aE.out⟩
 case round =>
  obtain ⟨k,hk,rfl,rfl,e2,rp,hb⟩:=hrel
  have E2:=hhd e2
  have ERp:=hhd rp
  have HBr:=hhd hb
  clear e2 rp hb aG aZ aE a7 a8 a9 bA bB bC
  by_cases hlt:k < ps.length
  ·obtain ⟨ad,rfl,h0,h1⟩:=zfI (zl8 ERp.out) (k:Int) (by omega) (by omega)
   obtain ⟨ax,rfl,x0⟩:=Kd.at_int HR.out (k:Int) (by omega) (by have:=HLN.out;omega)
   rw [Int.toNat_natCast] at h0 h1 x0
   replace x0:=(HBr.out.cell (World.block_lt_of_cell? w _ x0)).trans x0
   have hx:zb4 ps k=ps.getD k z59:=by unfold zb4;rw [Int.toNat_natCast]
   rw [hx] at h0 h1
   obtain ⟨q0,q1,q2⟩:=HGR.out k hlt
   have Q1:=hhd q1
   have Q2:=hhd q2
   have hkl:((k:Int) < (sh.length:Int))=True:=eq_true (by have:=HLN.out;omega)
   have q3:(rd sh k < 0)=False:=eq_false (by omega)
   have q4:decide (rd sh k < 0)=false:=decide_eq_false (by omega)
   clear q0 q1 q2 hx
   generalize ps.getD k z59=x at *
   generalize rd sh k=s at *
   have I:=ze (Below.refl wr.heap.size wr) (Obj.cells #[Value.int IntKind.i64 x.f0,Value.int IntKind.i64 x.f1] 59)
   have X0:=(I.cell (World.block_lt_of_cell? _ _ x0)).trans x0
   have bD:=za_ E2 I
   have HBa:=zs_ HBr I
   have EA:=hhd (zbb wr (Obj.cells #[Value.int IntKind.i64 x.f0,Value.int IntKind.i64 x.f1] 59))
   clear I
   go_wp2_with (first
    | ((with_reducible refine zf (N:=56) rfl ?_);refine lr_ 56 rfl 24 bD Tryz.underlying24 ?_)
    | (go_at_call 21;refine (budget_greatest.calls p0 p1 p2 0 p4 p5 x.f0 s true _ Q1.out).mono ?_;rintro e Wa ⟨rfl,hb⟩;have HBb:=zs_ HBa hb;have kb:=(za (zd bD hb) 3).trans rfl;have kc:=(za (zd EA hb) 0).trans rfl;have RPb:=hhd (Kd.R_below (Kd.R_below ERp.out (ze (Below.refl _ _) _)) hb);have bG:=za_ bD hb;clear hb x0 X0 h0 h1)
    | (go_at_call 24;refine (budget_step.calls (E k) x.f0 0 s (E (k+1)) _ Q2.out).mono ?_;rintro e Wb ⟨rfl,hb⟩;have HBc:=zs_ HBb hb;have RPc:=zr_ RPb hb;have bH:=za_ bG hb;clear hb))
   exact ⟨⟨k+1,by omega,rfl,rfl,bH.out,RPc.out,HBc.out⟩,by simp [intOf];omega⟩
  ·obtain rfl:k=ps.length:=by omega
   go_wp2
   go_ret2
   exact ⟨rfl,HBr.out⟩
set_option maxRecDepth 100000 in
set_option maxHeartbeats 4000000 in
theorem zeV (p0 p1 p2 p4:Int) (p5:Bool) (kp:Nat) (ps:List S59) (sh:List Int) (w:World) (hm:ps.length≤10) (hlen:sh.length=ps.length)
  (hps:plan_Passes.f kp p0 p1 p2 0 p4 p5=some (ps,0)) (hgr:∀k:Nat,k < ps.length→budget_greatest.f p0 p1 p2 0 p4 p5 (ps.getD k z59).f0=some (rd sh k,true)) :
  Calls Tryz.prog 9 #[.agg #[.int .i64 p0,.int .i64 p1,.int .i64 p2,.int .i64 0,.int .i64 p4,.bool p5]] w fun e w'=>∃v:Value,e=.returned (.tuple #[v,.int .i64 0])∧Kd.R (Kd.int .i64) 3 w' w.heap.size (fun _=>True) v sh∧Below w.heap.size w w':=by
 have HPS:=hhd hps
 have HGR:=hhd hgr
 have HLN:=hhd hlen
 have bA:=hhd (Below.refl w.heap.size w)
 clear hps hgr hlen
 go_enter Tryz.func9,Tryz.ntmps9
 go_wp2_with (first
  | ((with_reducible refine zf (N:=1) rfl ?_);refine bb_ 1 rfl bA #[.int .i64 p0,.int .i64 p1,.int .i64 p2,.int .i64 0,.int .i64 p4,.bool p5] 24 ?_;intro g1 W1 hg I L1 aA aD;obtain ⟨aE,aG,aH,aI,aJ,aK⟩:=bk6 aA;clear I hg)
  | ((with_reducible refine zf (N:=12) rfl ?_);refine lr_ 12 rfl 24 aA Tryz.underlying24 ?_)
  | (go_at_call 18;(with_reducible refine (plan_Passes.calls kp p0 p1 p2 0 p4 p5 ps 0 _ HPS.out).mono ?_);rintro e W2 ⟨vp,rfl,ho,hb⟩;obtain ⟨Ap,cp,ev⟩:=Kd.R_slice ho;subst ev;have aM:=hhd (Kd.R_lower ho (zi aD));have aN:=zs_ aD hb;have aC:=za_ aA hb;obtain ⟨aQ,aT,aU,aV,aW,aX⟩:=bk6 aC;clear aE aG aH aI aJ aK;clear hb ho))
 have aZ:=hhd (Kd.R_nil (Kd.int .i64) 3 W2 w.heap.size (fun _=>True))
 go_loopw [6,21] (fun s6 s21 wr=>∃k:Nat,k≤ps.length∧s21=.int .i64 k∧Kd.R (Kd.int .i64) 3 wr w.heap.size (fun _=>True) s6 (sh.take k)∧wr.heap[g1]?=some (.cells #[.int .i64 p0,.int .i64 p1,.int .i64 p2,.int .i64 0,.int .i64 p4,.bool p5] 24 (0,0))∧Kd.R k59 59 wr w.heap.size (fun _=>True) (.slice Ap ps.length cp) ps∧Below w.heap.size w wr) (fun _ i _=>ps.length - (intOf i).toNat)
 case atStart=>exact ⟨0,by omega,rfl,aZ.out,aC.out,aM.out,aN.out⟩
 case round =>
  obtain ⟨k,hk,rfl,ro,e2,rp,hb⟩:=hrel
  have E2:=hhd e2
  have ERp:=hhd rp
  have ERo:=hhd ro
  have HBr:=hhd hb
  clear e2 rp hb ro aZ aC aM aN aQ aT aU aV aW aX
  by_cases hlt:k < ps.length
  ·obtain ⟨ad,rfl,h0,h1⟩:=zfI (zl8 ERp.out) (k:Int) (by omega) (by omega)
   rw [Int.toNat_natCast] at h0 h1
   have hx:zb4 ps k=ps.getD k z59:=by unfold zb4;rw [Int.toNat_natCast]
   rw [hx] at h0 h1
   have Q1:=hhd (HGR.out k hlt)
   have HT:=hhd (show sh.take (k+1)=sh.take k++[rd sh k] by
    rw [List.take_succ_eq_append_getElem (by have:=HLN.out;omega)]
    unfold rd
    rw [Int.toNat_natCast,List.getD_eq_getElem?_getD,List.getElem?_eq_getElem (by have:=HLN.out;omega)]
    rfl)
   have HL:=hhd (show (sh.take k).length≤1000 by simp;omega)
   clear hx
   generalize ps.getD k z59=x at *
   generalize rd sh k=s at *
   generalize sh.take k=Y at *
   have I:=ze (Below.refl wr.heap.size wr) (Obj.cells #[Value.int IntKind.i64 x.f0,Value.int IntKind.i64 x.f1] 59)
   have a7:=za_ E2 I
   have HBa:=zs_ HBr I
   have ROa:=zr_ ERo I
   have RPa:=zr_ ERp I
   clear I
   go_wp2_with (first
    | ((with_reducible refine zf (N:=26) rfl ?_);refine lr_ 26 rfl 24 a7 Tryz.underlying24 ?_)
    | (go_at_call 21;refine (budget_greatest.calls p0 p1 p2 0 p4 p5 x.f0 s true _ Q1.out).mono ?_;rintro e Wa ⟨rfl,hb⟩;have HBb:=zs_ HBa hb;have RPb:=zr_ RPa hb;have ROb:=zr_ ROa hb;have aY:=za_ a7 hb;clear hb h0 h1)
    | ((with_reducible refine zaw (b:=.append) (xs:=#[.tmp 32,.tmp 34]) rfl ?_);at_builtin;refine Kd.R_append (Kd.int .i64) (w0:=w) w.heap.size rfl (.tmp 32) (.tmp 34) 26 3 (.int .i64 0) 8 rfl Tryz.underlying26 zfG rfl (by decide) (by omega) _ Y s [.int .i64 s] (fun _=>True) (fun _=>False) rfl rfl ?aP (fun _ hk=>hk.elim) ?aF ?aO ?aB ?aS ?aL ?_;(case aP=>exact rfl);(case aB=>exact HBb.out);(case aF=>exact (fun _ _=>trivial));(case aO=>exact ROb.out);(case aS=>exact zi HBb);(case aL=>have:=HL.out;omega);intro v16 bB ho hb hg hat;have a8:=hhd ho;have a9:=hhd hb;have RP16:=hhd (Kd.R_grown2 RPb.out rfl hg (fun k hk=>by obtain ⟨cells,hc⟩:=Kd.R_typed ROb.out k hk;exact Kd.R_ne RPb.out hc (by decide)));have B16:=hhd ((hg.block g1 (zj aY) (Kd.R_ne ROb.out aY.out (by decide))).trans aY.out);clear ho hb hg hat))
   exact ⟨⟨k+1,by omega,rfl,by rw [HT.out];exact a8.out,B16.out,RP16.out,a9.out⟩,by simp [intOf];omega⟩
  ·obtain rfl:k=ps.length:=by omega
   rw [← HLN.out,List.take_length] at ERo
   go_wp2
   go_ret2
   exact ⟨_,rfl,ERo.out,HBr.out⟩
end Go.Proofs.YteieahbadclppaaGreat.P

namespace Go.Proofs.YteieahbadclppaaGreat.P
open Go.RowKit Go.Proofs.YteieahbadclppaaGreatW.PrintWords Go.Proofs.YteieahbadclppaaGreatW.PrintLast Go.Proofs.YteieahbadclppaaGreatW.PrintMore
attribute [local go_sem] zF zG zK zL zY zZ z9 zaa
set_option linter.unusedVariables false
set_option linter.unusedSimpArgs false
theorem zoi:∀(W:World) (l:List (Int×Bool×Int)) (n:Nat) (a:Int) (p:Bool),(Instr.lookup 64 (.map (some W.heap.size)) (.agg #[.int .i64 a,.bool p]) false).run Tryz.prog ((W.alloc (za1 l)).drewN n)=.ok (.int .i64 ((has l a p).getD 0)) ((W.alloc (za1 l)).drewN n):=fun W l n a p =>
 zdS (w:=(W.alloc (za1 l)).drewN n) (b:=W.heap.size) (heap_alloc_new W (za1 l)) a p false
theorem zlS {a b:Int} (h:a=b):Ending.returned (.tuple #[.int .i64 a,.int .i64 0])=.returned (.tuple #[.int .i64 b,.int .i64 0]):=by rw [h]
theorem zjs {W:World} {g:Nat} {cs:Array Value} {t:TypeId} (h:W.heap[g]?=some (.cells cs t (0,0))) (X:Obj) (j:Nat):(W.alloc X).cell? ⟨g,j,none⟩=cs[j]? :=
 (World.cell?_alloc_lt _ _ _ (zj h)).trans (za h j)
set_option maxHeartbeats 8000000 in
set_option maxRecDepth 100000 in
theorem zlT (k:Nat) (a0_0:Int) (a0_1:Int) (a0_2:Int) (a0_3:Int) (a0_4:Int) (a0_5:Bool) (A1:Option Addr) (c1:Nat) (l1:List Int) (w:World) (hr1:Kd.C (Kd.int .i64) w A1 l1.length l1) (hc1:l1.length≤c1)
  (t208:List S59) (t211 t212 t213:Int) (A30:plan_Passes.f k a0_0 a0_1 a0_2 a0_3 a0_4 a0_5=some (t208,t211)) (c4:t211=0) (c5:(l1.length:Int)=(t208.length:Int)) (A60:budget_Start.f a0_0 a0_1 a0_2 a0_3 a0_4 a0_5=some (t212,t213)) (c7:a0_2=2) :
  Calls Tryz.prog 10 #[.agg #[.int .i64 a0_0,.int .i64 a0_1,.int .i64 a0_2,.int .i64 a0_3,.int .i64 a0_4,.bool a0_5],.slice A1 l1.length c1] w fun e w'=>e=.returned (.tuple #[.int .i64 (wrap64 (t212+wrap64 (224*a0_1))),.int .i64 0])∧Below w.heap.size w w':=by
 have hu23:=Tryz.underlying24
 have hu77:=Tryz.underlying67
 have hu34:=Tryz.underlying59
 have HR1:=Aside0.mk hr1
 have HC1:=Aside0.mk hc1
 clear hr1 hc1
 have HB:=Aside0.mk (Below.refl w.heap.size w)
 have A3:=Aside0.mk A30
 clear A30
 have c4b0:(t211 == 0)=true:=beq_iff_eq.mpr c4
 have c4b1:(t211 != 0)=false:=bne_eq_false_iff_eq.mpr c4
 clear c4
 have c5b0:((l1.length:Int) == (t208.length:Int))=true:=beq_iff_eq.mpr c5
 have c5b1:((l1.length:Int) != (t208.length:Int))=false:=bne_eq_false_iff_eq.mpr c5
 have c5b2:(l1.length == t208.length)=true:=by first | simpa using c5 | (simp at c5 ⊢;omega)
 clear c5
 have A6:=Aside0.mk A60
 clear A60
 have c7b0:(a0_2 == 2)=true:=beq_iff_eq.mpr c7
 have c7b1:(a0_2 != 2)=false:=bne_eq_false_iff_eq.mpr c7
 clear c7
 have hlk:=zoi
 go_enter Tryz.func10,Tryz.ntmps10
 go_wp2_with (first | ((with_reducible refine zf (N:=2) rfl ?_);refine ba_ 2 rfl #[.int .i64 a0_0,.int .i64 a0_1,.int .i64 a0_2,.int .i64 a0_3,.int .i64 a0_4,.bool a0_5] 24 ?_;intro gb207 hg w8 aA hb;have n0_:=Aside0.mk (zb (by repeat (first | (with_reducible first | exact HB.out | apply ze | apply zc | apply zg) | exact HB.out)) hb);have n1_:=Aside0.mk (aA);have n2_:=Aside0.mk ((by rw [hg];exact (zi (by repeat (first | (with_reducible first | exact HB.out | apply ze | apply zc | apply zg) | exact HB.out))):w.heap.size≤gb207));have n3_:=Aside0.mk ((by rw [hg];exact (zi (by repeat (first | (with_reducible first | exact HB.out | apply ze | apply zc | apply zg) | exact HB.out))):w.heap.size≤gb207));clear HB;have HB:=n0_;have BK207:=n1_;have GW207:=n2_;have GE207:=n3_;clear n0_ n1_ n2_ n3_;clear hb aA hg;have hcz9_0:w8.cell? ⟨gb207,0,none⟩=some (.int .i64 a0_0):=(za BK207.out 0).trans rfl;have hcz9_1:w8.cell? ⟨gb207,1,none⟩=some (.int .i64 a0_1):=(za BK207.out 1).trans rfl;have hcz9_2:w8.cell? ⟨gb207,2,none⟩=some (.int .i64 a0_2):=(za BK207.out 2).trans rfl;have hcz9_3:w8.cell? ⟨gb207,3,none⟩=some (.int .i64 a0_3):=(za BK207.out 3).trans rfl;have hcz9_4:w8.cell? ⟨gb207,4,none⟩=some (.int .i64 a0_4):=(za BK207.out 4).trans rfl;have hcz9_5:w8.cell? ⟨gb207,5,none⟩=some (.bool a0_5):=(za BK207.out 5).trans rfl;have hfz9_0:=zh BK207.out 0;have hfz9_1:=zh BK207.out 1;have hfz9_2:=zh BK207.out 2;have hfz9_3:=zh BK207.out 3;have hfz9_4:=zh BK207.out 4;have hfz9_5:=zh BK207.out 5) | ((with_reducible refine zy (f:=18) rfl ?_);refine zO (some 17) rfl rfl Tryz.func18 (by kernel_rfl) rfl #[.agg #[.int .i64 a0_0,.int .i64 a0_1,.int .i64 a0_2,.int .i64 a0_3,.int .i64 a0_4,.bool a0_5]] rfl (by (try simp only [List.map_toArray,List.map_cons,List.map_nil]);first | done | rfl | (simp only [List.length_drop,List.length_take];rfl)) ?_;(with_reducible refine (plan_Passes.calls k a0_0 a0_1 a0_2 a0_3 a0_4 a0_5 t208 t211 _ A3.out).mono ?_);rintro e w10 ⟨v209,rfl,ho0,hb⟩;refine ⟨_,rfl,?_⟩;have n0_:=Aside0.mk (Kd.R_lower ho0 (zi (by repeat (first | (with_reducible first | exact HB.out | apply ze | apply zc | apply zg | refine zp ?_ GE207.out) | exact HB.out))));have n1_:=Aside0.mk (zd (g:=gb207) (o:=.cells #[.int .i64 a0_0,.int .i64 a0_1,.int .i64 a0_2,.int .i64 a0_3,.int .i64 a0_4,.bool a0_5] 24 (0,0)) (by (with_reducible repeat (first | refine zn ?_ _ | refine zu ?_ | refine zm ?_ _));exact BK207.out) hb);have n2_:=Aside0.mk (zb (by repeat (first | (with_reducible first | exact HB.out | apply ze | apply zc | apply zg | refine zp ?_ GE207.out) | exact HB.out)) hb);clear BK207;clear HB;have I:=n0_;have BK207:=n1_;have HB:=n2_;clear n0_ n1_ n2_;(try clear hb);(try clear hb2);(try clear hk);(try clear hi);(try clear ho0);obtain ⟨Ao11,co11,eo11⟩:=Kd.R_slice I.out;subst eo11;have hcz12_0:w10.cell? ⟨gb207,0,none⟩=some (.int .i64 a0_0):=(za BK207.out 0).trans rfl;have hcz12_1:w10.cell? ⟨gb207,1,none⟩=some (.int .i64 a0_1):=(za BK207.out 1).trans rfl;have hcz12_2:w10.cell? ⟨gb207,2,none⟩=some (.int .i64 a0_2):=(za BK207.out 2).trans rfl;have hcz12_3:w10.cell? ⟨gb207,3,none⟩=some (.int .i64 a0_3):=(za BK207.out 3).trans rfl;have hcz12_4:w10.cell? ⟨gb207,4,none⟩=some (.int .i64 a0_4):=(za BK207.out 4).trans rfl;have hcz12_5:w10.cell? ⟨gb207,5,none⟩=some (.bool a0_5):=(za BK207.out 5).trans rfl;have hfz12_0:=zh BK207.out 0;have hfz12_1:=zh BK207.out 1;have hfz12_2:=zh BK207.out 2;have hfz12_3:=zh BK207.out 3;have hfz12_4:=zh BK207.out 4;have hfz12_5:=zh BK207.out 5) | ((with_reducible refine zy (f:=22) rfl ?_);refine zO (some 30) rfl rfl Tryz.func22 (by kernel_rfl) rfl #[.agg #[.int .i64 a0_0,.int .i64 a0_1,.int .i64 a0_2,.int .i64 a0_3,.int .i64 a0_4,.bool a0_5]] rfl (by (try simp only [List.map_toArray,List.map_cons,List.map_nil]);first | done | rfl | (simp only [List.length_drop,List.length_take];rfl)) ?_;(with_reducible refine (budget_Start.calls a0_0 a0_1 a0_2 a0_3 a0_4 a0_5 t212 t213 _ A6.out).mono ?_);rintro e w13 ⟨rfl,hb⟩;refine ⟨_,rfl,?_⟩;have n0_:=Aside0.mk (Kd.R_below (by (with_reducible repeat (first | apply Kd.R_alloc | apply Kd.R_drewN | apply Kd.R_drew));exact I.out) hb);have n1_:=Aside0.mk (zd (g:=gb207) (o:=.cells #[.int .i64 a0_0,.int .i64 a0_1,.int .i64 a0_2,.int .i64 a0_3,.int .i64 a0_4,.bool a0_5] 24 (0,0)) (by (with_reducible repeat (first | refine zn ?_ _ | refine zu ?_ | refine zm ?_ _));exact BK207.out) hb);have n2_:=Aside0.mk (zb (by repeat (first | (with_reducible first | exact HB.out | apply ze | apply zc | apply zg | refine zp ?_ GE207.out) | exact HB.out)) hb);clear I;clear BK207;clear HB;have I:=n0_;have BK207:=n1_;have HB:=n2_;clear n0_ n1_ n2_;(try clear hb);(try clear hb2);(try clear hk);(try clear hi);have hcz14_0:w13.cell? ⟨gb207,0,none⟩=some (.int .i64 a0_0):=(za BK207.out 0).trans rfl;have hcz14_1:w13.cell? ⟨gb207,1,none⟩=some (.int .i64 a0_1):=(za BK207.out 1).trans rfl;have hcz14_2:w13.cell? ⟨gb207,2,none⟩=some (.int .i64 a0_2):=(za BK207.out 2).trans rfl;have hcz14_3:w13.cell? ⟨gb207,3,none⟩=some (.int .i64 a0_3):=(za BK207.out 3).trans rfl;have hcz14_4:w13.cell? ⟨gb207,4,none⟩=some (.int .i64 a0_4):=(za BK207.out 4).trans rfl;have hcz14_5:w13.cell? ⟨gb207,5,none⟩=some (.bool a0_5):=(za BK207.out 5).trans rfl;have hfz14_0:=zh BK207.out 0;have hfz14_1:=zh BK207.out 1;have hfz14_2:=zh BK207.out 2;have hfz14_3:=zh BK207.out 3;have hfz14_4:=zh BK207.out 4;have hfz14_5:=zh BK207.out 5))
 have hq:=fun X:Obj=>(zjs BK207.out X 1).trans rfl
 go_region_with (go_at_call 23;refine (zbM _).mono ?_;rintro e1 w1 ⟨l,rfl,hs,n,rfl⟩)
 all_goals
  clear hlk
  go_wp2
  go_ret2
  refine ⟨zlS ?_,zc (ze HB.out _) _⟩
  rw [hs]
  simp only [IntWalk.i64_left]
  rfl
end Go.Proofs.YteieahbadclppaaGreat.P

namespace Go.Proofs.YteieahbadclppaaGreat.P
open Go.RowKit Go.Proofs.YteieahbadclppaaGreatW.PrintWords Go.Proofs.YteieahbadclppaaGreatW.PrintLast Go.Proofs.YteieahbadclppaaGreatW.PrintMore
attribute [local go_sem] zF zG zK zL
set_option linter.unusedVariables false
set_option linter.unusedSimpArgs false
theorem zh6 (a b c:Int):plan_in.f a b c=some (decide (b≤a) && decide (a≤c)):=by
 unfold plan_in.f
 by_cases h:b≤a
 ·rw [if_pos h,decide_eq_true h,Bool.true_and]
 ·rw [if_neg h,decide_eq_false h,Bool.false_and]
theorem zis (p0 p1 p2 p4:Int) (p5:Bool):plan_Check.f p0 p1 p2 0 p4 p5=some 4∨(0≤p0∧p0≤1)∧(2≤p1∧p1≤6)∧(0≤p2∧p2≤2)∧0≤p4∧p4≤2:=by
 unfold plan_Check.f
 rw [zh6,zh6,zh6,zh6,zh6]
 simp only [Option.bind_some,Bool.and_eq_true,decide_eq_true_eq]
 by_cases h0:0≤p0∧p0≤1
 ·rw [if_pos h0]
  by_cases h1:2≤p1∧p1≤6
  ·rw [if_pos h1]
   by_cases h2:0≤p2∧p2≤2
   ·rw [if_pos h2]
    by_cases h4:0≤p4∧p4≤2
    ·exact .inr ⟨h0,h1,h2,h4⟩
    ·left
     rw [if_pos (by decide),if_neg h4]
   ·left;rw [if_neg h2]
  ·left;rw [if_neg h1]
 ·left;rw [if_neg h0]
def zoj (p0 p1 p2 p4:Int) (p5:Bool) (bad:Int) (A:Option Addr) (c:Nat) (l:List S38) (w:World):Prop :=
 Calls Tryz.prog 7 #[.slice A l.length c,.agg (zay p0 p1 p2 0 p4 p5)] w fun e w'=>e=.returned (.tuple #[.agg #[.slice none 0 0,.int .i64 0,.bool false,.slice none 0 0],.int .i64 bad])∧Below w.heap.size w w'
def zaY (ker g:Nat):List Int:=if ker=2 then [] else (pcL ker g).map fun p=>if p.1 then 2 else 1
def zc4 (ker g:Nat):Nat→Int
 | 0=>91
 | k+1=>zc4 ker g k+if ((pcL ker g).getD k (false,0)).1 then 288 else 224
def znL (fm g ker mode:Nat) (inv:Bool):Bool:=(budget_Start.f fm g ker 0 mode inv == some (91,0)) && ((plan_Passes.f 40 fm g 2 0 mode inv).map fun r=>(r.1.length,r.2)) == some (0,0) && (zc4 ker g (pcL ker g).length == zaW g ker) && (List.range (pcL ker g).length).all fun k=>decide (0≤rd (zaY ker g) k) && (budget_greatest.f fm g ker 0 mode inv ((psL ker g).getD k z59).f0 == some (rd (zaY ker g) k,true) && budget_step.f (zc4 ker g k) ((psL ker g).getD k z59).f0 0 (rd (zaY ker g) k) == some (zc4 ker g (k+1)))
theorem zmX:([0,1].all fun fm=>[2,3,4,5,6].all fun g=>[0,1].all fun ker=>[0,1,2].all fun mode=>[true,false].all fun inv=>znL fm g ker mode inv)=true:=by decide +kernel
theorem znM:([0,1].all fun fm=>[2,3,4,5,6].all fun g=>[0,1,2].all fun mode=>[true,false].all fun inv=>budget_Start.f (fm:Nat) (g:Nat) 2 0 (mode:Nat) inv == some (91,0))=true:=by decide +kernel
theorem zf2 {fm g ker mode:Nat} (inv:Bool) (hf:fm < 2) (h2:2≤g) (h6:g≤6) (hk:ker < 2) (hm:mode < 3):budget_Start.f fm g ker 0 mode inv=some (91,0)∧plan_Passes.f 40 fm g 2 0 mode inv=some ([],0)∧zc4 ker g (pcL ker g).length=zaW g ker∧∀k,k < (pcL ker g).length→0≤rd (zaY ker g) k∧budget_greatest.f fm g ker 0 mode inv ((psL ker g).getD k z59).f0=some (rd (zaY ker g) k,true)∧budget_step.f (zc4 ker g k) ((psL ker g).getD k z59).f0 0 (rd (zaY ker g) k)=some (zc4 ker g (k+1)):=by
 have h:=List.all_eq_true.1 (List.all_eq_true.1 (List.all_eq_true.1 (List.all_eq_true.1 (List.all_eq_true.1 zmX fm (zbG hf)) g (zb6 h2 h6)) ker (zbG hk)) mode (by simp;omega)) inv (by cases inv <;> simp)
 unfold znL at h
 rw [Bool.and_eq_true,Bool.and_eq_true,Bool.and_eq_true,beq_iff_eq,beq_iff_eq,beq_iff_eq,List.all_eq_true] at h
 obtain ⟨⟨⟨a1,a2⟩,a3⟩,a4⟩:=h
 refine ⟨a1,?_,a3,fun k hk1=>?_⟩
 ·obtain ⟨⟨x,y⟩,e1,e2⟩:=Option.map_eq_some_iff.1 a2
  simp only [Prod.mk.injEq,List.length_eq_zero_iff] at e2
  rw [e1,e2.1,e2.2]
 ·have h1:=a4 k (List.mem_range.2 hk1)
  simpa only [Bool.and_eq_true,decide_eq_true_eq,beq_iff_eq] using h1
theorem zgI {fm g ker mode:Nat} (inv:Bool) (hf:fm < 2) (h2:2≤g) (h6:g≤6) (hk:ker < 3) (hm:mode < 3) (w:World):Calls Tryz.prog 9 #[.agg #[.int .i64 fm,.int .i64 g,.int .i64 ker,.int .i64 0,.int .i64 mode,.bool inv]] w fun e w'=>∃v:Value,e=.returned (.tuple #[v,.int .i64 0])∧Kd.R (Kd.int .i64) 3 w' w.heap.size (fun _=>True) v (zaY ker g)∧Below w.heap.size w w':=by
 by_cases h:ker=2
 ·subst h
  exact zeV fm g 2 mode inv 40 [] [] w (by simp) rfl (zf2 inv hf h2 h6 (show 0 < 2 by decide) hm).2.1 (fun k hk=>by simp at hk)
 ·have hl:=zfQ h2 h6 (show ker < 2 by omega)
  obtain ⟨b1,b2,b3,b4⟩:=zf2 inv hf h2 h6 (show ker < 2 by omega) hm
  exact zeV fm g ker mode inv 40 (psL ker g) (zaY ker g) w (by simp [psL];omega) (by simp [psL,zaY,h]) (zft inv hf h2 h6 (by omega) hm) (fun k hk1=>(b4 k (by simpa [psL] using hk1)).2.1)
theorem zkM {fm g ker mode:Nat} (inv:Bool) (hf:fm < 2) (h2:2≤g) (h6:g≤6) (hk:ker < 3) (hm:mode < 3) (w:World) (A:Option Addr) (c:Nat) (hr:Kd.C (Kd.int .i64) w A (zaY ker g).length (zaY ker g)) (hc:(zaY ker g).length≤c):Calls Tryz.prog 10 #[.agg #[.int .i64 fm,.int .i64 g,.int .i64 ker,.int .i64 0,.int .i64 mode,.bool inv],.slice A (zaY ker g).length c] w fun e w'=>e=.returned (.tuple #[.int .i64 (zaW g ker),.int .i64 0])∧Below w.heap.size w w':=by
 by_cases h:ker=2
 ·subst h
  have hst:budget_Start.f fm g 2 0 mode inv=some (91,0):=beq_iff_eq.1 (List.all_eq_true.1 (List.all_eq_true.1 (List.all_eq_true.1 (List.all_eq_true.1 znM fm (zbG hf)) g (zb6 h2 h6)) mode (by simp;omega)) inv (by cases inv <;> simp))
  have h1:=zlT 40 fm g 2 0 mode inv A c (zaY 2 g) w hr hc [] 0 91 0 (zf2 inv hf h2 h6 (show 0 < 2 by decide) hm).2.1 rfl rfl hst rfl
  have e:wrap64 (91+wrap64 (224*(g:Int)))=zaW g 2:=by
   rw [zv (x:=224*(g:Int)) (by omega) (by omega),zv (by omega) (by omega)]
   rfl
  rw [e] at h1
  exact h1
 ·have hl:=zfQ h2 h6 (show ker < 2 by omega)
  obtain ⟨b1,b2,b3,b4⟩:=zf2 inv hf h2 h6 (show ker < 2 by omega) hm
  have hpl:(psL ker g).length=(pcL ker g).length:=by simp [psL]
  have h1:=zkL fm g ker mode inv 40 (psL ker g) (zc4 ker g) (zaY ker g) A c w hr hc (by omega) (by simp;omega) (by simp [psL,zaY,h]) (zft inv hf h2 h6 (by omega) hm) b1 (fun k hk1=>b4 k (by omega))
  rw [hpl,b3] at h1
  exact h1
end Go.Proofs.YteieahbadclppaaGreat.P

