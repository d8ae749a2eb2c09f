/- Part 20 of 36 of the proof: the texts that it reaches, one behind the other. No condition. -/
import Derived.Test.YteieahbadclppaaGreatKr19
namespace Go.Proofs.YteieahbadclppaaGreat.P
open Go.RowKit Go.Proofs.YteieahbadclppaaGreatW.PrintWords Go.Proofs.YteieahbadclppaaGreatW.PrintLast Go.Proofs.YteieahbadclppaaGreatW.PrintMore
attribute [local go_sem] zF zG zK zL z9 zaa
set_option linter.unusedVariables false
set_option linter.unusedSimpArgs false
set_option maxRecDepth 100000 in
set_option maxHeartbeats 4000000 in
theorem zmy (A:Option Addr) (c:Nat) (l0 l:List Int) (m:Nat) (p0 p1 p2 p3 p4 bad EU:Int) (p5:Bool) (NU:Nat) (U:List S38) (w:World) (hr:Kd.C (Kd.int .i64) w A l0.length l0) (hc:l0.length≤c) (hm:m=min l0.length 140) (hl:l=l0.take m) (hb:bad≠0) (hNU:NU=0)
  (hbin:∀W:World,Kd.C (Kd.int .i64) W A l.length l→Calls Tryz.prog 14 #[.slice A m c,.agg #[.int .i64 p0,.int .i64 p1,.int .i64 p2,.int .i64 0,.int .i64 p4,.bool p5]] W fun e w'=>∃A' c' As ms cs,e=.returned (.tuple #[.agg #[.slice A' NU c',.int .i64 EU,.bool false,.slice As ms cs],.int .i64 bad])∧Kd.R k38 38 w' W.heap.size (fun _=>True) (.slice A' NU c') U∧Below W.heap.size W w') :
  Calls Tryz.prog 5 #[.slice A l0.length c,.agg #[.int .i64 p0,.int .i64 p1,.int .i64 p2,.int .i64 p3,.int .i64 p4,.bool p5]] w fun e w'=>e=.returned (.bool true)∧Below w.heap.size w w':=by
 subst hNU
 have HBIN:=hhd hbin
 have hb1:(bad == 0)=false:=by simpa using hb
 have hb2:(bad=0)=False:=eq_false hb
 have HC:=hhd hc
 have HM:=hhd hm
 have cN:=hhd (Below.refl w.heap.size w)
 have hml:l.length=m:=by rw [hl,List.length_take];omega
 have HML:=hhd hml
 have HMN:=hhd (show m≤140 by omega)
 have HRL:=hhd (show Kd.C (Kd.int .i64) w A l.length l by have h:=Kd.C_take (m:=m) hr (by omega);rw [← hl] at h;exact h)
 obtain ⟨i06,hi06,_,hsz6,_⟩:=info_parts zfG
 have hmin:(if 140 < (l0.length:Int) then 140 else (l0.length:Int))=(m:Int):=by split <;> omega
 have hcut:=zjA (P:=Tryz.prog) 26 3 .i64 Tryz.underlying26 hi06 A l0.length c (m:Int) (by omega) (by omega) hc
 rw [Int.toNat_natCast] at hcut
 have hqle:((m:Int)≤(l0.length:Int))=True:=eq_true (by omega)
 clear hi06 hsz6 hml hl hr hc hm hbin
 go_enter Tryz.func5,Tryz.ntmps5
 go_wp2_with (first
  | ((with_reducible refine zf (N:=3) rfl ?_);refine bb_ 3 rfl cN #[.int .i64 p0,.int .i64 p1,.int .i64 p2,.int .i64 p3,.int .i64 p4,.bool p5] 24 ?_;intro g3 W1 hg aA L3 aH aI;have cY:=zc_ HRL aI;obtain ⟨aJ,aK,aM,aN,aQ,aT⟩:=bk6 aH;clear aA hg)
  | ((with_reducible refine zo (t:=3) (p:=31) rfl ?_);refine zba rfl rfl 3 _ _ rfl g3 3 (.int .i64 0) rfl rfl 24 _ aH.out (show (3:Nat) < 6 from by decide) zbP rfl rfl #[.int .i64 p0,.int .i64 p1,.int .i64 p2,.int .i64 0,.int .i64 p4,.bool p5] rfl ?_;intro W2 hq I aU;have aC:=hhd hq;have aD:=hhd (aU _ _ L3 aI.out);clear aJ aK aM aN aQ aT;obtain ⟨aV,aW,aX,aY,aZ,a7⟩:=bk6 aC;have cH:=zc_ HRL aD;clear hq I aU)
  | ((with_reducible refine zf (N:=34) rfl ?_);refine lr_ 34 rfl 24 aC Tryz.underlying24 ?_)
  | (go_at_call 14;refine (HBIN.out _ cH.out).mono ?_;rintro e W3 ⟨Au,cu,Asu,msu,csu,rfl,ho,hb⟩;have cI:=hhd (Kd.R_lower ho (zi aD));have a8:=zs_ aD hb;have aE:=za_ aC hb;have cZ:=zc_ HRL a8;obtain ⟨a9,bA,bB,bC,bD,bE⟩:=bk6 aE;clear aV aW aX aY aZ a7;clear ho hb)
  | ((with_reducible refine zf (N:=5) rfl ?_);refine bb_ 5 rfl a8 #[.slice none 0 0,.int .i64 0,.bool false,.slice none 0 0] 28 ?_;intro g5 W4 hg aA L5 aG bF;have bG:=za_ aE aA;have cJ:=zr_ cI aA;have dB:=zc_ HRL bF;obtain ⟨bH,bI,bJ,bK,bL,bM⟩:=bk6 bG;clear a9 bA bB bC bD bE;obtain ⟨bP,bQ,bR,bS⟩:=bk4 aG;have cD:=ne_ aE hg;clear aA hg)
  | ((with_reducible refine zo (t:=28) (p:=5) rfl ?_);refine re_ 28 5 rfl #[.slice Au 0 cu,.int .i64 EU,.bool false,.slice Asu msu csu] aG L5 bF ?_;intro W5 I bT bU;have bV:=zt_ I cD bG;have cK:=zg_ cJ aG I;obtain ⟨bW,bX,bY,bZ,b6,b7⟩:=bk6 bV;clear bH bI bJ bK bL bM bP bQ bR bS;obtain ⟨b8,b9,cA,cB⟩:=bk4 bT;have dC:=zc_ HRL bU;clear I)
  | (go_at_call 8;(with_reducible refine (zgy _).mono ?_);rintro e W6 ⟨rfl,hb⟩;have cC:=zs_ bU hb;have cL:=za_ bV hb;have cM:=za_ bT hb;have dD:=zr_ cK hb;have dE:=zc_ HRL cC;obtain ⟨cO,cP,cQ,cR,cS,cT⟩:=bk6 cL;obtain ⟨cU,cV,cW,cX⟩:=bk4 cM;clear bW bX bY bZ b6 b7 b8 b9 cA cB;clear hb))
 go_ret
 exact ⟨rfl,cC.out⟩
theorem zoD (a b c d e:Int) (f:Bool):(#[.int .i64 a,.int .i64 b,.int .i64 c,.int .i64 d,.int .i64 e,.bool f]:Array Value).all (·.oneCell')=true:=by simp [Value.oneCell']
theorem zkh (l:List Int) (k:Nat) (h:k < l.length):zac (l.take (k+1))=zac (l.take k)++[⟨rd l k,0⟩]:=by
 unfold zac rd
 rw [List.take_succ_eq_append_getElem h,List.map_append,Int.toNat_natCast,List.getD_eq_getElem?_getD,List.getElem?_eq_getElem h]
 rfl
def apV (a b ex:Int):Int:=wrap64 (wrap64 (a*2^min (ex+8).toNat 64) - wrap64 (b*2^min (ex+8).toNat 64))
def ApB (BD v:Int):Prop:=v≤BD∧wrap64 (-v)≤BD
set_option maxRecDepth 100000 in
set_option maxHeartbeats 4000000 in
theorem zlq (A:Option Addr) (c:Nat) (l0 l:List Int) (m:Nat) (p0 p1 p2 p3 p4 bad EU L1 L2 BD:Int) (p5:Bool) (NU:Nat) (U Y:List S38) (sh sh2:List Int) (w:World) (hr:Kd.C (Kd.int .i64) w A l0.length l0) (hc:l0.length≤c) (hm:m=min l0.length 140) (hl:l=l0.take m) (hb:bad=0)
  (hNU:wrap64 (wrap64 ((m:Int) / 2)+1)=(NU:Int)) (hUl:U.length=NU) (hYl:Y.length=m) (hNm:NU≤m) (hE0:0≤EU) (hE1:EU≤40)
  (hBD:wrap64 (wrap64 (L1*2^min (EU+2).toNat 64)+wrap64 (L2*2^min (EU+2).toNat 64))=BD)
  (hle:∀k:Nat,k < NU→ApB BD (apV (zk U k).f0 (zk Y k).f0 EU)∧ApB BD (apV (zk U k).f1 (zk Y k).f1 EU))
  (hbin:∀W:World,Kd.C (Kd.int .i64) W A l.length l→Calls Tryz.prog 14 #[.slice A m c,.agg #[.int .i64 p0,.int .i64 p1,.int .i64 p2,.int .i64 0,.int .i64 p4,.bool p5]] W fun e w'=>∃A' c' As ms cs,e=.returned (.tuple #[.agg #[.slice A' NU c',.int .i64 EU,.bool false,.slice As ms cs],.int .i64 bad])∧Kd.R k38 38 w' W.heap.size (fun _=>True) (.slice A' NU c') U∧Below W.heap.size W w')
  (hrun:∀(W:World) (A1:Option Addr) (c1:Nat),Kd.C k38 W A1 m (zac l)→m≤c1→Calls Tryz.prog 7 #[.slice A1 m c1,.agg #[.int .i64 p0,.int .i64 (wrap64 (p1+1)),.int .i64 p2,.int .i64 0,.int .i64 p4,.bool p5]] W fun e w'=>∃A' c' As' m' cs',e=.returned (.tuple #[.agg #[.slice A' m c',.int .i64 EU,.bool false,.slice As' m' cs'],.int .i64 0])∧Kd.R k38 38 w' W.heap.size (fun _=>True) (.slice A' m c') Y∧Below W.heap.size W w')
  (hfix:∀W:World,Calls Tryz.prog 9 #[.agg #[.int .i64 p0,.int .i64 p1,.int .i64 p2,.int .i64 0,.int .i64 p4,.bool p5]] W fun e w'=>∃v:Value,e=.returned (.tuple #[v,.int .i64 0])∧Kd.R (Kd.int .i64) 3 w' W.heap.size (fun _=>True) v sh∧Below W.heap.size W w')
  (hloss:∀(W:World) (A1:Option Addr) (c1:Nat),Kd.C (Kd.int .i64) W A1 sh.length sh→sh.length≤c1→Calls Tryz.prog 15 #[.agg #[.int .i64 p0,.int .i64 p1,.int .i64 p2,.int .i64 0,.int .i64 p4,.bool p5],.slice A1 sh.length c1] W fun e w'=>e=.returned (.tuple #[.int .i64 L1,.int .i64 0])∧Below W.heap.size W w')
  (hfix2:∀W:World,Calls Tryz.prog 9 #[.agg #[.int .i64 p0,.int .i64 (wrap64 (p1+1)),.int .i64 p2,.int .i64 0,.int .i64 p4,.bool p5]] W fun e w'=>∃v:Value,e=.returned (.tuple #[v,.int .i64 0])∧Kd.R (Kd.int .i64) 3 w' W.heap.size (fun _=>True) v sh2∧Below W.heap.size W w')
  (hof:∀(W:World) (A1:Option Addr) (c1:Nat),Kd.C (Kd.int .i64) W A1 sh2.length sh2→sh2.length≤c1→Calls Tryz.prog 10 #[.agg #[.int .i64 p0,.int .i64 (wrap64 (p1+1)),.int .i64 p2,.int .i64 0,.int .i64 p4,.bool p5],.slice A1 sh2.length c1] W fun e w'=>e=.returned (.tuple #[.int .i64 L2,.int .i64 0])∧Below W.heap.size W w') :
  Calls Tryz.prog 5 #[.slice A l0.length c,.agg #[.int .i64 p0,.int .i64 p1,.int .i64 p2,.int .i64 p3,.int .i64 p4,.bool p5]] w fun e w'=>e=.returned (.bool true)∧Below w.heap.size w w':=by
 subst hb
 have HBIN:=hhd hbin
 have HRUN:=hhd hrun
 have HFIX:=hhd hfix
 have HLOSS:=hhd hloss
 have HFIX2:=hhd hfix2
 have HOF:=hhd hof
 have HBD:=hhd hBD
 have HLE:=hhd hle
 have HUL:=hhd hUl
 have HYL:=hhd hYl
 have HNM:=hhd hNm
 have HNU:=hhd hNU
 have HEX:=hhd (And.intro hE0 hE1)
 have HC:=hhd hc
 have HM:=hhd hm
 have nZ:=hhd (Below.refl w.heap.size w)
 have hml:l.length=m:=by rw [hl,List.length_take];omega
 have HML:=hhd hml
 have HMN:=hhd (show m≤140 by omega)
 have HRL:=hhd (show Kd.C (Kd.int .i64) w A l.length l by have h:=Kd.C_take (m:=m) hr (by omega);rw [← hl] at h;exact h)
 obtain ⟨i06,hi06,_,hsz6,_⟩:=info_parts zfG
 have hmin:(if 140 < (l0.length:Int) then 140 else (l0.length:Int))=(m:Int):=by split <;> omega
 have hcut:=zjA (P:=Tryz.prog) 26 3 .i64 Tryz.underlying26 hi06 A l0.length c (m:Int) (by omega) (by omega) hc
 rw [Int.toNat_natCast] at hcut
 have hqle:((m:Int)≤(l0.length:Int))=True:=eq_true (by omega)
 clear hi06 hsz6 hml hl hr hc hm hbin hrun hfix hloss hfix2 hof hBD hle hUl hYl hNm hNU hE0 hE1
 go_enter Tryz.func5,Tryz.ntmps5
 go_wp2_with (first
  | ((with_reducible refine zf (N:=3) rfl ?_);refine bb_ 3 rfl nZ #[.int .i64 p0,.int .i64 p1,.int .i64 p2,.int .i64 p3,.int .i64 p4,.bool p5] 24 ?_;intro g3 W1 hg aA L3 lO lP;have oY:=zc_ HRL lP;obtain ⟨lQ,lR,lT,lU,lV,lW⟩:=bk6 lO;clear aA hg)
  | ((with_reducible refine zo (t:=3) (p:=31) rfl ?_);refine zba rfl rfl 3 _ _ rfl g3 3 (.int .i64 0) rfl rfl 24 _ lO.out (show (3:Nat) < 6 from by decide) zbP rfl rfl #[.int .i64 p0,.int .i64 p1,.int .i64 p2,.int .i64 0,.int .i64 p4,.bool p5] rfl ?_;intro W2 hq I aJ;have bX:=hhd hq;have bY:=hhd (aJ _ _ L3 lP.out);clear lQ lR lT lU lV lW;obtain ⟨lX,lZ,l3,l4,l5,l6⟩:=bk6 bX;have nR:=zc_ HRL bY;clear hq I aJ)
  | ((with_reducible refine zf (N:=34) rfl ?_);refine lr_ 34 rfl 24 bX Tryz.underlying24 ?_)
  | (go_at_call 14;refine (HBIN.out _ nR.out).mono ?_;rintro e W3 ⟨Au,cu,Asu,msu,csu,rfl,ho,hb⟩;have nS:=hhd (Kd.R_lower ho (zi bY));have l7:=zs_ bY hb;have bZ:=za_ bX hb;have oZ:=zc_ HRL l7;obtain ⟨l8,l9,mA,mB,mC,mD⟩:=bk6 bZ;clear lX lZ l3 l4 l5 l6;clear ho hb)
  | ((with_reducible refine zf (N:=5) rfl ?_);refine bb_ 5 rfl l7 #[.slice none 0 0,.int .i64 0,.bool false,.slice none 0 0] 28 ?_;intro g5 W4 hg aA L5 b6 mE;have mF:=za_ bZ aA;have nU:=zr_ nS aA;have o0:=zc_ HRL mE;obtain ⟨mG,mH,mI,mJ,mK,mL⟩:=bk6 mF;clear l8 l9 mA mB mC mD;obtain ⟨mM,mN,mO,mP⟩:=bk4 b6;have nB:=ne_ bZ hg;clear aA hg)
  | ((with_reducible refine zo (t:=28) (p:=5) rfl ?_);refine re_ 28 5 rfl #[.slice Au NU cu,.int .i64 EU,.bool false,.slice Asu msu csu] b6 L5 mE ?_;intro W5 I mQ mR;have mS:=zt_ I nB mF;have nV:=zg_ nU b6 I;obtain ⟨mT,mU,mV,mW,mX,mY⟩:=bk6 mS;clear mG mH mI mJ mK mL mM mN mO mP;obtain ⟨mZ,m5,m6,m7⟩:=bk4 mQ;have nW:=zc_ HRL mR;clear I))
 have CX0:=nW
 have CU0:=hhd (zct nV.out).2
 have B3a:=mS
 have B5a:=mQ
 have HBa:=mR
 have HY0:=hhd (Kd.R_nil k38 38 W5 W5.heap.size (fun _=>True))
 have HBb:=hhd (Below.refl W5.heap.size W5)
 clear mT mU mV mW mX mY mZ m5 m6 m7 hmin hcut hqle
 go_loopw [7,49] (fun s7 s49 wr=>∃k:Nat,k≤m∧s49=.int .i64 k∧Kd.R k38 38 wr W5.heap.size (fun _=>True) s7 (zac (l.take k))∧Below W5.heap.size W5 wr) (fun _ i _=>m - (intOf i).toNat)
 case atStart=>exact ⟨0,by omega,rfl,HY0.out,HBb.out⟩
 case round =>
  obtain ⟨k,hk,rfl,ho,hb⟩:=hrel
  have aY:=hhd ho
  have HBr:=hhd hb
  clear ho hb HY0 HBb
  by_cases hlt:k < m
  ·obtain ⟨ad,rfl,h0⟩:=Kd.at_int CX0.out (k:Int) (by omega) (by have:=HML.out;omega)
   rw [Int.toNat_natCast] at h0
   replace h0:=(HBr.out.cell (World.block_lt_of_cell? W5 _ h0)).trans h0
   have HT:=hhd (zkh l k (by have:=HML.out;omega))
   have HLn:=hhd (show (zac (l.take k)).length≤1000 by unfold zac;simp;have:=HMN.out;omega)
   generalize rd l k=x at *
   generalize zac (l.take k)=Yk at *
   go_wp2_with (first
    | ((with_reducible refine zaw (b:=.append) (xs:=#[.tmp 53,.tmp 56]) rfl ?_);at_builtin;refine Kd.R_append k38 (w0:=W5) W5.heap.size rfl (.tmp 53) (.tmp 56) 22 38 (.agg #[(.int .i64 0),(.int .i64 0)]) 16 rfl Tryz.underlying22 zbF rfl (by decide) (by omega) _ Yk ⟨x,0⟩ [.int .i64 x,.int .i64 0] (fun _=>True) (fun _=>False) rfl rfl ?aP (fun _ hk=>hk.elim) ?aF ?aO ?aB ?aS ?aL ?_;(case aP=>exact zaA _ _ _ (⟨x,0⟩:S38));(case aB=>exact HBr.out);(case aF=>exact (fun _ _=>trivial));(case aO=>exact aY.out);(case aS=>exact zi HBr);(case aL=>have:=HLn.out;omega);intro v57 o4 ho hb hg hat;have nX:=hhd ho;have nY:=hhd hb;clear ho hb hg hat))
   have hmn:=HMN.out
   go_roundw
   case rel=>exact ⟨k+1,by omega,by rw [show wrap64 ((k:Int)+1)=(k:Int)+1 from zv (by omega) (by omega)];rfl,by rw [HT.out];exact nX.out,nY.out⟩
   case measure=>rw [show wrap64 ((k:Int)+1)=(k:Int)+1 from zv (by omega) (by omega)];simp [intOf];omega
  ·obtain rfl:k=m:=by omega
   have hfull:zac (l.take k)=zac l:=by rw [← HML.out,List.take_length]
   rw [hfull] at aY
   obtain ⟨A7,c7,ev,hc7,_⟩:=Kd.R_reads aY.out
   have hrl:(zac l).length=k:=by rw [← HML.out];simp [zac]
   rw [hrl] at ev hc7
   subst ev
   have HC7:=hhd hc7
   have HR7:=hhd (fun (W:World) (h:Kd.R k38 38 W W5.heap.size (fun _=>True) (.slice A7 k c7) (zac l))=>show Kd.C k38 W A7 k (zac l) from (zct h).2)
   have aC:=hhd (zd B3a HBr)
   have aD:=hhd (zd B5a HBr)
   have k3_0:=(za aC 0).trans rfl
   have k3_1:=(za aC 1).trans rfl
   have k3_2:=(za aC 2).trans rfl
   have k3_3:=(za aC 3).trans rfl
   have k3_4:=(za aC 4).trans rfl
   have k3_5:=(za aC 5).trans rfl
   have k5_0:=(za aD 0).trans rfl
   have k5_1:=(za aD 1).trans rfl
   have k5_2:=(za aD 2).trans rfl
   have k5_3:=(za aD 3).trans rfl
   have CX1:=zc_ CX0 HBr
   have CU1:=zc_ CU0 HBr
   have hNU:=HNU.out
   have s2:IntKind.i64.wrap (EU+2)=EU+2:=by have:=HEX.out;rw [zD];exact zv (by omega) (by omega)
   have s4:IntKind.i64.wrap (EU+8)=EU+8:=by have:=HEX.out;rw [zD];exact zv (by omega) (by omega)
   have g1:(0≤EU+2)=True:=eq_true (by have:=HEX.out;omega)
   have g8:(0≤EU+8)=True:=eq_true (by have:=HEX.out;omega)
   have g1b:decide (0≤EU+2)=true:=decide_eq_true (by have:=HEX.out;omega)
   have g8b:decide (0≤EU+8)=true:=decide_eq_true (by have:=HEX.out;omega)
   clear hfull hc7 hrl
   go_wp2_with (first
    | ((with_reducible refine zf (N:=59) rfl ?_);refine lr_ 59 rfl 24 aC Tryz.underlying24 ?_)
    | ((with_reducible refine zf (N:=10) rfl ?_);refine ba_ 10 rfl #[.int .i64 0,.int .i64 0,.int .i64 0,.int .i64 0,.int .i64 0,.bool false] 24 ?_;intro g10 hg o5 aK aA;have nP:W5.heap.size≤g10:=(by rw [hg];exact zi HBr);have aM:=hhd aK;have aZ:=zs_ HBr aA;have fU:=za_ aC aA;have fV:=za_ aD aA;have nC:=zr_ aY aA;have oB:=zc_ CX0 aZ;have oC:=zc_ CU0 aZ;obtain ⟨gH,gI,gJ,gK,gL,gM⟩:=bk6 fU;obtain ⟨gN,gO,gP,gQ⟩:=bk4 fV;clear k3_0 k3_1 k3_2 k3_3 k3_4 k3_5 k5_0 k5_1 k5_2 k5_3;obtain ⟨b7,b8,b9,cA,cB,cC⟩:=bk6 aM;have bK:=hhd (show g3≠g10 from fun e=>by have:=zj aC;omega);have bL:=hhd (show g5≠g10 from fun e=>by have:=zj aD;omega);clear aK aA hg)
    | ((with_reducible refine zo (t:=24) (p:=10) rfl ?_);refine re_ 24 10 rfl #[.int .i64 p0,.int .i64 p1,.int .i64 p2,.int .i64 0,.int .i64 p4,.bool p5] aM nP aZ ?_;intro o6 I aN a7;have fW:=zt_ I bK fU;have fX:=zt_ I bL fV;have nD:=zg_ nC aM I;obtain ⟨gR,gS,gT,gU,gV,gX⟩:=bk6 fW;obtain ⟨gY,gZ,hZ,iA⟩:=bk4 fX;clear gH gI gJ gK gL gM gN gO gP gQ b7 b8 b9 cA cB cC;obtain ⟨cD,cH,cI,cJ,cK,cL⟩:=bk6 aN;have oD:=zc_ CX0 a7;have oE:=zc_ CU0 a7;clear I)
    | ((with_reducible refine zo (t:=3) (p:=63) rfl ?_);refine zba rfl rfl 3 _ _ rfl g10 1 (.int .i64 (wrap64 (p1+1))) rfl rfl 24 _ aN.out (show (1:Nat) < 6 from by decide) zbP rfl rfl #[.int .i64 p0,.int .i64 (wrap64 (p1+1)),.int .i64 p2,.int .i64 0,.int .i64 p4,.bool p5] rfl ?_;intro o7 hq I aJ;have aQ:=hhd hq;have aE:=hhd (aJ _ _ nP a7.out);have fY:=zt_ I bK fW;have fZ:=zt_ I bL fX;have nE:=zg_ nD aN I;obtain ⟨iB,iC,iD,iF,iG,iH⟩:=bk6 fY;obtain ⟨iI,iJ,iK,iL⟩:=bk4 fZ;clear gR gS gT gU gV gX gY gZ hZ iA cD cH cI cJ cK cL;obtain ⟨cM,cN,cO,cP,cQ,cR⟩:=bk6 aQ;have oF:=zc_ CX0 aE;have oG:=zc_ CU0 aE;clear hq I aJ)
    | ((with_reducible refine zf (N:=66) rfl ?_);refine lr_ 66 rfl 24 aQ Tryz.underlying24 ?_)
    | (go_at_call 7;(with_reducible refine (HRUN.out _ A7 c7 (HR7.out _ nE.out) HC7.out).mono ?_);rintro e o8 ⟨Ay,cy,Asy,my,csy,rfl,ho,hb⟩;have nF:=hhd (Kd.R_lower ho (zi aE));have aG:=zs_ aE hb;have a8:=za_ fY hb;have a9:=za_ fZ hb;have aT:=za_ aQ hb;have oH:=zc_ CX0 aG;have oI:=zc_ CU0 aG;obtain ⟨iM,iN,iO,iP,iQ,iR⟩:=bk6 a8;obtain ⟨iS,iT,iU,iV⟩:=bk4 a9;obtain ⟨cS,cT,cU,cV,cW,cX⟩:=bk6 aT;clear iB iC iD iF iG iH iI iJ iK iL cM cN cO cP cQ cR;clear ho hb)
    | ((with_reducible refine zf (N:=11) rfl ?_);refine ba_ 11 rfl #[.slice none 0 0,.int .i64 0,.bool false,.slice none 0 0] 28 ?_;intro g11 hg o9 aK aA;have oA:W5.heap.size≤g11:=(by rw [hg];exact zi aG);have aU:=hhd aK;have bA:=zs_ aG aA;have f6:=za_ a8 aA;have f7:=za_ a9 aA;have bM:=za_ aT aA;have nG:=zr_ nF aA;have oJ:=zc_ CX0 bA;have oK:=zc_ CU0 bA;obtain ⟨iW,iX,iY,iZ,i5,i6⟩:=bk6 f6;obtain ⟨i7,i8,i9,jA⟩:=bk4 f7;obtain ⟨cY,cZ,dB,dC,dD,dE⟩:=bk6 bM;clear iM iN iO iP iQ iR iS iT iU iV cS cT cU cV cW cX;obtain ⟨dF,dG,dH,dI⟩:=bk4 aU;have m8:=hhd (show g3≠g11 from fun e=>by have:=zj a8;omega);have m9:=hhd (show g5≠g11 from fun e=>by have:=zj a9;omega);have jB:=hhd (show g10≠g11 from fun e=>by have:=zj aT;omega);clear aK aA hg)
    | ((with_reducible refine zo (t:=28) (p:=11) rfl ?_);refine re_ 28 11 rfl #[.slice Ay k cy,.int .i64 EU,.bool false,.slice Asy my csy] aU oA bA ?_;intro pA I bP aH;have bB:=zt_ I m8 f6;have f8:=zt_ I m9 f7;have bQ:=zt_ I jB bM;have nH:=zg_ nG aU I;obtain ⟨jC,jD,jE,jF,jG,jH⟩:=bk6 bB;obtain ⟨jI,jJ,jK,jL⟩:=bk4 f8;obtain ⟨dJ,dK,dL,dM,dN,dO⟩:=bk6 bQ;clear iW iX iY iZ i5 i6 i7 i8 i9 jA cY cZ dB dC dD dE dF dG dH dI;obtain ⟨dP,dQ,dR,dS⟩:=bk4 bP;have oL:=zc_ CX0 aH;have oM:=zc_ CU0 aH;clear I)
    | ((with_reducible refine zf (N:=71) rfl ?_);refine lr_ 71 rfl 24 bB Tryz.underlying24 ?_)
    | (go_at_call 9;(with_reducible refine (HFIX.out _).mono ?_);rintro e pB ⟨vf,rfl,ho,hb⟩;obtain ⟨Af,cf,ev⟩:=Kd.R_slice ho;subst ev;have bC:=hhd (Kd.R_lower ho (zi aH));have bD:=zs_ aH hb;have bE:=za_ bB hb;have f9:=za_ f8 hb;have bR:=za_ bQ hb;have bS:=za_ bP hb;have nI:=zr_ nH hb;have oN:=zc_ CX0 bD;have oO:=zc_ CU0 bD;obtain ⟨jM,jN,jO,jP,jQ,jR⟩:=bk6 bE;obtain ⟨jS,jT,jU,jV⟩:=bk4 f9;obtain ⟨dU,dV,dW,dX,dY,dZ⟩:=bk6 bR;obtain ⟨d5,d6,d7,d8⟩:=bk4 bS;clear jC jD jE jF jG jH jI jJ jK jL dJ dK dL dM dN dO dP dQ dR dS;clear ho hb)
    | ((with_reducible refine zf (N:=76) rfl ?_);refine lr_ 76 rfl 24 bE Tryz.underlying24 ?_)
    | (go_at_call 15;( refine (HLOSS.out _ Af cf (zcG bC.out).2.2 (zcG bC.out).2.1).mono ?_);rintro e pC ⟨rfl,hb⟩;have aI:=zs_ bD hb;have gA:=za_ bE hb;have gB:=za_ f9 hb;have aV:=za_ bR hb;have bT:=za_ bS hb;have nJ:=zr_ nI hb;have oP:=zr_ bC hb;have oQ:=zc_ CX0 aI;have oR:=zc_ CU0 aI;obtain ⟨jW,jX,jY,jZ,j4,j5⟩:=bk6 gA;obtain ⟨j7,j8,j9,kB⟩:=bk4 gB;obtain ⟨d9,eB,eC,eD,eE,eF⟩:=bk6 aV;obtain ⟨eG,eH,eI,eJ⟩:=bk4 bT;clear jM jN jO jP jQ jR jS jT jU jV dU dV dW dX dY dZ d5 d6 d7 d8;clear hb)
    | ((with_reducible refine zf (N:=82) rfl ?_);refine lr_ 82 rfl 24 aV Tryz.underlying24 ?_)
    | (go_at_call 9;(with_reducible refine (HFIX2.out _).mono ?_);rintro e pD ⟨vh,rfl,ho,hb⟩;obtain ⟨Ah,ch,ev⟩:=Kd.R_slice ho;subst ev;have bF:=hhd (Kd.R_lower ho (zi aI));have bG:=zs_ aI hb;have gC:=za_ gA hb;have gE:=za_ gB hb;have aW:=za_ aV hb;have bU:=za_ bT hb;have nK:=zr_ nJ hb;have oS:=zc_ CX0 bG;have oT:=zc_ CU0 bG;obtain ⟨kC,kD,kE,kF,kG,kH⟩:=bk6 gC;obtain ⟨kI,kJ,kK,kL⟩:=bk4 gE;obtain ⟨eK,eM,eN,eO,eP,eQ⟩:=bk6 aW;obtain ⟨eR,eT,eU,eV⟩:=bk4 bU;clear jW jX jY jZ j4 j5 j7 j8 j9 kB d9 eB eC eD eE eF eG eH eI eJ;clear ho hb)
    | ((with_reducible refine zf (N:=87) rfl ?_);refine lr_ 87 rfl 24 aW Tryz.underlying24 ?_)
    | (go_at_call 10;( refine (HOF.out _ Ah ch (zcG bF.out).2.2 (zcG bF.out).2.1).mono ?_);rintro e pE ⟨rfl,hb⟩;have bH:=zs_ bG hb;have gF:=za_ gC hb;have gG:=za_ gE hb;have bV:=za_ aW hb;have bW:=za_ bU hb;have nL:=zr_ nK hb;have oU:=zr_ bF hb;have oV:=zc_ CX0 bH;have oW:=zc_ CU0 bH;obtain ⟨kM,kN,kO,kP,kQ,kR⟩:=bk6 gF;obtain ⟨kS,kT,kU,kV⟩:=bk4 gG;obtain ⟨eW,eX,eY,eZ,fA,fB⟩:=bk6 bV;obtain ⟨fD,fE,fF,fG⟩:=bk4 bW;clear kC kD kE kF kG kH kI kJ kK kL eK eM eN eO eP eQ eR eT eU eV;clear hb)
    | (go_at_call 8;(with_reducible refine (zgy _).mono ?_);rintro e nQ ⟨rfl,hb⟩;have bI:=zs_ bH hb;have nM:=za_ gF hb;have bJ:=za_ gG hb;have nA:=za_ bV hb;have aX:=za_ bW hb;have nN:=zr_ nL hb;have oX:=zc_ CX0 bI;have nO:=zc_ CU0 bI;obtain ⟨kW,kX,kY,kZ,lD,lH⟩:=bk6 nM;obtain ⟨lI,lJ,lK,lM⟩:=bk4 bJ;obtain ⟨fH,fJ,fK,fM,fO,fP⟩:=bk6 nA;obtain ⟨fQ,fR,fS,fT⟩:=bk4 aX;clear kM kN kO kP kQ kR kS kT kU kV eW eX eY eZ fA fB fD fE fF fG;clear hb))
   go_quiet (fail)
   go_wp2
   simp only [HBD.out]
   go_loopw [146] (fun s146 wr=>∃j:Nat,j≤NU∧s146=.int .i64 j∧Below nQ.heap.size nQ wr) (fun i _=>NU - (intOf i).toNat)
   case atStart=>exact ⟨0,by omega,rfl,zc (Below.refl _ _) _⟩
   case round =>
    obtain ⟨j,hj,rfl,hb⟩:=hrel
    have HBz:=hhd hb
    clear hb kW kX kY kZ lD lH lI lJ lK lM fH fJ fK fM fO fP fQ fR fS fT
    by_cases hlt:j < NU
    ·have hju:j≤200:=by have:=HMN.out;have:=HNM.out;omega
     have HU2:Kd.C k38 wr Au U.length U:=by rw [HUL.out];exact Kd.C_below nO.out HBz.out
     obtain ⟨ad,e_,z0,z1⟩:=zag HU2 (j:Int) (by omega) (by rw [HUL.out];omega)
     cases e_
     have HY2:Kd.C k38 wr Ay Y.length Y:=by rw [HYL.out];exact (zct (Kd.R_below nN.out HBz.out)).2
     obtain ⟨ay,e_,y0,y1⟩:=zag HY2 (j:Int) (by omega) (by have:=HYL.out;have:=HNM.out;omega)
     cases e_
     rw [Int.toNat_natCast] at z0 z1 y0 y1
     obtain ⟨le0,le1⟩:=HLE.out j hlt
     have LE0:=hhd le0
     have LE1:=hhd le1
     have a51:=(za (zd bJ HBz) 1).trans rfl
     have a50:=(za (zd bJ HBz) 0).trans rfl
     have b10:=(za (zd aX HBz) 0).trans rfl
     have b11:=(za (zd aX HBz) 1).trans rfl
     have hjk:((j:Int) < (k:Int))=True:=eq_true (by have:=HNM.out;omega)
     clear le0 le1 HU2 HY2
     generalize zk U j=z at *
     generalize zk Y j=y at *
     go_wp2
     have aA:=ze (Below.refl wr.heap.size wr) (Obj.cells #[Value.int IntKind.i64 z.f0,Value.int IntKind.i64 z.f1] 38)
     have X51:=(aA.cell (World.block_lt_of_cell? _ _ a51)).trans a51
     have X10:=(aA.cell (World.block_lt_of_cell? _ _ b10)).trans b10
     have X11:=(aA.cell (World.block_lt_of_cell? _ _ b11)).trans b11
     have Y0:=(aA.cell (World.block_lt_of_cell? _ _ y0)).trans y0
     have Y1:=(aA.cell (World.block_lt_of_cell? _ _ y1)).trans y1
     have HBA:=zs_ HBz aA
     clear aA
     go_quiet (fail)
     have LA:ApB BD (wrap64 (wrap64 (z.f0*2^min (EU+8).toNat 64) - wrap64 (y.f0*2^min (EU+8).toNat 64))):=LE0.out
     have LB:ApB BD (wrap64 (wrap64 (z.f1*2^min (EU+8).toNat 64) - wrap64 (y.f1*2^min (EU+8).toNat 64))):=LE1.out
     clear LE0 LE1 X51 X10 X11 Y0 Y1 a51 a50 b10 b11 y0 y1 z0 z1
     generalize wrap64 (wrap64 (z.f0*2^min (EU+8).toNat 64) - wrap64 (y.f0*2^min (EU+8).toNat 64))=re at *
     generalize wrap64 (wrap64 (z.f1*2^min (EU+8).toNat 64) - wrap64 (y.f1*2^min (EU+8).toNat 64))=im at *
     obtain ⟨la0,la1⟩:=LA
     obtain ⟨lb0,lb1⟩:=LB
     obtain ⟨m1,hm1⟩:∃m1,(if re < wrap64 (-re) then wrap64 (-re) else re)=m1:=⟨_,rfl⟩
     obtain ⟨m2,hm2⟩:∃m2,(if m1 < im then im else m1)=m2:=⟨_,rfl⟩
     obtain ⟨m3,hm3⟩:∃m3,(if m2 < wrap64 (-im) then wrap64 (-im) else m2)=m3:=⟨_,rfl⟩
     have h1:m1≤BD:=by rw [← hm1];split <;> omega
     have h2:m2≤BD:=by rw [← hm2];split <;> omega
     have h3:m3≤BD:=by rw [← hm3];split <;> omega
     have h4:(BD < m3)=False:=eq_false (by omega)
     have h5:decide (BD < m3)=false:=decide_eq_false (by omega)
     clear la0 la1 lb0 lb1 h1 h2 h3
     go_wp2
     refine ⟨⟨j+1,by omega,rfl,zc HBA.out _⟩,?_⟩
     simp [intOf]
     omega
    ·obtain rfl:j=NU:=by omega
     go_wp2
     go_ret
     exact ⟨rfl,zb HBa (zb bI HBz)⟩
end Go.Proofs.YteieahbadclppaaGreat.P

