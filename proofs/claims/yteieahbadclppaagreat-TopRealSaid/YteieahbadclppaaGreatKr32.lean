/- Part 32 of 36 of the proof: the texts that it reaches, one behind the other. No condition. -/
import Derived.Test.YteieahbadclppaaGreatKr31
import Derived.Deep.RegionLawGrows
namespace Go.Proofs.YteieahbadclppaaGreat.P
open Go.RowKit Go.Proofs.YteieahbadclppaaGreatW.PrintWords Go.Proofs.YteieahbadclppaaGreatW.PrintLast Go.Proofs.YteieahbadclppaaGreatW.PrintMore
set_option linter.unusedVariables false
set_option linter.unusedSimpArgs false
def znB (fm g ker:Nat):Bool:=decide (zdR (2*2^g) (2^g+1)≤((reL g ker - reE g ker)*2^(zcy fm g ker+zcz fm g ker) / (256*2^bN fm)).toNat) && (decide (eA g ker≤1000) && (decide (200000 < (2:Int)^(reK fm g ker)) && (decide (0≤reL g ker - reE g ker) && decide (0≤eA g ker∧0≤eA (g+1) ker))))
theorem zlO:([0,1].all fun fm=>[2,3,4,5].all fun g=>[0,1,2].all fun ker=>znB fm g ker)=true:=by decide +kernel
theorem zjr {fm g ker:Nat} (hf:fm < 2) (h2:2≤g) (h5:g≤5) (hk:ker < 3):zdR (2*2^g) (2^g+1)≤((reL g ker - reE g ker)*2^(zcy fm g ker+zcz fm g ker) / (256*2^bN fm)).toNat∧eA g ker≤1000∧200000 < (2:Int)^(reK fm g ker)∧0≤reL g ker - reE g ker∧0≤eA g ker∧0≤eA (g+1) ker:=by
 have h:=List.all_eq_true.1 (List.all_eq_true.1 (List.all_eq_true.1 zlO fm (zbG hf)) g (by simp;omega)) ker (zgp hk)
 unfold znB at h
 simpa only [Bool.and_eq_true,decide_eq_true_eq] using h
theorem ziN {b c V1 V2 P1 P2 I E2 L Q B4:Int} (h1:0 < P1) (h2:0 < P2) (a1:64*P1*b+-64*V1≤I*P1) (a2:-(I*P1)≤64*P1*b+-64*V1) (c1:64*P2*c+-64*V2≤E2*P2) (c2:-(E2*P2)≤64*P2*c+-64*V2)
  (d1:P2*V1+-P1*V2≤4*Q*B4) (d2:-(4*Q*B4)≤P2*V1+-P1*V2) (h5:256*Q*B4≤(L - (I+E2))*(P1*P2)):64*(b - c)≤L∧-L≤64*(b - c):=by
 have hp:0 < P1*P2:=Int.mul_pos h1 h2
 have e1:=Int.mul_le_mul_of_nonneg_left a1 (Int.le_of_lt h2)
 have e2:=Int.mul_le_mul_of_nonneg_left a2 (Int.le_of_lt h2)
 have e3:=Int.mul_le_mul_of_nonneg_left c1 (Int.le_of_lt h1)
 have e4:=Int.mul_le_mul_of_nonneg_left c2 (Int.le_of_lt h1)
 constructor
 ·refine Int.le_of_mul_le_mul_left (a:=P1*P2) ?_ hp
  grind
 ·refine Int.le_of_mul_le_mul_left (a:=P1*P2) ?_ hp
  grind
theorem zkG {Q:Int} (hq:0≤Q) {x:List Int} (hr:∀a,a∈x→-(4*Q)≤a∧a≤4*Q):zak (364*Q) (zac x):=by
 have h:=ze8 (m:=4*Q) (by omega) (x:=zac x) (fun z hz=>by
  obtain ⟨a,ha,rfl⟩:=List.mem_map.1 hz
  have:=hr a ha
  exact za3 (by dsimp only;omega))
 exact h.up (by omega)
theorem zkH {Q:Int} (hq:0≤Q) {x:List Int} (hr:∀a,a∈x→-(4*Q)≤a∧a≤4*Q):zak (364*Q) (z8 x):=by
 have hin:∀(l:List Int),(∀a,a∈l→-(4*Q)≤a∧a≤4*Q)→∀z,z∈z8 l→inB (4*Q) z=true:=by
  intro l
  induction l using z8.induct with
  | case1 a b r ih =>
   intro h z hz
   rcases List.mem_cons.1 hz with rfl | hz
   ·have h1:=h a (by simp)
    have h2:=h b (by simp)
    exact za3 (by dsimp only;omega)
   ·exact ih (fun c hc=>h c (by simp [hc])) z hz
  | case2 l hl =>
   intro _ z hz
   have e:z8 l=[]:=by
    match l,hl with
    | [],_=>rfl
    | [a],_=>rfl
    | a :: b :: r,hl=>exact absurd rfl (hl a b r)
   rw [e] at hz
   cases hz
 exact (ze8 (by omega) (hin x hr)).up (by omega)
theorem zlP {P:Int→Prop} (h0:P 0) {x:List Int} (h:∀a,a∈x→P a) (k:Nat):P (x.getD k 0):=by
 rw [List.getD_eq_getElem?_getD]
 by_cases hk:k < x.length
 ·rw [List.getElem?_eq_getElem hk];exact h _ (List.getElem_mem hk)
 ·rw [List.getElem?_eq_none (by omega)];exact h0
theorem znC {fm g ker:Nat} (mode:Int) (hf:fm < 2) (h2:2≤g) (h5:g≤5) (hk:ker < 3) {x:List Int} (hx:x.length=2*2^g) (hr:∀a,a∈x→-(4*2^bN fm)≤a∧a≤4*2^bN fm) :
  (zaU fm g ker false mode (z8 x)).length=2^g∧zak (184*2^bN fm) (zaU fm g ker false mode (z8 x))∧(zaU fm (g+1) ker false mode (zac x)).length=2^(g+1)∧zak (184*2^bN fm) (zaU fm (g+1) ker false mode (zac x)) ∧
  zak (184*2^bN fm+400) (zb1 (twL fm (g+1)) (bN fm) (2^g) mode (zaU fm g ker false mode (z8 x))) ∧
  ∀k,k < 2^g+1→(64*(((zb1 (twL fm (g+1)) (bN fm) (2^g) mode (zaU fm g ker false mode (z8 x))).getD k z38).f0 - ((zaU fm (g+1) ker false mode (zac x)).getD k z38).f0)≤reL g ker∧-(reL g ker)≤64*(((zb1 (twL fm (g+1)) (bN fm) (2^g) mode (zaU fm g ker false mode (z8 x))).getD k z38).f0 - ((zaU fm (g+1) ker false mode (zac x)).getD k z38).f0)) ∧
   64*(((zb1 (twL fm (g+1)) (bN fm) (2^g) mode (zaU fm g ker false mode (z8 x))).getD k z38).f1 - ((zaU fm (g+1) ker false mode (zac x)).getD k z38).f1)≤reL g ker∧-(reL g ker)≤64*(((zb1 (twL fm (g+1)) (bN fm) (2^g) mode (zaU fm g ker false mode (z8 x))).getD k z38).f1 - ((zaU fm (g+1) ker false mode (zac x)).getD k z38).f1):=by
 obtain ⟨q0,q1⟩:=qN fm
 obtain ⟨n1,n2,n3,n4,n5,n6⟩:=zjr hf h2 h5 hk
 have t1:=trA false mode hf h2 (show g≤6 by omega) hk
 have t2:=trA false mode hf (show 2≤g+1 by omega) (show g+1≤6 by omega) hk
 have hpl:=zc2 (2^g) x hx
 have hpow:2^(g+1)=2*2^g:=by rw [Nat.pow_succ];omega
 have hrl:(zac x).length=2^(g+1):=by rw [hpow,← hx];simp [zac]
 obtain ⟨a1,a2,a3⟩:=t1.near (z8 x) (z8 x) 0 0 hpl (zeu _) (zkH (by omega) hr) (by decide)
 obtain ⟨b1,b2,b3⟩:=t2.near (zac x) (zac x) 0 0 hrl (zeu _) (zkG (by omega) hr) (by decide)
 rw [Nat.zero_add,Int.zero_add] at a1 b1
 obtain ⟨u1,u2⟩:=zlN mode hf h5 h2 a3 a1 a2 (by omega)
 refine ⟨a3,a2,b3,b2,u2,fun k hk2=>?_⟩
 have hg32:2^g≤32:=Nat.le_trans (Nat.pow_le_pow_right (by decide) h5) (by decide)
 have hg1:1≤2^g:=Nat.one_le_two_pow
 have z1:ZL (2*2^g) (2^g+1) (fun z=>lsc (2^zcz fm g ker) (zgo (twL fm (g+1)) (bN fm) (2^g) (zcS fm g ker false (z8 z)))):=(znx _ _ (t1.zl _ _ (zfo (2^g)))).scaled _
 have zr:=t2.zl (2*2^g) zac (by have h:=zlm (2*2^g);rw [← hpow] at h ⊢;exact h)
 have tkget:∀(l:List S38) (i:Nat),i < 2^g+1→(l.take (2^g+1)).getD i z38=l.getD i z38:=by
  intro l i hi
  rw [List.getD_eq_getElem?_getD,List.getD_eq_getElem?_getD,List.getElem?_take,if_pos hi]
 have z2:ZL (2*2^g) (2^g+1) (fun z=>(zcS fm (g+1) ker false (zac z)).take (2^g+1)) :=
  ZL.of (f:=fun z i=>(zcS fm (g+1) ker false (zac z)).getD i z38) (fun z hz=>by have:=zr.len z hz;show ((zcS fm (g+1) ker false (zac z)).take (2^g+1)).length=_;rw [List.length_take];have h:(zcS fm (g+1) ker false (zac z)).length=2^(g+1):=this;omega)
   (fun z i hz hi=>tkget _ i hi) (fun a b i ha hb hi=>zr.get_add ha hb i) (fun c a i ha hi=>zr.get_scl c ha i)
 have hz:ZL (2*2^g) (2^g+1) (reF fm g ker):=z1.sum (z2.scaled _)
 have P1:(0:Int) < 2^zcy fm g ker:=two_pow_pos _
 have P2:(0:Int) < 2^zcz fm g ker:=two_pow_pos _
 have PK:(0:Int) < 2^reK fm g ker:=two_pow_pos _
 have hH:((reH fm g ker:Nat):Int)=4*2^reK fm g ker:=by
  unfold reH
  rw [Int.natCast_pow]
  show (2:Int)^(reK fm g ker+2)=_
  rw [Int.pow_add]
  omega
 have hget:∀z:List Int,z.length=2*2^g→∀i,i < 2^g+1→(reF fm g ker z).getD i z38=zaz (zah (2^zcz fm g ker) ((zgo (twL fm (g+1)) (bN fm) (2^g) (zcS fm g ker false (z8 z))).getD i z38)) (zah (-(2^zcy fm g ker)) ((zcS fm (g+1) ker false (zac z)).getD i z38)):=by
  intro z hz1 i hi
  have l1:=z1.len z hz1
  have l2:=z2.len z hz1
  unfold reF
  rw [zcc (by rw [zaO (-(2^zcy fm g ker)),l2];exact l1),zbs,zbs,tkget _ i hi]
 have h:=zmN hz (by omega) (by omega) (H:=reH fm g ker) (Hh:=2*2^reK fm g ker) (B:=reM fm g ker) (by rw [hH];omega) (by omega)
  (fun i hi j hj=>by
   have hbp:=zkF (2^g) j hj
   have hl:=(zfo (2^g)).len _ (zcj (2*2^g) j)
   have c1:=t1.big _ 1 hl (by decide) hbp
   have c2:=zmO hf h5 h2 ((t1.zl _ _ (zfo (2^g))).len _ (zcj (2*2^g) j)) (Int.mul_nonneg (Int.le_of_lt (two_pow_pos _)) (by decide)) c1 i hi
   have hbr:∀k,k < 2^(g+1)→zX ((zac (zav (2*2^g) j)).getD k z38) 1:=by
    intro k hk3
    have e:(zac (zav (2*2^g) j)).getD k z38=⟨(zav (2*2^g) j).getD k 0,0⟩:=by
     simp only [zac,List.getD_eq_getElem?_getD,List.getElem?_map]
     by_cases h3:k < (zav (2*2^g) j).length
     ·rw [List.getElem?_eq_getElem h3];rfl
     ·exact absurd (by rw [zcj];omega) h3
    have e2:(zav (2*2^g) j).getD k 0=0∨(zav (2*2^g) j).getD k 0=1:=by
     simp only [zav,List.getD_eq_getElem?_getD,List.getElem?_set,List.length_replicate,List.getElem?_replicate]
     by_cases h3:j=k
     ·subst h3;simp [hj]
     ·simp [h3];split <;> simp
    rw [e]
    rcases e2 with e2 | e2 <;> rw [e2]
    ·exact zX.zero.up (by decide)
    ·exact zdA
   have d1:=t2.big _ 1 (by rw [hpow];simp [zac,zav]) (by decide) hbr i (by omega)
   have p1:=(c2.scl (2^zcz fm g ker) (Int.le_of_lt P2)).part
   have p2:=(d1.scl (2^zcy fm g ker) (Int.le_of_lt P1)).part
   have m1:(2:Int)^zcz fm g ker*(2^(bN fm+3)*(2^kA fm g ker*1))≤2^reK fm g ker:=by
    rw [Int.mul_one,← Int.pow_add,← Int.pow_add]
    exact zes (by unfold reK;omega)
   have m2:(2:Int)^zcy fm g ker*(2^kA fm (g+1) ker*1)≤2^reK fm g ker:=by
    rw [Int.mul_one,← Int.pow_add]
    exact zes (by unfold reK;omega)
   rw [hget _ (zcj _ _) i hi]
   unfold zah at p1 p2
   unfold zbg zaz zah
   dsimp only at p1 p2 ⊢
   rw [Int.neg_mul,Int.neg_mul]
   omega)
  (by have:=List.all_eq_true.1 (List.all_eq_true.1 (List.all_eq_true.1 znz fm (zbG hf)) g (by simp;omega)) ker (zgp hk);rw [zny] at this;exact this) hx (X:=4*2^bN fm) (by omega) (fun k=>by have:=zlP (P:=fun a=>-(4*2^bN fm)≤a∧a≤4*2^bN fm) (by omega) hr k;omega) k hk2
 rw [hget _ hx k hk2] at h
 have hu:=(u1.2.2 k (by simp [zb1,zaf,zb9];omega)).part
 have hc:=(b1.2.2 k (by rw [b3];omega)).part
 have hB:256*2^bN fm*((reM fm g ker:Nat)+(zdR (2*2^g) (2^g+1):Nat):Int)≤(reL g ker - (eA g ker+92+eA (g+1) ker))*(2^zcy fm g ker*2^zcz fm g ker):=by
  rw [← Int.pow_add]
  have e:((reM fm g ker:Nat)+(zdR (2*2^g) (2^g+1):Nat):Int)=(reL g ker - reE g ker)*2^(zcy fm g ker+zcz fm g ker) / (256*2^bN fm):=by
   have ho:0≤(reL g ker - reE g ker)*2^(zcy fm g ker+zcz fm g ker) / (256*2^bN fm):=Int.ediv_nonneg (Int.mul_nonneg n4 (Int.le_of_lt (two_pow_pos _))) (by omega)
   unfold reM
   omega
  rw [e]
  exact Int.mul_ediv_self_le (by omega)
 unfold zbg zaz zah at h
 unfold zbN zaz zah at hu hc
 dsimp only at h hu hc
 exact ⟨ziN P1 P2 hu.1.1 hu.1.2 hc.1.1 hc.1.2 h.1.1 h.1.2 hB,ziN P1 P2 hu.2.1 hu.2.2 hc.2.1 hc.2.2 h.2.1 h.2.2 hB⟩
end Go.Proofs.YteieahbadclppaaGreat.P

namespace Go.Proofs.YteieahbadclppaaGreat.P
open Go.RowKit Go.Proofs.YteieahbadclppaaGreatW.PrintWords Go.Proofs.YteieahbadclppaaGreatW.PrintLast Go.Proofs.YteieahbadclppaaGreatW.PrintMore
attribute [local go_sem] zF zG zK zL
set_option linter.unusedVariables false
set_option linter.unusedSimpArgs false
set_option maxRecDepth 100000 in
set_option maxHeartbeats 4000000 in
theorem zmP (p0 p1 p2 p4 b:Int) (p5:Bool) (Aw:Option Addr) (wl:List S38) (cw:Nat) (Ax:Option Addr) (cx:Nat) (l y:List S38) (exp h:Int) (As:Option Addr) (cs:Nat) (sh:List Int) (w:World)
  (hx:Kd.C k38 w Ax l.length l) (hw:Kd.C k38 w Aw wl.length wl) (hs:Kd.C (Kd.int .i64) w As sh.length sh) (hcs:sh.length≤cs) (hls:sh.length≤100) (hly:y.length=l.length) (he0:-1000≤exp) (he1:exp≤1000) (hb0:2≤b) (hb1:b≤31)
  (hp:∀W:World,Kd.C k38 W Ax l.length l→Kd.C k38 W Aw wl.length wl→Calls Tryz.prog 50 #[.slice Ax l.length cx,.slice Aw wl.length cw,.int .i64 h,.int .i64 (b - 2),.int .i64 2,.int .i64 p4,.bool p5] W fun e w'=>∃v,e=.returned (.tuple #[v,.int .i64 0])∧Kd.R k38 38 w' W.heap.size (fun _=>True) v y∧Below W.heap.size W w') :
  Calls Tryz.prog 20 #[.agg #[.int .i64 p0,.int .i64 p1,.int .i64 p2,.int .i64 0,.int .i64 p4,.bool p5,.iface 97 (.agg #[]),.int .i64 b,.slice Aw wl.length cw],.agg #[.slice Ax l.length cx,.int .i64 exp,.bool false,.slice As sh.length cs],.agg #[.int .i64 4,.int .i64 h]] w fun e w'=>∃A' c' As' cs',e=.returned (.agg #[.slice A' l.length c',.int .i64 (exp+2),.bool false,.slice As' (sh.length+1) cs'])∧Kd.R k38 38 w' w.heap.size (fun _=>True) (.slice A' l.length c') y∧Kd.R (Kd.int .i64) 3 w' w.heap.size (fun _=>True) (.slice As' (sh.length+1) cs') (sh++[2])∧Below w.heap.size w w':=by
 have hmx:Tryz.prog.follows .mixedOrders=true:=by kernel_rfl
 have hm : ∀ w, (method 294 97 (.agg #[]) "headroom/fft.pass").run Tryz.prog w = .ok (145, .agg #[]) w := fun _ => by kernel_rfl
 have HR:=hhd hx
 have HS:=hhd hw
 have HT:=hhd hs
 have HCS:=hhd hcs
 have HLS:=hhd (show sh.length≤1000 by omega)
 have HLY:=hhd hly
 have HP:=hhd hp
 have HEX:=hhd (show wrap64 (exp+2)=exp+2 by unfold wrap64;omega)
 have eT:=hhd (Below.refl w.heap.size w)
 clear hx hw hs hcs hls hly hp
 go_enter Tryz.func20,Tryz.ntmps20
 go_wp2_with (first
  | ((with_reducible refine zf (N:=3) rfl ?_);refine bb_ 3 rfl eT #[.int .i64 p0,.int .i64 p1,.int .i64 p2,.int .i64 0,.int .i64 p4,.bool p5,.iface 97 (.agg #[]),.int .i64 b,.slice Aw wl.length cw] 56 ?_;intro g3 W1 hg aC L3 bI bA;have fM:=zc_ HR bA;have fO:=zc_ HS bA;have fP:=zc_ HT bA;obtain ⟨bJ,bK,bL,bM,bP,bQ,bR,bS,bT⟩:=bk9 bI;clear aC hg)
  | ((with_reducible refine zf (N:=4) rfl ?_);refine bb_ 4 rfl bA #[.slice Ax l.length cx,.int .i64 exp,.bool false,.slice As sh.length cs] 28 ?_;intro g4 W2 hg aC L4 bU bB;have bV:=za_ bI aC;have fQ:=zc_ HR bB;have fR:=zc_ HS bB;have fS:=zc_ HT bB;obtain ⟨bW,bX,bY,bZ,b6,b7,b8,b9,cA⟩:=bk9 bV;clear bJ bK bL bM bP bQ bR bS bT;obtain ⟨cB,cC,cD,cH⟩:=bk4 bU;clear aC hg)
  | ((with_reducible refine zf (N:=5) rfl ?_);refine bb_ 5 rfl bB #[.int .i64 4,.int .i64 h] 59 ?_;intro g5 W3 hg aC L5 bE bC;have bF:=za_ bV aC;have bG:=za_ bU aC;have fT:=zc_ HR bC;have fU:=zc_ HS bC;have fV:=zc_ HT bC;obtain ⟨cI,cJ,cK,cL,cM,cN,cO,cP,cQ⟩:=bk9 bF;obtain ⟨cR,cS,cT,cU⟩:=bk4 bG;clear bW bX bY bZ b6 b7 b8 b9 cA cB cC cD cH;obtain ⟨cV,cW⟩:=bk2 bE;clear aC hg)
  | ((with_reducible refine zf (N:=6) rfl ?_);refine bb_ 6 rfl bC #[.slice none 0 0,.int .i64 0,.bool false,.slice none 0 0] 28 ?_;intro g6 W4 hg aC L6 cX bD;have cY:=za_ bF aC;have cZ:=za_ bG aC;have dB:=za_ bE aC;have fW:=zc_ HR bD;have fX:=zc_ HS bD;have fY:=zc_ HT bD;obtain ⟨dC,dD,dE,dF,dG,dH,dI,dJ,dK⟩:=bk9 cY;obtain ⟨dL,dM,dN,dO⟩:=bk4 cZ;obtain ⟨dP,dQ⟩:=bk2 dB;clear cI cJ cK cL cM cN cO cP cQ cR cS cT cU cV cW;obtain ⟨dR,dS,dU,dV⟩:=bk4 cX;have fZ:=ne_ bF hg;have f6:=ne_ bG hg;have f7:=ne_ bE hg;clear aC hg)
  | (go_at_call 145;(with_reducible refine (zhm 4 (by decide) (by decide) Ax l.length cx _).mono ?_);rintro e W5 ⟨rfl,hb⟩;have aT:=zs_ bD hb;have dW:=za_ cY hb;have dX:=za_ cZ hb;have dY:=za_ dB hb;have bH:=za_ cX hb;have eP:=zc_ HR aT;have eQ:=zc_ HS aT;have f8:=zc_ HT aT;obtain ⟨dZ,d5,d6,d7,d8,d9,eB,eC,eD⟩:=bk9 dW;obtain ⟨eE,eF,eG,eH⟩:=bk4 dX;obtain ⟨eI,eJ⟩:=bk2 dY;obtain ⟨eK,eM,eN,eO⟩:=bk4 bH;clear dC dD dE dF dG dH dI dJ dK dL dM dN dO dP dQ dR dS dU dV;clear hb)
  | (go_at_call 50;refine (HP.out _ eP.out eQ.out).mono ?_;rintro e W6 ⟨vt,rfl,ho,hb⟩;obtain ⟨A2,c2,ev⟩:=Kd.R_slice ho;rw [HLY.out] at ev;subst ev;have aN:=hhd (Kd.R_lower ho (zi aT));have NR6:=hhd (show some g6≠(Value.slice A2 _ c2).ownBlock from fun e=>Nat.lt_irrefl _ (Nat.lt_of_lt_of_le (zj bH) (Kd.R_base ho g6 e.symm)));have aJ:=zs_ aT hb;have aK:=za_ dW hb;have aH:=za_ dX hb;have eR:=za_ dY hb;have aI:=za_ bH hb;have f9:=zc_ HR aJ;have gA:=zc_ HS aJ;have aQ:=zc_ HT aJ;obtain ⟨eU,eV,eW,eX,eY,eZ,fA,fB,fD⟩:=bk9 aK;obtain ⟨aU,aV,aW,aX⟩:=bk4 aH;obtain ⟨fE,fF⟩:=bk2 eR;obtain ⟨fG,fH,fJ,fK⟩:=bk4 aI;clear dZ d5 d6 d7 d8 d9 eB eC eD eE eF eG eH eI eJ eK eM eN eO;clear hb ho))
 refine z7 (S:=fun w'=>Below W6.heap.size W6 w') (ds:=[]) (fl 16 0) hmx rfl rfl (Below.refl _ _).drew (fun I=>?_)
 refine px_ 0 rfl ?_
 refine px_ 1 rfl ?_
 refine px_ 3 rfl ?_
 refine px_ 5 rfl ?_
 refine px_ 7 rfl ?_
 refine px_ 10 rfl ?_
 refine tx_ 2 rfl I (by rintro w' hs;obtain ⟨aY,aZ,a7,a8⟩:=bg4 hs aU aV aW aX;go_simp;with_reducible rfl) ?_
 refine px_ 4 rfl ?_
 refine tx_ 6 rfl I (by rintro w' hs;obtain ⟨aY,aZ,a7,a8⟩:=bg4 hs aU aV aW aX;go_simp;with_reducible rfl) ?_
 refine tx_ 8 rfl I (by rintro w' hs;obtain ⟨aY,aZ,a7,a8⟩:=bg4 hs aU aV aW aX;go_simp;with_reducible rfl) ?_
 refine zeA (i:=9) (j:=11) (k:=14) (Ni:=some 53) (Nj:=some 55) (Nk:=some 11) (fl 16 2047) (fl 16 3583) (fl 16 17919) rfl rfl rfl rfl rfl rfl (by kernel_rfl) (by decide) (by decide) (by decide) (fun K hK=>?e1_9) (fun K hK=>?e1_11) (fun K hK=>?e1_14)
 case' e1_9 =>
  refine zJ Tryz.func51 (by kernel_rfl) rfl #[.slice As sh.length cs] (by rfl) rfl rfl (by go_simp) ?_
  refine (zaP As sh.length cs HCS.out HLS.out _).mono ?_
  rintro e Wc ⟨rfl,rfl⟩
  refine ⟨_,rfl,?_⟩
  refine hK.out _ _ I (fun _=>?_)
  clear hK K
  refine nx_ ?_
  refine wx_ 11 14 (some 55) (some 11) rfl rfl rfl rfl (fun K hK=>?e2_11) fun K hK=>?e2_14
  case' e2_11 =>
   refine zaL rfl rfl 2 (by first | (go_simp;done) | (go_simp;rfl)) ?_
   intro g55 hg Wc aE aC
   refine hK.out _ _ (zb I aC) (fun aA=>?_)
   have B55:=hhd aE
   clear hK K I aC aE hg
   have I:=aA
   clear aA
   refine nx_ ?_
   refine wx_ 12 14 (some 56) (some 11) rfl rfl rfl rfl (fun K hK=>?e3_12) fun K hK=>?e3_14
   case' e3_12 =>
    refine zae rfl rfl rfl _ _ rfl As sh g55 2 rfl rfl (Kd.C_below aQ.out I) B55.out HLS.out ?_
    intro v56 Wc hrow aC
    obtain ⟨A56,c56,ev⟩:=Kd.R_slice hrow
    rw [List.length_append,List.length_singleton] at ev
    subst ev
    refine hK.out _ _ (zb I aC) (fun aA=>?_)
    replace B55:=za_ B55 aC
    have a9:W6.heap.size≤_:=I.size
    have R56:=hhd (Kd.R_lower hrow I.size)
    clear hK K I aC hrow
    have I:=aA
    clear aA
    refine nx_ ?_
    refine px_ 13 rfl ?_
    refine ox_ 14 (some 11) rfl rfl fun K hK=>?_
    refine box_step rfl rfl (cs:=#[.slice none 0 0,.int .i64 0,.bool false,.slice none 0 0]) (t:=28) (by first | (go_simp;done) | (go_simp;rfl)) ?_
    intro g11 hg Wc aE aC
    refine hK.out _ _ (zb I aC) (fun aA=>?_)
    replace B55:=za_ B55 aC
    replace R56:=zr_ R56 aC
    have aM:W6.heap.size≤g11:=by rw [hg];exact I.size
    have B11:=hhd aE
    clear hK K I aC aE hg
    have I:=aA
    clear aA
    refine nx_ ?_
    refine ox_ 15 none rfl rfl fun K hK=>?_
    refine zA rfl rfl 28 _ _ rfl g11 #[.slice A2 l.length c2,.int .i64 (wrap64 (exp+2)),.bool false,.slice A56 (sh.length+1) c56] rfl rfl 28 #[.slice none 0 0,.int .i64 0,.bool false,.slice none 0 0] B11.out (zV _ _ _ _) rfl (zaK _ _ _ _ _ _ _ _) ?_
    intro Wd hq aD aG
    have HBd:=hhd (aG _ _ (Nat.le_trans (zi aJ) aM) (zb aJ I))
    have D3_d:=hhd ((aD _ (fun e=>by have:=zj aK;omega)).trans (zd aK I))
    have D4_d:=hhd ((aD _ (fun e=>by have:=zj aH;omega)).trans (zd aH I))
    have D6_d:=hhd ((aD _ (fun e=>by have:=zj aI;omega)).trans (zd aI I))
    have N6:=hhd (show g6≠g11 from fun e=>by have:=zj aI;omega)
    have N4:=hhd (show g4≠g11 from fun e=>by have:=zj aH;omega)
    have Ry_d:=hhd (zI (Kd.R_below aN.out I) aD (fun e=>by have h1:=Kd.R_lt aN.out g11 e.symm;omega))
    have R56_d:=zg_ R56 B11 aD
    refine hK.out _ _ (aG _ _ aM I) (fun aA=>?_)
    replace B11:=hhd hq
    clear hK K hq aD aG I
    have I:=aA
    clear aA
    refine zE (by kernel_rfl) ?_
   case' e3_14 =>
    refine box_step rfl rfl (cs:=#[.slice none 0 0,.int .i64 0,.bool false,.slice none 0 0]) (t:=28) (by first | (go_simp;done) | (go_simp;rfl)) ?_
    intro g11 hg Wc aE aC
    refine hK.out _ _ (zb I aC) (fun aA=>?_)
    replace B55:=za_ B55 aC
    have aM:W6.heap.size≤g11:=by rw [hg];exact I.size
    have B11:=hhd aE
    clear hK K I aC aE hg
    have I:=aA
    clear aA
    refine nx_ ?_
    refine ox_ 12 (some 56) rfl rfl fun K hK=>?_
    refine zae rfl rfl rfl _ _ rfl As sh g55 2 rfl rfl (Kd.C_below aQ.out I) B55.out HLS.out ?_
    intro v56 Wc hrow aC
    obtain ⟨A56,c56,ev⟩:=Kd.R_slice hrow
    rw [List.length_append,List.length_singleton] at ev
    subst ev
    refine hK.out _ _ (zb I aC) (fun aA=>?_)
    replace B55:=za_ B55 aC
    replace B11:=za_ B11 aC
    have a9:W6.heap.size≤_:=I.size
    have R56:=hhd (Kd.R_lower hrow I.size)
    clear hK K I aC hrow
    have I:=aA
    clear aA
    refine nx_ ?_
    refine px_ 13 rfl ?_
    refine ox_ 15 none rfl rfl fun K hK=>?_
    refine zA rfl rfl 28 _ _ rfl g11 #[.slice A2 l.length c2,.int .i64 (wrap64 (exp+2)),.bool false,.slice A56 (sh.length+1) c56] rfl rfl 28 #[.slice none 0 0,.int .i64 0,.bool false,.slice none 0 0] B11.out (zV _ _ _ _) rfl (zaK _ _ _ _ _ _ _ _) ?_
    intro Wd hq aD aG
    have HBd:=hhd (aG _ _ (Nat.le_trans (zi aJ) aM) (zb aJ I))
    have D3_d:=hhd ((aD _ (fun e=>by have:=zj aK;omega)).trans (zd aK I))
    have D4_d:=hhd ((aD _ (fun e=>by have:=zj aH;omega)).trans (zd aH I))
    have D6_d:=hhd ((aD _ (fun e=>by have:=zj aI;omega)).trans (zd aI I))
    have N6:=hhd (show g6≠g11 from fun e=>by have:=zj aI;omega)
    have N4:=hhd (show g4≠g11 from fun e=>by have:=zj aH;omega)
    have Ry_d:=hhd (zI (Kd.R_below aN.out I) aD (fun e=>by have h1:=Kd.R_lt aN.out g11 e.symm;omega))
    have R56_d:=zg_ R56 B11 aD
    refine hK.out _ _ (aG _ _ aM I) (fun aA=>?_)
    replace B11:=hhd hq
    clear hK K hq aD aG I
    have I:=aA
    clear aA
    refine zE (by kernel_rfl) ?_
  case' e2_14 =>
   refine box_step rfl rfl (cs:=#[.slice none 0 0,.int .i64 0,.bool false,.slice none 0 0]) (t:=28) (by first | (go_simp;done) | (go_simp;rfl)) ?_
   intro g11 hg Wc aE aC
   refine hK.out _ _ (zb I aC) (fun aA=>?_)
   have aM:W6.heap.size≤g11:=by rw [hg];exact I.size
   have B11:=hhd aE
   clear hK K I aC aE hg
   have I:=aA
   clear aA
   refine nx_ ?_
   refine ox_ 11 (some 55) rfl rfl fun K hK=>?_
   refine zaL rfl rfl 2 (by first | (go_simp;done) | (go_simp;rfl)) ?_
   intro g55 hg Wc aE aC
   refine hK.out _ _ (zb I aC) (fun aA=>?_)
   replace B11:=za_ B11 aC
   have B55:=hhd aE
   clear hK K I aC aE hg
   have I:=aA
   clear aA
   refine nx_ ?_
   refine ox_ 12 (some 56) rfl rfl fun K hK=>?_
   refine zae rfl rfl rfl _ _ rfl As sh g55 2 rfl rfl (Kd.C_below aQ.out I) B55.out HLS.out ?_
   intro v56 Wc hrow aC
   obtain ⟨A56,c56,ev⟩:=Kd.R_slice hrow
   rw [List.length_append,List.length_singleton] at ev
   subst ev
   refine hK.out _ _ (zb I aC) (fun aA=>?_)
   replace B11:=za_ B11 aC
   replace B55:=za_ B55 aC
   have a9:W6.heap.size≤_:=I.size
   have R56:=hhd (Kd.R_lower hrow I.size)
   clear hK K I aC hrow
   have I:=aA
   clear aA
   refine nx_ ?_
   refine px_ 13 rfl ?_
   refine ox_ 15 none rfl rfl fun K hK=>?_
   refine zA rfl rfl 28 _ _ rfl g11 #[.slice A2 l.length c2,.int .i64 (wrap64 (exp+2)),.bool false,.slice A56 (sh.length+1) c56] rfl rfl 28 #[.slice none 0 0,.int .i64 0,.bool false,.slice none 0 0] B11.out (zV _ _ _ _) rfl (zaK _ _ _ _ _ _ _ _) ?_
   intro Wd hq aD aG
   have HBd:=hhd (aG _ _ (Nat.le_trans (zi aJ) aM) (zb aJ I))
   have D3_d:=hhd ((aD _ (fun e=>by have:=zj aK;omega)).trans (zd aK I))
   have D4_d:=hhd ((aD _ (fun e=>by have:=zj aH;omega)).trans (zd aH I))
   have D6_d:=hhd ((aD _ (fun e=>by have:=zj aI;omega)).trans (zd aI I))
   have N6:=hhd (show g6≠g11 from fun e=>by have:=zj aI;omega)
   have N4:=hhd (show g4≠g11 from fun e=>by have:=zj aH;omega)
   have Ry_d:=hhd (zI (Kd.R_below aN.out I) aD (fun e=>by have h1:=Kd.R_lt aN.out g11 e.symm;omega))
   have R56_d:=zg_ R56 B11 aD
   refine hK.out _ _ (aG _ _ aM I) (fun aA=>?_)
   replace B11:=hhd hq
   clear hK K hq aD aG I
   have I:=aA
   clear aA
   refine zE (by kernel_rfl) ?_
 case' e1_11 =>
  refine zaL rfl rfl 2 (by first | (go_simp;done) | (go_simp;rfl)) ?_
  intro g55 hg Wc aE aC
  refine hK.out _ _ (zb I aC) (fun aA=>?_)
  have B55:=hhd aE
  clear hK K I aC aE hg
  have I:=aA
  clear aA
  refine nx_ ?_
  refine wx_ 9 14 (some 53) (some 11) rfl rfl rfl rfl (fun K hK=>?e4_9) fun K hK=>?e4_14
  case' e4_9 =>
   refine zJ Tryz.func51 (by kernel_rfl) rfl #[.slice As sh.length cs] (by rfl) rfl rfl (by go_simp) ?_
   refine (zaP As sh.length cs HCS.out HLS.out _).mono ?_
   rintro e Wc ⟨rfl,rfl⟩
   refine ⟨_,rfl,?_⟩
   refine hK.out _ _ I (fun _=>?_)
   clear hK K
   refine nx_ ?_
   refine wx_ 12 14 (some 56) (some 11) rfl rfl rfl rfl (fun K hK=>?e5_12) fun K hK=>?e5_14
   case' e5_12 =>
    refine zae rfl rfl rfl _ _ rfl As sh g55 2 rfl rfl (Kd.C_below aQ.out I) B55.out HLS.out ?_
    intro v56 Wc hrow aC
    obtain ⟨A56,c56,ev⟩:=Kd.R_slice hrow
    rw [List.length_append,List.length_singleton] at ev
    subst ev
    refine hK.out _ _ (zb I aC) (fun aA=>?_)
    replace B55:=za_ B55 aC
    have a9:W6.heap.size≤_:=I.size
    have R56:=hhd (Kd.R_lower hrow I.size)
    clear hK K I aC hrow
    have I:=aA
    clear aA
    refine nx_ ?_
    refine px_ 13 rfl ?_
    refine ox_ 14 (some 11) rfl rfl fun K hK=>?_
    refine box_step rfl rfl (cs:=#[.slice none 0 0,.int .i64 0,.bool false,.slice none 0 0]) (t:=28) (by first | (go_simp;done) | (go_simp;rfl)) ?_
    intro g11 hg Wc aE aC
    refine hK.out _ _ (zb I aC) (fun aA=>?_)
    replace B55:=za_ B55 aC
    replace R56:=zr_ R56 aC
    have aM:W6.heap.size≤g11:=by rw [hg];exact I.size
    have B11:=hhd aE
    clear hK K I aC aE hg
    have I:=aA
    clear aA
    refine nx_ ?_
    refine ox_ 15 none rfl rfl fun K hK=>?_
    refine zA rfl rfl 28 _ _ rfl g11 #[.slice A2 l.length c2,.int .i64 (wrap64 (exp+2)),.bool false,.slice A56 (sh.length+1) c56] rfl rfl 28 #[.slice none 0 0,.int .i64 0,.bool false,.slice none 0 0] B11.out (zV _ _ _ _) rfl (zaK _ _ _ _ _ _ _ _) ?_
    intro Wd hq aD aG
    have HBd:=hhd (aG _ _ (Nat.le_trans (zi aJ) aM) (zb aJ I))
    have D3_d:=hhd ((aD _ (fun e=>by have:=zj aK;omega)).trans (zd aK I))
    have D4_d:=hhd ((aD _ (fun e=>by have:=zj aH;omega)).trans (zd aH I))
    have D6_d:=hhd ((aD _ (fun e=>by have:=zj aI;omega)).trans (zd aI I))
    have N6:=hhd (show g6≠g11 from fun e=>by have:=zj aI;omega)
    have N4:=hhd (show g4≠g11 from fun e=>by have:=zj aH;omega)
    have Ry_d:=hhd (zI (Kd.R_below aN.out I) aD (fun e=>by have h1:=Kd.R_lt aN.out g11 e.symm;omega))
    have R56_d:=zg_ R56 B11 aD
    refine hK.out _ _ (aG _ _ aM I) (fun aA=>?_)
    replace B11:=hhd hq
    clear hK K hq aD aG I
    have I:=aA
    clear aA
    refine zE (by kernel_rfl) ?_
   case' e5_14 =>
    refine box_step rfl rfl (cs:=#[.slice none 0 0,.int .i64 0,.bool false,.slice none 0 0]) (t:=28) (by first | (go_simp;done) | (go_simp;rfl)) ?_
    intro g11 hg Wc aE aC
    refine hK.out _ _ (zb I aC) (fun aA=>?_)
    replace B55:=za_ B55 aC
    have aM:W6.heap.size≤g11:=by rw [hg];exact I.size
    have B11:=hhd aE
    clear hK K I aC aE hg
    have I:=aA
    clear aA
    refine nx_ ?_
    refine ox_ 12 (some 56) rfl rfl fun K hK=>?_
    refine zae rfl rfl rfl _ _ rfl As sh g55 2 rfl rfl (Kd.C_below aQ.out I) B55.out HLS.out ?_
    intro v56 Wc hrow aC
    obtain ⟨A56,c56,ev⟩:=Kd.R_slice hrow
    rw [List.length_append,List.length_singleton] at ev
    subst ev
    refine hK.out _ _ (zb I aC) (fun aA=>?_)
    replace B55:=za_ B55 aC
    replace B11:=za_ B11 aC
    have a9:W6.heap.size≤_:=I.size
    have R56:=hhd (Kd.R_lower hrow I.size)
    clear hK K I aC hrow
    have I:=aA
    clear aA
    refine nx_ ?_
    refine px_ 13 rfl ?_
    refine ox_ 15 none rfl rfl fun K hK=>?_
    refine zA rfl rfl 28 _ _ rfl g11 #[.slice A2 l.length c2,.int .i64 (wrap64 (exp+2)),.bool false,.slice A56 (sh.length+1) c56] rfl rfl 28 #[.slice none 0 0,.int .i64 0,.bool false,.slice none 0 0] B11.out (zV _ _ _ _) rfl (zaK _ _ _ _ _ _ _ _) ?_
    intro Wd hq aD aG
    have HBd:=hhd (aG _ _ (Nat.le_trans (zi aJ) aM) (zb aJ I))
    have D3_d:=hhd ((aD _ (fun e=>by have:=zj aK;omega)).trans (zd aK I))
    have D4_d:=hhd ((aD _ (fun e=>by have:=zj aH;omega)).trans (zd aH I))
    have D6_d:=hhd ((aD _ (fun e=>by have:=zj aI;omega)).trans (zd aI I))
    have N6:=hhd (show g6≠g11 from fun e=>by have:=zj aI;omega)
    have N4:=hhd (show g4≠g11 from fun e=>by have:=zj aH;omega)
    have Ry_d:=hhd (zI (Kd.R_below aN.out I) aD (fun e=>by have h1:=Kd.R_lt aN.out g11 e.symm;omega))
    have R56_d:=zg_ R56 B11 aD
    refine hK.out _ _ (aG _ _ aM I) (fun aA=>?_)
    replace B11:=hhd hq
    clear hK K hq aD aG I
    have I:=aA
    clear aA
    refine zE (by kernel_rfl) ?_
  case' e4_14 =>
   refine box_step rfl rfl (cs:=#[.slice none 0 0,.int .i64 0,.bool false,.slice none 0 0]) (t:=28) (by first | (go_simp;done) | (go_simp;rfl)) ?_
   intro g11 hg Wc aE aC
   refine hK.out _ _ (zb I aC) (fun aA=>?_)
   replace B55:=za_ B55 aC
   have aM:W6.heap.size≤g11:=by rw [hg];exact I.size
   have B11:=hhd aE
   clear hK K I aC aE hg
   have I:=aA
   clear aA
   refine nx_ ?_
   refine ox_ 9 (some 53) rfl rfl fun K hK=>?_
   refine zJ Tryz.func51 (by kernel_rfl) rfl #[.slice As sh.length cs] (by rfl) rfl rfl (by go_simp) ?_
   refine (zaP As sh.length cs HCS.out HLS.out _).mono ?_
   rintro e Wc ⟨rfl,rfl⟩
   refine ⟨_,rfl,?_⟩
   refine hK.out _ _ I (fun _=>?_)
   clear hK K
   refine nx_ ?_
   refine ox_ 12 (some 56) rfl rfl fun K hK=>?_
   refine zae rfl rfl rfl _ _ rfl As sh g55 2 rfl rfl (Kd.C_below aQ.out I) B55.out HLS.out ?_
   intro v56 Wc hrow aC
   obtain ⟨A56,c56,ev⟩:=Kd.R_slice hrow
   rw [List.length_append,List.length_singleton] at ev
   subst ev
   refine hK.out _ _ (zb I aC) (fun aA=>?_)
   replace B55:=za_ B55 aC
   replace B11:=za_ B11 aC
   have a9:W6.heap.size≤_:=I.size
   have R56:=hhd (Kd.R_lower hrow I.size)
   clear hK K I aC hrow
   have I:=aA
   clear aA
   refine nx_ ?_
   refine px_ 13 rfl ?_
   refine ox_ 15 none rfl rfl fun K hK=>?_
   refine zA rfl rfl 28 _ _ rfl g11 #[.slice A2 l.length c2,.int .i64 (wrap64 (exp+2)),.bool false,.slice A56 (sh.length+1) c56] rfl rfl 28 #[.slice none 0 0,.int .i64 0,.bool false,.slice none 0 0] B11.out (zV _ _ _ _) rfl (zaK _ _ _ _ _ _ _ _) ?_
   intro Wd hq aD aG
   have HBd:=hhd (aG _ _ (Nat.le_trans (zi aJ) aM) (zb aJ I))
   have D3_d:=hhd ((aD _ (fun e=>by have:=zj aK;omega)).trans (zd aK I))
   have D4_d:=hhd ((aD _ (fun e=>by have:=zj aH;omega)).trans (zd aH I))
   have D6_d:=hhd ((aD _ (fun e=>by have:=zj aI;omega)).trans (zd aI I))
   have N6:=hhd (show g6≠g11 from fun e=>by have:=zj aI;omega)
   have N4:=hhd (show g4≠g11 from fun e=>by have:=zj aH;omega)
   have Ry_d:=hhd (zI (Kd.R_below aN.out I) aD (fun e=>by have h1:=Kd.R_lt aN.out g11 e.symm;omega))
   have R56_d:=zg_ R56 B11 aD
   refine hK.out _ _ (aG _ _ aM I) (fun aA=>?_)
   replace B11:=hhd hq
   clear hK K hq aD aG I
   have I:=aA
   clear aA
   refine zE (by kernel_rfl) ?_
 case' e1_14 =>
  refine box_step rfl rfl (cs:=#[.slice none 0 0,.int .i64 0,.bool false,.slice none 0 0]) (t:=28) (by first | (go_simp;done) | (go_simp;rfl)) ?_
  intro g11 hg Wc aE aC
  refine hK.out _ _ (zb I aC) (fun aA=>?_)
  have aM:W6.heap.size≤g11:=by rw [hg];exact I.size
  have B11:=hhd aE
  clear hK K I aC aE hg
  have I:=aA
  clear aA
  refine nx_ ?_
  refine wx_ 9 11 (some 53) (some 55) rfl rfl rfl rfl (fun K hK=>?e6_9) fun K hK=>?e6_11
  case' e6_9 =>
   refine zJ Tryz.func51 (by kernel_rfl) rfl #[.slice As sh.length cs] (by rfl) rfl rfl (by go_simp) ?_
   refine (zaP As sh.length cs HCS.out HLS.out _).mono ?_
   rintro e Wc ⟨rfl,rfl⟩
   refine ⟨_,rfl,?_⟩
   refine hK.out _ _ I (fun _=>?_)
   clear hK K
   refine nx_ ?_
   refine ox_ 11 (some 55) rfl rfl fun K hK=>?_
   refine zaL rfl rfl 2 (by first | (go_simp;done) | (go_simp;rfl)) ?_
   intro g55 hg Wc aE aC
   refine hK.out _ _ (zb I aC) (fun aA=>?_)
   replace B11:=za_ B11 aC
   have B55:=hhd aE
   clear hK K I aC aE hg
   have I:=aA
   clear aA
   refine nx_ ?_
   refine ox_ 12 (some 56) rfl rfl fun K hK=>?_
   refine zae rfl rfl rfl _ _ rfl As sh g55 2 rfl rfl (Kd.C_below aQ.out I) B55.out HLS.out ?_
   intro v56 Wc hrow aC
   obtain ⟨A56,c56,ev⟩:=Kd.R_slice hrow
   rw [List.length_append,List.length_singleton] at ev
   subst ev
   refine hK.out _ _ (zb I aC) (fun aA=>?_)
   replace B11:=za_ B11 aC
   replace B55:=za_ B55 aC
   have a9:W6.heap.size≤_:=I.size
   have R56:=hhd (Kd.R_lower hrow I.size)
   clear hK K I aC hrow
   have I:=aA
   clear aA
   refine nx_ ?_
   refine px_ 13 rfl ?_
   refine ox_ 15 none rfl rfl fun K hK=>?_
   refine zA rfl rfl 28 _ _ rfl g11 #[.slice A2 l.length c2,.int .i64 (wrap64 (exp+2)),.bool false,.slice A56 (sh.length+1) c56] rfl rfl 28 #[.slice none 0 0,.int .i64 0,.bool false,.slice none 0 0] B11.out (zV _ _ _ _) rfl (zaK _ _ _ _ _ _ _ _) ?_
   intro Wd hq aD aG
   have HBd:=hhd (aG _ _ (Nat.le_trans (zi aJ) aM) (zb aJ I))
   have D3_d:=hhd ((aD _ (fun e=>by have:=zj aK;omega)).trans (zd aK I))
   have D4_d:=hhd ((aD _ (fun e=>by have:=zj aH;omega)).trans (zd aH I))
   have D6_d:=hhd ((aD _ (fun e=>by have:=zj aI;omega)).trans (zd aI I))
   have N6:=hhd (show g6≠g11 from fun e=>by have:=zj aI;omega)
   have N4:=hhd (show g4≠g11 from fun e=>by have:=zj aH;omega)
   have Ry_d:=hhd (zI (Kd.R_below aN.out I) aD (fun e=>by have h1:=Kd.R_lt aN.out g11 e.symm;omega))
   have R56_d:=zg_ R56 B11 aD
   refine hK.out _ _ (aG _ _ aM I) (fun aA=>?_)
   replace B11:=hhd hq
   clear hK K hq aD aG I
   have I:=aA
   clear aA
   refine zE (by kernel_rfl) ?_
  case' e6_11 =>
   refine zaL rfl rfl 2 (by first | (go_simp;done) | (go_simp;rfl)) ?_
   intro g55 hg Wc aE aC
   refine hK.out _ _ (zb I aC) (fun aA=>?_)
   replace B11:=za_ B11 aC
   have B55:=hhd aE
   clear hK K I aC aE hg
   have I:=aA
   clear aA
   refine nx_ ?_
   refine ox_ 9 (some 53) rfl rfl fun K hK=>?_
   refine zJ Tryz.func51 (by kernel_rfl) rfl #[.slice As sh.length cs] (by rfl) rfl rfl (by go_simp) ?_
   refine (zaP As sh.length cs HCS.out HLS.out _).mono ?_
   rintro e Wc ⟨rfl,rfl⟩
   refine ⟨_,rfl,?_⟩
   refine hK.out _ _ I (fun _=>?_)
   clear hK K
   refine nx_ ?_
   refine ox_ 12 (some 56) rfl rfl fun K hK=>?_
   refine zae rfl rfl rfl _ _ rfl As sh g55 2 rfl rfl (Kd.C_below aQ.out I) B55.out HLS.out ?_
   intro v56 Wc hrow aC
   obtain ⟨A56,c56,ev⟩:=Kd.R_slice hrow
   rw [List.length_append,List.length_singleton] at ev
   subst ev
   refine hK.out _ _ (zb I aC) (fun aA=>?_)
   replace B11:=za_ B11 aC
   replace B55:=za_ B55 aC
   have a9:W6.heap.size≤_:=I.size
   have R56:=hhd (Kd.R_lower hrow I.size)
   clear hK K I aC hrow
   have I:=aA
   clear aA
   refine nx_ ?_
   refine px_ 13 rfl ?_
   refine ox_ 15 none rfl rfl fun K hK=>?_
   refine zA rfl rfl 28 _ _ rfl g11 #[.slice A2 l.length c2,.int .i64 (wrap64 (exp+2)),.bool false,.slice A56 (sh.length+1) c56] rfl rfl 28 #[.slice none 0 0,.int .i64 0,.bool false,.slice none 0 0] B11.out (zV _ _ _ _) rfl (zaK _ _ _ _ _ _ _ _) ?_
   intro Wd hq aD aG
   have HBd:=hhd (aG _ _ (Nat.le_trans (zi aJ) aM) (zb aJ I))
   have D3_d:=hhd ((aD _ (fun e=>by have:=zj aK;omega)).trans (zd aK I))
   have D4_d:=hhd ((aD _ (fun e=>by have:=zj aH;omega)).trans (zd aH I))
   have D6_d:=hhd ((aD _ (fun e=>by have:=zj aI;omega)).trans (zd aI I))
   have N6:=hhd (show g6≠g11 from fun e=>by have:=zj aI;omega)
   have N4:=hhd (show g4≠g11 from fun e=>by have:=zj aH;omega)
   have Ry_d:=hhd (zI (Kd.R_below aN.out I) aD (fun e=>by have h1:=Kd.R_lt aN.out g11 e.symm;omega))
   have R56_d:=zg_ R56 B11 aD
   refine hK.out _ _ (aG _ _ aM I) (fun aA=>?_)
   replace B11:=hhd hq
   clear hK K hq aD aG I
   have I:=aA
   clear aA
   refine zE (by kernel_rfl) ?_
 all_goals
  have kk:=(za D3_d 3).trans rfl
  clear I
  go_wp2_with (first
   | ((with_reducible refine zf (N:=75) rfl ?_);refine lr_ 75 rfl 28 B11 Tryz.underlying28 ?_)
   | ((with_reducible refine zo (t:=28) (p:=6) rfl ?_);refine re_ 28 6 rfl #[.slice A2 l.length c2,.int .i64 (wrap64 (exp+2)),.bool false,.slice A56 (sh.length+1) c56] D6_d L6 HBd ?_;intro We aD D6_e HB_e;have Ry_e:=zg_ Ry_d D6_d aD;have R56_e:=zg_ R56_d D6_d aD;clear aD))
  have HV:=hhd HEX.out
  clear kk
  refine bodyPost_ret (results_cell_row rfl _ _ g6 28 #[.slice A2 l.length c2,.int .i64 (wrap64 (exp+2)),.bool false,.slice A56 (sh.length+1) c56] (0,0) _ rfl D6_e.out Tryz.underlying28 rfl (zV _ _ _ _)) rfl ?_
  refine ⟨A2,c2,A56,c56,?_,Ry_e.out,Kd.R_lower R56_e.out (zi aJ),HB_e.out⟩
  rw [HEX.out]
end Go.Proofs.YteieahbadclppaaGreat.P

namespace Go.Proofs.YteieahbadclppaaGreat.P
open Go.RowKit Go.Proofs.YteieahbadclppaaGreatW.PrintWords Go.Proofs.YteieahbadclppaaGreatW.PrintLast Go.Proofs.YteieahbadclppaaGreatW.PrintMore
set_option linter.unusedVariables false
set_option linter.unusedSimpArgs false
theorem zcT (t:Nat):((2^t:Nat):Int)=2^t:=Int.natCast_pow 2 t
theorem zfy {i:Nat}:∀(gs:List Grp) (o:List S38),(∀g,g∈gs→∀p,p∈g.pl→p≠i)→(zdI o gs).getD i z38=o.getD i z38
 | [],_,_=>rfl
 | g :: gs,o,h=>by
  show (zdI (zaS o (g.asg o)) gs).getD i z38=_
  rw [zfy gs _ (fun g' hg=>h g' (List.mem_cons_of_mem _ hg))]
  exact zdH (g.asg o) o i fun q hq=>h g (List.mem_cons_self ..) _ (zfg _ _ _ hq)
theorem zlQ {x wl:List S38} {h T n:Nat} {u bits s mode:Int} {inv:Bool} (hx:x.length=n) (hc:zeQ h T n=true) (hB:∀z,z∈x→inB 2147483648 z=true) :
  ∀t,t < T→∀j,j < h→∀k,k < 4→inB 2147483648 (aOf (za8 (zbH x wl h u bits s mode inv t) wl (t*(4*h)) h u bits s mode inv j) (t*(4*h)) h j k)=true:=by
 intro t ht j hj
 unfold zeQ at hc
 rw [Bool.and_eq_true,Bool.and_eq_true,decide_eq_true_eq,List.all_eq_true,List.all_eq_true] at hc
 obtain ⟨⟨hn,hall⟩,hp⟩:=hc
 have hq:∀t,t < T→∀j,j < h→∀q,q < 4→(t*(4*h)+(q*h+j)) / (4*h)=t∧(t*(4*h)+(q*h+j)) % (4*h) % h=j∧t*(4*h)+(q*h+j) < n:=by
  intro t ht j hj q hq
  have h1:=hp t (List.mem_range.2 ht)
  rw [List.all_eq_true] at h1
  have h2:=h1 j (List.mem_range.2 hj)
  rw [List.all_eq_true] at h2
  have h3:=h2 q (List.mem_range.2 hq)
  simp only [Bool.and_eq_true,decide_eq_true_eq] at h3
  exact ⟨h3.1,h3.2.1,h3.2.2.2⟩
 have hpl:∀(fr j p:Nat),p∈(zdW wl h u bits s mode inv fr j).pl→∃q,q < 4∧p=fr+(q*h+j):=by
  intro fr j p hp
  simp only [zdW,List.mem_cons,List.not_mem_nil,or_false] at hp
  rcases hp with rfl | rfl | rfl | rfl
  ·exact ⟨0,by decide,rfl⟩
  ·exact ⟨1,by decide,rfl⟩
  ·exact ⟨2,by decide,rfl⟩
  ·exact ⟨3,by decide,rfl⟩
 have key:∀q,q < 4→inB 2147483648 ((za8 (zbH x wl h u bits s mode inv t) wl (t*(4*h)) h u bits s mode inv j).getD (t*(4*h)+(q*h+j)) z38)=true:=by
  intro q hq4
  obtain ⟨a1,a2,a3⟩:=hq t ht j hj q hq4
  rw [zel,zdX,zfy,zfy]
  ·have hlt:t*(4*h)+(q*h+j) < x.length:=by omega
   rw [List.getD_eq_getElem?_getD,List.getElem?_eq_getElem hlt]
   exact hB _ (List.getElem_mem hlt)
  ·intro g hg p hp he
   obtain ⟨t',ht',hg⟩:=List.mem_flatMap.1 hg
   obtain ⟨j',hj',rfl⟩:=List.mem_map.1 hg
   have ht':=List.mem_range.1 ht'
   obtain ⟨q',hq',rfl⟩:=hpl _ _ _ hp
   have b:=(hq t' (by omega) j' (List.mem_range.1 hj') q' hq').1
   rw [he,a1] at b
   omega
  ·intro g hg p hp he
   obtain ⟨j',hj',rfl⟩:=List.mem_map.1 hg
   have hj':=List.mem_range.1 hj'
   obtain ⟨q',hq',rfl⟩:=hpl _ _ _ hp
   have b:=(hq t ht j' (by omega) q' hq').2.1
   rw [he,a2] at b
   omega
 intro k hk
 rw [zhO]
 have h4:k=0∨k=1∨k=2∨k=3:=by omega
 rcases h4 with rfl | rfl | rfl | rfl
 ·exact key 0 (by decide)
 ·exact key 2 (by decide)
 ·exact key 1 (by decide)
 ·exact key 3 (by decide)
theorem zmQ {fm:Nat} {mode:Int} (m0:0≤mode) (m1:mode < 3):two_settings.f (bN fm) 1 mode=some true:=by
 have h:mode=0∨mode=1∨mode=2:=by omega
 unfold bN
 split <;> rcases h with rfl | rfl | rfl <;> decide +kernel
theorem zmR {fm:Nat} {mode:Int} (m0:0≤mode) (m1:mode < 3):four_settings.f (bN fm) 2 mode=some true:=by
 have h:mode=0∨mode=1∨mode=2:=by omega
 unfold bN
 split <;> rcases h with rfl | rfl | rfl <;> decide +kernel
theorem zkI {m m':Int} {x:S38} (h:inB m x=true) (hm:m≤m'):inB m' x=true:=by
 obtain ⟨a,b,c,d⟩:=zaj h
 exact za3 (by omega)
theorem ziO {fm g:Nat} (hf:fm < 2) (h2:2≤g) (h6:g≤6):∀z,z∈twL fm g→inB 536870912 z=true:=fun z hz=>zkI ((za7 hf h2 h6).2.2 z hz).2 (qN fm).2
theorem zgY {g:Nat} (h6:g≤6):0 < 2^g∧2^g≤64:=⟨Nat.pow_pos (by decide),Nat.le_trans (Nat.pow_le_pow_right (by decide) h6) (by decide)⟩
theorem zof {T H n:Nat} (h:T*(4*H)=n) (hn:n≤64) (hH:0 < H):0≤(T:Int)∧4*(H:Int)*T≤n∧(T:Int)≤64:=by
 have h1:((T*(4*H):Nat):Int)=n:=by rw [h]
 rw [Int.natCast_mul,Int.natCast_mul] at h1
 have h2:T*1≤T*(4*H):=Nat.mul_le_mul_left T (by omega)
 refine ⟨by omega,?_,by omega⟩
 rw [Int.mul_comm]
 have e:((4:Nat):Int)=4:=rfl
 rw [e] at h1
 omega
theorem zog {fm g t:Nat} (p0 p1 p2 mode b e:Int) (inv:Bool) (k:Nat) (Y:List S38) (hf:fm < 2) (h2:2≤g) (h6:g≤6) (hp:pcB g (false,t)=true) (hb:b=(bN fm:Int)+2) (m0:0≤mode) (m1:mode < 3) (hk:k≤10) (e0:-1000≤e) (e1:e≤1000) (hY:Y.length=2^g) (hM:zak (184*2^bN fm) Y) :
  zcb (fun Aw cw=>#[.int .i64 p0,.int .i64 p1,.int .i64 p2,.int .i64 0,.int .i64 mode,.bool inv,.iface 97 (.agg #[]),.int .i64 b,.slice Aw (twL fm g).length cw]) (twL fm g) (2^g) k Y (zaf (zad fm g inv (false,t)).1 mode (zad fm g inv (false,t)).2 Y) e (e+1) (zji (false,t)):=by
 obtain ⟨c1,c2,c3,c4⟩:=pc2 h2 h6 hp
 obtain ⟨t1,t2,t3⟩:=za7 hf h2 h6
 obtain ⟨q0,q1⟩:=qN fm
 obtain ⟨b0,b1⟩:=zep fm
 obtain ⟨l0,l1⟩:=zgY h6
 have hin:=hM.in (m:=2147483648) (by omega)
 have hpos:(0:Int) < 2^t:=two_pow_pos t
 have ct:=zcT t
 have cg:=zcT g
 have rows:=zkq Y (twL fm g) (2^t) 1 mode (2^g / (2*2^t)) (bN fm) (2^g) inv hY (by omega) c1 hin (fun i i0 i1=>zkI (zgl (zdb (ziO hf h2 h6) i0 (by rw [t2];exact i1))) (by decide)) (by omega) (by decide) (by decide) m0 m1 (bN fm+1) rfl
 intro W Ax cx As cs sh Aw cw hx hcx hs hcs hks hw hcw
 subst hks
 have hlen:(zaf (zad fm g inv (false,t)).1 mode (zad fm g inv (false,t)).2 Y).length=Y.length:=by rw [zdN,zcO,hY]
 have hp:∀W:World,Kd.C k38 W Ax Y.length Y→Kd.C k38 W Aw (twL fm g).length (twL fm g)→Calls Tryz.prog 49 #[.slice Ax Y.length cx,.slice Aw (twL fm g).length cw,.int .i64 (2^t),.int .i64 (b - 2),.int .i64 1,.int .i64 mode,.bool inv] W fun e w'=>∃v,e=.returned (.tuple #[v,.int .i64 0])∧Kd.R k38 38 w' W.heap.size (fun _=>True) v (zaf (zad fm g inv (false,t)).1 mode (zad fm g inv (false,t)).2 Y)∧Below W.heap.size W w':=by
  intro I h1 h3
  have hidx:∀p,p∈zT (2^t) (2^g / (2*2^t)) Y.length→0≤p.1∧p.1+2^t < (Y.length:Int)∧0≤p.2∧p.2 < (Y.length:Int):=by
   intro p hp1
   rw [hY] at hp1 ⊢
   unfold zeP at c1
   rw [Bool.and_eq_true,Bool.and_eq_true,decide_eq_true_eq,List.all_eq_true,List.all_eq_true] at c1
   have h4:=c1.2 p hp1
   simp only [Bool.and_eq_true,decide_eq_true_eq] at h4
   omega
  have hq:=zff Ax Aw cx cw Y (twL fm g) (2^t) (bN fm) 1 mode (2^g / (2*2^t)) (2^bN fm) g inv I h1 hcx h3 hcw (by rw [t2,hY]) (by omega) (by omega) (by rw [hY];exact zhE h2 h6) (by omega) (by rw [hY];omega) (by rw [← ct];exact c3) (zmQ m0 m1) (by omega) (by omega) (by rw [Int.toNat_natCast]) (by omega) (by decide) (by decide) m0 m1 hin (fun z hz=>(t3 z hz).2) (by rw [hY,cg]) hidx
  rw [hY,rows] at hq
  rw [hY,show b - 2=(bN fm:Int) by omega]
  exact hq
 have hn:=zmv p0 p1 p2 mode b inv Aw (twL fm g) cw Ax cx Y _ e (2^t) As cs sh W hx hw hs hcs (by omega) hlen e0 e1 (by omega) (by omega) hp
 rw [hY] at hn
 refine hn.mono ?_
 rintro e w' ⟨A',c',As',cs',rfl,q1,q2,q3⟩
 exact ⟨A',c',As',cs',_,rfl,q1,q2,q3⟩
theorem zoh {fm g t:Nat} (p0 p1 p2 mode b e:Int) (inv:Bool) (k:Nat) (Y:List S38) (hf:fm < 2) (h2:2≤g) (h6:g≤6) (hp:pcB g (true,t)=true) (hb:b=(bN fm:Int)+2) (m0:0≤mode) (m1:mode < 3) (hk:k≤10) (e0:-1000≤e) (e1:e≤1000) (hY:Y.length=2^g) (hM:zak (184*2^bN fm) Y) :
  zcb (fun Aw cw=>#[.int .i64 p0,.int .i64 p1,.int .i64 p2,.int .i64 0,.int .i64 mode,.bool inv,.iface 97 (.agg #[]),.int .i64 b,.slice Aw (twL fm g).length cw]) (twL fm g) (2^g) k Y (zaf (zad fm g inv (true,t)).1 mode (zad fm g inv (true,t)).2 Y) e (e+2) (zji (true,t)):=by
 obtain ⟨c1,c2,c3,c4,c5⟩:=pc4 h2 h6 hp
 obtain ⟨t1,t2,t3⟩:=za7 hf h2 h6
 obtain ⟨q0,q1⟩:=qN fm
 obtain ⟨b0,b1⟩:=zep fm
 obtain ⟨l0,l1⟩:=zgY h6
 have hin:=hM.in (m:=2147483648) (by omega)
 have hpos:0 < 2^t:=Nat.pow_pos (by decide)
 have ct:=zcT t
 have rows:=zio Y (twL fm g) (2^t) (2^g / (4*2^t)) (2^g) ((2^g / (4*2^t):Nat):Int) 2 mode (bN fm) (bN fm+2) inv hY c1 rfl
 have hfour:=zlQ (wl:=twL fm g) (u:=((2^g / (4*2^t):Nat):Int)) (bits:=bN fm) (s:=2) (mode:=mode) (inv:=inv) hY c1 hin
 intro W Ax cx As cs sh Aw cw hx hcx hs hcs hks hw hcw
 subst hks
 have hlen:(zaf (zad fm g inv (true,t)).1 mode (zad fm g inv (true,t)).2 Y).length=Y.length:=by rw [zdN,zcO,hY]
 have hp:∀W:World,Kd.C k38 W Ax Y.length Y→Kd.C k38 W Aw (twL fm g).length (twL fm g)→Calls Tryz.prog 50 #[.slice Ax Y.length cx,.slice Aw (twL fm g).length cw,.int .i64 (2^t),.int .i64 (b - 2),.int .i64 2,.int .i64 mode,.bool inv] W fun e w'=>∃v,e=.returned (.tuple #[v,.int .i64 0])∧Kd.R k38 38 w' W.heap.size (fun _=>True) v (zaf (zad fm g inv (true,t)).1 mode (zad fm g inv (true,t)).2 Y)∧Below W.heap.size W w':=by
  intro I h1 h3
  have hu:0≤((2^g / (4*2^t):Nat):Int)∧4*(2:Int)^t*((2^g / (4*2^t):Nat):Int)≤(Y.length:Int)∧((2^g / (4*2^t):Nat):Int)≤64:=by
   rw [hY,← ct]
   exact zof c2 l1 hpos
  have hq:=zhN Ax Aw cx cw Y (twL fm g) (2^t) (2^g / (4*2^t)) (2^t) (bN fm) 2 mode ((2^g / (4*2^t):Nat):Int) (2^bN fm) g inv I h1 hcx h3 hcw (by rw [t2,hY]) (by omega) (by omega) (by rw [hY];exact zhE h2 h6) ct.symm hpos (by rw [hY];exact c2) (by rw [hY,← ct];exact c4) (by rw [hY,← ct];exact c3) hu (by rw [← ct];exact c5) (zmR m0 m1) (by omega) (by omega) (by rw [Int.toNat_natCast]) (by omega) (by decide) (by decide) m0 m1 hin (fun z hz=>(t3 z hz).2) hfour
  rw [hY,rows] at hq
  rw [hY,show b - 2=(bN fm:Int) by omega]
  exact hq
 have hn:=zmP p0 p1 p2 mode b inv Aw (twL fm g) cw Ax cx Y _ e (2^t) As cs sh W hx hw hs hcs (by omega) hlen e0 e1 (by omega) (by omega) hp
 rw [hY] at hn
 refine hn.mono ?_
 rintro e w' ⟨A',c',As',cs',rfl,q1,q2,q3⟩
 exact ⟨A',c',As',cs',_,rfl,q1,q2,q3⟩
end Go.Proofs.YteieahbadclppaaGreat.P

