/- Part 14 of 36 of the proof: the texts that it reaches, one behind the other. No condition. -/
import Derived.Test.YteieahbadclppaaGreatKr12
namespace Go.Proofs.YteieahbadclppaaGreat.P
open Go.RowKit Go.Shelf Go.Proofs.YteieahbadclppaaGreatW.PrintWords Go.Proofs.YteieahbadclppaaGreatW.PrintLast Go.Proofs.YteieahbadclppaaGreatW.PrintMore
attribute [local go_sem] Oper.semAt_some
set_option linter.unusedVariables false
set_option linter.unusedSimpArgs false
section
variable {P:Program} {ops:Array Oper} {Q:Exit→Act→World→Prop}
theorem zdw {l n:Nat} (hL:¬LetsOut Q):∀(r:List Oper) (a:Act) (w:World),r.all zcF=true→wpList P ops Q r a w→wpListIn (Fence.wide.inRound l) n P ops Q r a w
 | [],_,_,_,h=>h
 | o :: r,a,w,hd,h=>by
  have hd1:zcF o=true∧r.all zcF=true:=by simpa using hd
  have ho:∀c,o.op≠.defer c:=fun c e=>by
   have h1:=hd1.1
   unfold zcF at h1
   rw [e] at h1
   cases h1
  unfold wpList at h
  unfold wpListIn
  by_cases hw:Region.wanted o (yielded ops a.tmps)=true
  ·rw [if_pos hw] at h ⊢
   rcases h with h3 | h3
   ·exact zeG ho (Oper.wp_mono (fun a' w'=>zdw hL r a' w' hd1.2) h3)
   ·exact absurd h3.2 hL
  ·rw [if_neg hw] at h ⊢
   exact ⟨fun _ _=>trivial,zdw hL r _ w hd1.2 h⟩
theorem zca {id n l:Nat} {r:List Oper} {a:Act} {w:World} (hd:r.all zcF=true) (hL:¬LetsOut Q) (h:wpList P r.toArray Q r a w):(Code.region id r.toArray false).wpIn (Fence.wide.inRound l) n P Q a w :=
 wpIn_region_lit (zdw hL r a w hd h)
end
theorem zdU {fn:Func} {t u:Tmp} (h:fn.results=#[.tmp t,.tmp u]) (tmps:Array Value) (P:Program) (w:World):(results fn tmps).run P w=.ok (.tuple #[tmps.getD t undef,tmps.getD u undef]) w:=by simp [results,h]
theorem zhu:(Tryz.prog.info? 22).map (·.size)=some 1:=by kernel_rfl

def zne (A A2:Option Addr) (g g7 g8 g9 g10 g11 g12 g13 g20 gn gh:Nat) (l wl:List S38) (c c2 cap:Nat) (h bits s mode:Int) (inv:Bool) (m:Int) (w:World) (pre:List {p:Int×Int // p∈zT h m l.length}) (W:World):Prop :=
 (W.heap[g7]?=some (.cells #[.slice A l.length c] 22 (0,0))∧W.heap[g8]?=some (.cells #[.slice A2 wl.length c2] 22 (0,0))∧W.heap[g9]?=some (.cells #[.int .i64 h] 3 (0,0))∧W.heap[g10]?=some (.cells #[.int .i64 bits] 3 (0,0))∧W.heap[g11]?=some (.cells #[.int .i64 s] 3 (0,0))∧W.heap[g12]?=some (.cells #[.int .i64 mode] 3 (0,0))∧W.heap[g13]?=some (.cells #[.bool inv] 4 (0,0))∧W.heap[g20]?=some (.cells #[.slice (some ⟨g,0,none⟩) l.length cap] 22 (0,0))∧W.heap[gn]?=some (.cells #[.int .i64 l.length] 3 (0,0))∧W.heap[gh]?=some (.cells #[.int .i64 h] 3 (0,0))) ∧
 Kd.R k38 38 W w.heap.size (fun _=>True) (.slice (some ⟨g,0,none⟩) l.length cap) ((pre.map Subtype.val).foldl (zbJ l wl h bits s mode inv) l)∧Below w.heap.size w W
theorem za0 {W W':World} {row:Option Nat} {b t:Nat} {cs:Array Value} (h:W.heap[b]?=some (.cells cs t (0,0))) (hg:W.grownBy W' row) (hr:∀r,row=some r→∃o:Obj,W.heap[r]?=some o∧o.isCells=false):W'.heap[b]?=some (.cells cs t (0,0)) :=
 (hg.block b (zj h) (fun e=>by obtain ⟨o,ho,hc⟩:=hr b e.symm;rw [h] at ho;cases ho;cases hc)).trans h
theorem ze3 {W W':World} {row:Option Nat} {base:Nat} {ok:Nat→Prop} {v:Value} {xs:List S38} (h:Kd.R k38 38 W base ok v xs) (hg:W.grownBy W' row) (hr:∀r,row=some r→∃o:Obj,W.heap[r]?=some o∧o.isCells=false):Kd.R k38 38 W' base ok v xs :=
 Kd.R_grown2 h rfl hg (fun k hk e=>by
  obtain ⟨o,ho,hc⟩:=hr k hk
  obtain ⟨cells,h2⟩:=Kd.R_typed h k e.symm
  rw [h2] at ho;cases ho;cases hc)
theorem zlh {A A2:Option Addr} {g g7 g8 g9 g10 g11 g12 g13 g20 gn gh:Nat} {l wl:List S38} {c c2 cap:Nat} {h bits s mode:Int} {inv:Bool} {m:Int} {w I:World} (hB:w.heap.size≤I.heap.size):OwnFrom I.heap.size (zne A A2 g g7 g8 g9 g10 g11 g12 g13 g20 gn gh l wl c c2 cap h bits s mode inv m w):=by
 rintro pre W W' row ⟨⟨h7,h8,h9,h10,h11,h12,h13,h20,hn,hh⟩,hR,hb⟩ hg hr
 have hr2:∀r,row=some r→∃o:Obj,W.heap[r]?=some o∧o.isCells=false:=fun r e=>(hr r e).2
 exact ⟨⟨za0 h7 hg hr2,za0 h8 hg hr2,za0 h9 hg hr2,za0 h10 hg hr2,za0 h11 hg hr2,za0 h12 hg hr2,za0 h13 hg hr2,za0 h20 hg hr2,za0 hn hg hr2,za0 hh hg hr2⟩,ze3 hR hg hr2,hb.grown hg hb.size (fun k e=>Nat.le_trans hB (hr k e).1)⟩
set_option maxRecDepth 100000 in
set_option maxHeartbeats 8000000 in
theorem zff (A A2:Option Addr) (c c2:Nat) (l wl:List S38) (h bits s mode m mm lg:Int) (inv:Bool) (w:World)
  (hr:Kd.C k38 w A l.length l) (hc:l.length≤c) (hs:Kd.C k38 w A2 wl.length wl) (hc2:wl.length≤c2) (hlen:wl.length=l.length) (hn0:0 < l.length) (hn:l.length≤64)
  (hlog:flip_Log.f 10 l.length=some (lg,0)) (h1:1≤h) (h2:h < l.length) (hpow:Go.bits .and .i64 h (h - 1)=0) (hset:two_settings.f bits s mode=some true) (b0:0≤bits) (b1:bits≤40) (hmm:mm=2^bits.toNat)
  (b2:bits≤29) (s0:0≤s) (s1:s≤3) (mo0:0≤mode) (mo1:mode < 3)
  (hx:∀x,x∈l→inB 2147483648 x=true) (hw:∀x,x∈wl→inB mm x=true) (hm:m=l.length / (2*h))
  (hidx:∀p,p∈zT h m l.length→0≤p.1∧p.1+h < l.length∧0≤p.2∧p.2 < l.length) :
  Calls Tryz.prog 49 #[.slice A l.length c,.slice A2 wl.length c2,.int .i64 h,.int .i64 bits,.int .i64 s,.int .i64 mode,.bool inv] w fun e w'=>∃v,e=.returned (.tuple #[v,.int .i64 0])∧Kd.R k38 38 w' w.heap.size (fun _=>True) v (zdv l wl h bits s mode inv m l.length)∧Below w.heap.size w w':=by
 have hmx:Tryz.prog.follows .mixedOrders=true:=by kernel_rfl
 have HCL:=hhd (show api_Cx_79.f l=some l by unfold api_Cx_79.f api_Cx_79a.f;rw [Option.bind_some,if_pos (by simp;omega)];rfl)
 have HR:=hhd hr
 have HS:=hhd hs
 have HC:=hhd hc
 have HC2:=hhd hc2
 have HX:=hhd hx
 have HW:=hhd hw
 have HNE:=hhd hn0
 have HLOG:=hhd hlog
 have HSET:=hhd hset
 have HI:=hhd hidx
 have HM:=hhd hm
 have HLN:=hhd hlen
 have HN:=hhd hn
 have q1:(h < 1)=False:=eq_false (by omega)
 have q2:((l.length:Int)≤h)=False:=eq_false (by omega)
 have q3:wrap64 (h - 1)=h - 1:=by unfold wrap64;omega
 have q4:(wl.length:Int)=(l.length:Int):=by omega
 have q1':decide (h < 1)=false:=decide_eq_false (by omega)
 have q2':decide ((l.length:Int)≤h)=false:=decide_eq_false (by omega)
 have mL:=hhd (Below.refl w.heap.size w)
 have HH:=hhd (And.intro h1 h2)
 clear hr hs hc hc2 hx hw hlog hset hidx hm hlen hn hn0 h1 h2
 refine (callsIn_wide (n:=10)).1 ?_
 refine callsIn_of_wp_marks Tryz.func49 rfl trivial ?_ rfl
 simp only [Tryz.ntmps49,List.size_toArray,List.length_cons,List.length_nil,Nat.reduceAdd,Nat.reduceSub,Array.replicate_succ,Array.replicate_zero,List.push_toArray,List.append_toArray,List.nil_append,List.cons_append]
 refine wpIn_wide.2 ?_
 go_wp2_with (first
  | ((with_reducible refine zf (N:=7) rfl ?_);refine bb_ 7 rfl mL #[.slice A l.length c] 22 ?_;intro g7 W1 hg aC L7 bT bZ;have mY:=zc_ HR bZ;have mZ:=zc_ HS bZ;have bU:=bk1 bT;clear aC hg)
  | ((with_reducible refine zf (N:=8) rfl ?_);refine bb_ 8 rfl bZ #[.slice A2 wl.length c2] 22 ?_;intro g8 W2 hg aC L8 b6 bL;have b7:=za_ bT aC;have m5:=zc_ HR bL;have m6:=zc_ HS bL;have aG:=bk1 b7;clear bU;have b8:=bk1 b6;clear aC hg)
  | ((with_reducible refine zf (N:=9) rfl ?_);refine bb_ 9 rfl bL #[.int .i64 h] 3 ?_;intro g9 W3 hg aC L9 cY cZ;have dB:=za_ b7 aC;have dC:=za_ b6 aC;have m7:=zc_ HR cZ;have m8:=zc_ HS cZ;have dD:=bk1 dB;have dE:=bk1 dC;clear aG b8;have dF:=bk1 cY;clear aC hg)
  | ((with_reducible refine zf (N:=10) rfl ?_);refine bb_ 10 rfl cZ #[.int .i64 bits] 3 ?_;intro g10 W4 hg aC nK cS bM;have dY:=za_ dB aC;have dZ:=za_ dC aC;have d5:=za_ cY aC;have m9:=zc_ HR bM;have nA:=zc_ HS bM;have a9:=bk1 dY;have eG:=bk1 dZ;have bA:=bk1 d5;clear dD dE dF;have aH:=bk1 cS;clear aC hg)
  | ((with_reducible refine zf (N:=11) rfl ?_);refine bb_ 11 rfl bM #[.int .i64 s] 3 ?_;intro g11 W5 hg aC nL gO fJ;have kM:=za_ dY aC;have kN:=za_ dZ aC;have kO:=za_ d5 aC;have gP:=za_ cS aC;have nB:=zc_ HR fJ;have nC:=zc_ HS fJ;have kP:=bk1 kM;have kQ:=bk1 kN;have kR:=bk1 kO;have i7:=bk1 gP;clear a9 eG bA aH;have i8:=bk1 gO;clear aC hg)
  | ((with_reducible refine zf (N:=12) rfl ?_);refine bb_ 12 rfl fJ #[.int .i64 mode] 3 ?_;intro g12 W6 hg aC nM gQ fK;have kS:=za_ kM aC;have kT:=za_ kN aC;have kU:=za_ kO aC;have gR:=za_ gP aC;have gS:=za_ gO aC;have nD:=zc_ HR fK;have nE:=zc_ HS fK;have kV:=bk1 kS;have kW:=bk1 kT;have kX:=bk1 kU;have i9:=bk1 gR;have jA:=bk1 gS;clear kP kQ kR i7 i8;have jB:=bk1 gQ;clear aC hg)
  | ((with_reducible refine zf (N:=13) rfl ?_);refine bb_ 13 rfl fK #[.bool inv] 4 ?_;intro g13 W7 hg aC nN gT fM;have kY:=za_ kS aC;have kZ:=za_ kT aC;have lD:=za_ kU aC;have gU:=za_ gR aC;have gV:=za_ gS aC;have gX:=za_ gQ aC;have nF:=zc_ HR fM;have nG:=zc_ HS fM;have lH:=bk1 kY;have lI:=bk1 kZ;have lJ:=bk1 lD;have jC:=bk1 gU;have jD:=bk1 gV;have jE:=bk1 gX;clear kV kW kX i9 jA jB;have jF:=bk1 gT;clear aC hg)
  | (go_at_call 40;(with_reducible refine (flip_Log.calls 10 _ _ _ _ HLOG.out).mono ?_);rintro e W8 ⟨rfl,hd⟩;have hb:=hd.below;clear hd;have fO:=zs_ fM hb;have lK:=za_ kY hb;have lM:=za_ kZ hb;have lO:=za_ lD hb;have gY:=za_ gU hb;have gZ:=za_ gV hb;have hZ:=za_ gX hb;have iA:=za_ gT hb;have nH:=zc_ HR fO;have nI:=zc_ HS fO;have lP:=bk1 lK;have lQ:=bk1 lM;have lR:=bk1 lO;have jG:=bk1 gY;have jH:=bk1 gZ;have jI:=bk1 hZ;have jJ:=bk1 iA;clear lH lI lJ jC jD jE jF;clear hb)
  | (go_at_call 78;(with_reducible refine (two_settings.calls bits s mode true _ HSET.out).mono ?_);rintro e W9 ⟨rfl,hb⟩;have fP:=zs_ fO hb;have lT:=za_ lK hb;have lU:=za_ lM hb;have lV:=za_ lO hb;have iB:=za_ gY hb;have iC:=za_ gZ hb;have iD:=za_ hZ hb;have iF:=za_ iA hb;have mG:=zc_ HR fP;have nJ:=zc_ HS fP;have lW:=bk1 lT;have lX:=bk1 lU;have lZ:=bk1 lV;have jK:=bk1 iB;have jL:=bk1 iC;have jM:=bk1 iD;have jN:=bk1 iF;clear lP lQ lR jG jH jI jJ;clear hb)
  | (go_at_call 43;(with_reducible refine (zhd A c l _ mG.out HC.out HX.out).mono ?_);rintro e nO ⟨rfl,hb⟩;have d6:=zs_ fP hb;have iG:=za_ lT hb;have iH:=za_ lU hb;have iI:=za_ lV hb;have dG:=za_ iB hb;have eH:=za_ iC hb;have eI:=za_ iD hb;have eJ:=za_ iF hb;have mQ:=zc_ HR d6;have l8:=zc_ HS d6;have jO:=bk1 iG;have jP:=bk1 iH;have jQ:=bk1 iI;have fQ:=bk1 dG;have fR:=bk1 eH;have fS:=bk1 eI;have fT:=bk1 eJ;clear lW lX lZ jK jL jM jN;clear hb)
  | (go_at_call 43;(with_reducible refine (zhf A2 c2 wl g10 bits mm b0 b1 hmm _ l8.out HC2.out dG.out HW.out).mono ?_);rintro e nP ⟨rfl,hb⟩;have b9:=zs_ d6 hb;have iJ:=za_ iG hb;have iK:=za_ iH hb;have iL:=za_ iI hb;have eK:=za_ dG hb;have eM:=za_ eH hb;have eN:=za_ eI hb;have eO:=za_ eJ hb;have l9:=zc_ HR b9;have mR:=zc_ HS b9;have jR:=bk1 iJ;have jS:=bk1 iK;have jT:=bk1 iL;have fU:=bk1 eK;have fV:=bk1 eM;have fW:=bk1 eN;have fX:=bk1 eO;clear jO jP jQ fQ fR fS fT;clear hb)
  | (go_at_call 79;(refine (api_Cx_79.calls A c l l _ l9.out HC.out HCL.out).mono ?_);rintro e nQ ⟨v20,rfl,ho,hb⟩;obtain ⟨g,cap,hv,hg1,hg2,_⟩:=Kd.R_form ho HNE.out;subst hv;have LG:w.heap.size≤g:=Nat.le_trans (zi b9) hg1;have dV:=hhd (Kd.R_lower ho (zi b9));have d7:=zs_ b9 hb;have d8:=za_ iJ hb;have d9:=za_ iK hb;have iM:=za_ iL hb;have eP:=za_ eK hb;have eQ:=za_ eM hb;have eR:=za_ eN hb;have eT:=za_ eO hb;have mS:=zc_ HR d7;have mT:=zc_ HS d7;have jU:=bk1 d8;have jV:=bk1 d9;have jW:=bk1 iM;have fY:=bk1 eP;have fZ:=bk1 eQ;have f6:=bk1 eR;have f7:=bk1 eT;clear jR jS jT fU fV fW fX;clear hb ho hg1 hg2)
  | ((with_reducible refine zf (N:=20) rfl ?_);refine bb_ 20 rfl d7 #[.slice none 0 0] 22 ?_;intro g20 nR hg aC mM bP eB;have iN:=za_ d8 aC;have iO:=za_ d9 aC;have eC:=za_ iM aC;have dH:=za_ eP aC;have dI:=za_ eQ aC;have dJ:=za_ eR aC;have dK:=za_ eT aC;have jX:=zr_ dV aC;have mU:=zc_ HR eB;have mV:=zc_ HS eB;have jY:=bk1 iN;have jZ:=bk1 iO;have j4:=bk1 eC;have f8:=bk1 dH;have f9:=bk1 dI;have gA:=bk1 dJ;have gB:=bk1 dK;clear jU jV jW fY fZ f6 f7;have gC:=bk1 bP;have N20_7:=hhd (show g7≠g20 from by have:=zj d8;omega);have N20_8:=hhd (show g8≠g20 from by have:=zj d9;omega);have NR20:=hhd (show some g20≠_ from by rw [hg];exact Kd.R_ne_new dV.out 0);clear aC hg)
  | ((with_reducible refine zo (t:=22) (p:=20) rfl ?_);refine zee rfl rfl 22 _ _ rfl g20 (.slice (some ⟨g,0,none⟩) l.length cap) rfl rfl 22 _ bP.out zhu rfl rfl ?_;intro nS hq aE bK;have eU:=hhd hq;have mA:=hhd (bK _ _ mM eB.out);have ne_9:g9≠g20:=(fun e=>by have h1:=eC.out;rw [e] at h1;have h2:=h1.symm.trans bP.out;simp at h2);have ne_10:g10≠g20:=(fun e=>by have h1:=dH.out;rw [e] at h1;have h2:=h1.symm.trans bP.out;simp at h2);have ne_11:g11≠g20:=(fun e=>by have h1:=dI.out;rw [e] at h1;have h2:=h1.symm.trans bP.out;simp at h2);have ne_12:g12≠g20:=(fun e=>by have h1:=dJ.out;rw [e] at h1;have h2:=h1.symm.trans bP.out;simp at h2);have ne_13:g13≠g20:=(fun e=>by have h1:=dK.out;rw [e] at h1;have h2:=h1.symm.trans bP.out;simp at h2);have ne_7:g7≠g20:=(fun e=>by have h1:=N20_7.out;exact h1 e);have ne_8:g8≠g20:=(fun e=>by have h1:=N20_8.out;exact h1 e);have iP:=hhd ((aE _ (ne_7)).trans iN.out);have iQ:=hhd ((aE _ (ne_8)).trans iO.out);have iR:=hhd ((aE _ (ne_9)).trans eC.out);have eV:=hhd ((aE _ (ne_10)).trans dH.out);have eW:=hhd ((aE _ (ne_11)).trans dI.out);have eX:=hhd ((aE _ (ne_12)).trans dJ.out);have eY:=hhd ((aE _ (ne_13)).trans dK.out);have j5:=hhd (zI jX.out aE NR20.out);have j7:=bk1 iP;have j8:=bk1 iQ;have j9:=bk1 iR;have gE:=bk1 eV;have gF:=bk1 eW;have gG:=bk1 eX;have gH:=bk1 eY;clear jY jZ j4 f8 f9 gA gB gC;have gI:=bk1 eU;clear hq aE bK)
  | (go_at_call 80;( refine (zka l.length h _).mono ?_);rintro e nU ⟨gn,gh,rfl,hbn,hbh,Ln,Lh,hb⟩;have cA:=zs_ mA hb;have iS:=za_ iP hb;have iT:=za_ iQ hb;have iU:=za_ iR hb;have eZ:=za_ eV hb;have fA:=za_ eW hb;have fB:=za_ eX hb;have fD:=za_ eY hb;have fE:=za_ eU hb;have kB:=zr_ j5 hb;have mW:=zc_ HR cA;have mX:=zc_ HS cA;have kC:=bk1 iS;have kD:=bk1 iT;have kE:=bk1 iU;have gJ:=bk1 eZ;have gK:=bk1 fA;have gL:=bk1 fB;have gM:=bk1 fD;have gN:=bk1 fE;clear j7 j8 j9 gE gF gG gH gI;have Bn:=hhd hbn;have Bh:=hhd hbh;clear hbn hbh;clear hb))
 refine (wpIn_wide (n:=10)).1 ?_
 refine wpIn_rangeFunc_ownF rfl (by decide) (gf:=106) (lb:=#[.pointer (some ⟨gn,0,none⟩),.pointer (some ⟨gh,0,none⟩)]) rfl trivial (enters_of Tryz.func106 (by kernel_rfl) rfl)
  (zij 9 (by decide) gn gh l.length h m (by have:=HN.out;omega) (by have:=HH.out.1;omega) (by have:=HH.out.2;have:=HN.out;omega) HM.out _ Bn.out Bh.out) zj6 (zj7 (zj Bn) (zj Bh)) (Below.refl _ _) (fun _=>rfl)
  (fun pre W=>zne A A2 g g7 g8 g9 g10 g11 g12 g13 g20 gn gh l wl c c2 cap h bits s mode inv m w pre W)
  (fun _ _ _=>False)
  (zlh (zi cA))
  (fun _ _ _ _ _ hs _ _=>hs)
  ⟨⟨iS.out,iT.out,iU.out,eZ.out,fA.out,fB.out,fD.out,fE.out,Bn.out,Bh.out⟩,kB.out,cA.out⟩ ?a1 ?assign ?body ?done ?stop
 case assign =>
  intro l x W K hK
  gi_wp2
  exact hK
 case body =>
  rintro lY pre ⟨p,hp⟩ W ⟨⟨h7,h8,h9,h10,h11,h12,h13,h20,hn,hh⟩,hR,hB⟩ hlt
  obtain ⟨i0,i1,i2,i3⟩:=HI.out p hp
  have hC1:=Kd.C_below HR.out hB
  have hC2:=Kd.C_below HS.out hB
  have e1:=HLN.out
  have e2:=HH.out
  have e3:=HN.out
  obtain ⟨ad,rfl,x0,x1⟩:=zag hC1 p.1 i0 (by omega)
  obtain ⟨ad',e4,x2,x3⟩:=zag hC1 (p.1+h) (by omega) (by omega)
  obtain rfl:=Option.some.inj e4
  obtain ⟨ad2,rfl,z0,z1⟩:=zag hC2 p.2 i2 (by omega)
  have ha0:inB 2147483648 (zk l p.1)=true:=by have:=zbl HX.out p.1.toNat (by omega);rwa [Int.toNat_of_nonneg i0] at this
  have ha1:inB 2147483648 (zk l (p.1+h))=true:=by have:=zbl HX.out (p.1+h).toNat (by omega);rwa [Int.toNat_of_nonneg (by omega)] at this
  have hrr:inB mm (zk wl p.2)=true:=by have:=zbl HW.out p.2.toNat (by omega);rwa [Int.toNat_of_nonneg i2] at this
  have hmm1:mm≤1073741823:=by
   have hp:=zaG (a:=bits.toNat) (b:=29) (by omega)
   rw [hmm]
   have:(2:Int)^29=536870912:=by decide
   omega
  have hr30:inB 1073741824 (zk wl p.2)=true:=by obtain ⟨c0,c1,c2,c3⟩:=zaj hrr;exact za3 (by omega)
  have HWD:=hhd (show zbX (zk wl p.2)=true by obtain ⟨c0,c1,c2,c3⟩:=zaj hr30;exact decide_eq_true (by omega))
  have hv30:inB 1073741824 (zH inv (zk wl p.2))=true:=by
   obtain ⟨c0,c1,c2,c3⟩:=zaj hr30
   unfold zH
   split
   ·have e:wrap64 (-(zk wl p.2).f1)=-(zk wl p.2).f1:=by unfold wrap64;omega
    exact za3 (by dsimp only;rw [e];omega)
   ·exact hr30
  have HP:=hhd (zlg (zk l p.1) (zk l (p.1+h)) (zH inv (zk wl p.2)) bits s mode ha1 hv30 b0 b2 s0 s1 mo0 mo1)
  have HQ:=hhd (show ∀Y:List S38,zbJ l wl h bits s mode inv Y p=(Y.set p.1.toNat (zap (zk l p.1) (zk l (p.1+h)) (zH inv (zk wl p.2)) bits s mode).1).set (p.1+h).toNat (zap (zk l p.1) (zk l (p.1+h)) (zH inv (zk wl p.2)) bits s mode).2 from fun _=>rfl)
  have HPRE:=hhd (show ((pre++[(⟨p,hp⟩:{p:Int×Int // p∈zT h m l.length})]).map Subtype.val).foldl (zbJ l wl h bits s mode inv) l=zbJ l wl h bits s mode inv ((pre.map Subtype.val).foldl (zbJ l wl h bits s mode inv) l) p by rw [List.map_append,List.foldl_append];rfl)
  have hY:=zdT l wl h bits s mode inv (pre.map Subtype.val) l
  have w1:wrap64 (p.1+h)=p.1+h:=by unfold wrap64;omega
  have l1:p.1 < l.length:=by omega
  have i4:0≤p.1+h:=by omega
  have l2:p.2 < wl.length:=by omega
  generalize (pre.map Subtype.val).foldl (zbJ l wl h bits s mode inv) l=Y at *
  generalize zk l p.1=a0 at *
  generalize zk l (p.1+h)=a1 at *
  generalize zk wl p.2=r at *
  have E7:=hhd h7
  have E8:=hhd h8
  have E9:=hhd h9
  have bV:=hhd h10
  have bW:=hhd h11
  have bX:=hhd h12
  have bY:=hhd h13
  have bS:=hhd h20
  have En:=hhd hn
  have Eh:=hhd hh
  have ER:=hhd hR
  have EB:=hhd hB
  have HBs:=hhd (Below.refl W.heap.size W)
  have k7:W.cell? ⟨g7,0,none⟩=some (.slice (some ad) l.length c):=(za h7 0).trans rfl
  have k8:W.cell? ⟨g8,0,none⟩=some (.slice (some ad2) wl.length c2):=(za h8 0).trans rfl
  have k9:=(za h9 0).trans rfl
  have k10:=(za h10 0).trans rfl
  have k11:=(za h11 0).trans rfl
  have k12:=(za h12 0).trans rfl
  have k13:=(za h13 0).trans rfl
  have k20:=(za h20 0).trans rfl
  have kn:=(za hn 0).trans rfl
  have kh:=(za hh 0).trans rfl
  clear h7 h8 h9 h10 h11 h12 h13 h20 hn hh hR hB hC1 hC2 e1 e2 e3 ha0 ha1 hrr hmm1 hr30 hv30 kC kD kE gJ gK gL gM gN
  cases inv with
  | true =>
   refine wpIn_block ?_
   refine wpIn_seq ?_
   refine zca (by kernel_rfl) (fun ⟨_,_,q⟩=>q) ?_
   go_wp2_with (first
    | ((with_reducible refine zf (N:=23) rfl ?_);refine ba_ 23 rfl #[.int .i64 0,.int .i64 0] 38 ?_;intro g23 hg W1 aD aC;have iV:W.heap.size≤g23:=(by rw [hg];exact zi HBs);have cB:=hhd aD;have bZ:=zs_ HBs aC;have bT:=za_ E7 aC;have dL:=za_ E8 aC;have dM:=za_ E9 aC;have cC:=za_ bV aC;have cD:=za_ bW aC;have cH:=za_ bX aC;have cI:=za_ bY aC;have cJ:=za_ bS aC;have dN:=za_ En aC;have dO:=za_ Eh aC;have dP:=zr_ ER aC;have bU:=bk1 bT;have dQ:=bk1 dL;have dR:=bk1 dM;have cL:=bk1 cC;have cM:=bk1 cD;have cN:=bk1 cH;have cO:=bk1 cI;have cP:=bk1 cJ;have dS:=bk1 dN;have dU:=bk1 dO;clear k7 k8 k9 k10 k11 k12 k13 k20 kn kh;obtain ⟨cQ,cR⟩:=bk2 cB;have ne23_7:g7≠g23:=(fun e=>by have:=zj E7;rw [hg] at e;omega);have ne23_8:g8≠g23:=(fun e=>by have:=zj E8;rw [hg] at e;omega);have ne23_9:g9≠g23:=(fun e=>by have:=zj E9;rw [hg] at e;omega);have ne23_10:g10≠g23:=(fun e=>by have:=zj bV;rw [hg] at e;omega);have ne23_11:g11≠g23:=(fun e=>by have:=zj bW;rw [hg] at e;omega);have ne23_12:g12≠g23:=(fun e=>by have:=zj bX;rw [hg] at e;omega);have ne23_13:g13≠g23:=(fun e=>by have:=zj bY;rw [hg] at e;omega);have ne23_20:g20≠g23:=(fun e=>by have:=zj bS;rw [hg] at e;omega);have ne23_n:gn≠g23:=(fun e=>by have:=zj En;rw [hg] at e;omega);have ne23_h:gh≠g23:=(fun e=>by have:=zj Eh;rw [hg] at e;omega);have NR23:=hhd (show some g23≠_ from by rw [hg];exact Kd.R_ne_new ER.out 0);clear aD aC hg)
    | ((with_reducible refine zo (t:=38) (p:=23) rfl ?_);refine re_ 38 23 rfl #[.int .i64 r.f0,.int .i64 r.f1] cB iV bZ ?_;intro W2 aE cK bL;have b7:=hhd ((aE _ (ne23_7)).trans bT.out);have b6:=hhd ((aE _ (ne23_8)).trans dL.out);have eD:=hhd ((aE _ (ne23_9)).trans dM.out);have cT:=hhd ((aE _ (ne23_10)).trans cC.out);have cU:=hhd ((aE _ (ne23_11)).trans cD.out);have cV:=hhd ((aE _ (ne23_12)).trans cH.out);have cW:=hhd ((aE _ (ne23_13)).trans cI.out);have cX:=hhd ((aE _ (ne23_20)).trans cJ.out);have eE:=hhd ((aE _ (ne23_n)).trans dN.out);have eF:=hhd ((aE _ (ne23_h)).trans dO.out);have fF:=hhd (zI dP.out aE NR23.out);have aG:=bk1 b7;have b8:=bk1 b6;have bB:=bk1 eD;have aI:=bk1 cT;have aJ:=bk1 cU;have aK:=bk1 cV;have dW:=bk1 cW;have dX:=bk1 cX;have fG:=bk1 eE;have fH:=bk1 eF;clear bU dQ dR cL cM cN cO cP dS dU cQ cR;obtain ⟨aM,aN⟩:=bk2 cK;clear aE))
   refine wpIn_seq ?_
   refine wpIn_seq ?_
   refine zca (by kernel_rfl) (fun ⟨_,_,q⟩=>q) ?_
   go_wp2
   refine wpIn_cond_true rfl ?_
   refine zca (by kernel_rfl) (fun ⟨_,_,q⟩=>q) ?_
   go_wp2_with (first
    | ((with_reducible refine zf (N:=89) rfl ?_);refine lr_ 89 rfl 38 cK Tryz.underlying38 ?_)
    | (go_at_call 58;(with_reducible refine (zfk r HWD.out _).mono ?_);rintro e W3 ⟨rfl,hb⟩;have cZ:=zs_ bL hb;have dB:=za_ b7 hb;have dC:=za_ b6 hb;have cY:=za_ eD hb;have iW:=za_ cT hb;have iX:=za_ cU hb;have iY:=za_ cV hb;have iZ:=za_ cW hb;have i5:=za_ cX hb;have l3:=za_ eE hb;have l4:=za_ eF hb;have i6:=za_ cK hb;have l5:=zr_ fF hb;have dD:=bk1 dB;have dE:=bk1 dC;have dF:=bk1 cY;have kF:=bk1 iW;have kG:=bk1 iX;have kH:=bk1 iY;have kI:=bk1 iZ;have kJ:=bk1 i5;have l6:=bk1 l3;have l7:=bk1 l4;obtain ⟨kK,kL⟩:=bk2 i6;clear aG b8 bB aI aJ aK dW dX fG fH aM aN;clear hb)
    | ((with_reducible refine zo (t:=38) (p:=23) rfl ?_);refine re_ 38 23 rfl #[.int .i64 r.f0,.int .i64 (wrap64 (-r.f1))] i6 iV cZ ?_;intro W4 aE mB bM;have dY:=hhd ((aE _ (ne23_7)).trans dB.out);have dZ:=hhd ((aE _ (ne23_8)).trans dC.out);have d5:=hhd ((aE _ (ne23_9)).trans cY.out);have cS:=hhd ((aE _ (ne23_10)).trans iW.out);have mC:=hhd ((aE _ (ne23_11)).trans iX.out);have mD:=hhd ((aE _ (ne23_12)).trans iY.out);have mE:=hhd ((aE _ (ne23_13)).trans iZ.out);have mF:=hhd ((aE _ (ne23_20)).trans i5.out);have mH:=hhd ((aE _ (ne23_n)).trans l3.out);have mI:=hhd ((aE _ (ne23_h)).trans l4.out);have mN:=hhd (zI l5.out aE NR23.out);have a9:=bk1 dY;have eG:=bk1 dZ;have bA:=bk1 d5;have aH:=bk1 cS;have bG:=bk1 mC;have bH:=bk1 mD;have mJ:=bk1 mE;have mK:=bk1 mF;have mO:=bk1 mH;have mP:=bk1 mI;clear dD dE dF kF kG kH kI kJ l6 l7 kK kL;obtain ⟨bI,bJ⟩:=bk2 mB;clear aE))
   have y0:=(bM.out.cell (World.block_lt_of_cell? _ _ x0)).trans x0
   have y1:=(bM.out.cell (World.block_lt_of_cell? _ _ x1)).trans x1
   have y2:=(bM.out.cell (World.block_lt_of_cell? _ _ x2)).trans x2
   have y3:=(bM.out.cell (World.block_lt_of_cell? _ _ x3)).trans x3
   refine wpIn_seq ?_
   refine ze1 (S:=fun w'=>Below W4.heap.size W4 w') (ds:=[]) (fl 22 0) hmx rfl rfl (by kernel_rfl) (fun ⟨_,_,q⟩=>q) (Below.refl _ _).drew (fun I=>?_)
   refine px_ 1 rfl ?_
   refine px_ 5 rfl ?_
   refine tx_ 0 rfl I (by rintro w' hs;obtain ⟨bC,bD,aQ,aT,aU,aV⟩:=bg6 hs a9 bA aH bG bH bI;obtain ⟨aW,j_y0,j_y1,j_y2,j_y3⟩:=bg5 hs bJ y0 y1 y2 y3;go_simp;with_reducible rfl) ?_
   refine px_ 2 rfl ?_
   refine tx_ 3 rfl I (by rintro w' hs;obtain ⟨bC,bD,aQ,aT,aU,aV⟩:=bg6 hs a9 bA aH bG bH bI;obtain ⟨aW,j_y0,j_y1,j_y2,j_y3⟩:=bg5 hs bJ y0 y1 y2 y3;go_simp;with_reducible rfl) ?_
   refine tx_ 4 rfl I (by rintro w' hs;obtain ⟨bC,bD,aQ,aT,aU,aV⟩:=bg6 hs a9 bA aH bG bH bI;obtain ⟨aW,j_y0,j_y1,j_y2,j_y3⟩:=bg5 hs bJ y0 y1 y2 y3;go_simp;with_reducible rfl) ?_
   refine tx_ 6 rfl I (by rintro w' hs;obtain ⟨bC,bD,aQ,aT,aU,aV⟩:=bg6 hs a9 bA aH bG bH bI;obtain ⟨aW,j_y0,j_y1,j_y2,j_y3⟩:=bg5 hs bJ y0 y1 y2 y3;go_simp;with_reducible rfl) ?_
   refine px_ 7 rfl ?_
   refine px_ 8 rfl ?_
   refine tx_ 9 rfl I (by rintro w' hs;obtain ⟨bC,bD,aQ,aT,aU,aV⟩:=bg6 hs a9 bA aH bG bH bI;obtain ⟨aW,j_y0,j_y1,j_y2,j_y3⟩:=bg5 hs bJ y0 y1 y2 y3;go_simp;with_reducible rfl) ?_
   refine tx_ 10 rfl I (by rintro w' hs;obtain ⟨bC,bD,aQ,aT,aU,aV⟩:=bg6 hs a9 bA aH bG bH bI;obtain ⟨aW,j_y0,j_y1,j_y2,j_y3⟩:=bg5 hs bJ y0 y1 y2 y3;go_simp;with_reducible rfl) ?_
   refine tx_ 11 rfl I (by rintro w' hs;obtain ⟨bC,bD,aQ,aT,aU,aV⟩:=bg6 hs a9 bA aH bG bH bI;obtain ⟨aW,j_y0,j_y1,j_y2,j_y3⟩:=bg5 hs bJ y0 y1 y2 y3;go_simp;with_reducible rfl) ?_
   refine tx_ 12 rfl I (by rintro w' hs;obtain ⟨bC,bD,aQ,aT,aU,aV⟩:=bg6 hs a9 bA aH bG bH bI;obtain ⟨aW,j_y0,j_y1,j_y2,j_y3⟩:=bg5 hs bJ y0 y1 y2 y3;go_simp;with_reducible rfl) ?_
   refine tx_ 13 rfl I (by rintro w' hs;obtain ⟨bC,bD,aQ,aT,aU,aV⟩:=bg6 hs a9 bA aH bG bH bI;obtain ⟨aW,j_y0,j_y1,j_y2,j_y3⟩:=bg5 hs bJ y0 y1 y2 y3;go_simp;with_reducible rfl) ?_
   refine zeA (i:=14) (j:=18) (k:=19) (Ni:=some 108) (Nj:=some 24) (Nk:=some 25) (fl 22 32767) (fl 22 278527) (fl 22 540671) rfl rfl rfl rfl rfl rfl (by kernel_rfl) (by decide) (by decide) (by decide) (fun K hK=>?e1_14) (fun K hK=>?e1_18) (fun K hK=>?e1_19)
   case' e1_14 =>
    refine zJ Tryz.func81 (by kernel_rfl) rfl #[.agg #[.int .i64 a0.f0,.int .i64 a0.f1],.agg #[.int .i64 a1.f0,.int .i64 a1.f1],.agg #[.int .i64 r.f0,.int .i64 (wrap64 (-r.f1))],.int .i64 bits,.int .i64 s,.int .i64 mode] (by rfl) rfl rfl (by go_simp) ?_
    refine (two_pair.calls _ _ _ _ _ _ _ _ _ _ _ _ _ _ HP.out).mono ?_
    rintro e Wc ⟨rfl,hb⟩
    refine ⟨_,rfl,?_⟩
    refine hK.out _ _ (zb I hb) (fun I=>?_)
    clear hK K hb
    refine nx_ ?_
    refine px_ 15 rfl ?_
    refine px_ 16 rfl ?_
    refine px_ 17 rfl ?_
    refine wx_ 18 19 (some 24) (some 25) rfl rfl rfl rfl (fun K hK=>?e2_18) fun K hK=>?e2_19
    case' e2_18 =>
     refine box_step rfl rfl (cs:=#[.int .i64 0,.int .i64 0]) (t:=38) (by first | (go_simp;done) | (go_simp;rfl)) ?_
     intro g24 hg Wc aD aC
     refine hK.out _ _ (zb I aC) (fun aA=>?_)
     have bQ:W4.heap.size≤g24:=by rw [hg];exact I.size
     have B24:=hhd aD
     clear hK K aC aD hg I
     have I:=aA
     clear aA
     refine nx_ ?_
     refine ox_ 19 (some 25) rfl rfl fun K hK=>?_
     refine box_step rfl rfl (cs:=#[.int .i64 0,.int .i64 0]) (t:=38) (by first | (go_simp;done) | (go_simp;rfl)) ?_
     intro g25 hg Wc aD aC
     refine hK.out _ _ (zb I aC) (fun aA=>?_)
     have bR:W4.heap.size≤g25:=by rw [hg];exact I.size
     have B25:=hhd aD
     have N2425:g24≠g25:=by have:=zj B24;omega
     replace B24:=za_ B24 aC
     clear hK K aC aD hg I
     have I:=aA
     clear aA
     refine nx_ ?_
    case' e2_19 =>
     refine box_step rfl rfl (cs:=#[.int .i64 0,.int .i64 0]) (t:=38) (by first | (go_simp;done) | (go_simp;rfl)) ?_
     intro g25 hg Wc aD aC
     refine hK.out _ _ (zb I aC) (fun aA=>?_)
     have bR:W4.heap.size≤g25:=by rw [hg];exact I.size
     have B25:=hhd aD
     clear hK K aC aD hg I
     have I:=aA
     clear aA
     refine nx_ ?_
     refine ox_ 18 (some 24) rfl rfl fun K hK=>?_
     refine box_step rfl rfl (cs:=#[.int .i64 0,.int .i64 0]) (t:=38) (by first | (go_simp;done) | (go_simp;rfl)) ?_
     intro g24 hg Wc aD aC
     refine hK.out _ _ (zb I aC) (fun aA=>?_)
     have bQ:W4.heap.size≤g24:=by rw [hg];exact I.size
     have B24:=hhd aD
     have N2425:g24≠g25:=by have:=zj B25;omega
     replace B25:=za_ B25 aC
     clear hK K aC aD hg I
     have I:=aA
     clear aA
     refine nx_ ?_
   case' e1_18 =>
    refine box_step rfl rfl (cs:=#[.int .i64 0,.int .i64 0]) (t:=38) (by first | (go_simp;done) | (go_simp;rfl)) ?_
    intro g24 hg Wc aD aC
    refine hK.out _ _ (zb I aC) (fun aA=>?_)
    have bQ:W4.heap.size≤g24:=by rw [hg];exact I.size
    have B24:=hhd aD
    clear hK K aC aD hg I
    have I:=aA
    clear aA
    refine nx_ ?_
    refine wx_ 14 19 (some 108) (some 25) rfl rfl rfl rfl (fun K hK=>?e3_14) fun K hK=>?e3_19
    case' e3_14 =>
     refine zJ Tryz.func81 (by kernel_rfl) rfl #[.agg #[.int .i64 a0.f0,.int .i64 a0.f1],.agg #[.int .i64 a1.f0,.int .i64 a1.f1],.agg #[.int .i64 r.f0,.int .i64 (wrap64 (-r.f1))],.int .i64 bits,.int .i64 s,.int .i64 mode] (by rfl) rfl rfl (by go_simp) ?_
     refine (two_pair.calls _ _ _ _ _ _ _ _ _ _ _ _ _ _ HP.out).mono ?_
     rintro e Wc ⟨rfl,hb⟩
     refine ⟨_,rfl,?_⟩
     refine hK.out _ _ (zb I hb) (fun I=>?_)
     replace B24:=za_ B24 hb
     clear hK K hb
     refine nx_ ?_
     refine px_ 15 rfl ?_
     refine px_ 16 rfl ?_
     refine px_ 17 rfl ?_
     refine ox_ 19 (some 25) rfl rfl fun K hK=>?_
     refine box_step rfl rfl (cs:=#[.int .i64 0,.int .i64 0]) (t:=38) (by first | (go_simp;done) | (go_simp;rfl)) ?_
     intro g25 hg Wc aD aC
     refine hK.out _ _ (zb I aC) (fun aA=>?_)
     have bR:W4.heap.size≤g25:=by rw [hg];exact I.size
     have B25:=hhd aD
     have N2425:g24≠g25:=by have:=zj B24;omega
     replace B24:=za_ B24 aC
     clear hK K aC aD hg I
     have I:=aA
     clear aA
     refine nx_ ?_
    case' e3_19 =>
     refine box_step rfl rfl (cs:=#[.int .i64 0,.int .i64 0]) (t:=38) (by first | (go_simp;done) | (go_simp;rfl)) ?_
     intro g25 hg Wc aD aC
     refine hK.out _ _ (zb I aC) (fun aA=>?_)
     have bR:W4.heap.size≤g25:=by rw [hg];exact I.size
     have B25:=hhd aD
     have N2425:g24≠g25:=by have:=zj B24;omega
     replace B24:=za_ B24 aC
     clear hK K aC aD hg I
     have I:=aA
     clear aA
     refine nx_ ?_
     refine ox_ 14 (some 108) rfl rfl fun K hK=>?_
     refine zJ Tryz.func81 (by kernel_rfl) rfl #[.agg #[.int .i64 a0.f0,.int .i64 a0.f1],.agg #[.int .i64 a1.f0,.int .i64 a1.f1],.agg #[.int .i64 r.f0,.int .i64 (wrap64 (-r.f1))],.int .i64 bits,.int .i64 s,.int .i64 mode] (by rfl) rfl rfl (by go_simp) ?_
     refine (two_pair.calls _ _ _ _ _ _ _ _ _ _ _ _ _ _ HP.out).mono ?_
     rintro e Wc ⟨rfl,hb⟩
     refine ⟨_,rfl,?_⟩
     refine hK.out _ _ (zb I hb) (fun I=>?_)
     replace B24:=za_ B24 hb
     replace B25:=za_ B25 hb
     clear hK K hb
     refine nx_ ?_
     refine px_ 15 rfl ?_
     refine px_ 16 rfl ?_
     refine px_ 17 rfl ?_
   case' e1_19 =>
    refine box_step rfl rfl (cs:=#[.int .i64 0,.int .i64 0]) (t:=38) (by first | (go_simp;done) | (go_simp;rfl)) ?_
    intro g25 hg Wc aD aC
    refine hK.out _ _ (zb I aC) (fun aA=>?_)
    have bR:W4.heap.size≤g25:=by rw [hg];exact I.size
    have B25:=hhd aD
    clear hK K aC aD hg I
    have I:=aA
    clear aA
    refine nx_ ?_
    refine wx_ 14 18 (some 108) (some 24) rfl rfl rfl rfl (fun K hK=>?e4_14) fun K hK=>?e4_18
    case' e4_14 =>
     refine zJ Tryz.func81 (by kernel_rfl) rfl #[.agg #[.int .i64 a0.f0,.int .i64 a0.f1],.agg #[.int .i64 a1.f0,.int .i64 a1.f1],.agg #[.int .i64 r.f0,.int .i64 (wrap64 (-r.f1))],.int .i64 bits,.int .i64 s,.int .i64 mode] (by rfl) rfl rfl (by go_simp) ?_
     refine (two_pair.calls _ _ _ _ _ _ _ _ _ _ _ _ _ _ HP.out).mono ?_
     rintro e Wc ⟨rfl,hb⟩
     refine ⟨_,rfl,?_⟩
     refine hK.out _ _ (zb I hb) (fun I=>?_)
     replace B25:=za_ B25 hb
     clear hK K hb
     refine nx_ ?_
     refine px_ 15 rfl ?_
     refine px_ 16 rfl ?_
     refine px_ 17 rfl ?_
     refine ox_ 18 (some 24) rfl rfl fun K hK=>?_
     refine box_step rfl rfl (cs:=#[.int .i64 0,.int .i64 0]) (t:=38) (by first | (go_simp;done) | (go_simp;rfl)) ?_
     intro g24 hg Wc aD aC
     refine hK.out _ _ (zb I aC) (fun aA=>?_)
     have bQ:W4.heap.size≤g24:=by rw [hg];exact I.size
     have B24:=hhd aD
     have N2425:g24≠g25:=by have:=zj B25;omega
     replace B25:=za_ B25 aC
     clear hK K aC aD hg I
     have I:=aA
     clear aA
     refine nx_ ?_
    case' e4_18 =>
     refine box_step rfl rfl (cs:=#[.int .i64 0,.int .i64 0]) (t:=38) (by first | (go_simp;done) | (go_simp;rfl)) ?_
     intro g24 hg Wc aD aC
     refine hK.out _ _ (zb I aC) (fun aA=>?_)
     have bQ:W4.heap.size≤g24:=by rw [hg];exact I.size
     have B24:=hhd aD
     have N2425:g24≠g25:=by have:=zj B25;omega
     replace B25:=za_ B25 aC
     clear hK K aC aD hg I
     have I:=aA
     clear aA
     refine nx_ ?_
     refine ox_ 14 (some 108) rfl rfl fun K hK=>?_
     refine zJ Tryz.func81 (by kernel_rfl) rfl #[.agg #[.int .i64 a0.f0,.int .i64 a0.f1],.agg #[.int .i64 a1.f0,.int .i64 a1.f1],.agg #[.int .i64 r.f0,.int .i64 (wrap64 (-r.f1))],.int .i64 bits,.int .i64 s,.int .i64 mode] (by rfl) rfl rfl (by go_simp) ?_
     refine (two_pair.calls _ _ _ _ _ _ _ _ _ _ _ _ _ _ HP.out).mono ?_
     rintro e Wc ⟨rfl,hb⟩
     refine ⟨_,rfl,?_⟩
     refine hK.out _ _ (zb I hb) (fun I=>?_)
     replace B24:=za_ B24 hb
     replace B25:=za_ B25 hb
     clear hK K hb
     refine nx_ ?_
     refine px_ 15 rfl ?_
     refine px_ 16 rfl ?_
     refine px_ 17 rfl ?_
   all_goals

    refine ox_ 20 none rfl rfl fun K hK=>?_
    refine zA rfl rfl 38 _ _ rfl g24 #[.int .i64 (zap a0 a1 (zH true r) bits s mode).1.f0,.int .i64 (zap a0 a1 (zH true r) bits s mode).1.f1] rfl rfl 38 #[.int .i64 0,.int .i64 0] B24.out (zw _ _) rfl (zM _ _) ?_
    intro Wd hq aE bK
    refine hK.out _ _ (bK _ _ bQ I) (fun aA=>?_)
    replace B25:=hhd ((aE _ (Ne.symm N2425)).trans B25.out)
    replace B24:=hhd hq
    clear hK K hq aE bK I
    have I:=aA
    clear aA
    refine ox_ 21 none rfl rfl fun K hK=>?_
    refine zA rfl rfl 38 _ _ rfl g25 #[.int .i64 (zap a0 a1 (zH true r) bits s mode).2.f0,.int .i64 (zap a0 a1 (zH true r) bits s mode).2.f1] rfl rfl 38 #[.int .i64 0,.int .i64 0] B25.out (zw _ _) rfl (zM _ _) ?_
    intro Wf hq aE bK
    refine hK.out _ _ (bK _ _ bR I) (fun aA=>?_)
    replace B24:=hhd ((aE _ N2425).trans B24.out)
    replace B25:=hhd hq
    clear hK K hq aE bK I
    have hF:=zb bM aA
    clear aA
    refine zE (by kernel_rfl) ?_
    have L24':=Nat.le_trans (zi bM) bQ
    have L25':=Nat.le_trans (zi bM) bR
    have RF:=zr_ ER hF
    have gW:g < W.heap.size:=Kd.R_lt ER.out g rfl
    have n20:g20≠g:=fun e=>Kd.R_ne ER.out bS.out (by decide) (by rw [e];rfl)
    have n9:g9≠g:=fun e=>Kd.R_ne ER.out E9.out (by decide) (by rw [e];rfl)
    have n24:g24≠g:=by omega
    have n25:g25≠g:=by omega
    refine ze1 (S:=fun w'=>w'.heap[g20]?=some (.cells #[.slice (some ⟨g,0,none⟩) l.length cap] 22 (0,0))∧w'.heap[g9]?=some (.cells #[.int .i64 h] 3 (0,0))∧w'.heap[g24]?=some (.cells #[.int .i64 (zap a0 a1 (zH true r) bits s mode).1.f0,.int .i64 (zap a0 a1 (zH true r) bits s mode).1.f1] 38 (0,0))∧w'.heap[g25]?=some (.cells #[.int .i64 (zap a0 a1 (zH true r) bits s mode).2.f0,.int .i64 (zap a0 a1 (zH true r) bits s mode).2.f1] 38 (0,0))) (ds:=[]) (fl 12 0) hmx rfl rfl (by kernel_rfl) (fun ⟨_,_,q⟩=>q) ⟨zd bS hF.drew,zd E9 hF.drew,B24.out,B25.out⟩ (fun I=>?_)
    refine px_ 1 rfl ?_
    refine px_ 3 rfl ?_
    refine tx_ 0 rfl I (by rintro w' ⟨s0,s1,s2,s3⟩;have ja:=(za s0 0).trans rfl;have jb:=(za s1 0).trans rfl;have jc:=(za s2 0).trans rfl;have jd:=(za s2 1).trans rfl;have je:=(za s3 0).trans rfl;have jf:=(za s3 1).trans rfl;go_simp;with_reducible rfl) ?_
    refine tx_ 2 rfl I (by rintro w' ⟨s0,s1,s2,s3⟩;have ja:=(za s0 0).trans rfl;have jb:=(za s1 0).trans rfl;have jc:=(za s2 0).trans rfl;have jd:=(za s2 1).trans rfl;have je:=(za s3 0).trans rfl;have jf:=(za s3 1).trans rfl;go_simp;with_reducible rfl) ?_
    refine tx_ 4 rfl I (by rintro w' ⟨s0,s1,s2,s3⟩;have ja:=(za s0 0).trans rfl;have jb:=(za s1 0).trans rfl;have jc:=(za s2 0).trans rfl;have jd:=(za s2 1).trans rfl;have je:=(za s3 0).trans rfl;have jf:=(za s3 1).trans rfl;go_simp;with_reducible rfl) ?_
    refine px_ 5 rfl ?_
    refine tx_ 6 rfl I (by rintro w' ⟨s0,s1,s2,s3⟩;have ja:=(za s0 0).trans rfl;have jb:=(za s1 0).trans rfl;have jc:=(za s2 0).trans rfl;have jd:=(za s2 1).trans rfl;have je:=(za s3 0).trans rfl;have jf:=(za s3 1).trans rfl;go_simp;with_reducible rfl) ?_
    refine px_ 8 rfl ?_
    refine tx_ 7 rfl I (by rintro w' ⟨s0,s1,s2,s3⟩;have ja:=(za s0 0).trans rfl;have jb:=(za s1 0).trans rfl;have jc:=(za s2 0).trans rfl;have jd:=(za s2 1).trans rfl;have je:=(za s3 0).trans rfl;have jf:=(za s3 1).trans rfl;go_simp;with_reducible rfl) ?_
    refine ox_ 9 none rfl rfl fun K hK=>?_
    refine ze2 (base:=w.heap.size) rfl rfl _ _ rfl p.1.toNat Y (zap a0 a1 (zH true r) bits s mode).1 (fun _=>True) rfl rfl (zw (.int .i64 0) (.int .i64 0)) (Kd.R_drew RF.out) (by omega) ?_
    intro Wg hRg hgg hog hbg
    refine hK.out _ _ ⟨(hog _ n20).trans I.1,(hog _ n9).trans I.2.1,(hog _ n24).trans I.2.2.1,(hog _ n25).trans I.2.2.2⟩ (fun aA=>?_)
    have RG:=hhd hRg
    have OG:=hhd hog
    have BG:=hhd hbg
    have GG:=hhd hgg
    clear hK K hRg hgg hog hbg I
    have I:=aA
    clear aA
    refine px_ 10 rfl ?_
    refine ox_ 11 none rfl rfl fun K hK=>?_
    refine ze2 (base:=w.heap.size) rfl rfl _ _ rfl (p.1+h).toNat (Y.set p.1.toNat (zap a0 a1 (zH true r) bits s mode).1) (zap a0 a1 (zH true r) bits s mode).2 (fun _=>True) rfl rfl (zw (.int .i64 0) (.int .i64 0)) RG.out (by omega) ?_
    intro Wh hRh hgh hoh hbh
    refine hK.out _ _ ⟨(hoh _ n20).trans I.1,(hoh _ n9).trans I.2.1,(hoh _ n24).trans I.2.2.1,(hoh _ n25).trans I.2.2.2⟩ (fun _=>?_)
    clear hK K I
    refine zE (by kernel_rfl) ?_
    have same:∀k,k < W.heap.size→k≠g→Wh.heap[k]?=W.heap[k]?:=fun k hk hne=>(hoh k hne).trans ((OG.out k hne).trans (hF.block k hk))
    have n7:g7≠g:=fun e=>Kd.R_ne ER.out E7.out (by decide) (by rw [e];rfl)
    have n8:g8≠g:=fun e=>Kd.R_ne ER.out E8.out (by decide) (by rw [e];rfl)
    have n10:g10≠g:=fun e=>Kd.R_ne ER.out bV.out (by decide) (by rw [e];rfl)
    have n11:g11≠g:=fun e=>Kd.R_ne ER.out bW.out (by decide) (by rw [e];rfl)
    have n12:g12≠g:=fun e=>Kd.R_ne ER.out bX.out (by decide) (by rw [e];rfl)
    have n13:g13≠g:=fun e=>Kd.R_ne ER.out bY.out (by decide) (by rw [e];rfl)
    have nn:gn≠g:=fun e=>Kd.R_ne ER.out En.out (by decide) (by rw [e];rfl)
    have nh:gh≠g:=fun e=>Kd.R_ne ER.out Eh.out (by decide) (by rw [e];rfl)
    have hsz:W.heap.size≤Wh.heap.size:=Nat.le_trans hF.size (Nat.le_trans GG.out.size hgh.size)
    refine ⟨⟨hsz,fun k o hk ho=>(same k (Array.getElem?_eq_some_iff.1 hk).1 (fun e=>by obtain ⟨cells,hc⟩:=Kd.R_typed ER.out g rfl;rw [e,hc] at hk;cases hk;cases ho)).trans hk⟩,⟨same _ (zj En) nn,same _ (zj Eh) nh⟩,⟨(same _ (zj E7) n7).trans E7.out,(same _ (zj E8) n8).trans E8.out,(same _ (zj E9) n9).trans E9.out,(same _ (zj bV) n10).trans bV.out,(same _ (zj bW) n11).trans bW.out,(same _ (zj bX) n12).trans bX.out,(same _ (zj bY) n13).trans bY.out,(same _ (zj bS) n20).trans bS.out,(same _ (zj En) nn).trans En.out,(same _ (zj Eh) nh).trans Eh.out⟩,?_,hbh _ (BG.out _ (zbj (EB.out.trans (hF.mono EB.out.size))))⟩
    rw [HPRE.out,HQ.out Y]
    exact hRh

  | false =>
   refine wpIn_block ?_
   refine wpIn_seq ?_
   refine zca (by kernel_rfl) (fun ⟨_,_,q⟩=>q) ?_
   go_wp2_with (first
    | ((with_reducible refine zf (N:=23) rfl ?_);refine ba_ 23 rfl #[.int .i64 0,.int .i64 0] 38 ?_;intro g23 hg W1 aD aC;have iV:W.heap.size≤g23:=(by rw [hg];exact zi HBs);have cB:=hhd aD;have bZ:=zs_ HBs aC;have bT:=za_ E7 aC;have dL:=za_ E8 aC;have dM:=za_ E9 aC;have cC:=za_ bV aC;have cD:=za_ bW aC;have cH:=za_ bX aC;have cI:=za_ bY aC;have cJ:=za_ bS aC;have dN:=za_ En aC;have dO:=za_ Eh aC;have dP:=zr_ ER aC;have bU:=bk1 bT;have dQ:=bk1 dL;have dR:=bk1 dM;have cL:=bk1 cC;have cM:=bk1 cD;have cN:=bk1 cH;have cO:=bk1 cI;have cP:=bk1 cJ;have dS:=bk1 dN;have dU:=bk1 dO;clear k7 k8 k9 k10 k11 k12 k13 k20 kn kh;obtain ⟨cQ,cR⟩:=bk2 cB;have ne23_7:g7≠g23:=(fun e=>by have:=zj E7;rw [hg] at e;omega);have ne23_8:g8≠g23:=(fun e=>by have:=zj E8;rw [hg] at e;omega);have ne23_9:g9≠g23:=(fun e=>by have:=zj E9;rw [hg] at e;omega);have ne23_10:g10≠g23:=(fun e=>by have:=zj bV;rw [hg] at e;omega);have ne23_11:g11≠g23:=(fun e=>by have:=zj bW;rw [hg] at e;omega);have ne23_12:g12≠g23:=(fun e=>by have:=zj bX;rw [hg] at e;omega);have ne23_13:g13≠g23:=(fun e=>by have:=zj bY;rw [hg] at e;omega);have ne23_20:g20≠g23:=(fun e=>by have:=zj bS;rw [hg] at e;omega);have ne23_n:gn≠g23:=(fun e=>by have:=zj En;rw [hg] at e;omega);have ne23_h:gh≠g23:=(fun e=>by have:=zj Eh;rw [hg] at e;omega);have NR23:=hhd (show some g23≠_ from by rw [hg];exact Kd.R_ne_new ER.out 0);clear aD aC hg)
    | ((with_reducible refine zo (t:=38) (p:=23) rfl ?_);refine re_ 38 23 rfl #[.int .i64 r.f0,.int .i64 r.f1] cB iV bZ ?_;intro W2 aE cK bL;have b7:=hhd ((aE _ (ne23_7)).trans bT.out);have b6:=hhd ((aE _ (ne23_8)).trans dL.out);have eD:=hhd ((aE _ (ne23_9)).trans dM.out);have cT:=hhd ((aE _ (ne23_10)).trans cC.out);have cU:=hhd ((aE _ (ne23_11)).trans cD.out);have cV:=hhd ((aE _ (ne23_12)).trans cH.out);have cW:=hhd ((aE _ (ne23_13)).trans cI.out);have cX:=hhd ((aE _ (ne23_20)).trans cJ.out);have eE:=hhd ((aE _ (ne23_n)).trans dN.out);have eF:=hhd ((aE _ (ne23_h)).trans dO.out);have fF:=hhd (zI dP.out aE NR23.out);have aG:=bk1 b7;have b8:=bk1 b6;have bB:=bk1 eD;have aI:=bk1 cT;have aJ:=bk1 cU;have aK:=bk1 cV;have dW:=bk1 cW;have dX:=bk1 cX;have fG:=bk1 eE;have fH:=bk1 eF;clear bU dQ dR cL cM cN cO cP dS dU cQ cR;obtain ⟨aM,aN⟩:=bk2 cK;clear aE))
   refine wpIn_seq ?_
   refine wpIn_seq ?_
   refine zca (by kernel_rfl) (fun ⟨_,_,q⟩=>q) ?_
   go_wp2
   refine wpIn_cond_false rfl ?_
   refine wpIn_skip ?_
   have y0:=(bL.out.cell (World.block_lt_of_cell? _ _ x0)).trans x0
   have y1:=(bL.out.cell (World.block_lt_of_cell? _ _ x1)).trans x1
   have y2:=(bL.out.cell (World.block_lt_of_cell? _ _ x2)).trans x2
   have y3:=(bL.out.cell (World.block_lt_of_cell? _ _ x3)).trans x3
   refine wpIn_seq ?_
   refine ze1 (S:=fun w'=>Below W2.heap.size W2 w') (ds:=[]) (fl 22 0) hmx rfl rfl (by kernel_rfl) (fun ⟨_,_,q⟩=>q) (Below.refl _ _).drew (fun I=>?_)
   refine px_ 1 rfl ?_
   refine px_ 5 rfl ?_
   refine tx_ 0 rfl I (by rintro w' hs;obtain ⟨bE,bF,aX,aY,aZ,a7⟩:=bg6 hs aG bB aI aJ aK aM;obtain ⟨a8,j_y0,j_y1,j_y2,j_y3⟩:=bg5 hs aN y0 y1 y2 y3;go_simp;with_reducible rfl) ?_
   refine px_ 2 rfl ?_
   refine tx_ 3 rfl I (by rintro w' hs;obtain ⟨bE,bF,aX,aY,aZ,a7⟩:=bg6 hs aG bB aI aJ aK aM;obtain ⟨a8,j_y0,j_y1,j_y2,j_y3⟩:=bg5 hs aN y0 y1 y2 y3;go_simp;with_reducible rfl) ?_
   refine tx_ 4 rfl I (by rintro w' hs;obtain ⟨bE,bF,aX,aY,aZ,a7⟩:=bg6 hs aG bB aI aJ aK aM;obtain ⟨a8,j_y0,j_y1,j_y2,j_y3⟩:=bg5 hs aN y0 y1 y2 y3;go_simp;with_reducible rfl) ?_
   refine tx_ 6 rfl I (by rintro w' hs;obtain ⟨bE,bF,aX,aY,aZ,a7⟩:=bg6 hs aG bB aI aJ aK aM;obtain ⟨a8,j_y0,j_y1,j_y2,j_y3⟩:=bg5 hs aN y0 y1 y2 y3;go_simp;with_reducible rfl) ?_
   refine px_ 7 rfl ?_
   refine px_ 8 rfl ?_
   refine tx_ 9 rfl I (by rintro w' hs;obtain ⟨bE,bF,aX,aY,aZ,a7⟩:=bg6 hs aG bB aI aJ aK aM;obtain ⟨a8,j_y0,j_y1,j_y2,j_y3⟩:=bg5 hs aN y0 y1 y2 y3;go_simp;with_reducible rfl) ?_
   refine tx_ 10 rfl I (by rintro w' hs;obtain ⟨bE,bF,aX,aY,aZ,a7⟩:=bg6 hs aG bB aI aJ aK aM;obtain ⟨a8,j_y0,j_y1,j_y2,j_y3⟩:=bg5 hs aN y0 y1 y2 y3;go_simp;with_reducible rfl) ?_
   refine tx_ 11 rfl I (by rintro w' hs;obtain ⟨bE,bF,aX,aY,aZ,a7⟩:=bg6 hs aG bB aI aJ aK aM;obtain ⟨a8,j_y0,j_y1,j_y2,j_y3⟩:=bg5 hs aN y0 y1 y2 y3;go_simp;with_reducible rfl) ?_
   refine tx_ 12 rfl I (by rintro w' hs;obtain ⟨bE,bF,aX,aY,aZ,a7⟩:=bg6 hs aG bB aI aJ aK aM;obtain ⟨a8,j_y0,j_y1,j_y2,j_y3⟩:=bg5 hs aN y0 y1 y2 y3;go_simp;with_reducible rfl) ?_
   refine tx_ 13 rfl I (by rintro w' hs;obtain ⟨bE,bF,aX,aY,aZ,a7⟩:=bg6 hs aG bB aI aJ aK aM;obtain ⟨a8,j_y0,j_y1,j_y2,j_y3⟩:=bg5 hs aN y0 y1 y2 y3;go_simp;with_reducible rfl) ?_
   refine zeA (i:=14) (j:=18) (k:=19) (Ni:=some 108) (Nj:=some 24) (Nk:=some 25) (fl 22 32767) (fl 22 278527) (fl 22 540671) rfl rfl rfl rfl rfl rfl (by kernel_rfl) (by decide) (by decide) (by decide) (fun K hK=>?e5_14) (fun K hK=>?e5_18) (fun K hK=>?e5_19)
   case' e5_14 =>
    refine zJ Tryz.func81 (by kernel_rfl) rfl #[.agg #[.int .i64 a0.f0,.int .i64 a0.f1],.agg #[.int .i64 a1.f0,.int .i64 a1.f1],.agg #[.int .i64 r.f0,.int .i64 r.f1],.int .i64 bits,.int .i64 s,.int .i64 mode] (by rfl) rfl rfl (by go_simp) ?_
    refine (two_pair.calls _ _ _ _ _ _ _ _ _ _ _ _ _ _ HP.out).mono ?_
    rintro e Wc ⟨rfl,hb⟩
    refine ⟨_,rfl,?_⟩
    refine hK.out _ _ (zb I hb) (fun I=>?_)
    clear hK K hb
    refine nx_ ?_
    refine px_ 15 rfl ?_
    refine px_ 16 rfl ?_
    refine px_ 17 rfl ?_
    refine wx_ 18 19 (some 24) (some 25) rfl rfl rfl rfl (fun K hK=>?e6_18) fun K hK=>?e6_19
    case' e6_18 =>
     refine box_step rfl rfl (cs:=#[.int .i64 0,.int .i64 0]) (t:=38) (by first | (go_simp;done) | (go_simp;rfl)) ?_
     intro g24 hg Wc aD aC
     refine hK.out _ _ (zb I aC) (fun aA=>?_)
     have bQ:W2.heap.size≤g24:=by rw [hg];exact I.size
     have B24:=hhd aD
     clear hK K aC aD hg I
     have I:=aA
     clear aA
     refine nx_ ?_
     refine ox_ 19 (some 25) rfl rfl fun K hK=>?_
     refine box_step rfl rfl (cs:=#[.int .i64 0,.int .i64 0]) (t:=38) (by first | (go_simp;done) | (go_simp;rfl)) ?_
     intro g25 hg Wc aD aC
     refine hK.out _ _ (zb I aC) (fun aA=>?_)
     have bR:W2.heap.size≤g25:=by rw [hg];exact I.size
     have B25:=hhd aD
     have N2425:g24≠g25:=by have:=zj B24;omega
     replace B24:=za_ B24 aC
     clear hK K aC aD hg I
     have I:=aA
     clear aA
     refine nx_ ?_
    case' e6_19 =>
     refine box_step rfl rfl (cs:=#[.int .i64 0,.int .i64 0]) (t:=38) (by first | (go_simp;done) | (go_simp;rfl)) ?_
     intro g25 hg Wc aD aC
     refine hK.out _ _ (zb I aC) (fun aA=>?_)
     have bR:W2.heap.size≤g25:=by rw [hg];exact I.size
     have B25:=hhd aD
     clear hK K aC aD hg I
     have I:=aA
     clear aA
     refine nx_ ?_
     refine ox_ 18 (some 24) rfl rfl fun K hK=>?_
     refine box_step rfl rfl (cs:=#[.int .i64 0,.int .i64 0]) (t:=38) (by first | (go_simp;done) | (go_simp;rfl)) ?_
     intro g24 hg Wc aD aC
     refine hK.out _ _ (zb I aC) (fun aA=>?_)
     have bQ:W2.heap.size≤g24:=by rw [hg];exact I.size
     have B24:=hhd aD
     have N2425:g24≠g25:=by have:=zj B25;omega
     replace B25:=za_ B25 aC
     clear hK K aC aD hg I
     have I:=aA
     clear aA
     refine nx_ ?_
   case' e5_18 =>
    refine box_step rfl rfl (cs:=#[.int .i64 0,.int .i64 0]) (t:=38) (by first | (go_simp;done) | (go_simp;rfl)) ?_
    intro g24 hg Wc aD aC
    refine hK.out _ _ (zb I aC) (fun aA=>?_)
    have bQ:W2.heap.size≤g24:=by rw [hg];exact I.size
    have B24:=hhd aD
    clear hK K aC aD hg I
    have I:=aA
    clear aA
    refine nx_ ?_
    refine wx_ 14 19 (some 108) (some 25) rfl rfl rfl rfl (fun K hK=>?e7_14) fun K hK=>?e7_19
    case' e7_14 =>
     refine zJ Tryz.func81 (by kernel_rfl) rfl #[.agg #[.int .i64 a0.f0,.int .i64 a0.f1],.agg #[.int .i64 a1.f0,.int .i64 a1.f1],.agg #[.int .i64 r.f0,.int .i64 r.f1],.int .i64 bits,.int .i64 s,.int .i64 mode] (by rfl) rfl rfl (by go_simp) ?_
     refine (two_pair.calls _ _ _ _ _ _ _ _ _ _ _ _ _ _ HP.out).mono ?_
     rintro e Wc ⟨rfl,hb⟩
     refine ⟨_,rfl,?_⟩
     refine hK.out _ _ (zb I hb) (fun I=>?_)
     replace B24:=za_ B24 hb
     clear hK K hb
     refine nx_ ?_
     refine px_ 15 rfl ?_
     refine px_ 16 rfl ?_
     refine px_ 17 rfl ?_
     refine ox_ 19 (some 25) rfl rfl fun K hK=>?_
     refine box_step rfl rfl (cs:=#[.int .i64 0,.int .i64 0]) (t:=38) (by first | (go_simp;done) | (go_simp;rfl)) ?_
     intro g25 hg Wc aD aC
     refine hK.out _ _ (zb I aC) (fun aA=>?_)
     have bR:W2.heap.size≤g25:=by rw [hg];exact I.size
     have B25:=hhd aD
     have N2425:g24≠g25:=by have:=zj B24;omega
     replace B24:=za_ B24 aC
     clear hK K aC aD hg I
     have I:=aA
     clear aA
     refine nx_ ?_
    case' e7_19 =>
     refine box_step rfl rfl (cs:=#[.int .i64 0,.int .i64 0]) (t:=38) (by first | (go_simp;done) | (go_simp;rfl)) ?_
     intro g25 hg Wc aD aC
     refine hK.out _ _ (zb I aC) (fun aA=>?_)
     have bR:W2.heap.size≤g25:=by rw [hg];exact I.size
     have B25:=hhd aD
     have N2425:g24≠g25:=by have:=zj B24;omega
     replace B24:=za_ B24 aC
     clear hK K aC aD hg I
     have I:=aA
     clear aA
     refine nx_ ?_
     refine ox_ 14 (some 108) rfl rfl fun K hK=>?_
     refine zJ Tryz.func81 (by kernel_rfl) rfl #[.agg #[.int .i64 a0.f0,.int .i64 a0.f1],.agg #[.int .i64 a1.f0,.int .i64 a1.f1],.agg #[.int .i64 r.f0,.int .i64 r.f1],.int .i64 bits,.int .i64 s,.int .i64 mode] (by rfl) rfl rfl (by go_simp) ?_
     refine (two_pair.calls _ _ _ _ _ _ _ _ _ _ _ _ _ _ HP.out).mono ?_
     rintro e Wc ⟨rfl,hb⟩
     refine ⟨_,rfl,?_⟩
     refine hK.out _ _ (zb I hb) (fun I=>?_)
     replace B24:=za_ B24 hb
     replace B25:=za_ B25 hb
     clear hK K hb
     refine nx_ ?_
     refine px_ 15 rfl ?_
     refine px_ 16 rfl ?_
     refine px_ 17 rfl ?_
   case' e5_19 =>
    refine box_step rfl rfl (cs:=#[.int .i64 0,.int .i64 0]) (t:=38) (by first | (go_simp;done) | (go_simp;rfl)) ?_
    intro g25 hg Wc aD aC
    refine hK.out _ _ (zb I aC) (fun aA=>?_)
    have bR:W2.heap.size≤g25:=by rw [hg];exact I.size
    have B25:=hhd aD
    clear hK K aC aD hg I
    have I:=aA
    clear aA
    refine nx_ ?_
    refine wx_ 14 18 (some 108) (some 24) rfl rfl rfl rfl (fun K hK=>?e8_14) fun K hK=>?e8_18
    case' e8_14 =>
     refine zJ Tryz.func81 (by kernel_rfl) rfl #[.agg #[.int .i64 a0.f0,.int .i64 a0.f1],.agg #[.int .i64 a1.f0,.int .i64 a1.f1],.agg #[.int .i64 r.f0,.int .i64 r.f1],.int .i64 bits,.int .i64 s,.int .i64 mode] (by rfl) rfl rfl (by go_simp) ?_
     refine (two_pair.calls _ _ _ _ _ _ _ _ _ _ _ _ _ _ HP.out).mono ?_
     rintro e Wc ⟨rfl,hb⟩
     refine ⟨_,rfl,?_⟩
     refine hK.out _ _ (zb I hb) (fun I=>?_)
     replace B25:=za_ B25 hb
     clear hK K hb
     refine nx_ ?_
     refine px_ 15 rfl ?_
     refine px_ 16 rfl ?_
     refine px_ 17 rfl ?_
     refine ox_ 18 (some 24) rfl rfl fun K hK=>?_
     refine box_step rfl rfl (cs:=#[.int .i64 0,.int .i64 0]) (t:=38) (by first | (go_simp;done) | (go_simp;rfl)) ?_
     intro g24 hg Wc aD aC
     refine hK.out _ _ (zb I aC) (fun aA=>?_)
     have bQ:W2.heap.size≤g24:=by rw [hg];exact I.size
     have B24:=hhd aD
     have N2425:g24≠g25:=by have:=zj B25;omega
     replace B25:=za_ B25 aC
     clear hK K aC aD hg I
     have I:=aA
     clear aA
     refine nx_ ?_
    case' e8_18 =>
     refine box_step rfl rfl (cs:=#[.int .i64 0,.int .i64 0]) (t:=38) (by first | (go_simp;done) | (go_simp;rfl)) ?_
     intro g24 hg Wc aD aC
     refine hK.out _ _ (zb I aC) (fun aA=>?_)
     have bQ:W2.heap.size≤g24:=by rw [hg];exact I.size
     have B24:=hhd aD
     have N2425:g24≠g25:=by have:=zj B25;omega
     replace B25:=za_ B25 aC
     clear hK K aC aD hg I
     have I:=aA
     clear aA
     refine nx_ ?_
     refine ox_ 14 (some 108) rfl rfl fun K hK=>?_
     refine zJ Tryz.func81 (by kernel_rfl) rfl #[.agg #[.int .i64 a0.f0,.int .i64 a0.f1],.agg #[.int .i64 a1.f0,.int .i64 a1.f1],.agg #[.int .i64 r.f0,.int .i64 r.f1],.int .i64 bits,.int .i64 s,.int .i64 mode] (by rfl) rfl rfl (by go_simp) ?_
     refine (two_pair.calls _ _ _ _ _ _ _ _ _ _ _ _ _ _ HP.out).mono ?_
     rintro e Wc ⟨rfl,hb⟩
     refine ⟨_,rfl,?_⟩
     refine hK.out _ _ (zb I hb) (fun I=>?_)
     replace B24:=za_ B24 hb
     replace B25:=za_ B25 hb
     clear hK K hb
     refine nx_ ?_
     refine px_ 15 rfl ?_
     refine px_ 16 rfl ?_
     refine px_ 17 rfl ?_
   all_goals

    refine ox_ 20 none rfl rfl fun K hK=>?_
    refine zA rfl rfl 38 _ _ rfl g24 #[.int .i64 (zap a0 a1 (zH false r) bits s mode).1.f0,.int .i64 (zap a0 a1 (zH false r) bits s mode).1.f1] rfl rfl 38 #[.int .i64 0,.int .i64 0] B24.out (zw _ _) rfl (zM _ _) ?_
    intro Wd hq aE bK
    refine hK.out _ _ (bK _ _ bQ I) (fun aA=>?_)
    replace B25:=hhd ((aE _ (Ne.symm N2425)).trans B25.out)
    replace B24:=hhd hq
    clear hK K hq aE bK I
    have I:=aA
    clear aA
    refine ox_ 21 none rfl rfl fun K hK=>?_
    refine zA rfl rfl 38 _ _ rfl g25 #[.int .i64 (zap a0 a1 (zH false r) bits s mode).2.f0,.int .i64 (zap a0 a1 (zH false r) bits s mode).2.f1] rfl rfl 38 #[.int .i64 0,.int .i64 0] B25.out (zw _ _) rfl (zM _ _) ?_
    intro Wf hq aE bK
    refine hK.out _ _ (bK _ _ bR I) (fun aA=>?_)
    replace B24:=hhd ((aE _ N2425).trans B24.out)
    replace B25:=hhd hq
    clear hK K hq aE bK I
    have hF:=zb bL aA
    clear aA
    refine zE (by kernel_rfl) ?_
    have L24':=Nat.le_trans (zi bL) bQ
    have L25':=Nat.le_trans (zi bL) bR
    have RF:=zr_ ER hF
    have gW:g < W.heap.size:=Kd.R_lt ER.out g rfl
    have n20:g20≠g:=fun e=>Kd.R_ne ER.out bS.out (by decide) (by rw [e];rfl)
    have n9:g9≠g:=fun e=>Kd.R_ne ER.out E9.out (by decide) (by rw [e];rfl)
    have n24:g24≠g:=by omega
    have n25:g25≠g:=by omega
    refine ze1 (S:=fun w'=>w'.heap[g20]?=some (.cells #[.slice (some ⟨g,0,none⟩) l.length cap] 22 (0,0))∧w'.heap[g9]?=some (.cells #[.int .i64 h] 3 (0,0))∧w'.heap[g24]?=some (.cells #[.int .i64 (zap a0 a1 (zH false r) bits s mode).1.f0,.int .i64 (zap a0 a1 (zH false r) bits s mode).1.f1] 38 (0,0))∧w'.heap[g25]?=some (.cells #[.int .i64 (zap a0 a1 (zH false r) bits s mode).2.f0,.int .i64 (zap a0 a1 (zH false r) bits s mode).2.f1] 38 (0,0))) (ds:=[]) (fl 12 0) hmx rfl rfl (by kernel_rfl) (fun ⟨_,_,q⟩=>q) ⟨zd bS hF.drew,zd E9 hF.drew,B24.out,B25.out⟩ (fun I=>?_)
    refine px_ 1 rfl ?_
    refine px_ 3 rfl ?_
    refine tx_ 0 rfl I (by rintro w' ⟨s0,s1,s2,s3⟩;have ja:=(za s0 0).trans rfl;have jb:=(za s1 0).trans rfl;have jc:=(za s2 0).trans rfl;have jd:=(za s2 1).trans rfl;have je:=(za s3 0).trans rfl;have jf:=(za s3 1).trans rfl;go_simp;with_reducible rfl) ?_
    refine tx_ 2 rfl I (by rintro w' ⟨s0,s1,s2,s3⟩;have ja:=(za s0 0).trans rfl;have jb:=(za s1 0).trans rfl;have jc:=(za s2 0).trans rfl;have jd:=(za s2 1).trans rfl;have je:=(za s3 0).trans rfl;have jf:=(za s3 1).trans rfl;go_simp;with_reducible rfl) ?_
    refine tx_ 4 rfl I (by rintro w' ⟨s0,s1,s2,s3⟩;have ja:=(za s0 0).trans rfl;have jb:=(za s1 0).trans rfl;have jc:=(za s2 0).trans rfl;have jd:=(za s2 1).trans rfl;have je:=(za s3 0).trans rfl;have jf:=(za s3 1).trans rfl;go_simp;with_reducible rfl) ?_
    refine px_ 5 rfl ?_
    refine tx_ 6 rfl I (by rintro w' ⟨s0,s1,s2,s3⟩;have ja:=(za s0 0).trans rfl;have jb:=(za s1 0).trans rfl;have jc:=(za s2 0).trans rfl;have jd:=(za s2 1).trans rfl;have je:=(za s3 0).trans rfl;have jf:=(za s3 1).trans rfl;go_simp;with_reducible rfl) ?_
    refine px_ 8 rfl ?_
    refine tx_ 7 rfl I (by rintro w' ⟨s0,s1,s2,s3⟩;have ja:=(za s0 0).trans rfl;have jb:=(za s1 0).trans rfl;have jc:=(za s2 0).trans rfl;have jd:=(za s2 1).trans rfl;have je:=(za s3 0).trans rfl;have jf:=(za s3 1).trans rfl;go_simp;with_reducible rfl) ?_
    refine ox_ 9 none rfl rfl fun K hK=>?_
    refine ze2 (base:=w.heap.size) rfl rfl _ _ rfl p.1.toNat Y (zap a0 a1 (zH false r) bits s mode).1 (fun _=>True) rfl rfl (zw (.int .i64 0) (.int .i64 0)) (Kd.R_drew RF.out) (by omega) ?_
    intro Wg hRg hgg hog hbg
    refine hK.out _ _ ⟨(hog _ n20).trans I.1,(hog _ n9).trans I.2.1,(hog _ n24).trans I.2.2.1,(hog _ n25).trans I.2.2.2⟩ (fun aA=>?_)
    have RG:=hhd hRg
    have OG:=hhd hog
    have BG:=hhd hbg
    have GG:=hhd hgg
    clear hK K hRg hgg hog hbg I
    have I:=aA
    clear aA
    refine px_ 10 rfl ?_
    refine ox_ 11 none rfl rfl fun K hK=>?_
    refine ze2 (base:=w.heap.size) rfl rfl _ _ rfl (p.1+h).toNat (Y.set p.1.toNat (zap a0 a1 (zH false r) bits s mode).1) (zap a0 a1 (zH false r) bits s mode).2 (fun _=>True) rfl rfl (zw (.int .i64 0) (.int .i64 0)) RG.out (by omega) ?_
    intro Wh hRh hgh hoh hbh
    refine hK.out _ _ ⟨(hoh _ n20).trans I.1,(hoh _ n9).trans I.2.1,(hoh _ n24).trans I.2.2.1,(hoh _ n25).trans I.2.2.2⟩ (fun _=>?_)
    clear hK K I
    refine zE (by kernel_rfl) ?_
    have same:∀k,k < W.heap.size→k≠g→Wh.heap[k]?=W.heap[k]?:=fun k hk hne=>(hoh k hne).trans ((OG.out k hne).trans (hF.block k hk))
    have n7:g7≠g:=fun e=>Kd.R_ne ER.out E7.out (by decide) (by rw [e];rfl)
    have n8:g8≠g:=fun e=>Kd.R_ne ER.out E8.out (by decide) (by rw [e];rfl)
    have n10:g10≠g:=fun e=>Kd.R_ne ER.out bV.out (by decide) (by rw [e];rfl)
    have n11:g11≠g:=fun e=>Kd.R_ne ER.out bW.out (by decide) (by rw [e];rfl)
    have n12:g12≠g:=fun e=>Kd.R_ne ER.out bX.out (by decide) (by rw [e];rfl)
    have n13:g13≠g:=fun e=>Kd.R_ne ER.out bY.out (by decide) (by rw [e];rfl)
    have nn:gn≠g:=fun e=>Kd.R_ne ER.out En.out (by decide) (by rw [e];rfl)
    have nh:gh≠g:=fun e=>Kd.R_ne ER.out Eh.out (by decide) (by rw [e];rfl)
    have hsz:W.heap.size≤Wh.heap.size:=Nat.le_trans hF.size (Nat.le_trans GG.out.size hgh.size)
    refine ⟨⟨hsz,fun k o hk ho=>(same k (Array.getElem?_eq_some_iff.1 hk).1 (fun e=>by obtain ⟨cells,hc⟩:=Kd.R_typed ER.out g rfl;rw [e,hc] at hk;cases hk;cases ho)).trans hk⟩,⟨same _ (zj En) nn,same _ (zj Eh) nh⟩,⟨(same _ (zj E7) n7).trans E7.out,(same _ (zj E8) n8).trans E8.out,(same _ (zj E9) n9).trans E9.out,(same _ (zj bV) n10).trans bV.out,(same _ (zj bW) n11).trans bW.out,(same _ (zj bX) n12).trans bX.out,(same _ (zj bY) n13).trans bY.out,(same _ (zj bS) n20).trans bS.out,(same _ (zj En) nn).trans En.out,(same _ (zj Eh) nh).trans Eh.out⟩,?_,hbh _ (BG.out _ (zbj (EB.out.trans (hF.mono EB.out.size))))⟩
    rw [HPRE.out,HQ.out Y]
    exact hRh

 case done =>
  rintro D ys W hD hys ⟨⟨h7,h8,h9,h10,h11,h12,h13,h20,hn,hh⟩,hR,hB⟩ hK
  have k20:W.cell? ⟨g20,0,none⟩=some (.slice (some ⟨g,0,none⟩) l.length cap):=(za h20 0).trans rfl
  have ER:=hhd hR
  have EB:=hhd hB
  clear h7 h8 h9 h10 h11 h12 h13 hn hh hR hB h20
  go_wp2
  refine ⟨by simp,.inl ⟨_,_,rfl,run_takeDeferred hK,?_⟩⟩
  have gD:D≠g:=fun e=>by
   obtain ⟨cells,hc⟩:=Kd.R_typed ER.out g rfl
   rw [e,hc] at hK
   cases hK
  have hg:=grownBy_putObj' W D (.deferred none)
  exact ⟨_,zdU rfl _ _ _,_,rfl,by rw [hys] at ER;exact ze3 ER.out hg (fun r e=>by cases e;exact ⟨_,hK,rfl⟩),EB.out.grown hg EB.out.size (fun k e=>by cases e;exact Nat.le_trans (zi cA) hD)⟩
 case stop =>
  rintro D c pre W _ _ h _
  exact h.elim
end Go.Proofs.YteieahbadclppaaGreat.P

