/- Part 12 of 36 of the proof: the texts that it reaches, one behind the other. No condition. -/
import Derived.Test.YteieahbadclppaaGreatKr11
namespace Go.Proofs.YteieahbadclppaaGreat.P
open Go.RowKit
set_option linter.unusedVariables false
set_option linter.unusedSimpArgs false
theorem bg {W w':World} (hs:Below W.heap.size W w') {p:Addr} {v:Value} (h:W.cell? p=some v):w'.cell? p=some v:=(hs.cell (World.block_lt_of_cell? _ _ h)).trans h
theorem bg6 {W w':World} (hs:Below W.heap.size W w') {p0:Addr} {v0:Value} (h0:W.cell? p0=some v0) {p1:Addr} {v1:Value} (h1:W.cell? p1=some v1) {p2:Addr} {v2:Value} (h2:W.cell? p2=some v2) {p3:Addr} {v3:Value} (h3:W.cell? p3=some v3) {p4:Addr} {v4:Value} (h4:W.cell? p4=some v4) {p5:Addr} {v5:Value} (h5:W.cell? p5=some v5):w'.cell? p0=some v0∧w'.cell? p1=some v1∧w'.cell? p2=some v2∧w'.cell? p3=some v3∧w'.cell? p4=some v4∧w'.cell? p5=some v5:=⟨bg hs h0,bg hs h1,bg hs h2,bg hs h3,bg hs h4,bg hs h5⟩
theorem bg5 {W w':World} (hs:Below W.heap.size W w') {p0:Addr} {v0:Value} (h0:W.cell? p0=some v0) {p1:Addr} {v1:Value} (h1:W.cell? p1=some v1) {p2:Addr} {v2:Value} (h2:W.cell? p2=some v2) {p3:Addr} {v3:Value} (h3:W.cell? p3=some v3) {p4:Addr} {v4:Value} (h4:W.cell? p4=some v4):w'.cell? p0=some v0∧w'.cell? p1=some v1∧w'.cell? p2=some v2∧w'.cell? p3=some v3∧w'.cell? p4=some v4:=⟨bg hs h0,bg hs h1,bg hs h2,bg hs h3,bg hs h4⟩
theorem bg4 {W w':World} (hs:Below W.heap.size W w') {p0:Addr} {v0:Value} (h0:W.cell? p0=some v0) {p1:Addr} {v1:Value} (h1:W.cell? p1=some v1) {p2:Addr} {v2:Value} (h2:W.cell? p2=some v2) {p3:Addr} {v3:Value} (h3:W.cell? p3=some v3):w'.cell? p0=some v0∧w'.cell? p1=some v1∧w'.cell? p2=some v2∧w'.cell? p3=some v3:=⟨bg hs h0,bg hs h1,bg hs h2,bg hs h3⟩
theorem bg3 {W w':World} (hs:Below W.heap.size W w') {p0:Addr} {v0:Value} (h0:W.cell? p0=some v0) {p1:Addr} {v1:Value} (h1:W.cell? p1=some v1) {p2:Addr} {v2:Value} (h2:W.cell? p2=some v2):w'.cell? p0=some v0∧w'.cell? p1=some v1∧w'.cell? p2=some v2:=⟨bg hs h0,bg hs h1,bg hs h2⟩
theorem bg2 {W w':World} (hs:Below W.heap.size W w') {p0:Addr} {v0:Value} (h0:W.cell? p0=some v0) {p1:Addr} {v1:Value} (h1:W.cell? p1=some v1):w'.cell? p0=some v0∧w'.cell? p1=some v1:=⟨bg hs h0,bg hs h1⟩
end Go.Proofs.YteieahbadclppaaGreat.P
namespace Go.Proofs.YteieahbadclppaaGreat.P
open Go.RowKit Go.Shelf Go.Proofs.YteieahbadclppaaGreatW.PrintWords Go.Proofs.YteieahbadclppaaGreatW.PrintLast Go.Proofs.YteieahbadclppaaGreatW.PrintMore
set_option linter.unusedVariables false
set_option linter.unusedSimpArgs false
def two_pair.f (a0_0:Int) (a0_1:Int) (a1_0:Int) (a1_1:Int) (a2_0:Int) (a2_1:Int) (a3:Int) (a4:Int) (a5:Int):Option (Int×Int×Int×Int):=(cx_Times.f a1_0 a1_1 a2_0 a2_1).bind fun bt236=>(if 0≤a3 then ((cx_Shift.f (wrap64 ((shl .i64 a0_0 a3)+bt236.1)) (wrap64 ((shl .i64 a0_1 a3)+bt236.2.1)) (wrap64 (a3+a4)) a5).bind fun bt240=>((cx_Shift.f (wrap64 ((shl .i64 a0_0 a3) - bt236.1)) (wrap64 ((shl .i64 a0_1 a3) - bt236.2.1)) (wrap64 (a3+a4)) a5).bind fun bt244=>(some (bt240.1,bt240.2.1,bt244.1,bt244.2.1)))) else (none))
theorem px_ {P:Program} {ops:Array Oper} {Q:Exit→Act→World→Prop} {md:Go.Region.Mode} {S:World→Prop} {ds:List Nat} (i:Nat) {oi:Oper} {v:Value} {fuel:Nat} {l:Array Bool} {a:Act} {w:World} {N:Option Tmp} (hi:ops[i]?=some oi) {a':Act} (h:zC P md ops Q S ds fuel (l.setIfInBounds i true) a' w) (hN:oi.dst=N:=by conv=>lhs;whnf) (hc:zez md ops l (l.setIfInBounds i true) i=true:=by kernel_rfl) (hQ:∀c a w,Q (.panic c) (a.put oi.dst v) w→Q (.panic c) a w:=by exact fun _ _ _ h=>h) (hy:Yields P ops oi v a:=by exact Or.inl ⟨by rfl,by intro w';go_simp;with_reducible rfl⟩) (ha:a.put N v=a':=by simp only [Act.put,zzA,zzB,zzC,zD,zU];rfl):zC P md ops Q S ds (fuel+1) l a w:=zaD _ hi hN hc hQ hy ha h
theorem tx_ {P:Program} {ops:Array Oper} {Q:Exit→Act→World→Prop} {md:Go.Region.Mode} {S:World→Prop} {ds:List Nat} (i:Nat) {oi:Oper} {v:Value} {fuel:Nat} {l:Array Bool} {a:Act} {w:World} {N:Option Tmp} (hi:ops[i]?=some oi) (hS:S w) (hy:∀w',S w'→(execOp a.eval oi).run P w'=.ok (.value v) w') {a':Act} (h:zC P md ops Q S ds fuel (l.setIfInBounds i true) a' w) (hN:oi.dst=N:=by conv=>lhs;whnf) (hc:zdc md ops ds l (l.setIfInBounds i true) i=true:=by kernel_rfl) (hQ:∀c a w,Q (.panic c) (a.put oi.dst v) w→Q (.panic c) a w:=by exact fun _ _ _ h=>h) (hw:Region.wanted oi (yielded ops a.tmps)=true:=by rfl) (ha:a.put N v=a':=by simp only [Act.put,zzA,zzB,zzC,zD,zU];rfl):zC P md ops Q S ds (fuel+1) l a w:=take_ _ hi hN hc hQ (Or.inl ⟨hw,hy⟩) hS ha h
theorem ox_ {P:Program} {ops:Array Oper} {Q:Exit→Act→World→Prop} {md:Go.Region.Mode} {S:World→Prop} {ds:List Nat} (i:Nat) (N:Option Tmp) {oi:Oper} {fuel:Nat} {l:Array Bool} {a:Act} {w:World} (hi:ops[i]?=some oi) (hN:oi.dst=N) (h:∀K:Act→World→Prop,Shut (∀a' w',S w'→(S w'→zC P md ops Q S ds fuel (l.setIfInBounds i true) a' w')→K a' w')→if Region.wanted oi (yielded ops a.tmps)=true then Oper.wp P oi a w K Q else K (a.put N undef) w) (hc:zb3 md ops l (l.setIfInBounds i true) i=true:=by kernel_rfl) (hd:i ∉ ds:=by decide):zC P md ops Q S ds (fuel+1) l a w:=ziX _ hi hN hc hd h
theorem lx_ {P:Program} {ops:Array Oper} {Q:Exit→Act→World→Prop} {md:Go.Region.Mode} {S:World→Prop} {ds:List Nat} (i:Nat) (N:Option Tmp) {oi:Oper} {fuel:Nat} {l:Array Bool} {a:Act} {w:World} (hi:ops[i]?=some oi) (hN:oi.dst=N) (h:∀K:Act→World→Prop,Shut (∀a' w',zC P md ops Q S ds fuel (l.setIfInBounds i true) a' w'→K a' w')→if Region.wanted oi (yielded ops a.tmps)=true then Oper.wp P oi a w K Q else K (a.put N undef) w) (hc:zb3 md ops l (l.setIfInBounds i true) i=true:=by kernel_rfl) (hd:i∈ds:=by decide):zC P md ops Q S ds (fuel+1) l a w:=zgV _ hi hN hc hd h
theorem wx_ {P:Program} {ops:Array Oper} {Q:Exit→Act→World→Prop} {md:Go.Region.Mode} {S:World→Prop} {ds:List Nat} (i j:Nat) (N M:Option Tmp) {oi oj:Oper} {fuel:Nat} {l:Array Bool} {a:Act} {w:World} (hi:ops[i]?=some oi) (hj:ops[j]?=some oj) (hN:oi.dst=N) (hM:oj.dst=M) (h1:∀K:Act→World→Prop,Shut (∀a' w',S w'→(S w'→zC P md ops Q S ds fuel (l.setIfInBounds i true) a' w')→K a' w')→if Region.wanted oi (yielded ops a.tmps)=true then Oper.wp P oi a w K Q else K (a.put N undef) w) (h2:∀K:Act→World→Prop,Shut (∀a' w',S w'→(S w'→zC P md ops Q S ds fuel (l.setIfInBounds j true) a' w')→K a' w')→if Region.wanted oj (yielded ops a.tmps)=true then Oper.wp P oj a w K Q else K (a.put M undef) w) (hc:(Region.ready md ops l == [i,j])=true:=by kernel_rfl) (hd:i ∉ ds:=by decide) (he:j ∉ ds:=by decide):zC P md ops Q S ds (fuel+1) l a w:=zom _ _ hi hj hN hM (by rw [hc,Bool.true_and,beq_self_eq_true,beq_self_eq_true];rfl) hd he h1 h2
set_option maxRecDepth 100000 in
set_option maxHeartbeats 4000000 in
theorem zkb (a b v t u d:S38) (bits s mode SS rt ru rd_:Int) (hb0:0≤bits) (hS:wrap64 (bits+s)=SS) (w:World)
  (hT:∀W:World,Calls Tryz.prog 104 #[.agg #[.int .i64 b.f0,.int .i64 b.f1],.agg #[.int .i64 v.f0,.int .i64 v.f1]] W fun e w'=>e=.returned (.tuple #[.agg #[.int .i64 t.f0,.int .i64 t.f1],.int .i64 rt])∧Below W.heap.size W w')
  (hU:∀W:World,Calls Tryz.prog 70 #[.agg #[.int .i64 (wrap64 (wrap64 (a.f0*2^min bits.toNat 64)+t.f0)),.int .i64 (wrap64 (wrap64 (a.f1*2^min bits.toNat 64)+t.f1))],.int .i64 SS,.int .i64 mode] W fun e w'=>e=.returned (.tuple #[.agg #[.int .i64 u.f0,.int .i64 u.f1],.int .i64 ru])∧Below W.heap.size W w')
  (hD:∀W:World,Calls Tryz.prog 70 #[.agg #[.int .i64 (wrap64 (wrap64 (a.f0*2^min bits.toNat 64) - t.f0)),.int .i64 (wrap64 (wrap64 (a.f1*2^min bits.toNat 64) - t.f1))],.int .i64 SS,.int .i64 mode] W fun e w'=>e=.returned (.tuple #[.agg #[.int .i64 d.f0,.int .i64 d.f1],.int .i64 rd_])∧Below W.heap.size W w') :
  Calls Tryz.prog 81 #[.agg #[.int .i64 a.f0,.int .i64 a.f1],.agg #[.int .i64 b.f0,.int .i64 b.f1],.agg #[.int .i64 v.f0,.int .i64 v.f1],.int .i64 bits,.int .i64 s,.int .i64 mode] w fun e w'=>e=.returned (.tuple #[.agg #[.int .i64 u.f0,.int .i64 u.f1],.agg #[.int .i64 d.f0,.int .i64 d.f1]])∧Below w.heap.size w w':=by
 have hmx:Tryz.prog.follows .mixedOrders=true:=by kernel_rfl
 have HT:=hhd hT
 have HU:=hhd hU
 have HD:=hhd hD
 have fU:=hhd (Below.refl w.heap.size w)
 have hb1:(0≤bits)=True:=eq_true hb0
 have hb2:decide (0≤bits)=true:=decide_eq_true hb0
 have hb3:(bits < 0)=False:=eq_false (by omega)
 have hb4:¬bits < 0:=by omega
 clear hT hU hD
 go_enter Tryz.func81,Tryz.ntmps81
 go_wp2_with (first
  | ((with_reducible refine zf (N:=6) rfl ?_);refine bb_ 6 rfl fU #[.int .i64 a.f0,.int .i64 a.f1] 38 ?_;intro g6 W1 hg aC L6 dG fJ;obtain ⟨dH,dI⟩:=bk2 dG;clear aC hg)
  | ((with_reducible refine zf (N:=7) rfl ?_);refine bb_ 7 rfl fJ #[.int .i64 b.f0,.int .i64 b.f1] 38 ?_;intro g7 W2 hg aC L7 dJ fK;have dK:=za_ dG aC;obtain ⟨dL,dM⟩:=bk2 dK;clear dH dI;obtain ⟨dN,dO⟩:=bk2 dJ;clear aC hg)
  | ((with_reducible refine zf (N:=8) rfl ?_);refine bb_ 8 rfl fK #[.int .i64 v.f0,.int .i64 v.f1] 38 ?_;intro g8 W3 hg aC L8 bT fM;have bU:=za_ dK aC;have bV:=za_ dJ aC;obtain ⟨dP,dQ⟩:=bk2 bU;obtain ⟨dR,dS⟩:=bk2 bV;clear dL dM dN dO;obtain ⟨dU,dV⟩:=bk2 bT;clear aC hg)
  | ((with_reducible refine zf (N:=12) rfl ?_);refine bb_ 12 rfl fM #[.int .i64 0,.int .i64 0] 38 ?_;intro g12 W4 hg aC fV bL fO;have bW:=za_ bU aC;have bX:=za_ bV aC;have bY:=za_ bT aC;obtain ⟨dW,dX⟩:=bk2 bW;obtain ⟨dY,dZ⟩:=bk2 bX;obtain ⟨d5,d6⟩:=bk2 bY;clear dP dQ dR dS dU dV;obtain ⟨cJ,cK⟩:=bk2 bL;have fW:=ne_ bU hg;have fX:=ne_ bV hg;have fY:=ne_ bT hg;clear aC hg)
  | ((with_reducible refine zf (N:=13) rfl ?_);refine bb_ 13 rfl fO #[.int .i64 0,.int .i64 0] 38 ?_;intro g13 W5 hg aC fZ cA fP;have d7:=za_ bW aC;have bZ:=za_ bX aC;have b6:=za_ bY aC;have cB:=za_ bL aC;obtain ⟨d8,d9⟩:=bk2 d7;obtain ⟨eB,eC⟩:=bk2 bZ;obtain ⟨eD,eE⟩:=bk2 b6;obtain ⟨cL,cM⟩:=bk2 cB;clear dW dX dY dZ d5 d6 cJ cK;obtain ⟨cN,cO⟩:=bk2 cA;have f6:=ne_ bW hg;have f7:=ne_ bX hg;have f8:=ne_ bY hg;have bK:=ne_ bL hg;clear aC hg)
  | ((with_reducible refine zf (N:=21) rfl ?_);simp only [Act.put,zzA,zzB,zzC];refine wpList_load_row rfl 38 _ rfl g7 rfl 38 #[.int .i64 b.f0,.int .i64 b.f1] (0,0) _ bZ.out Tryz.underlying38 rfl (zw _ _) ?_)
  | ((with_reducible refine zf (N:=22) rfl ?_);simp only [Act.put,zzA,zzB,zzC];refine wpList_load_row rfl 38 _ rfl g8 rfl 38 #[.int .i64 v.f0,.int .i64 v.f1] (0,0) _ b6.out Tryz.underlying38 rfl (zw _ _) ?_)
  | (go_at_call 104;( refine (HT.out _).mono ?_);rintro e W6 ⟨rfl,hb⟩;have fQ:=zs_ fP hb;have b7:=za_ d7 hb;have b8:=za_ bZ hb;have b9:=za_ b6 hb;have bM:=za_ cB hb;have bP:=za_ cA hb;obtain ⟨eF,eG⟩:=bk2 b7;obtain ⟨eH,eI⟩:=bk2 b8;obtain ⟨eJ,eK⟩:=bk2 b9;obtain ⟨cP,cQ⟩:=bk2 bM;obtain ⟨cR,cS⟩:=bk2 bP;clear d8 d9 eB eC eD eE cL cM cN cO;clear hb)
  | ((with_reducible refine zf (N:=14) rfl ?_);refine bb_ 14 rfl fQ #[.int .i64 0,.int .i64 0] 38 ?_;intro g14 W7 hg aC f9 cC fR;have eM:=za_ b7 aC;have eN:=za_ b8 aC;have eO:=za_ b9 aC;have cD:=za_ bM aC;have cH:=za_ bP aC;obtain ⟨eP,eQ⟩:=bk2 eM;obtain ⟨eR,eT⟩:=bk2 eN;obtain ⟨eU,eV⟩:=bk2 eO;obtain ⟨cT,cU⟩:=bk2 cD;obtain ⟨cV,cW⟩:=bk2 cH;clear eF eG eH eI eJ eK cP cQ cR cS;obtain ⟨cX,cY⟩:=bk2 cC;have eW:=ne_ b7 hg;have eX:=ne_ b8 hg;have eY:=ne_ b9 hg;have cZ:=ne_ bM hg;have dB:=ne_ bP hg;clear aC hg)
  | ((with_reducible refine zo (t:=38) (p:=14) rfl ?_);refine re_ 38 14 rfl #[.int .i64 t.f0,.int .i64 t.f1] cC f9 fR ?_;intro W8 aA aW bQ;have bB:=zt_ aA eW eM;have fS:=zt_ aA eX eN;have fT:=zt_ aA eY eO;have aX:=zt_ aA cZ cD;have aY:=zt_ aA dB cH;obtain ⟨aJ,aK⟩:=bk2 bB;obtain ⟨eZ,fA⟩:=bk2 fS;obtain ⟨fB,fD⟩:=bk2 fT;obtain ⟨dC,dD⟩:=bk2 aX;obtain ⟨dE,dF⟩:=bk2 aY;clear eP eQ eR eT eU eV cT cU cV cW cX cY;obtain ⟨aH,aI⟩:=bk2 aW;clear aA))
 refine z7 (S:=fun w'=>Below W8.heap.size W8 w') (ds:=[24]) (fl 26 0) hmx rfl rfl (Below.refl _ _).drew (fun I=>?_)
 refine px_ 0 rfl ?_
 refine px_ 2 rfl ?_
 refine px_ 4 rfl ?_
 refine px_ 7 rfl ?_
 refine px_ 9 rfl ?_
 refine px_ 11 rfl ?_
 refine px_ 15 rfl ?_
 refine px_ 16 rfl ?_
 refine px_ 17 rfl ?_
 refine px_ 18 rfl ?_
 refine tx_ 1 rfl I (by rintro w' hs;obtain ⟨aU,aV,aM,aN⟩:=bg4 hs aJ aK aH aI;go_simp;with_reducible rfl) ?_
 refine px_ 3 rfl ?_
 refine tx_ 5 rfl I (by rintro w' hs;obtain ⟨aU,aV,aM,aN⟩:=bg4 hs aJ aK aH aI;go_simp;with_reducible rfl) ?_
 refine px_ 6 rfl ?_
 refine tx_ 8 rfl I (by rintro w' hs;obtain ⟨aU,aV,aM,aN⟩:=bg4 hs aJ aK aH aI;go_simp;with_reducible rfl) ?_
 refine px_ 10 rfl ?_
 refine tx_ 12 rfl I (by rintro w' hs;obtain ⟨aU,aV,aM,aN⟩:=bg4 hs aJ aK aH aI;go_simp;with_reducible rfl) ?_
 refine px_ 13 rfl ?_
 refine px_ 14 rfl ?_
 refine wx_ 19 23 (some 46) (some 16) rfl rfl rfl rfl (fun K hK=>?e1_19) fun K hK=>?e1_23
 case' e1_19 =>
  refine zJ Tryz.func70 (by kernel_rfl) rfl #[.agg #[.int .i64 (wrap64 (wrap64 (a.f0*2^min bits.toNat 64)+t.f0)),.int .i64 (wrap64 (wrap64 (a.f1*2^min bits.toNat 64)+t.f1))],.int .i64 SS,.int .i64 mode] (by rfl) rfl rfl (by go_simp;done) ?_
  refine (HU.out _).mono ?_
  rintro e Wc ⟨rfl,aC⟩
  refine ⟨_,rfl,?_⟩
  refine hK.out _ _ (zb I aC) (fun aD=>?_)
  clear hK K I aC
  have I:=aD
  clear aD
  refine nx_ ?_
  refine px_ 20 rfl ?_
  refine px_ 21 rfl ?_
  refine px_ 22 rfl ?_
  refine ox_ 23 (some 16) rfl rfl fun K hK=>?_
  refine box_step rfl rfl (cs:=#[.int .i64 0,.int .i64 0]) (t:=38) (by first | (go_simp;done) | (go_simp;rfl)) ?_
  intro g16 hg Wc aG aC
  refine hK.out _ _ (zb I aC) (fun aD=>?_)
  have fE:w.heap.size≤g16:=by rw [hg];exact zi (zb bQ I)
  have B16:=hhd aG
  have bC:=hhd (show g6≠g16 from fun e=>by have:=zj (zd bB I);omega)
  have aZ:=hhd (show g14≠g16 from fun e=>by have:=zj (zd aW I);omega)
  have aQ:=hhd (show g12≠g16 from fun e=>by have:=zj (zd aX I);omega)
  have a7:=hhd (show g13≠g16 from fun e=>by have:=zj (zd aY I);omega)
  clear hK K I aC aG hg
  have I:=aD
  clear aD
  refine nx_ ?_
  refine lx_ 24 none rfl rfl fun K hK=>?_
  refine zA rfl rfl 38 _ _ rfl g16 #[.int .i64 u.f0,.int .i64 u.f1] rfl rfl 38 #[.int .i64 0,.int .i64 0] B16.out (zw _ _) rfl (zM _ _) ?_
  intro Wd hq aA aE
  refine hK.out _ _ ?_
  have fF:=hhd hq
  have HBd16:=hhd (aE _ _ fE (zb bQ I))
  have bR:=hhd ((aA _ bC.out).trans (zd bB I))
  have bD:=hhd ((aA _ aZ.out).trans (zd aW I))
  have bE:=hhd ((aA _ aQ.out).trans (zd aX I))
  have bF:=hhd ((aA _ a7.out).trans (zd aY I))
  clear hK K I hq aA aE
  refine px_ 25 rfl ?_
  refine zE (by kernel_rfl) ?_
 case' e1_23 =>
  refine box_step rfl rfl (cs:=#[.int .i64 0,.int .i64 0]) (t:=38) (by first | (go_simp;done) | (go_simp;rfl)) ?_
  intro g16 hg Wc aG aC
  refine hK.out _ _ (zb I aC) (fun aD=>?_)
  have fE:w.heap.size≤g16:=by rw [hg];exact zi (zb bQ I)
  have B16:=hhd aG
  have bC:=hhd (show g6≠g16 from fun e=>by have:=zj (zd bB I);omega)
  have aZ:=hhd (show g14≠g16 from fun e=>by have:=zj (zd aW I);omega)
  have aQ:=hhd (show g12≠g16 from fun e=>by have:=zj (zd aX I);omega)
  have a7:=hhd (show g13≠g16 from fun e=>by have:=zj (zd aY I);omega)
  clear hK K I aC aG hg
  have I:=aD
  clear aD
  refine nx_ ?_
  refine ox_ 19 (some 46) rfl rfl fun K hK=>?_
  refine zJ Tryz.func70 (by kernel_rfl) rfl #[.agg #[.int .i64 (wrap64 (wrap64 (a.f0*2^min bits.toNat 64)+t.f0)),.int .i64 (wrap64 (wrap64 (a.f1*2^min bits.toNat 64)+t.f1))],.int .i64 SS,.int .i64 mode] (by rfl) rfl rfl (by go_simp;done) ?_
  refine (HU.out _).mono ?_
  rintro e Wc ⟨rfl,aC⟩
  refine ⟨_,rfl,?_⟩
  refine hK.out _ _ (zb I aC) (fun aD=>?_)
  replace B16:=za_ B16 aC
  clear hK K I aC
  have I:=aD
  clear aD
  refine nx_ ?_
  refine px_ 20 rfl ?_
  refine px_ 21 rfl ?_
  refine px_ 22 rfl ?_
  refine lx_ 24 none rfl rfl fun K hK=>?_
  refine zA rfl rfl 38 _ _ rfl g16 #[.int .i64 u.f0,.int .i64 u.f1] rfl rfl 38 #[.int .i64 0,.int .i64 0] B16.out (zw _ _) rfl (zM _ _) ?_
  intro Wd hq aA aE
  refine hK.out _ _ ?_
  have fF:=hhd hq
  have HBd16:=hhd (aE _ _ fE (zb bQ I))
  have bR:=hhd ((aA _ bC.out).trans (zd bB I))
  have bD:=hhd ((aA _ aZ.out).trans (zd aW I))
  have bE:=hhd ((aA _ aQ.out).trans (zd aX I))
  have bF:=hhd ((aA _ a7.out).trans (zd aY I))
  clear hK K I hq aA aE
  refine px_ 25 rfl ?_
  refine zE (by kernel_rfl) ?_
 all_goals
  clear B16 aJ aK eZ fA fB fD dC dD dE dF aH aI
  have X6:=bR
  have X14:=bD
  have X12:=bE
  have X13:=bF
  have X16:=fF
  have HBx:=HBd16
  clear bR bD bE bF fF HBd16
  generalize Wd=Wx at *
  have c6_0:=(za X6 0).trans rfl
  have c6_1:=(za X6 1).trans rfl
  have c14_0:=(za X14 0).trans rfl
  have c14_1:=(za X14 1).trans rfl
  go_wp2
  refine z7 (S:=fun w'=>Below Wx.heap.size Wx w') (ds:=[24]) (fl 26 0) hmx rfl rfl (Below.refl _ _).drew (fun I=>?_)
  refine px_ 0 rfl ?_
  refine px_ 2 rfl ?_
  refine px_ 4 rfl ?_
  refine px_ 7 rfl ?_
  refine px_ 9 rfl ?_
  refine px_ 11 rfl ?_
  refine px_ 15 rfl ?_
  refine px_ 16 rfl ?_
  refine px_ 17 rfl ?_
  refine px_ 18 rfl ?_
  refine tx_ 1 rfl I (by rintro w' hs;obtain ⟨j_c6_0,j_c6_1,j_c14_0,j_c14_1⟩:=bg4 hs c6_0 c6_1 c14_0 c14_1;go_simp;with_reducible rfl) ?_
  refine px_ 3 rfl ?_
  refine tx_ 5 rfl I (by rintro w' hs;obtain ⟨j_c6_0,j_c6_1,j_c14_0,j_c14_1⟩:=bg4 hs c6_0 c6_1 c14_0 c14_1;go_simp;with_reducible rfl) ?_
  refine px_ 6 rfl ?_
  refine tx_ 8 rfl I (by rintro w' hs;obtain ⟨j_c6_0,j_c6_1,j_c14_0,j_c14_1⟩:=bg4 hs c6_0 c6_1 c14_0 c14_1;go_simp;with_reducible rfl) ?_
  refine px_ 10 rfl ?_
  refine tx_ 12 rfl I (by rintro w' hs;obtain ⟨j_c6_0,j_c6_1,j_c14_0,j_c14_1⟩:=bg4 hs c6_0 c6_1 c14_0 c14_1;go_simp;with_reducible rfl) ?_
  refine px_ 13 rfl ?_
  refine px_ 14 rfl ?_
  refine wx_ 19 23 (some 69) (some 18) rfl rfl rfl rfl (fun K hK=>?_) fun K hK=>?_
  focus
   refine zJ Tryz.func70 (by kernel_rfl) rfl #[.agg #[.int .i64 (wrap64 (wrap64 (a.f0*2^min bits.toNat 64) - t.f0)),.int .i64 (wrap64 (wrap64 (a.f1*2^min bits.toNat 64) - t.f1))],.int .i64 SS,.int .i64 mode] (by rfl) rfl rfl (by go_simp;done) ?_
   refine (HD.out _).mono ?_
   rintro e Wc ⟨rfl,aC⟩
   refine ⟨_,rfl,?_⟩
   refine hK.out _ _ (zb I aC) (fun aD=>?_)
   clear hK K I aC
   have I:=aD
   clear aD
   refine nx_ ?_
   refine px_ 20 rfl ?_
   refine px_ 21 rfl ?_
   refine px_ 22 rfl ?_
   refine ox_ 23 (some 18) rfl rfl fun K hK=>?_
   refine box_step rfl rfl (cs:=#[.int .i64 0,.int .i64 0]) (t:=38) (by first | (go_simp;done) | (go_simp;rfl)) ?_
   intro g18 hg Wc aG aC
   refine hK.out _ _ (zb I aC) (fun aD=>?_)
   have fG:w.heap.size≤g18:=by rw [hg];exact zi (zb HBx I)
   have B18:=hhd aG
   have bG:=hhd (show g6≠g18 from fun e=>by have:=zj (zd X6 I);omega)
   have a8:=hhd (show g14≠g18 from fun e=>by have:=zj (zd X14 I);omega)
   have aT:=hhd (show g12≠g18 from fun e=>by have:=zj (zd X12 I);omega)
   have a9:=hhd (show g13≠g18 from fun e=>by have:=zj (zd X13 I);omega)
   have bA:=hhd (show g16≠g18 from fun e=>by have:=zj (zd X16 I);omega)
   clear hK K I aC aG hg
   have I:=aD
   clear aD
   refine nx_ ?_
   refine lx_ 24 none rfl rfl fun K hK=>?_
   refine zA rfl rfl 38 _ _ rfl g18 #[.int .i64 d.f0,.int .i64 d.f1] rfl rfl 38 #[.int .i64 0,.int .i64 0] B18.out (zw _ _) rfl (zM _ _) ?_
   intro Wd hq aA aE
   refine hK.out _ _ ?_
   have fH:=hhd hq
   have HBd18:=hhd (aE _ _ fG (zb HBx I))
   have cI:=hhd ((aA _ bG.out).trans (zd X6 I))
   have bS:=hhd ((aA _ a8.out).trans (zd X14 I))
   have bH:=hhd ((aA _ aT.out).trans (zd X12 I))
   have bI:=hhd ((aA _ a9.out).trans (zd X13 I))
   have bJ:=hhd ((aA _ bA.out).trans (zd X16 I))
   clear hK K I hq aA aE
   refine px_ 25 rfl ?_
   refine zE (by kernel_rfl) ?_
  rotate_left 1
  focus
   refine box_step rfl rfl (cs:=#[.int .i64 0,.int .i64 0]) (t:=38) (by first | (go_simp;done) | (go_simp;rfl)) ?_
   intro g18 hg Wc aG aC
   refine hK.out _ _ (zb I aC) (fun aD=>?_)
   have fG:w.heap.size≤g18:=by rw [hg];exact zi (zb HBx I)
   have B18:=hhd aG
   have bG:=hhd (show g6≠g18 from fun e=>by have:=zj (zd X6 I);omega)
   have a8:=hhd (show g14≠g18 from fun e=>by have:=zj (zd X14 I);omega)
   have aT:=hhd (show g12≠g18 from fun e=>by have:=zj (zd X12 I);omega)
   have a9:=hhd (show g13≠g18 from fun e=>by have:=zj (zd X13 I);omega)
   have bA:=hhd (show g16≠g18 from fun e=>by have:=zj (zd X16 I);omega)
   clear hK K I aC aG hg
   have I:=aD
   clear aD
   refine nx_ ?_
   refine ox_ 19 (some 69) rfl rfl fun K hK=>?_
   refine zJ Tryz.func70 (by kernel_rfl) rfl #[.agg #[.int .i64 (wrap64 (wrap64 (a.f0*2^min bits.toNat 64) - t.f0)),.int .i64 (wrap64 (wrap64 (a.f1*2^min bits.toNat 64) - t.f1))],.int .i64 SS,.int .i64 mode] (by rfl) rfl rfl (by go_simp;done) ?_
   refine (HD.out _).mono ?_
   rintro e Wc ⟨rfl,aC⟩
   refine ⟨_,rfl,?_⟩
   refine hK.out _ _ (zb I aC) (fun aD=>?_)
   replace B18:=za_ B18 aC
   clear hK K I aC
   have I:=aD
   clear aD
   refine nx_ ?_
   refine px_ 20 rfl ?_
   refine px_ 21 rfl ?_
   refine px_ 22 rfl ?_
   refine lx_ 24 none rfl rfl fun K hK=>?_
   refine zA rfl rfl 38 _ _ rfl g18 #[.int .i64 d.f0,.int .i64 d.f1] rfl rfl 38 #[.int .i64 0,.int .i64 0] B18.out (zw _ _) rfl (zM _ _) ?_
   intro Wd hq aA aE
   refine hK.out _ _ ?_
   have fH:=hhd hq
   have HBd18:=hhd (aE _ _ fG (zb HBx I))
   have cI:=hhd ((aA _ bG.out).trans (zd X6 I))
   have bS:=hhd ((aA _ a8.out).trans (zd X14 I))
   have bH:=hhd ((aA _ aT.out).trans (zd X12 I))
   have bI:=hhd ((aA _ a9.out).trans (zd X13 I))
   have bJ:=hhd ((aA _ bA.out).trans (zd X16 I))
   clear hK K I hq aA aE
   refine px_ 25 rfl ?_
   refine zE (by kernel_rfl) ?_
  all_goals
   clear B18 c6_0 c6_1 c14_0 c14_1
   have Y12:=bH
   have Y13:=bI
   have Y16:=bJ
   clear bH bI bJ cI bS
   go_wp2
   refine z7 (S:=fun w'=>w'.heap[g16]?=some (.cells #[.int .i64 u.f0,.int .i64 u.f1] 38 (0,0))∧w'.heap[g18]?=some (.cells #[.int .i64 d.f0,.int .i64 d.f1] 38 (0,0))) (ds:=[3]) (fl 4 0) hmx rfl rfl ⟨zd Y16 (Below.refl _ _).drew,zd fH (Below.refl _ _).drew⟩ (fun I=>?_)
   refine tx_ 0 rfl I (by rintro w' ⟨s0,s1⟩;have ja:=(za s0 0).trans rfl;have jb:=(za s0 1).trans rfl;have jc:=(za s1 0).trans rfl;have jd:=(za s1 1).trans rfl;go_simp;with_reducible rfl) ?_
   refine tx_ 1 rfl I (by rintro w' ⟨s0,s1⟩;have ja:=(za s0 0).trans rfl;have jb:=(za s0 1).trans rfl;have jc:=(za s1 0).trans rfl;have jd:=(za s1 1).trans rfl;go_simp;with_reducible rfl) ?_
   refine ox_ 2 none rfl rfl fun K hK=>?_
   refine zA rfl rfl 38 _ _ rfl g12 #[.int .i64 u.f0,.int .i64 u.f1] rfl rfl 38 #[.int .i64 0,.int .i64 0] (zd Y12 (Below.refl _ _).drew) (zw _ _) rfl (zM _ _) ?_
   intro We hq aA aE
   refine hK.out _ _ ⟨(aA _ (Ne.symm aQ.out)).trans I.1,(aA _ (Ne.symm aT.out)).trans I.2⟩ (fun aD=>?_)
   have F12:=hhd hq
   have F13:=hhd ((aA _ (Ne.symm bK.out)).trans (zd Y13 (Below.refl _ _).drew))
   have HBe:=hhd (aE _ _ fV (zbj HBd18.out))
   clear hK K I hq aA aE
   refine lx_ 3 none rfl rfl fun K hK=>?_
   refine zA rfl rfl 38 _ _ rfl g13 #[.int .i64 d.f0,.int .i64 d.f1] rfl rfl 38 #[.int .i64 0,.int .i64 0] F13.out (zw _ _) rfl (zM _ _) ?_
   intro Wf hq aA aE
   refine hK.out _ _ ?_
   have G13:=hhd hq
   have G12:=zt_ aA bK F12
   have HBf:=hhd (aE _ _ fZ HBe.out)
   clear hK K hq aA aE
   refine zE (by kernel_rfl) ?_
   go_wp2
   refine bodyPost_ret (ziU rfl _ _ g12 g13 38 38 #[.int .i64 u.f0,.int .i64 u.f1] #[.int .i64 d.f0,.int .i64 d.f1] (0,0) (0,0) _ _ rfl G12.out Tryz.underlying38 rfl (zw _ _) rfl G13.out Tryz.underlying38 rfl (zw _ _)) rfl ?_
   exact ⟨rfl,HBf.out⟩
theorem two_pair.calls (a0_0:Int) (a0_1:Int) (a1_0:Int) (a1_1:Int) (a2_0:Int) (a2_1:Int) (a3:Int) (a4:Int) (a5:Int) (r1:Int) (r2:Int) (r3:Int) (r4:Int) (w:World) (h:two_pair.f a0_0 a0_1 a1_0 a1_1 a2_0 a2_1 a3 a4 a5=some (r1,r2,r3,r4)) :
  Calls Tryz.prog 81 #[.agg #[.int .i64 a0_0,.int .i64 a0_1],.agg #[.int .i64 a1_0,.int .i64 a1_1],.agg #[.int .i64 a2_0,.int .i64 a2_1],.int .i64 a3,.int .i64 a4,.int .i64 a5] w fun e w'=>e=.returned (.tuple #[.agg #[.int .i64 r1,.int .i64 r2],.agg #[.int .i64 r3,.int .i64 r4]])∧Below w.heap.size w w':=by
 unfold two_pair.f at h
 obtain ⟨⟨t0,t1,t2⟩,A1,h⟩:=Option.bind_eq_some_iff.mp h
 by_cases c:0≤a3
 ·rw [if_pos c] at h
  obtain ⟨⟨u0,u1,u2⟩,A2,h⟩:=Option.bind_eq_some_iff.mp h
  obtain ⟨⟨d0,d1,d2⟩,A3,h⟩:=Option.bind_eq_some_iff.mp h
  have h:=Option.some.inj h
  simp only [Prod.mk.injEq] at h
  obtain ⟨rfl,rfl,rfl,rfl⟩:=h
  have e:∀x,shl .i64 x a3=wrap64 (x*2^min a3.toNat 64):=fun x=>zD _
  dsimp only at A2 A3
  rw [e,e] at A2 A3
  exact zkb ⟨a0_0,a0_1⟩ ⟨a1_0,a1_1⟩ ⟨a2_0,a2_1⟩ ⟨t0,t1⟩ ⟨u0,u1⟩ ⟨d0,d1⟩ a3 a4 a5 _ t2 u2 d2 c rfl w (fun W=>cx_Times.calls _ _ _ _ _ _ _ W A1) (fun W=>cx_Shift.calls _ _ _ _ _ _ _ W A2) (fun W=>cx_Shift.calls _ _ _ _ _ _ _ W A3)
 ·rw [if_neg c] at h
  cases h
end Go.Proofs.YteieahbadclppaaGreat.P

namespace Go.Proofs.YteieahbadclppaaGreat.P
open Go.RowKit Go.Proofs.YteieahbadclppaaGreatW.PrintWords Go.Proofs.YteieahbadclppaaGreatW.PrintLast Go.Proofs.YteieahbadclppaaGreatW.PrintMore
set_option linter.unusedVariables false
set_option linter.unusedSimpArgs false
def zap (a b w:S38) (bits s mode:Int):S38×S38:=match two_pair.f a.f0 a.f1 b.f0 b.f1 w.f0 w.f1 bits s mode with
 | some r=>(⟨r.1,r.2.1⟩,⟨r.2.2.1,r.2.2.2⟩)
 | none=>(z38,z38)
theorem zlg (a b w:S38) (bits s mode:Int) (hb:inB 2147483648 b=true) (hw:inB 1073741824 w=true) (h0:0≤bits) (h1:bits≤29) (h2:0≤s) (h3:s≤3) (h4:0≤mode) (h5:mode < 3) :
  two_pair.f a.f0 a.f1 b.f0 b.f1 w.f0 w.f1 bits s mode=some ((zap a b w bits s mode).1.f0,(zap a b w bits s mode).1.f1,(zap a b w bits s mode).2.f0,(zap a b w bits s mode).2.f1):=by
 have h:∃r,two_pair.f a.f0 a.f1 b.f0 b.f1 w.f0 w.f1 bits s mode=some r:=by
  have e:wrap64 (bits+s)=bits+s:=by unfold wrap64;omega
  have hS:∀x y:Int,cx_Shift.f x y (bits+s) mode=some (shV x (bits+s) mode,shV y (bits+s) mode,0):=fun x y=>zbf ⟨x,y⟩ (bits+s) mode (by omega) (by omega) h4 h5
  unfold two_pair.f cx_Times.f
  rw [show inB 2147483648 ⟨b.f0,b.f1⟩=true from hb,show inB 1073741824 ⟨w.f0,w.f1⟩=true from hw,if_pos rfl,if_pos rfl,Option.bind_some,if_pos h0,e,hS,Option.bind_some,hS,Option.bind_some]
  exact ⟨_,rfl⟩
 obtain ⟨r,hr⟩:=h
 unfold zap
 rw [hr]
def zH (inv:Bool) (w:S38):S38:=if inv=true then ⟨w.f0,wrap64 (-w.f1)⟩ else w
def zbJ (x w:List S38) (h bits s mode:Int) (inv:Bool) (o:List S38) (p:Int×Int):List S38 :=
 (o.set p.1.toNat (zap (zk x p.1) (zk x (p.1+h)) (zH inv (zk w p.2)) bits s mode).1).set (p.1+h).toNat (zap (zk x p.1) (zk x (p.1+h)) (zH inv (zk w p.2)) bits s mode).2
def zdv (x w:List S38) (h bits s mode:Int) (inv:Bool) (m:Int) (n:Nat):List S38:=(zT h m n).foldl (zbJ x w h bits s mode inv) x
theorem zik (x w:List S38) (h bits s mode:Int) (inv:Bool) (o:List S38) (p:Int×Int):(zbJ x w h bits s mode inv o p).length=o.length:=by simp [zbJ]
theorem zdT (x w:List S38) (h bits s mode:Int) (inv:Bool) (ps:List (Int×Int)):∀o:List S38,(ps.foldl (zbJ x w h bits s mode inv) o).length=o.length:=by
 induction ps with
 | nil=>intro o;rfl
 | cons p ps ih=>intro o;rw [List.foldl_cons,ih,zik]
end Go.Proofs.YteieahbadclppaaGreat.P

