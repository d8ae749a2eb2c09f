/- Part 23 of 36 of the proof: the texts that it reaches, one behind the other. No condition. -/
import Derived.Test.YteieahbadclppaaGreatKr22
namespace Go.Proofs.YteieahbadclppaaGreat.P
open Go.RowKit Go.Shelf Go.Proofs.YteieahbadclppaaGreatW.PrintWords Go.Proofs.YteieahbadclppaaGreatW.PrintLast Go.Proofs.YteieahbadclppaaGreatW.PrintMore
set_option linter.unusedVariables false
set_option linter.unusedSimpArgs false
set_option maxRecDepth 100000 in
set_option maxHeartbeats 4000000 in
theorem ziE (p0 p1 p2 p4 bad ex EU:Int) (p5:Bool) (A:Option Addr) (c N NU:Nat) (x:List Int) (l Y U:List S38) (w:World) (hr:Kd.C (Kd.int .i64) w A x.length x)
  (hz:bad≠0→NU=0∧EU=0∧U=[])
  (hf:∀(ga gq g2 g3:Nat) (W:World),W.heap[ga]?=some (.cells #[.func (.func 61) #[] #[.pointer (some ⟨gq,0,none⟩)],.func (.func 34) #[] #[.pointer (some ⟨g2,0,none⟩),.pointer (some ⟨g3,0,none⟩)]] 80 (0,0))→W.heap[gq]?=some (.cells #[.int .i64 p0,.int .i64 p1,.int .i64 p2,.int .i64 0,.int .i64 p4,.bool p5] 24 (0,0))→W.heap[g2]?=some (.cells #[.slice A x.length c] 26 (0,0))→W.heap[g3]?=some (.cells #[.int .i64 p0,.int .i64 p1,.int .i64 p2,.int .i64 0,.int .i64 p4,.bool p5] 24 (0,0))→Calls Tryz.prog 32 #[.slice (some ⟨ga,0,none⟩) 2 2] W fun e w'=>e=.returned (.int .i64 0)∧Below W.heap.size W w')
  (hpk:∀W:World,Kd.C (Kd.int .i64) W A x.length x→Calls Tryz.prog 35 #[.slice A x.length c] W fun e w'=>∃A' c',e=.returned (.slice A' l.length c')∧Kd.R k38 38 w' W.heap.size (fun _=>True) (.slice A' l.length c') l∧Below W.heap.size W w')
  (hrun:∀(W:World) (A1:Option Addr) (c1:Nat),Kd.C k38 W A1 l.length l→l.length≤c1→Calls Tryz.prog 7 #[.slice A1 l.length c1,.agg #[.int .i64 p0,.int .i64 p1,.int .i64 p2,.int .i64 0,.int .i64 p4,.bool p5]] W fun e w'=>∃A' c' As' m cs',e=.returned (.tuple #[.agg #[.slice A' N c',.int .i64 ex,.bool false,.slice As' m cs'],.int .i64 bad])∧Kd.R k38 38 w' W.heap.size (fun _=>True) (.slice A' N c') Y∧Below W.heap.size W w')
  (hunt:bad=0→∀(W:World) (A1 As:Option Addr) (c1 ms cs:Nat),Kd.C k38 W A1 N Y→N≤c1→Calls Tryz.prog 36 #[.agg #[.slice A1 N c1,.int .i64 ex,.bool false,.slice As ms cs],.agg #[.int .i64 p0,.int .i64 p1,.int .i64 p2,.int .i64 0,.int .i64 p4,.bool p5]] W fun e w'=>∃A' c',e=.returned (.agg #[.slice A' NU c',.int .i64 EU,.bool false,.slice As ms cs])∧Kd.R k38 38 w' W.heap.size (fun _=>True) (.slice A' NU c') U∧Below W.heap.size W w') :
  Calls Tryz.prog 14 #[.slice A x.length c,.agg #[.int .i64 p0,.int .i64 p1,.int .i64 p2,.int .i64 0,.int .i64 p4,.bool p5]] w fun e w'=>∃A' c' As ms cs,e=.returned (.tuple #[.agg #[.slice A' NU c',.int .i64 EU,.bool false,.slice As ms cs],.int .i64 bad])∧Kd.R k38 38 w' w.heap.size (fun _=>True) (.slice A' NU c') U∧Below w.heap.size w w':=by
 have hmx:Tryz.prog.follows .mixedOrders=true:=by kernel_rfl
 have HR:=hhd hr
 have HZ:=hhd hz
 have HF:=hhd hf
 have HPK:=hhd hpk
 have HRUN:=hhd hrun
 have HUNT:=hhd hunt
 clear hr hz hf hpk hrun hunt
 have cP:=hhd (Below.refl w.heap.size w)
 go_enter Tryz.func14,Tryz.ntmps14
 go_wp2_with (first
  | ((with_reducible refine zf (N:=2) rfl ?_);refine bb_ 2 rfl cP #[.slice A x.length c] 26 ?_;intro g2 W1 hg aC L2 aV aW;have cR:=zc_ HR aW;have aX:=bk1 aV;clear aC hg)
  | ((with_reducible refine zf (N:=3) rfl ?_);refine bb_ 3 rfl aW #[.int .i64 p0,.int .i64 p1,.int .i64 p2,.int .i64 0,.int .i64 p4,.bool p5] 24 ?_;intro g3 W2 hg aC L3 aN aY;have aZ:=za_ aV aC;have cS:=zc_ HR aY;have a7:=bk1 aZ;clear aX;obtain ⟨a8,a9,bA,bB,bC,bD⟩:=bk6 aN;clear aC hg)
  | ((with_reducible refine zf (N:=4) rfl ?_);refine bb_ 4 rfl aY #[.slice none 0 0,.int .i64 0,.bool false,.slice none 0 0] 28 ?_;intro g4 W3 hg aC L4 bE bF;have bG:=za_ aZ aC;have aQ:=za_ aN aC;have cT:=zc_ HR bF;have bH:=bk1 bG;obtain ⟨bI,bJ,bK,bL,bM,bP⟩:=bk6 aQ;clear a7 a8 a9 bA bB bC bD;obtain ⟨bQ,bR,bS,bT⟩:=bk4 bE;have cQ:=ne_ aN hg;clear aC hg)
  | ((with_reducible refine zf (N:=8) rfl ?_);refine lr_ 8 rfl 24 aQ Tryz.underlying24 ?_)
  | (go_at_call 33;(with_reducible refine (zdV p0 p1 p2 0 p4 p5 _).mono ?_);rintro e W4 ⟨gq,rfl,hq,Lq,hb⟩;have Bq:=hhd hq;clear hq;have bU:=zs_ bF hb;have aT:=za_ bG hb;have aU:=za_ aQ hb;have bV:=za_ bE hb;have cU:=zc_ HR bU;have bW:=bk1 aT;obtain ⟨bX,bY,bZ,b6,b7,b8⟩:=bk6 aU;obtain ⟨b9,cA,cB,cC⟩:=bk4 bV;clear bH bI bJ bK bL bM bP bQ bR bS bT;clear hb)
  | (go_at_call 32;have hal:=ze (Below.refl W4.heap.size W4) (Obj.cells #[.func (.func 61) #[] #[.pointer (some ⟨gq,0,none⟩)],.func (.func 34) #[] #[.pointer (some ⟨g2,0,none⟩),.pointer (some ⟨g3,0,none⟩)]] 80);refine (HF.out _ gq g2 g3 _ (zbb W4 _) (zd Bq hal) (zd aT hal) (zd aU hal)).mono ?_;rintro e W5 ⟨rfl,hb⟩;have aG:=hhd (zb (zb bU hal) hb);have cN:=hhd (zd (zd aT hal) hb);have aE:=hhd (zd (zd aU hal) hb);have aM:=hhd (zd (zd bV hal) hb);have k2:=(za cN 0).trans rfl;have k3_0:=(za aE 0).trans rfl;have k3_1:=(za aE 1).trans rfl;have k3_2:=(za aE 2).trans rfl;have k3_3:=(za aE 3).trans rfl;have k3_4:=(za aE 4).trans rfl;have k3_5:=(za aE 5).trans rfl;have cD:=zc_ HR aG;clear hb hal bW bX bY bZ b6 b7 b8 b9 cA cB cC))
 refine z7 (S:=fun w'=>Below W5.heap.size W5 w') (ds:=[8]) (fl 10 0) hmx rfl rfl (Below.refl _ _).drew (fun I=>?_)
 refine tx_ 0 rfl I (by rintro w' hs;obtain ⟨cO,cH,cI,cJ,cK,cL⟩:=bg6 hs k2 k3_0 k3_1 k3_2 k3_3 k3_4;have cM:=bg hs k3_5;go_simp;with_reducible rfl) ?_
 refine tx_ 2 rfl I (by rintro w' hs;obtain ⟨cO,cH,cI,cJ,cK,cL⟩:=bg6 hs k2 k3_0 k3_1 k3_2 k3_3 k3_4;have cM:=bg hs k3_5;go_simp;with_reducible rfl) ?_
 refine wx_ 1 7 (some 19) (some 7) rfl rfl rfl rfl (fun K hK=>?_) fun K hK=>?_
 focus
  refine zJ Tryz.func35 (by kernel_rfl) rfl #[.slice A x.length c] (by rfl) rfl rfl (by go_simp;done) ?_
  refine (HPK.out _ (Kd.C_below cD.out I)).mono ?_
  rintro e Wc ⟨A1,c1,rfl,ho,aC⟩
  refine ⟨_,rfl,?_⟩
  refine hK.out _ _ (zb I aC) (fun aA=>?_)
  have RP:=hhd ho
  clear hK K I aC ho
  have I:=aA
  clear aA
  refine nx_ ?_
  refine wx_ 3 7 (some 21) (some 7) rfl rfl rfl rfl (fun K hK=>?_) fun K hK=>?_
  focus
   refine zJ Tryz.func7 (by kernel_rfl) rfl #[.slice A1 l.length c1,.agg #[.int .i64 p0,.int .i64 p1,.int .i64 p2,.int .i64 0,.int .i64 p4,.bool p5]] (by rfl) rfl rfl (by go_simp;done) ?_
   refine (HRUN.out _ A1 c1 (zct RP.out).2 (zct RP.out).1).mono ?_
   rintro e Wc ⟨A2,c2,As,ms,cs,rfl,ho,aC⟩
   refine ⟨_,rfl,?_⟩
   have RY:=hhd (Kd.R_lower ho (zi (zb aG I)))
   refine hK.out _ _ (zb I aC) (fun aA=>?_)
   replace RP:=zr_ RP aC
   clear hK K I aC ho
   have I:=aA
   clear aA
   refine nx_ ?_
   refine px_ 4 rfl ?_
   refine px_ 5 rfl ?_
   refine px_ 6 rfl ?_
   refine ox_ 7 (some 7) rfl rfl fun K hK=>?_
   refine box_step rfl rfl (cs:=#[.slice none 0 0,.int .i64 0,.bool false,.slice none 0 0]) (t:=28) (by first | (go_simp;done) | (go_simp;rfl)) ?_
   intro g7 hg Wc aH aC
   refine hK.out _ _ (zb I aC) (fun aA=>?_)
   replace RP:=zr_ RP aC
   replace RY:=zr_ RY aC
   have L7:w.heap.size≤g7:=by rw [hg];exact zi (zb aG I)
   have M7:W5.heap.size≤g7:=by rw [hg];exact I.size
   have B7:=hhd aH
   have aJ:=hhd (show g3≠g7 from fun e=>by have:=zj aE;omega)
   have aK:=hhd (show g4≠g7 from fun e=>by have:=zj aM;omega)
   clear hK K I aC aH hg
   have I:=aA
   clear aA
   refine nx_ ?_
   refine lx_ 8 none rfl rfl fun K hK=>?_
   refine zA rfl rfl 28 _ _ rfl g7 #[.slice A2 N c2,.int .i64 ex,.bool false,.slice As ms cs] rfl rfl 28 #[.slice none 0 0,.int .i64 0,.bool false,.slice none 0 0] B7.out (zV _ _ _ _) rfl (zaK _ _ _ _ _ _ _ _) ?_
   intro Wd hq aD aI
   refine hK.out _ _ ?_
   have RYd:=zg_ RY B7 aD
   have E7:=hhd hq
   have HBd:=hhd (aI _ _ L7 (zb aG I))
   have E3:=hhd ((aD _ aJ.out).trans (zd aE I))
   have E4:=hhd ((aD _ aK.out).trans (zd aM I))
   clear hK K I hq aD aI
   refine px_ 9 rfl ?_
   refine zE (by kernel_rfl) ?_
  rotate_left 1
  focus
   refine box_step rfl rfl (cs:=#[.slice none 0 0,.int .i64 0,.bool false,.slice none 0 0]) (t:=28) (by first | (go_simp;done) | (go_simp;rfl)) ?_
   intro g7 hg Wc aH aC
   refine hK.out _ _ (zb I aC) (fun aA=>?_)
   replace RP:=zr_ RP aC
   have L7:w.heap.size≤g7:=by rw [hg];exact zi (zb aG I)
   have M7:W5.heap.size≤g7:=by rw [hg];exact I.size
   have B7:=hhd aH
   have aJ:=hhd (show g3≠g7 from fun e=>by have:=zj aE;omega)
   have aK:=hhd (show g4≠g7 from fun e=>by have:=zj aM;omega)
   clear hK K I aC aH hg
   have I:=aA
   clear aA
   refine nx_ ?_
   refine ox_ 3 (some 21) rfl rfl fun K hK=>?_
   refine zJ Tryz.func7 (by kernel_rfl) rfl #[.slice A1 l.length c1,.agg #[.int .i64 p0,.int .i64 p1,.int .i64 p2,.int .i64 0,.int .i64 p4,.bool p5]] (by rfl) rfl rfl (by go_simp;done) ?_
   refine (HRUN.out _ A1 c1 (zct RP.out).2 (zct RP.out).1).mono ?_
   rintro e Wc ⟨A2,c2,As,ms,cs,rfl,ho,aC⟩
   refine ⟨_,rfl,?_⟩
   have RY:=hhd (Kd.R_lower ho (zi (zb aG I)))
   refine hK.out _ _ (zb I aC) (fun aA=>?_)
   replace RP:=zr_ RP aC
   replace B7:=za_ B7 aC
   clear hK K I aC ho
   have I:=aA
   clear aA
   refine nx_ ?_
   refine px_ 4 rfl ?_
   refine px_ 5 rfl ?_
   refine px_ 6 rfl ?_
   refine lx_ 8 none rfl rfl fun K hK=>?_
   refine zA rfl rfl 28 _ _ rfl g7 #[.slice A2 N c2,.int .i64 ex,.bool false,.slice As ms cs] rfl rfl 28 #[.slice none 0 0,.int .i64 0,.bool false,.slice none 0 0] B7.out (zV _ _ _ _) rfl (zaK _ _ _ _ _ _ _ _) ?_
   intro Wd hq aD aI
   refine hK.out _ _ ?_
   have RYd:=zg_ RY B7 aD
   have E7:=hhd hq
   have HBd:=hhd (aI _ _ L7 (zb aG I))
   have E3:=hhd ((aD _ aJ.out).trans (zd aE I))
   have E4:=hhd ((aD _ aK.out).trans (zd aM I))
   clear hK K I hq aD aI
   refine px_ 9 rfl ?_
   refine zE (by kernel_rfl) ?_
 rotate_left 2
 focus
  refine box_step rfl rfl (cs:=#[.slice none 0 0,.int .i64 0,.bool false,.slice none 0 0]) (t:=28) (by first | (go_simp;done) | (go_simp;rfl)) ?_
  intro g7 hg Wc aH aC
  refine hK.out _ _ (zb I aC) (fun aA=>?_)
  have L7:w.heap.size≤g7:=by rw [hg];exact zi (zb aG I)
  have M7:W5.heap.size≤g7:=by rw [hg];exact I.size
  have B7:=hhd aH
  have aJ:=hhd (show g3≠g7 from fun e=>by have:=zj aE;omega)
  have aK:=hhd (show g4≠g7 from fun e=>by have:=zj aM;omega)
  clear hK K I aC aH hg
  have I:=aA
  clear aA
  refine nx_ ?_
  refine ox_ 1 (some 19) rfl rfl fun K hK=>?_
  refine zJ Tryz.func35 (by kernel_rfl) rfl #[.slice A x.length c] (by rfl) rfl rfl (by go_simp;done) ?_
  refine (HPK.out _ (Kd.C_below cD.out I)).mono ?_
  rintro e Wc ⟨A1,c1,rfl,ho,aC⟩
  refine ⟨_,rfl,?_⟩
  refine hK.out _ _ (zb I aC) (fun aA=>?_)
  replace B7:=za_ B7 aC
  have RP:=hhd ho
  clear hK K I aC ho
  have I:=aA
  clear aA
  refine nx_ ?_
  refine ox_ 3 (some 21) rfl rfl fun K hK=>?_
  refine zJ Tryz.func7 (by kernel_rfl) rfl #[.slice A1 l.length c1,.agg #[.int .i64 p0,.int .i64 p1,.int .i64 p2,.int .i64 0,.int .i64 p4,.bool p5]] (by rfl) rfl rfl (by go_simp;done) ?_
  refine (HRUN.out _ A1 c1 (zct RP.out).2 (zct RP.out).1).mono ?_
  rintro e Wc ⟨A2,c2,As,ms,cs,rfl,ho,aC⟩
  refine ⟨_,rfl,?_⟩
  have RY:=hhd (Kd.R_lower ho (zi (zb aG I)))
  refine hK.out _ _ (zb I aC) (fun aA=>?_)
  replace B7:=za_ B7 aC
  replace RP:=zr_ RP aC
  clear hK K I aC ho
  have I:=aA
  clear aA
  refine nx_ ?_
  refine px_ 4 rfl ?_
  refine px_ 5 rfl ?_
  refine px_ 6 rfl ?_
  refine lx_ 8 none rfl rfl fun K hK=>?_
  refine zA rfl rfl 28 _ _ rfl g7 #[.slice A2 N c2,.int .i64 ex,.bool false,.slice As ms cs] rfl rfl 28 #[.slice none 0 0,.int .i64 0,.bool false,.slice none 0 0] B7.out (zV _ _ _ _) rfl (zaK _ _ _ _ _ _ _ _) ?_
  intro Wd hq aD aI
  refine hK.out _ _ ?_
  have RYd:=zg_ RY B7 aD
  have E7:=hhd hq
  have HBd:=hhd (aI _ _ L7 (zb aG I))
  have E3:=hhd ((aD _ aJ.out).trans (zd aE I))
  have E4:=hhd ((aD _ aK.out).trans (zd aM I))
  clear hK K I hq aD aI
  refine px_ 9 rfl ?_
  refine zE (by kernel_rfl) ?_
 all_goals
  clear k2 k3_0 k3_1 k3_2 k3_3 k3_4 k3_5
  by_cases hbad:bad=0
  ·subst hbad
   go_wp2_with (first
    | ((with_reducible refine zf (N:=28) rfl ?_);refine lr_ 28 rfl 28 E7 Tryz.underlying28 ?_)
    | ((with_reducible refine zf (N:=29) rfl ?_);refine lr_ 29 rfl 24 E3 Tryz.underlying24 ?_)
    | (go_at_call 36;refine (HUNT.out rfl _ A2 As c2 ms cs (zct RYd.out).2 (zct RYd.out).1).mono ?_;rintro e We ⟨A3,c3,rfl,ho,hb⟩;have RU:=hhd (Kd.R_lower ho (zi HBd));have HBe:=zs_ HBd hb;have F4:=za_ E4 hb;clear ho hb)
    | ((with_reducible refine zo (t:=28) (p:=4) rfl ?_);refine re_ 28 4 rfl #[.slice A3 NU c3,.int .i64 EU,.bool false,.slice As ms cs] F4 L4 HBe ?_;intro Wf aD G4 HBf;have RUf:=zg_ RU F4 aD;clear aD))
   refine bodyPost_ret (zW rfl _ _ g4 28 #[.slice A3 NU c3,.int .i64 EU,.bool false,.slice As ms cs] (0,0) _ rfl G4.out Tryz.underlying28 rfl (zV _ _ _ _)) rfl ?_
   exact ⟨_,_,_,_,_,rfl,RUf.out,HBf.out⟩
  ·obtain ⟨rfl,rfl,rfl⟩:=HZ.out hbad
   have hb1:(bad == 0)=false:=by simpa using hbad
   have hb2:(bad=0)=False:=eq_false hbad
   clear hbad
   go_wp2_with (first
    | ((with_reducible refine zo (t:=28) (p:=4) rfl ?_);refine re_ 28 4 rfl #[.slice none 0 0,.int .i64 0,.bool false,.slice none 0 0] E4 L4 HBd ?_;intro Wf aD G4 HBf;clear aD))
   refine bodyPost_ret (zW rfl _ _ g4 28 #[.slice none 0 0,.int .i64 0,.bool false,.slice none 0 0] (0,0) _ rfl G4.out Tryz.underlying28 rfl (zV _ _ _ _)) rfl ?_
   exact ⟨_,_,⟨_,_,_,rfl⟩,Kd.R_nil _ _ _ _ _,HBf.out⟩
end Go.Proofs.YteieahbadclppaaGreat.P

namespace Go.Proofs.YteieahbadclppaaGreat.P
open Go.RowKit Go.Proofs.YteieahbadclppaaGreatW.PrintWords Go.Proofs.YteieahbadclppaaGreatW.PrintLast Go.Proofs.YteieahbadclppaaGreatW.PrintMore
set_option linter.unusedVariables false
set_option linter.unusedSimpArgs false
def bN (fm:Nat):Nat:=if fm=0 then 13 else 29
def twL (fm g:Nat):List S38:=match roots_Twiddles.f g fm with
 | some (L,_)=>L
 | none=>[]
def twB (fm g:Nat):Bool:=match roots_Twiddles.f g fm with
 | some (L,e)=>(e == 0) && ((L.length == 2^g) && L.all fun z=>decide (z.f0*z.f0+z.f1*z.f1≤(2^bN fm+1)*(2^bN fm+1)) && inB (2^bN fm) z)
 | none=>false
set_option maxRecDepth 100000 in
theorem znl:([0,1].all fun fm=>[2,3,4,5,6].all fun g=>twB fm g)=true:=by decide +kernel
theorem zbG {fm:Nat} (h:fm < 2):fm∈[0,1]:=by simp;omega
theorem zb6 {g:Nat} (h2:2≤g) (h6:g≤6):g∈[2,3,4,5,6]:=by simp;omega
theorem za7 {fm g:Nat} (hf:fm < 2) (h2:2≤g) (h6:g≤6):roots_Twiddles.f g fm=some (twL fm g,0)∧(twL fm g).length=2^g∧∀z,z∈twL fm g→zX z (2^bN fm+1)∧inB (2^bN fm) z=true:=by
 have h:=List.all_eq_true.1 (List.all_eq_true.1 znl fm (zbG hf)) g (zb6 h2 h6)
 have hp:(0:Int) < 2^bN fm:=Int.pow_pos (by decide)
 unfold twB at h
 unfold twL
 split at h
 ·next L e he =>
  rw [he]
  simp only [Bool.and_eq_true,beq_iff_eq,List.all_eq_true,decide_eq_true_eq] at h
  obtain ⟨a1,a2,a3⟩:=h
  exact ⟨by rw [a1],a2,fun z hz=>⟨⟨by omega,(a3 z hz).1⟩,(a3 z hz).2⟩⟩
 ·cases h
def pcL (ker g:Nat):List (Bool×Nat):=if ker=0 then (List.range g).map fun t=>(false,t) else if g % 2=0 then (List.range (g / 2)).map fun i=>(true,2*i) else (false,0) :: (List.range (g / 2)).map fun i=>(true,2*i+1)
def zji (p:Bool×Nat):S59:=⟨if p.1 then 4 else 2,2^p.2⟩
def psL (ker g:Nat):List S59:=(pcL ker g).map zji
def psB (fm g ker mode:Nat) (inv:Bool):Bool:=match plan_Passes.f 40 fm g ker 0 mode inv with
 | some (l,e)=>(e == 0) && ((l.map fun s=>(s.f0,s.f1)) == ((psL ker g).map fun s=>(s.f0,s.f1)))
 | none=>false
theorem znm:([0,1].all fun fm=>[2,3,4,5,6].all fun g=>[0,1].all fun ker=>[0,1,2].all fun mode=>[true,false].all fun inv=>psB fm g ker mode inv)=true:=by decide +kernel
theorem zn2 {a b:List S59} (h:(a.map fun s=>(s.f0,s.f1))=(b.map fun s=>(s.f0,s.f1))):a=b:=by
 have e:∀l:List S59,((l.map fun s=>(s.f0,s.f1)).map fun p=>(⟨p.1,p.2⟩:S59))=l:=fun l=>by rw [List.map_map];exact (List.map_congr_left fun _ _=>rfl).trans (List.map_id l)
 rw [← e a,h,e b]
theorem zft {fm g ker mode:Nat} (inv:Bool) (hf:fm < 2) (h2:2≤g) (h6:g≤6) (hk:ker < 2) (hm:mode < 3):plan_Passes.f 40 fm g ker 0 mode inv=some (psL ker g,0):=by
 have h:=List.all_eq_true.1 (List.all_eq_true.1 (List.all_eq_true.1 (List.all_eq_true.1 (List.all_eq_true.1 znm fm (zbG hf)) g (zb6 h2 h6)) ker (zbG hk)) mode (by simp;omega)) inv (by cases inv <;> simp)
 unfold psB at h
 split at h
 ·next l e he =>
  rw [Bool.and_eq_true,beq_iff_eq,beq_iff_eq] at h
  rw [he,h.1,zn2 h.2]
 ·cases h
def pcB (g:Nat) (p:Bool×Nat):Bool :=
 let h:Nat:=2^p.2
 if p.1 then decide (p.2 < g - 1) && (decide (2^g / (4*h)*(4*h)=2^g) && (decide (((2^g:Nat):Int).tdiv (4*(h:Int))=((2^g / (4*h):Nat):Int)) && (decide ((h:Int)≤((2^g:Nat):Int) / 4) && decide (Go.bits .and .i64 h (h - 1)=0))))
 else decide (p.2 < g) && (decide (2*h≤2^g) && decide (Go.bits .and .i64 h (h - 1)=0))
theorem znn:([2,3,4,5,6].all fun g=>[0,1].all fun ker=>(pcL ker g).all (pcB g))=true:=by decide +kernel
theorem zfu {g ker:Nat} (h2:2≤g) (h6:g≤6) (hk:ker < 2):∀p,p∈pcL ker g→pcB g p=true :=
 List.all_eq_true.1 (List.all_eq_true.1 (List.all_eq_true.1 znn g (zb6 h2 h6)) ker (zbG hk))
theorem zfQ {g ker:Nat} (h2:2≤g) (h6:g≤6) (hk:ker < 2):(pcL ker g).length≤6:=by
 have h:([2,3,4,5,6].all fun g=>[0,1].all fun ker=>decide ((pcL ker g).length≤6))=true:=by decide +kernel
 exact of_decide_eq_true (List.all_eq_true.1 (List.all_eq_true.1 h g (zb6 h2 h6)) ker (zbG hk))
def zc8 (ker g:Nat):Nat→Int
 | 0=>1
 | k+1=>zc8 ker g k+(if ((pcL ker g).getD k (false,0)).1 then 2 else 1)
theorem zno {g ker:Nat} (h2:2≤g) (h6:g≤6) (hk:ker < 2):zc8 ker g (pcL ker g).length=1+g:=by
 have h:([2,3,4,5,6].all fun g=>[0,1].all fun ker=>decide (zc8 ker g (pcL ker g).length=1+g))=true:=by decide +kernel
 exact of_decide_eq_true (List.all_eq_true.1 (List.all_eq_true.1 h g (zb6 h2 h6)) ker (zbG hk))
def zbt:Nat→Nat→Nat
 | 0,_=>0
 | g+1,k=>k % 2*2^g+zbt g (k / 2)
def zb7 (g:Nat) (x:List S38):List S38:=(List.range (2^g)).map fun k=>x.getD (zbt g k) z38
set_option maxRecDepth 100000 in
theorem zn3 (f:Nat→S38):flip_Flip.f 80 ((List.range 4).map f)=some ((List.range 4).map (fun k=>f (zbt 2 k)),0):=by kernel_rfl
set_option maxRecDepth 100000 in
theorem zn4 (f:Nat→S38):flip_Flip.f 80 ((List.range 8).map f)=some ((List.range 8).map (fun k=>f (zbt 3 k)),0):=by kernel_rfl
set_option maxRecDepth 100000 in
theorem zn5 (f:Nat→S38):flip_Flip.f 80 ((List.range 16).map f)=some ((List.range 16).map (fun k=>f (zbt 4 k)),0):=by kernel_rfl
set_option maxRecDepth 100000 in
theorem zn6 (f:Nat→S38):flip_Flip.f 80 ((List.range 32).map f)=some ((List.range 32).map (fun k=>f (zbt 5 k)),0):=by kernel_rfl
set_option maxRecDepth 100000 in
theorem zn7 (f:Nat→S38):flip_Flip.f 80 ((List.range 64).map f)=some ((List.range 64).map (fun k=>f (zbt 6 k)),0):=by kernel_rfl
theorem zfR (x:List S38):x=(List.range x.length).map fun k=>x.getD k z38 :=
 zeh (by simp) fun k hk=>by simp [List.getD_eq_getElem?_getD,hk]
theorem zmB {g:Nat} (h2:2≤g) (h6:g≤6) (x:List S38) (hx:x.length=2^g):flip_Flip.f 80 x=some (zb7 g x,0):=by
 have e:=zfR x
 rw [hx] at e
 unfold zb7
 have h:g=2∨g=3∨g=4∨g=5∨g=6:=by omega
 rcases h with rfl | rfl | rfl | rfl | rfl
 ·conv=>lhs;rw [e]
  exact zn3 _
 ·conv=>lhs;rw [e]
  exact zn4 _
 ·conv=>lhs;rw [e]
  exact zn5 _
 ·conv=>lhs;rw [e]
  exact zn6 _
 ·conv=>lhs;rw [e]
  exact zn7 _
theorem zhE {g:Nat} (h2:2≤g) (h6:g≤6):flip_Log.f 10 ((2^g:Nat):Int)=some ((g:Int),0):=by
 have h:g=2∨g=3∨g=4∨g=5∨g=6:=by omega
 rcases h with rfl | rfl | rfl | rfl | rfl <;> decide +kernel
end Go.Proofs.YteieahbadclppaaGreat.P

namespace Go.Proofs.YteieahbadclppaaGreat.P
open Go.RowKit Go.Shelf Go.Proofs.YteieahbadclppaaGreatW.PrintWords Go.Proofs.YteieahbadclppaaGreatW.PrintLast Go.Proofs.YteieahbadclppaaGreatW.PrintMore
set_option linter.unusedVariables false
set_option linter.unusedSimpArgs false
section
variable {P:Program} {ops:Array Oper} {rest:List Oper} {o:Oper} {a:Act} {Q:Exit→Act→World→Prop} {K:Act→World→Prop}
theorem zhF {W:World} (ty:TypeId) (g j:Nat) (u v x:Value) (t:TypeId) (old:Array Value) (hg:W.heap[g]?=some (.cells old t (0,0))) (hj:j+2≤old.size) (hi:(P.info? ty).map (·.size)=some 2) (hx:x.cells.toList=[u,v]) (hu:u.oneCell'=true) (hv:v.oneCell'=true) :
  (Instr.storeAt ty (.pointer (some ⟨g,j,none⟩)) x).run P W=.ok () ((W.setCell ⟨g,j,none⟩ u).setCell ⟨g,j+1,none⟩ v) :=
 za6 ty x [u,v] hg hx hi (by simpa using hj) (by simp [hu,hv])
theorem zdf {W:World} (hgd:o.guard=none) (hN:o.dst=none) (ty:TypeId) (x y:Operand) (ho:o.op=.store ty x y) (g j:Nat) (u v:Value) (hx:a.eval x=.pointer (some ⟨g,j,none⟩)) (hy:a.eval y=.agg #[u,v])
  (t:TypeId) (old:Array Value) (hg:W.heap[g]?=some (.cells old t (0,0))) (hj:j+2≤old.size) (hi:(P.info? ty).map (·.size)=some 2) (hu:u.oneCell'=true) (hv:v.oneCell'=true) (new:Array Value) (hnew:(old.setIfInBounds j u).setIfInBounds (j+1) v=new)
  (h:∀w1,w1.heap[g]?=some (.cells new t (0,0))→(∀k,k≠g→w1.heap[k]?=W.heap[k]?)→(∀B w0,B≤g→Below B w0 W→Below B w0 w1)→wpList P ops Q rest a w1):wpList P ops Q (o :: rest) a W:=by
 have hr:=zhF (P:=P) (W:=W) ty g j u v (.agg #[u,v]) t old hg hj hi rfl hu hv
 refine wpList_plain hgd fun K hK=>?_
 unfold Oper.wp execOp
 simp only [ho,hx,hy,Sem.run_bind,Sem.run_pure,Result.andThen_ok,hr]
 show K (a.put o.dst undef) _
 rw [hN]
 exact hK _ _ (h _ (zQ (zQ hg j u rfl) (j+1) v hnew) (fun k hk=>(Below.heap_setCell _ ⟨g,j+1,none⟩ v k hk).trans (Below.heap_setCell W ⟨g,j,none⟩ u k hk)) (fun B w0 hB hb=>(hb.setCell (p:=⟨g,j,none⟩) hB u).setCell (p:=⟨g,j+1,none⟩) hB v))
theorem zeM {W:World} (hw:Region.wanted o (yielded ops a.tmps)=true) (hN:o.dst=none) (ty:TypeId) (x y:Operand) (ho:o.op=.store ty x y) (g j:Nat) (u v:Value) (hx:a.eval x=.pointer (some ⟨g,j,none⟩)) (hy:a.eval y=.agg #[u,v])
  (t:TypeId) (old:Array Value) (hg:W.heap[g]?=some (.cells old t (0,0))) (hj:j+2≤old.size) (hi:(P.info? ty).map (·.size)=some 2) (hu:u.oneCell'=true) (hv:v.oneCell'=true) (new:Array Value) (hnew:(old.setIfInBounds j u).setIfInBounds (j+1) v=new)
  (h:∀w1,w1.heap[g]?=some (.cells new t (0,0))→(∀k,k≠g→w1.heap[k]?=W.heap[k]?)→(∀B w0,B≤g→Below B w0 W→Below B w0 w1)→K a w1) :
  if Region.wanted o (yielded ops a.tmps)=true then Oper.wp P o a W K Q else K (a.put none undef) W:=by
 rw [if_pos hw]
 have hr:=zhF (P:=P) (W:=W) ty g j u v (.agg #[u,v]) t old hg hj hi rfl hu hv
 unfold Oper.wp execOp
 simp only [ho,hx,hy,Sem.run_bind,Sem.run_pure,Result.andThen_ok,hr]
 show K (a.put o.dst undef) _
 rw [hN]
 exact h _ (zQ (zQ hg j u rfl) (j+1) v hnew) (fun k hk=>(Below.heap_setCell _ ⟨g,j+1,none⟩ v k hk).trans (Below.heap_setCell W ⟨g,j,none⟩ u k hk)) (fun B w0 hB hb=>(hb.setCell (p:=⟨g,j,none⟩) hB u).setCell (p:=⟨g,j+1,none⟩) hB v)
end
theorem ziF (a b c d:Value):(Tryz.prog.info? 164).map (·.size)=some (#[a,b,c,d]:Array Value).size:=by kernel_rfl
theorem zoF (a b c d:Int):(#[.int .i64 a,.int .i64 b,.int .i64 c,.int .i64 d]:Array Value).all (·.oneCell')=true:=by simp [Value.oneCell']
theorem zcJ (a b c d e f g h:Value):(Tryz.prog.info? 136).map (·.size)=some (#[a,b,c,d,e,f,g,h]:Array Value).size:=by kernel_rfl
theorem zeN (a b c d e f g h:Int):(#[.int .i64 a,.int .i64 b,.int .i64 c,.int .i64 d,.int .i64 e,.int .i64 f,.int .i64 g,.int .i64 h]:Array Value).all (·.oneCell')=true:=by simp [Value.oneCell']
def byV (inv:Bool):Nat→Int
 | 0=>0
 | 1=>if inv then 1 else 3
 | 2=>2
 | _=>if inv then 3 else 1
set_option maxRecDepth 100000 in
set_option maxHeartbeats 4000000 in
theorem zkj (inv:Bool) (w:World) :
  Calls Tryz.prog 113 #[.bool inv] w fun e w'=>e=.returned (.agg #[.int .i64 (byV inv 0),.int .i64 (byV inv 1),.int .i64 (byV inv 2),.int .i64 (byV inv 3)])∧Below w.heap.size w w':=by
 have aU:=hhd (Below.refl w.heap.size w)
 cases inv
 ·go_enter Tryz.func113,Tryz.ntmps113
  go_wp2_with (first
  | ((with_reducible refine zf (N:=2) rfl ?_);refine bb_ 2 rfl aU #[.int .i64 0,.int .i64 0,.int .i64 0,.int .i64 0] 164 ?_;intro g2 W1 hg aK L2 I aH;obtain ⟨aA,aC,aD,aE⟩:=bk4 I;clear aK hg)
  | ((with_reducible refine zo (t:=164) (p:=2) rfl ?_);refine re_ 164 2 rfl #[.int .i64 0,.int .i64 3,.int .i64 2,.int .i64 1] I L2 aH ?_;intro W2 aI aG aJ;clear aA aC aD aE;obtain ⟨aM,aN,aQ,aT⟩:=bk4 aG;clear aI))
  refine bodyPost_ret (results_cell_row rfl _ _ g2 164 #[.int .i64 0,.int .i64 3,.int .i64 2,.int .i64 1] (0,0) _ rfl aG.out Tryz.underlying164 rfl (ziF _ _ _ _)) rfl ?_
  exact ⟨rfl,aJ.out⟩
 ·go_enter Tryz.func113,Tryz.ntmps113
  go_wp2_with (first
  | ((with_reducible refine zf (N:=2) rfl ?_);refine bb_ 2 rfl aU #[.int .i64 0,.int .i64 0,.int .i64 0,.int .i64 0] 164 ?_;intro g2 W1 hg aK L2 I aH;obtain ⟨aA,aC,aD,aE⟩:=bk4 I;clear aK hg)
  | ((with_reducible refine zo (t:=164) (p:=2) rfl ?_);refine re_ 164 2 rfl #[.int .i64 0,.int .i64 1,.int .i64 2,.int .i64 3] I L2 aH ?_;intro W2 aI aG aJ;clear aA aC aD aE;obtain ⟨aM,aN,aQ,aT⟩:=bk4 aG;clear aI))
  refine bodyPost_ret (results_cell_row rfl _ _ g2 164 #[.int .i64 0,.int .i64 1,.int .i64 2,.int .i64 3] (0,0) _ rfl aG.out Tryz.underlying164 rfl (ziF _ _ _ _)) rfl ?_
  exact ⟨rfl,aJ.out⟩
end Go.Proofs.YteieahbadclppaaGreat.P

