/- Part 18 of 36 of the proof: the texts that it reaches, one behind the other. No condition. -/
import Derived.Test.YteieahbadclppaaGreatKr17
import Derived.Deep.RegionLawGrows
namespace Go.Proofs.YteieahbadclppaaGreat.P
open Go.RowKit Go.Proofs.YteieahbadclppaaGreatW.PrintWords Go.Proofs.YteieahbadclppaaGreatW.PrintLast Go.Proofs.YteieahbadclppaaGreatW.PrintMore
attribute [local go_sem] zF zG zK zL
set_option linter.unusedVariables false
set_option linter.unusedSimpArgs false
set_option maxRecDepth 100000 in
set_option maxHeartbeats 4000000 in
theorem zmw (p0 p1 p2 p4 b:Int) (p5:Bool) (Aw:Option Addr) (wl:List S38) (cw:Nat) (Ax:Option Addr) (cx:Nat) (l y:List S38) (exp h:Int) (As:Option Addr) (cs:Nat) (sh:List Int) (w:World) (hy0:0 < y.length) (hy1:y.length≤64) (hyy:∀x,x∈y→zc7 x=true)
  (hx:Kd.C k38 w Ax l.length l) (hw:Kd.C k38 w Aw wl.length wl) (hs:Kd.C (Kd.int .i64) w As sh.length sh) (hcs:sh.length≤cs) (hls:sh.length≤100) (hly:y.length=l.length) (he0:-1000≤exp) (he1:exp≤1000) (hb0:2≤b) (hb1:b≤31)
  (hp:∀W:World,Kd.C k38 W Ax l.length l→Kd.C k38 W Aw wl.length wl→Calls Tryz.prog 49 #[.slice Ax l.length cx,.slice Aw wl.length cw,.int .i64 h,.int .i64 (b - 2),.int .i64 0,.int .i64 p4,.bool p5] W fun e w'=>∃v,e=.returned (.tuple #[v,.int .i64 0])∧Kd.R k38 38 w' W.heap.size (fun _=>True) v y∧Below W.heap.size W w') :
  Calls Tryz.prog 20 #[.agg #[.int .i64 0,.int .i64 p1,.int .i64 p2,.int .i64 2,.int .i64 p4,.bool p5,.iface 100 (.agg #[]),.int .i64 b,.slice Aw wl.length cw],.agg #[.slice Ax l.length cx,.int .i64 0,.bool false,.slice As sh.length cs],.agg #[.int .i64 2,.int .i64 h]] w fun e w'=>∃A' c' As' cs',e=.returned (.agg #[.slice A' l.length c',.int .i64 0,.bool false,.slice As' (sh.length+1) cs'])∧Kd.R k38 38 w' w.heap.size (fun _=>True) (.slice A' l.length c') y∧Kd.R (Kd.int .i64) 3 w' w.heap.size (fun _=>True) (.slice As' (sh.length+1) cs') (sh++[0])∧Below w.heap.size w w':=by
 have hmx:Tryz.prog.follows .mixedOrders=true:=by kernel_rfl
 have hm : ∀ w, (method 294 100 (.agg #[]) "headroom/fft.pass").run Tryz.prog w = .ok (152, .agg #[]) w := fun _ => by kernel_rfl
 have HR:=hhd hx
 have HS:=hhd hw
 have HT:=hhd hs
 have HCS:=hhd hcs
 have HLS:=hhd (show sh.length≤1000 by omega)
 have HLY:=hhd hly
 have HP:=hhd hp
 have HEX:=hhd (show wrap64 0=0 by unfold wrap64;omega)
 have fE:=hhd (Below.refl w.heap.size w)
 have HK:=hhd (fun (A:Option Addr) (c:Nat) (W:World) (hr:Kd.C k38 W A y.length y) (hc:y.length≤c)=>hly ▸ zjc p1 p2 p4 b p5 Aw wl.length cw A c y W hr hc hy0 hy1 hyy)
 clear hyy
 clear hx hw hs hcs hls hly hp
 go_enter Tryz.func20,Tryz.ntmps20
 go_wp2_with (first
  | ((with_reducible refine zf (N:=3) rfl ?_);refine bb_ 3 rfl fE #[.int .i64 0,.int .i64 p1,.int .i64 p2,.int .i64 2,.int .i64 p4,.bool p5,.iface 100 (.agg #[]),.int .i64 b,.slice Aw wl.length cw] 56 ?_;intro g3 W1 hg aC L3 bK aT;have fX:=zc_ HR aT;have fY:=zc_ HS aT;have fZ:=zc_ HT aT;obtain ⟨bL,bM,bP,bQ,bR,bS,bT,bU,bV⟩:=bk9 bK;clear aC hg)
  | ((with_reducible refine zf (N:=4) rfl ?_);refine bb_ 4 rfl aT #[.slice Ax l.length cx,.int .i64 0,.bool false,.slice As sh.length cs] 28 ?_;intro g4 W2 hg aC L4 bW aU;have bX:=za_ bK aC;have f6:=zc_ HR aU;have f7:=zc_ HS aU;have f8:=zc_ HT aU;obtain ⟨bY,bZ,b6,b7,b8,b9,cA,cB,cC⟩:=bk9 bX;clear bL bM bP bQ bR bS bT bU bV;obtain ⟨cD,cH,cI,cJ⟩:=bk4 bW;clear aC hg)
  | ((with_reducible refine zf (N:=5) rfl ?_);refine bb_ 5 rfl aU #[.int .i64 2,.int .i64 h] 59 ?_;intro g5 W3 hg aC L5 bG aV;have bH:=za_ bX aC;have bI:=za_ bW aC;have f9:=zc_ HR aV;have gA:=zc_ HS aV;have gB:=zc_ HT aV;obtain ⟨cK,cL,cM,cN,cO,cP,cQ,cR,cS⟩:=bk9 bH;obtain ⟨cT,cU,cV,cW⟩:=bk4 bI;clear bY bZ b6 b7 b8 b9 cA cB cC cD cH cI cJ;obtain ⟨cX,cY⟩:=bk2 bG;clear aC hg)
  | ((with_reducible refine zf (N:=6) rfl ?_);refine bb_ 6 rfl aV #[.slice none 0 0,.int .i64 0,.bool false,.slice none 0 0] 28 ?_;intro g6 W4 hg aC L6 cZ bD;have dB:=za_ bH aC;have dC:=za_ bI aC;have dD:=za_ bG aC;have gC:=zc_ HR bD;have gE:=zc_ HS bD;have gF:=zc_ HT bD;obtain ⟨dE,dF,dG,dH,dI,dJ,dK,dL,dM⟩:=bk9 dB;obtain ⟨dN,dO,dP,dQ⟩:=bk4 dC;obtain ⟨dR,dS⟩:=bk2 dD;clear cK cL cM cN cO cP cQ cR cS cT cU cV cW cX cY;obtain ⟨dU,dV,dW,dX⟩:=bk4 cZ;have gG:=ne_ bH hg;have gH:=ne_ bI hg;have gI:=ne_ bG hg;clear aC hg)
  | (go_at_call 152;(with_reducible refine (zla 2 Ax l.length cx _).mono ?_);rintro e W5 ⟨rfl,hb⟩;have aW:=zs_ bD hb;have dY:=za_ dB hb;have dZ:=za_ dC hb;have d5:=za_ dD hb;have bJ:=za_ cZ hb;have eX:=zc_ HR aW;have eY:=zc_ HS aW;have gJ:=zc_ HT aW;obtain ⟨d6,d7,d8,d9,eB,eC,eD,eE,eF⟩:=bk9 dY;obtain ⟨eG,eH,eI,eJ⟩:=bk4 dZ;obtain ⟨eK,eM⟩:=bk2 d5;obtain ⟨eN,eO,eP,eQ⟩:=bk4 bJ;clear dE dF dG dH dI dJ dK dL dM dN dO dP dQ dR dS dU dV dW dX;clear hb)
  | (go_at_call 49;refine (HP.out _ eX.out eY.out).mono ?_;rintro e W6 ⟨vt,rfl,ho,hb⟩;obtain ⟨A2,c2,ev⟩:=Kd.R_slice ho;rw [HLY.out] at ev;subst ev;have aN:=hhd (Kd.R_lower ho (zi aW));have NR6:=hhd (show some g6≠(Value.slice A2 _ c2).ownBlock from fun e=>Nat.lt_irrefl _ (Nat.lt_of_lt_of_le (zj bJ) (Kd.R_base ho g6 e.symm)));have aJ:=zs_ aW hb;have aM:=za_ dY hb;have aH:=za_ dZ hb;have eZ:=za_ d5 hb;have aI:=za_ bJ hb;have gK:=zc_ HR aJ;have gL:=zc_ HS aJ;have aQ:=zc_ HT aJ;obtain ⟨fF,fG,fH,fJ,fK,fM,fO,fP,fQ⟩:=bk9 aM;obtain ⟨aX,aY,aZ,a7⟩:=bk4 aH;obtain ⟨fR,fS⟩:=bk2 eZ;obtain ⟨fT,fU,fV,fW⟩:=bk4 aI;clear d6 d7 d8 d9 eB eC eD eE eF eG eH eI eJ eK eM eN eO eP eQ;clear hb ho))
 refine z7 (S:=fun w'=>Below W6.heap.size W6 w') (ds:=[]) (fl 16 0) hmx rfl rfl (Below.refl _ _).drew (fun I=>?_)
 refine px_ 0 rfl ?_
 refine px_ 1 rfl ?_
 refine px_ 3 rfl ?_
 refine px_ 5 rfl ?_
 refine px_ 7 rfl ?_
 refine px_ 10 rfl ?_
 refine tx_ 2 rfl I (by rintro w' hs;obtain ⟨a8,a9,bA,bB⟩:=bg4 hs aX aY aZ a7;go_simp;with_reducible rfl) ?_
 refine px_ 4 rfl ?_
 refine tx_ 6 rfl I (by rintro w' hs;obtain ⟨a8,a9,bA,bB⟩:=bg4 hs aX aY aZ a7;go_simp;with_reducible rfl) ?_
 refine tx_ 8 rfl I (by rintro w' hs;obtain ⟨a8,a9,bA,bB⟩:=bg4 hs aX aY aZ a7;go_simp;with_reducible rfl) ?_
 refine zeA (i:=9) (j:=11) (k:=14) (Ni:=some 53) (Nj:=some 55) (Nk:=some 11) (fl 16 2047) (fl 16 3583) (fl 16 17919) rfl rfl rfl rfl rfl rfl (by kernel_rfl) (by decide) (by decide) (by decide) (fun K hK=>?e1_9) (fun K hK=>?e1_11) (fun K hK=>?e1_14)
 case' e1_9 =>
  refine zJ Tryz.func51 (by kernel_rfl) rfl #[.slice As sh.length cs] (by rfl) rfl rfl (by go_simp) ?_
  refine (zaP As sh.length cs HCS.out HLS.out _).mono ?_
  rintro e Wc ⟨rfl,rfl⟩
  refine ⟨_,rfl,?_⟩
  refine hK.out _ _ I (fun _=>?_)
  clear hK K
  refine nx_ ?_
  refine wx_ 11 14 (some 55) (some 11) rfl rfl rfl rfl (fun K hK=>?e2_11) fun K hK=>?e2_14
  case' e2_11 =>
   refine zaL rfl rfl 0 (by first | (go_simp;done) | (go_simp;rfl)) ?_
   intro g55 hg Wc aG aC
   refine hK.out _ _ (zb I aC) (fun aA=>?_)
   have B55:=hhd aG
   clear hK K I aC aG hg
   have I:=aA
   clear aA
   refine nx_ ?_
   refine wx_ 12 14 (some 56) (some 11) rfl rfl rfl rfl (fun K hK=>?e3_12) fun K hK=>?e3_14
   case' e3_12 =>
    refine zae rfl rfl rfl _ _ rfl As sh g55 0 rfl rfl (Kd.C_below aQ.out I) B55.out HLS.out ?_
    intro v56 Wc hrow aC
    obtain ⟨A56,c56,ev⟩:=Kd.R_slice hrow
    rw [List.length_append,List.length_singleton] at ev
    subst ev
    refine hK.out _ _ (zb I aC) (fun aA=>?_)
    replace B55:=za_ B55 aC
    have bC:W6.heap.size≤_:=I.size
    have R56:=hhd (Kd.R_lower hrow I.size)
    clear hK K I aC hrow
    have I:=aA
    clear aA
    refine nx_ ?_
    refine px_ 13 rfl ?_
    refine ox_ 14 (some 11) rfl rfl fun K hK=>?_
    refine box_step rfl rfl (cs:=#[.slice none 0 0,.int .i64 0,.bool false,.slice none 0 0]) (t:=28) (by first | (go_simp;done) | (go_simp;rfl)) ?_
    intro g11 hg Wc aG aC
    refine hK.out _ _ (zb I aC) (fun aA=>?_)
    replace B55:=za_ B55 aC
    replace R56:=zr_ R56 aC
    have aK:W6.heap.size≤g11:=by rw [hg];exact I.size
    have B11:=hhd aG
    clear hK K I aC aG hg
    have I:=aA
    clear aA
    refine nx_ ?_
    refine ox_ 15 none rfl rfl fun K hK=>?_
    refine zA rfl rfl 28 _ _ rfl g11 #[.slice A2 l.length c2,.int .i64 (wrap64 0),.bool false,.slice A56 (sh.length+1) c56] rfl rfl 28 #[.slice none 0 0,.int .i64 0,.bool false,.slice none 0 0] B11.out (zV _ _ _ _) rfl (zaK _ _ _ _ _ _ _ _) ?_
    intro Wd hq aD aE
    have HBd:=hhd (aE _ _ (Nat.le_trans (zi aJ) aK) (zb aJ I))
    have D3_d:=hhd ((aD _ (fun e=>by have:=zj aM;omega)).trans (zd aM I))
    have D4_d:=hhd ((aD _ (fun e=>by have:=zj aH;omega)).trans (zd aH I))
    have D6_d:=hhd ((aD _ (fun e=>by have:=zj aI;omega)).trans (zd aI I))
    have N6:=hhd (show g6≠g11 from fun e=>by have:=zj aI;omega)
    have N4:=hhd (show g4≠g11 from fun e=>by have:=zj aH;omega)
    have Ry_d:=hhd (zI (Kd.R_below aN.out I) aD (fun e=>by have h1:=Kd.R_lt aN.out g11 e.symm;omega))
    have R56_d:=zg_ R56 B11 aD
    refine hK.out _ _ (aE _ _ aK I) (fun aA=>?_)
    replace B11:=hhd hq
    clear hK K hq aD aE I
    have I:=aA
    clear aA
    refine zE (by kernel_rfl) ?_
   case' e3_14 =>
    refine box_step rfl rfl (cs:=#[.slice none 0 0,.int .i64 0,.bool false,.slice none 0 0]) (t:=28) (by first | (go_simp;done) | (go_simp;rfl)) ?_
    intro g11 hg Wc aG aC
    refine hK.out _ _ (zb I aC) (fun aA=>?_)
    replace B55:=za_ B55 aC
    have aK:W6.heap.size≤g11:=by rw [hg];exact I.size
    have B11:=hhd aG
    clear hK K I aC aG hg
    have I:=aA
    clear aA
    refine nx_ ?_
    refine ox_ 12 (some 56) rfl rfl fun K hK=>?_
    refine zae rfl rfl rfl _ _ rfl As sh g55 0 rfl rfl (Kd.C_below aQ.out I) B55.out HLS.out ?_
    intro v56 Wc hrow aC
    obtain ⟨A56,c56,ev⟩:=Kd.R_slice hrow
    rw [List.length_append,List.length_singleton] at ev
    subst ev
    refine hK.out _ _ (zb I aC) (fun aA=>?_)
    replace B55:=za_ B55 aC
    replace B11:=za_ B11 aC
    have bC:W6.heap.size≤_:=I.size
    have R56:=hhd (Kd.R_lower hrow I.size)
    clear hK K I aC hrow
    have I:=aA
    clear aA
    refine nx_ ?_
    refine px_ 13 rfl ?_
    refine ox_ 15 none rfl rfl fun K hK=>?_
    refine zA rfl rfl 28 _ _ rfl g11 #[.slice A2 l.length c2,.int .i64 (wrap64 0),.bool false,.slice A56 (sh.length+1) c56] rfl rfl 28 #[.slice none 0 0,.int .i64 0,.bool false,.slice none 0 0] B11.out (zV _ _ _ _) rfl (zaK _ _ _ _ _ _ _ _) ?_
    intro Wd hq aD aE
    have HBd:=hhd (aE _ _ (Nat.le_trans (zi aJ) aK) (zb aJ I))
    have D3_d:=hhd ((aD _ (fun e=>by have:=zj aM;omega)).trans (zd aM I))
    have D4_d:=hhd ((aD _ (fun e=>by have:=zj aH;omega)).trans (zd aH I))
    have D6_d:=hhd ((aD _ (fun e=>by have:=zj aI;omega)).trans (zd aI I))
    have N6:=hhd (show g6≠g11 from fun e=>by have:=zj aI;omega)
    have N4:=hhd (show g4≠g11 from fun e=>by have:=zj aH;omega)
    have Ry_d:=hhd (zI (Kd.R_below aN.out I) aD (fun e=>by have h1:=Kd.R_lt aN.out g11 e.symm;omega))
    have R56_d:=zg_ R56 B11 aD
    refine hK.out _ _ (aE _ _ aK I) (fun aA=>?_)
    replace B11:=hhd hq
    clear hK K hq aD aE I
    have I:=aA
    clear aA
    refine zE (by kernel_rfl) ?_
  case' e2_14 =>
   refine box_step rfl rfl (cs:=#[.slice none 0 0,.int .i64 0,.bool false,.slice none 0 0]) (t:=28) (by first | (go_simp;done) | (go_simp;rfl)) ?_
   intro g11 hg Wc aG aC
   refine hK.out _ _ (zb I aC) (fun aA=>?_)
   have aK:W6.heap.size≤g11:=by rw [hg];exact I.size
   have B11:=hhd aG
   clear hK K I aC aG hg
   have I:=aA
   clear aA
   refine nx_ ?_
   refine ox_ 11 (some 55) rfl rfl fun K hK=>?_
   refine zaL rfl rfl 0 (by first | (go_simp;done) | (go_simp;rfl)) ?_
   intro g55 hg Wc aG aC
   refine hK.out _ _ (zb I aC) (fun aA=>?_)
   replace B11:=za_ B11 aC
   have B55:=hhd aG
   clear hK K I aC aG hg
   have I:=aA
   clear aA
   refine nx_ ?_
   refine ox_ 12 (some 56) rfl rfl fun K hK=>?_
   refine zae rfl rfl rfl _ _ rfl As sh g55 0 rfl rfl (Kd.C_below aQ.out I) B55.out HLS.out ?_
   intro v56 Wc hrow aC
   obtain ⟨A56,c56,ev⟩:=Kd.R_slice hrow
   rw [List.length_append,List.length_singleton] at ev
   subst ev
   refine hK.out _ _ (zb I aC) (fun aA=>?_)
   replace B11:=za_ B11 aC
   replace B55:=za_ B55 aC
   have bC:W6.heap.size≤_:=I.size
   have R56:=hhd (Kd.R_lower hrow I.size)
   clear hK K I aC hrow
   have I:=aA
   clear aA
   refine nx_ ?_
   refine px_ 13 rfl ?_
   refine ox_ 15 none rfl rfl fun K hK=>?_
   refine zA rfl rfl 28 _ _ rfl g11 #[.slice A2 l.length c2,.int .i64 (wrap64 0),.bool false,.slice A56 (sh.length+1) c56] rfl rfl 28 #[.slice none 0 0,.int .i64 0,.bool false,.slice none 0 0] B11.out (zV _ _ _ _) rfl (zaK _ _ _ _ _ _ _ _) ?_
   intro Wd hq aD aE
   have HBd:=hhd (aE _ _ (Nat.le_trans (zi aJ) aK) (zb aJ I))
   have D3_d:=hhd ((aD _ (fun e=>by have:=zj aM;omega)).trans (zd aM I))
   have D4_d:=hhd ((aD _ (fun e=>by have:=zj aH;omega)).trans (zd aH I))
   have D6_d:=hhd ((aD _ (fun e=>by have:=zj aI;omega)).trans (zd aI I))
   have N6:=hhd (show g6≠g11 from fun e=>by have:=zj aI;omega)
   have N4:=hhd (show g4≠g11 from fun e=>by have:=zj aH;omega)
   have Ry_d:=hhd (zI (Kd.R_below aN.out I) aD (fun e=>by have h1:=Kd.R_lt aN.out g11 e.symm;omega))
   have R56_d:=zg_ R56 B11 aD
   refine hK.out _ _ (aE _ _ aK I) (fun aA=>?_)
   replace B11:=hhd hq
   clear hK K hq aD aE I
   have I:=aA
   clear aA
   refine zE (by kernel_rfl) ?_
 case' e1_11 =>
  refine zaL rfl rfl 0 (by first | (go_simp;done) | (go_simp;rfl)) ?_
  intro g55 hg Wc aG aC
  refine hK.out _ _ (zb I aC) (fun aA=>?_)
  have B55:=hhd aG
  clear hK K I aC aG hg
  have I:=aA
  clear aA
  refine nx_ ?_
  refine wx_ 9 14 (some 53) (some 11) rfl rfl rfl rfl (fun K hK=>?e4_9) fun K hK=>?e4_14
  case' e4_9 =>
   refine zJ Tryz.func51 (by kernel_rfl) rfl #[.slice As sh.length cs] (by rfl) rfl rfl (by go_simp) ?_
   refine (zaP As sh.length cs HCS.out HLS.out _).mono ?_
   rintro e Wc ⟨rfl,rfl⟩
   refine ⟨_,rfl,?_⟩
   refine hK.out _ _ I (fun _=>?_)
   clear hK K
   refine nx_ ?_
   refine wx_ 12 14 (some 56) (some 11) rfl rfl rfl rfl (fun K hK=>?e5_12) fun K hK=>?e5_14
   case' e5_12 =>
    refine zae rfl rfl rfl _ _ rfl As sh g55 0 rfl rfl (Kd.C_below aQ.out I) B55.out HLS.out ?_
    intro v56 Wc hrow aC
    obtain ⟨A56,c56,ev⟩:=Kd.R_slice hrow
    rw [List.length_append,List.length_singleton] at ev
    subst ev
    refine hK.out _ _ (zb I aC) (fun aA=>?_)
    replace B55:=za_ B55 aC
    have bC:W6.heap.size≤_:=I.size
    have R56:=hhd (Kd.R_lower hrow I.size)
    clear hK K I aC hrow
    have I:=aA
    clear aA
    refine nx_ ?_
    refine px_ 13 rfl ?_
    refine ox_ 14 (some 11) rfl rfl fun K hK=>?_
    refine box_step rfl rfl (cs:=#[.slice none 0 0,.int .i64 0,.bool false,.slice none 0 0]) (t:=28) (by first | (go_simp;done) | (go_simp;rfl)) ?_
    intro g11 hg Wc aG aC
    refine hK.out _ _ (zb I aC) (fun aA=>?_)
    replace B55:=za_ B55 aC
    replace R56:=zr_ R56 aC
    have aK:W6.heap.size≤g11:=by rw [hg];exact I.size
    have B11:=hhd aG
    clear hK K I aC aG hg
    have I:=aA
    clear aA
    refine nx_ ?_
    refine ox_ 15 none rfl rfl fun K hK=>?_
    refine zA rfl rfl 28 _ _ rfl g11 #[.slice A2 l.length c2,.int .i64 (wrap64 0),.bool false,.slice A56 (sh.length+1) c56] rfl rfl 28 #[.slice none 0 0,.int .i64 0,.bool false,.slice none 0 0] B11.out (zV _ _ _ _) rfl (zaK _ _ _ _ _ _ _ _) ?_
    intro Wd hq aD aE
    have HBd:=hhd (aE _ _ (Nat.le_trans (zi aJ) aK) (zb aJ I))
    have D3_d:=hhd ((aD _ (fun e=>by have:=zj aM;omega)).trans (zd aM I))
    have D4_d:=hhd ((aD _ (fun e=>by have:=zj aH;omega)).trans (zd aH I))
    have D6_d:=hhd ((aD _ (fun e=>by have:=zj aI;omega)).trans (zd aI I))
    have N6:=hhd (show g6≠g11 from fun e=>by have:=zj aI;omega)
    have N4:=hhd (show g4≠g11 from fun e=>by have:=zj aH;omega)
    have Ry_d:=hhd (zI (Kd.R_below aN.out I) aD (fun e=>by have h1:=Kd.R_lt aN.out g11 e.symm;omega))
    have R56_d:=zg_ R56 B11 aD
    refine hK.out _ _ (aE _ _ aK I) (fun aA=>?_)
    replace B11:=hhd hq
    clear hK K hq aD aE I
    have I:=aA
    clear aA
    refine zE (by kernel_rfl) ?_
   case' e5_14 =>
    refine box_step rfl rfl (cs:=#[.slice none 0 0,.int .i64 0,.bool false,.slice none 0 0]) (t:=28) (by first | (go_simp;done) | (go_simp;rfl)) ?_
    intro g11 hg Wc aG aC
    refine hK.out _ _ (zb I aC) (fun aA=>?_)
    replace B55:=za_ B55 aC
    have aK:W6.heap.size≤g11:=by rw [hg];exact I.size
    have B11:=hhd aG
    clear hK K I aC aG hg
    have I:=aA
    clear aA
    refine nx_ ?_
    refine ox_ 12 (some 56) rfl rfl fun K hK=>?_
    refine zae rfl rfl rfl _ _ rfl As sh g55 0 rfl rfl (Kd.C_below aQ.out I) B55.out HLS.out ?_
    intro v56 Wc hrow aC
    obtain ⟨A56,c56,ev⟩:=Kd.R_slice hrow
    rw [List.length_append,List.length_singleton] at ev
    subst ev
    refine hK.out _ _ (zb I aC) (fun aA=>?_)
    replace B55:=za_ B55 aC
    replace B11:=za_ B11 aC
    have bC:W6.heap.size≤_:=I.size
    have R56:=hhd (Kd.R_lower hrow I.size)
    clear hK K I aC hrow
    have I:=aA
    clear aA
    refine nx_ ?_
    refine px_ 13 rfl ?_
    refine ox_ 15 none rfl rfl fun K hK=>?_
    refine zA rfl rfl 28 _ _ rfl g11 #[.slice A2 l.length c2,.int .i64 (wrap64 0),.bool false,.slice A56 (sh.length+1) c56] rfl rfl 28 #[.slice none 0 0,.int .i64 0,.bool false,.slice none 0 0] B11.out (zV _ _ _ _) rfl (zaK _ _ _ _ _ _ _ _) ?_
    intro Wd hq aD aE
    have HBd:=hhd (aE _ _ (Nat.le_trans (zi aJ) aK) (zb aJ I))
    have D3_d:=hhd ((aD _ (fun e=>by have:=zj aM;omega)).trans (zd aM I))
    have D4_d:=hhd ((aD _ (fun e=>by have:=zj aH;omega)).trans (zd aH I))
    have D6_d:=hhd ((aD _ (fun e=>by have:=zj aI;omega)).trans (zd aI I))
    have N6:=hhd (show g6≠g11 from fun e=>by have:=zj aI;omega)
    have N4:=hhd (show g4≠g11 from fun e=>by have:=zj aH;omega)
    have Ry_d:=hhd (zI (Kd.R_below aN.out I) aD (fun e=>by have h1:=Kd.R_lt aN.out g11 e.symm;omega))
    have R56_d:=zg_ R56 B11 aD
    refine hK.out _ _ (aE _ _ aK I) (fun aA=>?_)
    replace B11:=hhd hq
    clear hK K hq aD aE I
    have I:=aA
    clear aA
    refine zE (by kernel_rfl) ?_
  case' e4_14 =>
   refine box_step rfl rfl (cs:=#[.slice none 0 0,.int .i64 0,.bool false,.slice none 0 0]) (t:=28) (by first | (go_simp;done) | (go_simp;rfl)) ?_
   intro g11 hg Wc aG aC
   refine hK.out _ _ (zb I aC) (fun aA=>?_)
   replace B55:=za_ B55 aC
   have aK:W6.heap.size≤g11:=by rw [hg];exact I.size
   have B11:=hhd aG
   clear hK K I aC aG hg
   have I:=aA
   clear aA
   refine nx_ ?_
   refine ox_ 9 (some 53) rfl rfl fun K hK=>?_
   refine zJ Tryz.func51 (by kernel_rfl) rfl #[.slice As sh.length cs] (by rfl) rfl rfl (by go_simp) ?_
   refine (zaP As sh.length cs HCS.out HLS.out _).mono ?_
   rintro e Wc ⟨rfl,rfl⟩
   refine ⟨_,rfl,?_⟩
   refine hK.out _ _ I (fun _=>?_)
   clear hK K
   refine nx_ ?_
   refine ox_ 12 (some 56) rfl rfl fun K hK=>?_
   refine zae rfl rfl rfl _ _ rfl As sh g55 0 rfl rfl (Kd.C_below aQ.out I) B55.out HLS.out ?_
   intro v56 Wc hrow aC
   obtain ⟨A56,c56,ev⟩:=Kd.R_slice hrow
   rw [List.length_append,List.length_singleton] at ev
   subst ev
   refine hK.out _ _ (zb I aC) (fun aA=>?_)
   replace B55:=za_ B55 aC
   replace B11:=za_ B11 aC
   have bC:W6.heap.size≤_:=I.size
   have R56:=hhd (Kd.R_lower hrow I.size)
   clear hK K I aC hrow
   have I:=aA
   clear aA
   refine nx_ ?_
   refine px_ 13 rfl ?_
   refine ox_ 15 none rfl rfl fun K hK=>?_
   refine zA rfl rfl 28 _ _ rfl g11 #[.slice A2 l.length c2,.int .i64 (wrap64 0),.bool false,.slice A56 (sh.length+1) c56] rfl rfl 28 #[.slice none 0 0,.int .i64 0,.bool false,.slice none 0 0] B11.out (zV _ _ _ _) rfl (zaK _ _ _ _ _ _ _ _) ?_
   intro Wd hq aD aE
   have HBd:=hhd (aE _ _ (Nat.le_trans (zi aJ) aK) (zb aJ I))
   have D3_d:=hhd ((aD _ (fun e=>by have:=zj aM;omega)).trans (zd aM I))
   have D4_d:=hhd ((aD _ (fun e=>by have:=zj aH;omega)).trans (zd aH I))
   have D6_d:=hhd ((aD _ (fun e=>by have:=zj aI;omega)).trans (zd aI I))
   have N6:=hhd (show g6≠g11 from fun e=>by have:=zj aI;omega)
   have N4:=hhd (show g4≠g11 from fun e=>by have:=zj aH;omega)
   have Ry_d:=hhd (zI (Kd.R_below aN.out I) aD (fun e=>by have h1:=Kd.R_lt aN.out g11 e.symm;omega))
   have R56_d:=zg_ R56 B11 aD
   refine hK.out _ _ (aE _ _ aK I) (fun aA=>?_)
   replace B11:=hhd hq
   clear hK K hq aD aE I
   have I:=aA
   clear aA
   refine zE (by kernel_rfl) ?_
 case' e1_14 =>
  refine box_step rfl rfl (cs:=#[.slice none 0 0,.int .i64 0,.bool false,.slice none 0 0]) (t:=28) (by first | (go_simp;done) | (go_simp;rfl)) ?_
  intro g11 hg Wc aG aC
  refine hK.out _ _ (zb I aC) (fun aA=>?_)
  have aK:W6.heap.size≤g11:=by rw [hg];exact I.size
  have B11:=hhd aG
  clear hK K I aC aG hg
  have I:=aA
  clear aA
  refine nx_ ?_
  refine wx_ 9 11 (some 53) (some 55) rfl rfl rfl rfl (fun K hK=>?e6_9) fun K hK=>?e6_11
  case' e6_9 =>
   refine zJ Tryz.func51 (by kernel_rfl) rfl #[.slice As sh.length cs] (by rfl) rfl rfl (by go_simp) ?_
   refine (zaP As sh.length cs HCS.out HLS.out _).mono ?_
   rintro e Wc ⟨rfl,rfl⟩
   refine ⟨_,rfl,?_⟩
   refine hK.out _ _ I (fun _=>?_)
   clear hK K
   refine nx_ ?_
   refine ox_ 11 (some 55) rfl rfl fun K hK=>?_
   refine zaL rfl rfl 0 (by first | (go_simp;done) | (go_simp;rfl)) ?_
   intro g55 hg Wc aG aC
   refine hK.out _ _ (zb I aC) (fun aA=>?_)
   replace B11:=za_ B11 aC
   have B55:=hhd aG
   clear hK K I aC aG hg
   have I:=aA
   clear aA
   refine nx_ ?_
   refine ox_ 12 (some 56) rfl rfl fun K hK=>?_
   refine zae rfl rfl rfl _ _ rfl As sh g55 0 rfl rfl (Kd.C_below aQ.out I) B55.out HLS.out ?_
   intro v56 Wc hrow aC
   obtain ⟨A56,c56,ev⟩:=Kd.R_slice hrow
   rw [List.length_append,List.length_singleton] at ev
   subst ev
   refine hK.out _ _ (zb I aC) (fun aA=>?_)
   replace B11:=za_ B11 aC
   replace B55:=za_ B55 aC
   have bC:W6.heap.size≤_:=I.size
   have R56:=hhd (Kd.R_lower hrow I.size)
   clear hK K I aC hrow
   have I:=aA
   clear aA
   refine nx_ ?_
   refine px_ 13 rfl ?_
   refine ox_ 15 none rfl rfl fun K hK=>?_
   refine zA rfl rfl 28 _ _ rfl g11 #[.slice A2 l.length c2,.int .i64 (wrap64 0),.bool false,.slice A56 (sh.length+1) c56] rfl rfl 28 #[.slice none 0 0,.int .i64 0,.bool false,.slice none 0 0] B11.out (zV _ _ _ _) rfl (zaK _ _ _ _ _ _ _ _) ?_
   intro Wd hq aD aE
   have HBd:=hhd (aE _ _ (Nat.le_trans (zi aJ) aK) (zb aJ I))
   have D3_d:=hhd ((aD _ (fun e=>by have:=zj aM;omega)).trans (zd aM I))
   have D4_d:=hhd ((aD _ (fun e=>by have:=zj aH;omega)).trans (zd aH I))
   have D6_d:=hhd ((aD _ (fun e=>by have:=zj aI;omega)).trans (zd aI I))
   have N6:=hhd (show g6≠g11 from fun e=>by have:=zj aI;omega)
   have N4:=hhd (show g4≠g11 from fun e=>by have:=zj aH;omega)
   have Ry_d:=hhd (zI (Kd.R_below aN.out I) aD (fun e=>by have h1:=Kd.R_lt aN.out g11 e.symm;omega))
   have R56_d:=zg_ R56 B11 aD
   refine hK.out _ _ (aE _ _ aK I) (fun aA=>?_)
   replace B11:=hhd hq
   clear hK K hq aD aE I
   have I:=aA
   clear aA
   refine zE (by kernel_rfl) ?_
  case' e6_11 =>
   refine zaL rfl rfl 0 (by first | (go_simp;done) | (go_simp;rfl)) ?_
   intro g55 hg Wc aG aC
   refine hK.out _ _ (zb I aC) (fun aA=>?_)
   replace B11:=za_ B11 aC
   have B55:=hhd aG
   clear hK K I aC aG hg
   have I:=aA
   clear aA
   refine nx_ ?_
   refine ox_ 9 (some 53) rfl rfl fun K hK=>?_
   refine zJ Tryz.func51 (by kernel_rfl) rfl #[.slice As sh.length cs] (by rfl) rfl rfl (by go_simp) ?_
   refine (zaP As sh.length cs HCS.out HLS.out _).mono ?_
   rintro e Wc ⟨rfl,rfl⟩
   refine ⟨_,rfl,?_⟩
   refine hK.out _ _ I (fun _=>?_)
   clear hK K
   refine nx_ ?_
   refine ox_ 12 (some 56) rfl rfl fun K hK=>?_
   refine zae rfl rfl rfl _ _ rfl As sh g55 0 rfl rfl (Kd.C_below aQ.out I) B55.out HLS.out ?_
   intro v56 Wc hrow aC
   obtain ⟨A56,c56,ev⟩:=Kd.R_slice hrow
   rw [List.length_append,List.length_singleton] at ev
   subst ev
   refine hK.out _ _ (zb I aC) (fun aA=>?_)
   replace B11:=za_ B11 aC
   replace B55:=za_ B55 aC
   have bC:W6.heap.size≤_:=I.size
   have R56:=hhd (Kd.R_lower hrow I.size)
   clear hK K I aC hrow
   have I:=aA
   clear aA
   refine nx_ ?_
   refine px_ 13 rfl ?_
   refine ox_ 15 none rfl rfl fun K hK=>?_
   refine zA rfl rfl 28 _ _ rfl g11 #[.slice A2 l.length c2,.int .i64 (wrap64 0),.bool false,.slice A56 (sh.length+1) c56] rfl rfl 28 #[.slice none 0 0,.int .i64 0,.bool false,.slice none 0 0] B11.out (zV _ _ _ _) rfl (zaK _ _ _ _ _ _ _ _) ?_
   intro Wd hq aD aE
   have HBd:=hhd (aE _ _ (Nat.le_trans (zi aJ) aK) (zb aJ I))
   have D3_d:=hhd ((aD _ (fun e=>by have:=zj aM;omega)).trans (zd aM I))
   have D4_d:=hhd ((aD _ (fun e=>by have:=zj aH;omega)).trans (zd aH I))
   have D6_d:=hhd ((aD _ (fun e=>by have:=zj aI;omega)).trans (zd aI I))
   have N6:=hhd (show g6≠g11 from fun e=>by have:=zj aI;omega)
   have N4:=hhd (show g4≠g11 from fun e=>by have:=zj aH;omega)
   have Ry_d:=hhd (zI (Kd.R_below aN.out I) aD (fun e=>by have h1:=Kd.R_lt aN.out g11 e.symm;omega))
   have R56_d:=zg_ R56 B11 aD
   refine hK.out _ _ (aE _ _ aK I) (fun aA=>?_)
   replace B11:=hhd hq
   clear hK K hq aD aE I
   have I:=aA
   clear aA
   refine zE (by kernel_rfl) ?_
 all_goals
  have kk:=(za D3_d 3).trans rfl
  clear I
  go_wp2_with (first
   | ((with_reducible refine zf (N:=63) rfl ?_);refine lr_ 63 rfl 56 D3_d Tryz.underlying56 ?_)
   | (go_at_call 52;refine (HK.out _ _ _ (R_C Ry_d.out).2 (R_C Ry_d.out).1).mono ?_;rintro e We ⟨A3,c3,rfl,ho,hb⟩;have fA:=hhd (Kd.R_lower ho (zi HBd));have bE:=za_ B11 hb;have D6_1:=za_ D6_d hb;have D3_1:=za_ D3_d hb;have eR:=za_ D4_d hb;have eT:=zr_ R56_d hb;have aT:=zs_ HBd hb;have q41:=(za eR 2).trans rfl;have q31:=(za D3_1 3).trans rfl;clear ho hb)
   | ((with_reducible refine zo (t:=22) (p:=68) rfl ?_);refine zba rfl rfl 22 _ _ rfl g11 0 (.slice A3 l.length c3) rfl rfl 28 _ bE.out (show (0:Nat) < 4 from by decide) zeI rfl rfl #[.slice A3 l.length c3,.int .i64 (wrap64 0),.bool false,.slice A56 (sh.length+1) c56] rfl ?_;intro Wf hq aD aE;have bF:=hhd hq;have D6_2:=hhd ((aD _ (N6.out)).trans D6_1.out);have q42:Wf.cell? ⟨g4,2,none⟩=some (.bool false):=(za ((aD _ (N4.out)).trans eR.out) 2).trans rfl;have eU:=zg_ eT bE aD;have fB:=zg_ fA bE aD;have aU:=hhd (aE _ _ (Nat.le_trans (zi aJ) aK) aT.out);clear q41 q31 hq aD aE)
   | ((with_reducible refine zo (t:=4) (p:=74) rfl ?_);refine zba rfl rfl 4 _ _ rfl g11 2 (.bool false) rfl rfl 28 _ bF.out (show (2:Nat) < 4 from by decide) zmu rfl rfl #[.slice A3 l.length c3,.int .i64 (wrap64 0),.bool false,.slice A56 (sh.length+1) c56] rfl ?_;intro Wg hq aD aE;have eV:=hhd hq;have D6_3:=hhd ((aD _ (N6.out)).trans D6_2.out);have eW:=zg_ eU bF aD;have fD:=zg_ fB bF aD;have aV:=hhd (aE _ _ (Nat.le_trans (zi aJ) aK) aU.out);clear q42 hq aD aE)
   | ((with_reducible refine zf (N:=75) rfl ?_);refine lr_ 75 rfl 28 eV Tryz.underlying28 ?_)
   | ((with_reducible refine zo (t:=28) (p:=6) rfl ?_);refine re_ 28 6 rfl #[.slice A3 l.length c3,.int .i64 (wrap64 0),.bool false,.slice A56 (sh.length+1) c56] D6_3 L6 aV ?_;intro Wh aD D6_e HB_e;have Ry_e:=zg_ fD D6_3 aD;have R56_e:=zg_ eW D6_3 aD;clear aD))
  have HV:=hhd HEX.out
  clear kk
  refine bodyPost_ret (results_cell_row rfl _ _ g6 28 #[.slice A3 l.length c3,.int .i64 (wrap64 0),.bool false,.slice A56 (sh.length+1) c56] (0,0) _ rfl D6_e.out Tryz.underlying28 rfl (zV _ _ _ _)) rfl ?_
  refine ⟨A3,c3,A56,c56,?_,Ry_e.out,Kd.R_lower R56_e.out (zi aJ),HB_e.out⟩
  rw [HEX.out]
end Go.Proofs.YteieahbadclppaaGreat.P

namespace Go.Proofs.YteieahbadclppaaGreat.P
open Go.RowKit Go.Proofs.YteieahbadclppaaGreatW.PrintWords Go.Proofs.YteieahbadclppaaGreatW.PrintLast Go.Proofs.YteieahbadclppaaGreatW.PrintMore
set_option linter.unusedVariables false
set_option linter.unusedSimpArgs false
def zS (x y:S38):S38:=⟨x.f0*y.f0 - x.f1*y.f1,x.f0*y.f1+x.f1*y.f0⟩
def upC (bits:Int) (x:S38):S38:=⟨x.f0*2^bits.toNat,x.f1*2^bits.toNat⟩
def zao (x y:S38):S38:=⟨x.f0+y.f0,x.f1+y.f1⟩
def zaE (x y:S38):S38:=⟨x.f0 - y.f0,x.f1 - y.f1⟩
theorem zam {a b m n:Int} (hm:0≤m) (ha:a≤m) (ha':-m≤a) (hb:b≤n) (hb':-n≤b) (hn:0≤n):a*b≤m*n∧-(m*n)≤a*b:=by
 have h1:0≤(m - a)*(n - b):=Int.mul_nonneg (by omega) (by omega)
 have h2:0≤(m+a)*(n+b):=Int.mul_nonneg (by omega) (by omega)
 have h3:0≤(m - a)*(n+b):=Int.mul_nonneg (by omega) (by omega)
 have h4:0≤(m+a)*(n - b):=Int.mul_nonneg (by omega) (by omega)
 constructor <;> grind
theorem zv {x:Int} (h0:-9223372036854775808≤x) (h1:x≤9223372036854775807):wrap64 x=x:=by unfold wrap64;omega
theorem zgf (x y:S38) (hx:inB 2147483648 x=true) (hy:inB 1073741824 y=true):(⟨zbx x y,zby x y⟩:S38)=zS x y:=by
 obtain ⟨a1,a2,a3,a4⟩:=zaj hx
 obtain ⟨b1,b2,b3,b4⟩:=zaj hy
 have m1:=zam (by decide) a1 a3 b1 b3 (by decide)
 have m2:=zam (by decide) a2 a4 b2 b4 (by decide)
 have m3:=zam (by decide) a1 a3 b2 b4 (by decide)
 have m4:=zam (by decide) a2 a4 b1 b3 (by decide)
 unfold zbx zby zS
 rw [zv (x:=x.f0*y.f0) (by omega) (by omega),zv (x:=x.f1*y.f1) (by omega) (by omega),zv (x:=x.f0*y.f1) (by omega) (by omega),zv (x:=x.f1*y.f0) (by omega) (by omega),zv (by omega) (by omega),zv (by omega) (by omega)]
theorem zef {bits:Int} (h0:0≤bits) (h1:bits≤29):1≤(2:Int)^bits.toNat∧(2:Int)^bits.toNat≤536870912:=by
 constructor
 ·have:=zaG (a:=0) (b:=bits.toNat) (by omega);simpa using this
 ·have:=zaG (a:=bits.toNat) (b:=29) (by omega)
  have e:(2:Int)^29=536870912:=by decide
  omega
theorem zli (a b w:S38) (bits s mode:Int) (ha:inB 2147483648 a=true) (hb:inB 2147483648 b=true) (hw:inB 1073741824 w=true) (h0:0≤bits) (h1:bits≤29) (h2:0≤s) (h3:s≤3) (h4:0≤mode) (h5:mode < 3) :
  zap a b w bits s mode=(shC (bits+s) mode (zao (upC bits a) (zS b w)),shC (bits+s) mode (zaE (upC bits a) (zS b w))):=by
 obtain ⟨p0,p1⟩:=zef h0 h1
 obtain ⟨a1,a2,a3,a4⟩:=zaj ha
 obtain ⟨b1,b2,b3,b4⟩:=zaj hb
 obtain ⟨w1,w2,w3,w4⟩:=zaj hw
 have m1:=zam (by decide) b1 b3 w1 w3 (by decide)
 have m2:=zam (by decide) b2 b4 w2 w4 (by decide)
 have m3:=zam (by decide) b1 b3 w2 w4 (by decide)
 have m4:=zam (by decide) b2 b4 w1 w3 (by decide)
 have n1:=zam (by decide) a1 a3 p1 (by omega) (by decide)
 have n2:=zam (by decide) a2 a4 p1 (by omega) (by decide)
 have e:wrap64 (bits+s)=bits+s:=zv (by omega) (by omega)
 have hS:∀x y:Int,cx_Shift.f x y (bits+s) mode=some (shV x (bits+s) mode,shV y (bits+s) mode,0):=fun x y=>zbf ⟨x,y⟩ (bits+s) mode (by omega) (by omega) h4 h5
 have hmin:min bits.toNat IntKind.i64.bits=bits.toNat:=by
  have:IntKind.i64.bits=64:=rfl
  omega
 have q1:shl .i64 a.f0 bits=a.f0*2^bits.toNat:=by unfold shl;rw [hmin,zD];exact zv (by omega) (by omega)
 have q2:shl .i64 a.f1 bits=a.f1*2^bits.toNat:=by unfold shl;rw [hmin,zD];exact zv (by omega) (by omega)
 have hm:=zgf b w hb hw
 have r1:zbx b w=(zS b w).f0:=congrArg S38.f0 hm
 have r2:zby b w=(zS b w).f1:=congrArg S38.f1 hm
 have h:two_pair.f a.f0 a.f1 b.f0 b.f1 w.f0 w.f1 bits s mode=some ((shC (bits+s) mode (zao (upC bits a) (zS b w))).f0,(shC (bits+s) mode (zao (upC bits a) (zS b w))).f1,(shC (bits+s) mode (zaE (upC bits a) (zS b w))).f0,(shC (bits+s) mode (zaE (upC bits a) (zS b w))).f1):=by
  unfold two_pair.f cx_Times.f
  rw [show inB 2147483648 ⟨b.f0,b.f1⟩=true from hb,show inB 1073741824 ⟨w.f0,w.f1⟩=true from hw,if_pos rfl,if_pos rfl,Option.bind_some,if_pos h0,e,hS,Option.bind_some,hS,Option.bind_some]
  show some _=_
  rw [q1,q2,show (zbx ⟨b.f0,b.f1⟩ ⟨w.f0,w.f1⟩)=(zS b w).f0 from r1,show (zby ⟨b.f0,b.f1⟩ ⟨w.f0,w.f1⟩)=(zS b w).f1 from r2]
  unfold shC zao zaE upC zS
  dsimp only
  rw [zv (by omega) (by omega),zv (by omega) (by omega),zv (by omega) (by omega),zv (by omega) (by omega)]
 unfold zap
 rw [h]
theorem zhx (x mode:Int):shV x 0 mode=x:=by
 unfold shV
 rw [if_pos rfl]
theorem zlj (mode:Int) (x:S38):shC 0 mode x=x:=by
 unfold shC
 rw [zhx,zhx]
def tw2:List S38:=[⟨8192,0⟩,⟨0,-8192⟩,⟨-8192,0⟩,⟨0,8192⟩]
theorem zl4:roots_Twiddles.f 2 0=some (tw2,0):=by kernel_rfl
theorem znV:plan_Passes.f 10 0 2 0 2 0 false=some ([⟨2,1⟩,⟨2,2⟩],0):=by kernel_rfl
theorem znW:plan_Check.f 0 2 0 2 0 false=some 0:=by kernel_rfl
theorem znX (a b c d:S38):flip_Flip.f 10 [a,b,c,d]=some ([a,c,b,d],0):=by kernel_rfl
theorem znY:flip_Log.f 10 4=some (2,0):=by kernel_rfl
theorem znZ:two_settings.f 13 0 0=some true:=by kernel_rfl
theorem znf {x:S38} (h:zc7 x=true):inB 2147483648 x=true:=by
 obtain ⟨h0,h1,h2,h3⟩:=zgc h
 exact za3 (by omega)
theorem zoo:∀p∈zT 1 2 4,0≤p.1∧p.1+1 < ((4:Nat):Int)∧0≤p.2∧p.2 < ((4:Nat):Int):=by decide +kernel
theorem zop:∀p∈zT 2 1 4,0≤p.1∧p.1+2 < ((4:Nat):Int)∧0≤p.2∧p.2 < ((4:Nat):Int):=by decide +kernel
theorem zng:∀x,x∈tw2→inB 8192 x=true:=by decide +kernel
theorem zke (y:List S38) (h m:Int) (k:Nat) (hk:k≤10) (hl:y.length=4) (hy:∀x,x∈y→zc7 x=true) (hh:h=1∧m=2∨h=2∧m=1) (hy2:∀x,x∈zdv y tw2 h 13 0 0 false m 4→zc7 x=true) :
  zcb (fun Aw cw=>#[.int .i64 0,.int .i64 2,.int .i64 0,.int .i64 2,.int .i64 0,.bool false,.iface 100 (.agg #[]),.int .i64 15,.slice Aw tw2.length cw]) tw2 4 k y (zdv y tw2 h 13 0 0 false m 4) 0 0 ⟨2,h⟩:=by
 intro W Ax cx As cs sh Aw cw hx hcx hs hcs hks hw hcw
 subst hks
 have hlen:(zdv y tw2 h 13 0 0 false m 4).length=y.length:=zdT y tw2 h 13 0 0 false (zT h m 4) y
 have hp:∀W:World,Kd.C k38 W Ax y.length y→Kd.C k38 W Aw tw2.length tw2→Calls Tryz.prog 49 #[.slice Ax y.length cx,.slice Aw tw2.length cw,.int .i64 h,.int .i64 (15 - 2),.int .i64 0,.int .i64 0,.bool false] W fun e w'=>∃v,e=.returned (.tuple #[v,.int .i64 0])∧Kd.R k38 38 w' W.heap.size (fun _=>True) v (zdv y tw2 h 13 0 0 false m 4)∧Below W.heap.size W w':=by
  intro I h1 h2
  have hq:=zff Ax Aw cx cw y tw2 h 13 0 0 m 8192 2 false I h1 hcx h2 hcw hl.symm (by omega) (by omega) (by rw [hl];exact znY) (by omega) (by rw [hl];omega) (by rcases hh with ⟨rfl,_⟩ | ⟨rfl,_⟩ <;> decide +kernel) znZ (by decide) (by decide) (by decide) (by decide) (by decide) (by decide) (by decide) (by decide) (fun x hx=>znf (hy x hx)) zng (by rw [hl];rcases hh with ⟨rfl,rfl⟩ | ⟨rfl,rfl⟩ <;> decide) (by rw [hl];rcases hh with ⟨rfl,rfl⟩ | ⟨rfl,rfl⟩;exact zoo;exact zop)
  rw [hl] at hq
  rw [hl]
  exact hq
 have hn:=zmw 0 2 0 0 15 false Aw tw2 cw Ax cx y (zdv y tw2 h 13 0 0 false m 4) 0 h As cs sh W (by rw [hlen];omega) (by rw [hlen];omega) hy2 hx hw hs hcs (by omega) hlen (by decide) (by decide) (by decide) (by decide) hp
 rw [hl] at hn
 refine hn.mono ?_
 rintro e w' ⟨A',c',As',cs',rfl,q1,q2,q3⟩
 exact ⟨A',c',As',cs',_,rfl,q1,q2,q3⟩
def zde (a b c d:S38):Nat→List S38
 | 0=>[a,c,b,d]
 | 1=>zdv [a,c,b,d] tw2 1 13 0 0 false 2 4
 | _=>zdv (zdv [a,c,b,d] tw2 1 13 0 0 false 2 4) tw2 2 13 0 0 false 1 4
theorem zoq (a b c d:S38) (A:Option Addr) (cc:Nat) (hcc:4≤cc) (h0:∀x,x∈[a,b,c,d]→zc7 x=true) (h1:∀x,x∈zde a b c d 1→zc7 x=true) (h2:∀x,x∈zde a b c d 2→zc7 x=true) (w:World) (hr:Kd.C k38 w A 4 [a,b,c,d]) :
  Calls Tryz.prog 7 #[.slice A 4 cc,.agg (zay 0 2 0 2 0 false)] w fun e w'=>∃A' c' As' cs',e=.returned (.tuple #[.agg #[.slice A' 4 c',.int .i64 0,.bool false,.slice As' 2 cs'],.int .i64 0])∧Kd.R k38 38 w' w.heap.size (fun _=>True) (.slice A' 4 c') (zde a b c d 2)∧Below w.heap.size w w':=by
 have hlen:(zde a b c d 1).length=4:=zdT _ tw2 1 13 0 0 false (zT 1 2 4) [a,c,b,d]
 have hodd:[a,b,c,d].any (zaH (-32768) 32767)=false:=by
  rw [List.any_eq_false]
  intro x hx
  obtain ⟨q0,q1,q2,q3⟩:=zgc (h0 x hx)
  unfold zaH
  simp
  omega
 have hmap:[a,c,b,d].map (shC 0 0)=[a,c,b,d]:=by simp [zlj]
 refine zil 2 0 0 false tw2 A cc [a,b,c,d] 4 10 [⟨2,1⟩,⟨2,2⟩] (zde a b c d) (fun _=>0) (by decide) w hr (by decide) rfl zl4 znV ?_ ?_
 ·intro W hC
  have h:=zkc 2 0 0 false tw2 A cc [a,b,c,d] [a,c,b,d] 10 (by decide) (by decide) (by decide) (by decide) W hC hcc (by simp) (by simp) znW zl4 rfl hodd (znX a b c d) (by decide)
  rw [hmap] at h
  exact h
 ·intro k hk
  have hk2:k=0∨k=1:=by simp at hk;omega
  rcases hk2 with rfl | rfl
  ·exact zke [a,c,b,d] 1 2 0 (by decide) rfl (fun x hx=>h0 x (by simp at hx ⊢;rcases hx with h | h | h | h <;> simp [h])) (.inl ⟨rfl,rfl⟩) h1
  ·exact zke (zde a b c d 1) 2 1 1 (by decide) hlen h1 (.inr ⟨rfl,rfl⟩) h2
theorem zn0 (n:Nat) (w:World) (a b c d:Int):(Op.equalIn (n+2) 38 (.agg #[.int .i64 a,.int .i64 b]) (.agg #[.int .i64 c,.int .i64 d])).run Tryz.prog w=.ok (a == c && (b == d)) w:=by
 refine zjG Tryz.underlying38 (by kernel_rfl) ?_
 refine zg5 (by rfl) (by go_simp;rfl) (by go_simp;rfl) (by go_simp) ?_
 exact zg4 (by rfl) (by go_simp;rfl) (by go_simp;rfl) (by go_simp)
def zjd:List S38:=[⟨1,0⟩,⟨2,0⟩,⟨3,0⟩,⟨4,0⟩]
theorem zje (W:World) (base:Nat):zat (k38.M W base fun _=>True) k38.sz zjd [.int .i64 1,.int .i64 0,.int .i64 2,.int .i64 0,.int .i64 3,.int .i64 0,.int .i64 4,.int .i64 0]:=by
 refine ⟨rfl,fun j p hj=>?_⟩
 match j,hj with
 | 0,hj=>obtain rfl:=Option.some.inj hj;exact zaA W base _ ⟨1,0⟩
 | 1,hj=>obtain rfl:=Option.some.inj hj;exact zaA W base _ ⟨2,0⟩
 | 2,hj=>obtain rfl:=Option.some.inj hj;exact zaA W base _ ⟨3,0⟩
 | 3,hj=>obtain rfl:=Option.some.inj hj;exact zaA W base _ ⟨4,0⟩
 | n+4,hj=>simp [zjd] at hj
theorem zn1 {base:Nat} {ok:Nat→Prop} {W:World} {A:Option Addr} {c:Nat} {p q r s:S38} (h:Kd.R k38 38 W base ok (.slice A 4 c) [p,q,r,s]):∃g,A=some ⟨g,0,none⟩:=by
 obtain ⟨g,cap,hv,_⟩:=Kd.R_form h (Nat.succ_pos _)
 injection hv with h1 h2 h3
 exact ⟨g,h1⟩
theorem znh {base:Nat} {ok:Nat→Prop} {W:World} {g c:Nat} {p q r s:S38} (h:Kd.R k38 38 W base ok (.slice (some ⟨g,0,none⟩) 4 c) [p,q,r,s]) :
  W.cell? ⟨g,0,none⟩=some (.int .i64 p.f0)∧W.cell? ⟨g,1,none⟩=some (.int .i64 p.f1)∧W.cell? ⟨g,2,none⟩=some (.int .i64 q.f0)∧W.cell? ⟨g,3,none⟩=some (.int .i64 q.f1)∧W.cell? ⟨g,4,none⟩=some (.int .i64 r.f0)∧W.cell? ⟨g,5,none⟩=some (.int .i64 r.f1)∧W.cell? ⟨g,6,none⟩=some (.int .i64 s.f0)∧W.cell? ⟨g,7,none⟩=some (.int .i64 s.f1) :=
 ⟨(zbc h 0 (by simp)).1,(zbc h 0 (by simp)).2,(zbc h 1 (by simp)).1,(zbc h 1 (by simp)).2,(zbc h 2 (by simp)).1,(zbc h 2 (by simp)).2,(zbc h 3 (by simp)).1,(zbc h 3 (by simp)).2⟩
theorem al0:∀x,x∈([⟨1,0⟩,⟨2,0⟩,⟨3,0⟩,⟨4,0⟩]:List S38)→zc7 x=true:=by decide +kernel
theorem al1:∀x,x∈zde ⟨1,0⟩ ⟨2,0⟩ ⟨3,0⟩ ⟨4,0⟩ 1→zc7 x=true:=by decide +kernel
theorem al2:∀x,x∈zde ⟨1,0⟩ ⟨2,0⟩ ⟨3,0⟩ ⟨4,0⟩ 2→zc7 x=true:=by decide +kernel
theorem al3:zde ⟨1,0⟩ ⟨2,0⟩ ⟨3,0⟩ ⟨4,0⟩ 2=[⟨10,0⟩,⟨-2,2⟩,⟨-2,0⟩,⟨-2,-2⟩]:=by kernel_rfl
attribute [local go_sem high] zn0
set_option maxRecDepth 100000 in
set_option maxHeartbeats 4000000 in
theorem zgy (w:World):Calls Tryz.prog 8 #[] w fun e w'=>e=.returned (.bool true)∧Below w.heap.size w w':=by
 have aZ:=hhd (Below.refl w.heap.size w)
 go_enter Tryz.func8,Tryz.ntmps8
 go_wp2_with (first
  | ((with_reducible refine zf (N:=8) rfl ?_);refine Kd.R_lit k38 _ 38 ?hg (N:=8) ?hd (xs:=zjd) (inner:=[.int .i64 1,.int .i64 0,.int .i64 2,.int .i64 0,.int .i64 3,.int .i64 0,.int .i64 4,.int .i64 0]) (ok:=fun _=>True) (okp:=fun _=>True) ?hr (zje _ _) (fun _ hk=>hk) trivial (Below.refl _ _) (Nat.le_refl _) (by decide) ?_;(case hd=>rfl);(case hg=>rfl);(case hr=>first | (go_simp;done) | (go_simp;rfl));intro v8 W1 ho hb hg_ hnew_;clear hg_ hnew_;obtain ⟨A8,c8,ev,hc8,hC8⟩:=Kd.R_reads ho;subst ev;have R8:=hhd hC8;have HC8:=hhd hc8;have aA:=hhd hb;clear ho hb hc8 hC8)
  | (go_at_call 7;refine (zoq ⟨1,0⟩ ⟨2,0⟩ ⟨3,0⟩ ⟨4,0⟩ A8 c8 HC8.out al0 al1 al2 _ R8.out).mono ?_;rintro e W2 ⟨A2,c2,As,cs,he,ho,hb⟩;rw [al3] at ho;obtain ⟨gq,hA⟩:=zn1 ho;subst hA;subst he;have aJ:=hhd (Kd.R_lower ho (zi aA));have aK:=zs_ aA hb;clear ho hb)
  | ((with_reducible refine zf (N:=1) rfl ?_);refine bb_ 1 rfl aK #[.slice none 0 0,.int .i64 0,.bool false,.slice none 0 0] 28 ?_;intro g1 W3 hg aI L1 I aM;have aN:=zr_ aJ aI;obtain ⟨aC,aD,aE,aG⟩:=bk4 I;clear aI hg)
  | ((with_reducible refine zo (t:=28) (p:=1) rfl ?_);refine re_ 28 1 rfl #[.slice (some ⟨gq,0,none⟩) 4 c2,.int .i64 0,.bool false,.slice As 2 cs] I L1 aM ?_;intro W4 aH aQ aT;have aU:=zg_ aN I aH;clear aC aD aE aG;obtain ⟨aV,aW,aX,aY⟩:=bk4 aQ;clear aH;obtain ⟨y0,y1,y2,y3,_⟩:=znh aU.out;dsimp only at y0 y1 y2 y3))
 go_ret
 exact ⟨rfl,aT.out⟩
end Go.Proofs.YteieahbadclppaaGreat.P

