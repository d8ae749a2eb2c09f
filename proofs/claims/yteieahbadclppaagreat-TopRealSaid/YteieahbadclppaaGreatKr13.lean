/- Part 13 of 36 of the proof: the texts that it reaches, one behind the other. No condition. -/
import Derived.Test.YteieahbadclppaaGreatKr12
import Derived.Deep.RegionLawGrows
namespace Go.Proofs.YteieahbadclppaaGreat.P
open Go.RowKit Go.Proofs.YteieahbadclppaaGreatW.PrintWords Go.Proofs.YteieahbadclppaaGreatW.PrintLast Go.Proofs.YteieahbadclppaaGreatW.PrintMore
attribute [local go_sem] zF zG zK zL
set_option linter.unusedVariables false
set_option linter.unusedSimpArgs false
set_option maxRecDepth 100000 in
set_option maxHeartbeats 4000000 in
theorem zaP (A:Option Addr) (n c:Nat) (hn:n≤c) (hc:n≤1000) (w:World):Calls Tryz.prog 51 #[.slice A n c] w fun e w'=>e=.returned (.slice A n n)∧w'=w:=by
 have hr:∀w,(Instr.slice 26 (.slice A n c) none (some (.int .i64 n)) (some (.int .i64 n))).run Tryz.prog w=.ok (.slice A n n) w:=by
  intro w
  have e1:(Instr.sliceBound (.int .i64 n) c .slice3Acap).run Tryz.prog w=.ok n w:=by
   simp [Instr.sliceBound,asIntOf]
   omega
  have e2:(Instr.sliceBound (.int .i64 n) n .slice3B).run Tryz.prog w=.ok n w:=by
   simp [Instr.sliceBound,asIntOf]
  have e3:(sizeOf 3).run Tryz.prog w=.ok 1 w:=by rfl
  simp [Instr.slice,run_underlying Tryz.underlying26,Instr.sliceBounds,e1,e2,e3]
  intro _
  cases A <;> simp [Addr.add]
 go_enter Tryz.func51,Tryz.ntmps51
 go_wp2
 go_ret
 exact ⟨rfl,rfl⟩
theorem zeI:(Tryz.prog.info? 22).map (·.size)=some 1:=by kernel_rfl
theorem zmu:(Tryz.prog.info? 4).map (·.size)=some 1:=by kernel_rfl
theorem znd {α:Type} {d:Kd α} (hE:d.E=[]) {e base g t:Nat} {ok:Nat→Prop} {W w1:World} {v:Value} {xs:List α} {cells:Array Value} (h:d.R e W base ok v xs) (hb:W.heap[g]?=some (.cells cells t (0,0))) (ht:e≠t) (hw:∀k,k≠g→w1.heap[k]?=W.heap[k]?):d.R e w1 base ok v xs :=
 Kd.R_mono (Kd.R_step (Kd.R_tight hE h) (fun k hk _=>hw k (fun e_=>Kd.R_ne h hb ht (by rw [← e_];exact hk)))) (fun k hk=>h.1 k hk.symm)
section
variable {P:Program} {ops:Array Oper} {rest:List Oper} {o:Oper} {a:Act} {Q:Exit→Act→World→Prop}
theorem zba {W:World} (hgd:o.guard=none) (hN:o.dst=none) (ty:TypeId) (x y:Operand) (ho:o.op=.store ty x y) (g j:Nat) (v:Value) (hx:a.eval x=.pointer (some ⟨g,j,none⟩)) (hy:a.eval y=v)
  (t:TypeId) (old:Array Value) (hg:W.heap[g]?=some (.cells old t (0,0))) (hj:j < old.size) (hi:(P.info? ty).map (·.size)=some 1) (hv:v.cells.toList=[v]) (h1:v.oneCell'=true) (new:Array Value) (hnew:new=old.setIfInBounds j v)
  (h:∀w1,w1.heap[g]?=some (.cells new t (0,0))→(∀k,k≠g→w1.heap[k]?=W.heap[k]?)→(∀B w0,B≤g→Below B w0 W→Below B w0 w1)→wpList P ops Q rest a w1):wpList P ops Q (o :: rest) a W:=by
 have hr:(Instr.storeAt ty (.pointer (some ⟨g,j,none⟩)) v).run P W=.ok () (W.setCells g j [v]):=za6 ty v [v] hg hv hi (by simp;omega) (by simpa using h1)
 have e:W.setCells g j [v]=W.setCell ⟨g,j,none⟩ v:=rfl
 rw [e] at hr
 subst hnew
 refine wpList_plain hgd fun K hK=>?_
 unfold Oper.wp execOp
 simp only [ho,hx,hy,Sem.run_bind,Sem.run_pure,Result.andThen_ok,hr]
 show K (a.put o.dst undef) _
 rw [hN]
 refine hK _ _ (h _ (zQ hg j v rfl) (fun k hk=>Below.heap_setCell W ⟨g,j,none⟩ v k hk) (fun B w0 hB hb=>hb.setCell (p:=⟨g,j,none⟩) hB v))
end
section
variable {P:Program} {ops:Array Oper} {o:Oper} {a:Act} {Q:Exit→Act→World→Prop} {K:Act→World→Prop}
theorem zaL {W:World} {N:Option Tmp} (hw:Region.wanted o (yielded ops a.tmps)=true) (hN:o.dst=N) (v:Int)
  (hrun:(execOp a.eval o).run P W=.ok (.value (.slice (some ⟨W.heap.size,0,none⟩) 1 1)) (W.alloc (.cells #[.int .i64 v] 3 (0,0))))
  (h:∀g,g=W.heap.size→∀w1,w1.heap[g]?=some (.cells #[.int .i64 v] 3 (0,0))→Below W.heap.size W w1→K (a.put N (.slice (some ⟨g,0,none⟩) 1 1)) w1) :
  if Region.wanted o (yielded ops a.tmps)=true then Oper.wp P o a W K Q else K (a.put N undef) W :=
 zfD hw hN hrun (h _ rfl _ (zbb W _) (ze (Below.refl _ _) _))

theorem zae {W:World} {N:Option Tmp} (hw:Region.wanted o (yielded ops a.tmps)=true) (hgd:o.guard=none) (hN:o.dst=N) (s x:Operand) (ho:o.op=.call { callee:=.builtin .append,args:=#[s,x],argTypes:=#[26,26] })
  (A:Option Addr) (l:List Int) (g:Nat) (v:Int) (hs:a.eval s=.slice A l.length l.length) (hx:a.eval x=.slice (some ⟨g,0,none⟩) 1 1) (hC:Kd.C (Kd.int .i64) W A l.length l) (hg:W.heap[g]?=some (.cells #[.int .i64 v] 3 (0,0))) (hl:l.length≤1000)
  (h:∀v1 w1,Kd.R (Kd.int .i64) 3 w1 W.heap.size (fun _=>True) v1 (l++[v])→Below W.heap.size W w1→K (a.put N v1) w1) :
  if Region.wanted o (yielded ops a.tmps)=true then Oper.wp Tryz.prog o a W K Q else K (a.put N undef) W:=by
 obtain ⟨i,hi,hz⟩:=Option.map_eq_some_iff.1 zfG
 simp only [Prod.mk.injEq] at hz
 obtain ⟨z0,z1,z2⟩:=hz
 subst hN
 have hnone:A=none→l.length=0:=fun e=>by
  subst e
  rcases Nat.eq_zero_or_pos l.length with h0 | h0
  ·exact h0
  ·obtain ⟨ad,had,_⟩:=Kd.at_int hC 0 (by omega) (by omega)
   cases had
 refine step_append_grows hgd s x 26 ho 3 i (.int .i64 0) 1 8 Tryz.underlying26 hi z0 z1 z2 rfl (by decide) A l.length l.length (l.map (.int .i64 ·)) hs (fun e=>⟨hnone e,hnone e⟩) (by simp) ?_ ⟨g,0,none⟩ 1 1 [.int .i64 v] hx rfl ?_ (by simp [Value.oneCell']) (by omega) (by unfold maxLen;omega) (by omega) ?_
 ·intro b hb j u hj
  subst hb
  rw [List.getElem?_map] at hj
  obtain ⟨y,hy,hu⟩:=Option.map_eq_some_iff.1 hj
  obtain ⟨hlt,hy2⟩:=List.getElem?_eq_some_iff.1 hy
  obtain ⟨ad,had,h0⟩:=Kd.at_int hC (j:Int) (by omega) (by omega)
  cases had
  rw [Int.toNat_natCast] at h0
  rw [h0,← hu]
  unfold rd
  rw [Int.toNat_natCast,List.getD_eq_getElem?_getD,hy]
  rfl
 ·intro j u hj
  cases j with
  | zero =>
   simp at hj
   subst hj
   exact (za hg 0).trans rfl
  | succ j=>simp at hj
 ·intro v1 w1 hown hgr
  refine h v1 w1 (Kd.R_of_own (by simpa [zd9] using hown) (fun _ _=>trivial)) ?_
  exact (Below.refl _ _).grown hgr (Nat.le_refl _) (fun k hk=>by cases hk)
end
theorem zg_ {α:Type} {d:Kd α} {e base g t:Nat} {ok:Nat→Prop} {W w1:World} {v:Value} {xs:List α} {cells:Array Value} (h:RowKit.Hid (d.R e W base ok v xs)) (hb:RowKit.Hid (W.heap[g]?=some (.cells cells t (0,0)))) (hw:∀k,k≠g→w1.heap[k]?=W.heap[k]?) (hE:d.E=[]:=by rfl) (ht:e≠t:=by decide):RowKit.Hid (d.R e w1 base ok v xs):=znd hE h.out hb.out ht hw
set_option maxRecDepth 100000 in
set_option maxHeartbeats 4000000 in
theorem zmv (p0 p1 p2 p4 b:Int) (p5:Bool) (Aw:Option Addr) (wl:List S38) (cw:Nat) (Ax:Option Addr) (cx:Nat) (l y:List S38) (exp h:Int) (As:Option Addr) (cs:Nat) (sh:List Int) (w:World)
  (hx:Kd.C k38 w Ax l.length l) (hw:Kd.C k38 w Aw wl.length wl) (hs:Kd.C (Kd.int .i64) w As sh.length sh) (hcs:sh.length≤cs) (hls:sh.length≤100) (hly:y.length=l.length) (he0:-1000≤exp) (he1:exp≤1000) (hb0:2≤b) (hb1:b≤31)
  (hp:∀W:World,Kd.C k38 W Ax l.length l→Kd.C k38 W Aw wl.length wl→Calls Tryz.prog 49 #[.slice Ax l.length cx,.slice Aw wl.length cw,.int .i64 h,.int .i64 (b - 2),.int .i64 1,.int .i64 p4,.bool p5] W fun e w'=>∃v,e=.returned (.tuple #[v,.int .i64 0])∧Kd.R k38 38 w' W.heap.size (fun _=>True) v y∧Below W.heap.size W w') :
  Calls Tryz.prog 20 #[.agg #[.int .i64 p0,.int .i64 p1,.int .i64 p2,.int .i64 0,.int .i64 p4,.bool p5,.iface 97 (.agg #[]),.int .i64 b,.slice Aw wl.length cw],.agg #[.slice Ax l.length cx,.int .i64 exp,.bool false,.slice As sh.length cs],.agg #[.int .i64 2,.int .i64 h]] w fun e w'=>∃A' c' As' cs',e=.returned (.agg #[.slice A' l.length c',.int .i64 (exp+1),.bool false,.slice As' (sh.length+1) cs'])∧Kd.R k38 38 w' w.heap.size (fun _=>True) (.slice A' l.length c') y∧Kd.R (Kd.int .i64) 3 w' w.heap.size (fun _=>True) (.slice As' (sh.length+1) cs') (sh++[1])∧Below w.heap.size w w':=by
 have hmx:Tryz.prog.follows .mixedOrders=true:=by kernel_rfl
 have hm : ∀ w, (method 294 97 (.agg #[]) "headroom/fft.pass").run Tryz.prog w = .ok (145, .agg #[]) w := fun _ => by kernel_rfl
 have HR:=hhd hx
 have HS:=hhd hw
 have HT:=hhd hs
 have HCS:=hhd hcs
 have HLS:=hhd (show sh.length≤1000 by omega)
 have HLY:=hhd hly
 have HP:=hhd hp
 have HEX:=hhd (show wrap64 (exp+1)=exp+1 by unfold wrap64;omega)
 have eT:=hhd (Below.refl w.heap.size w)
 clear hx hw hs hcs hls hly hp
 go_enter Tryz.func20,Tryz.ntmps20
 go_wp2_with (first
  | ((with_reducible refine zf (N:=3) rfl ?_);refine bb_ 3 rfl eT #[.int .i64 p0,.int .i64 p1,.int .i64 p2,.int .i64 0,.int .i64 p4,.bool p5,.iface 97 (.agg #[]),.int .i64 b,.slice Aw wl.length cw] 56 ?_;intro g3 W1 hg aC L3 bI bA;have fM:=zc_ HR bA;have fO:=zc_ HS bA;have fP:=zc_ HT bA;obtain ⟨bJ,bK,bL,bM,bP,bQ,bR,bS,bT⟩:=bk9 bI;clear aC hg)
  | ((with_reducible refine zf (N:=4) rfl ?_);refine bb_ 4 rfl bA #[.slice Ax l.length cx,.int .i64 exp,.bool false,.slice As sh.length cs] 28 ?_;intro g4 W2 hg aC L4 bU bB;have bV:=za_ bI aC;have fQ:=zc_ HR bB;have fR:=zc_ HS bB;have fS:=zc_ HT bB;obtain ⟨bW,bX,bY,bZ,b6,b7,b8,b9,cA⟩:=bk9 bV;clear bJ bK bL bM bP bQ bR bS bT;obtain ⟨cB,cC,cD,cH⟩:=bk4 bU;clear aC hg)
  | ((with_reducible refine zf (N:=5) rfl ?_);refine bb_ 5 rfl bB #[.int .i64 2,.int .i64 h] 59 ?_;intro g5 W3 hg aC L5 bE bC;have bF:=za_ bV aC;have bG:=za_ bU aC;have fT:=zc_ HR bC;have fU:=zc_ HS bC;have fV:=zc_ HT bC;obtain ⟨cI,cJ,cK,cL,cM,cN,cO,cP,cQ⟩:=bk9 bF;obtain ⟨cR,cS,cT,cU⟩:=bk4 bG;clear bW bX bY bZ b6 b7 b8 b9 cA cB cC cD cH;obtain ⟨cV,cW⟩:=bk2 bE;clear aC hg)
  | ((with_reducible refine zf (N:=6) rfl ?_);refine bb_ 6 rfl bC #[.slice none 0 0,.int .i64 0,.bool false,.slice none 0 0] 28 ?_;intro g6 W4 hg aC L6 cX bD;have cY:=za_ bF aC;have cZ:=za_ bG aC;have dB:=za_ bE aC;have fW:=zc_ HR bD;have fX:=zc_ HS bD;have fY:=zc_ HT bD;obtain ⟨dC,dD,dE,dF,dG,dH,dI,dJ,dK⟩:=bk9 cY;obtain ⟨dL,dM,dN,dO⟩:=bk4 cZ;obtain ⟨dP,dQ⟩:=bk2 dB;clear cI cJ cK cL cM cN cO cP cQ cR cS cT cU cV cW;obtain ⟨dR,dS,dU,dV⟩:=bk4 cX;have fZ:=ne_ bF hg;have f6:=ne_ bG hg;have f7:=ne_ bE hg;clear aC hg)
  | (go_at_call 145;(with_reducible refine (zhm 2 (by decide) (by decide) Ax l.length cx _).mono ?_);rintro e W5 ⟨rfl,hb⟩;have aT:=zs_ bD hb;have dW:=za_ cY hb;have dX:=za_ cZ hb;have dY:=za_ dB hb;have bH:=za_ cX hb;have eP:=zc_ HR aT;have eQ:=zc_ HS aT;have f8:=zc_ HT aT;obtain ⟨dZ,d5,d6,d7,d8,d9,eB,eC,eD⟩:=bk9 dW;obtain ⟨eE,eF,eG,eH⟩:=bk4 dX;obtain ⟨eI,eJ⟩:=bk2 dY;obtain ⟨eK,eM,eN,eO⟩:=bk4 bH;clear dC dD dE dF dG dH dI dJ dK dL dM dN dO dP dQ dR dS dU dV;clear hb)
  | (go_at_call 49;refine (HP.out _ eP.out eQ.out).mono ?_;rintro e W6 ⟨vt,rfl,ho,hb⟩;obtain ⟨A2,c2,ev⟩:=Kd.R_slice ho;rw [HLY.out] at ev;subst ev;have aN:=hhd (Kd.R_lower ho (zi aT));have NR6:=hhd (show some g6≠(Value.slice A2 _ c2).ownBlock from fun e=>Nat.lt_irrefl _ (Nat.lt_of_lt_of_le (zj bH) (Kd.R_base ho g6 e.symm)));have aJ:=zs_ aT hb;have aK:=za_ dW hb;have aH:=za_ dX hb;have eR:=za_ dY hb;have aI:=za_ bH hb;have f9:=zc_ HR aJ;have gA:=zc_ HS aJ;have aQ:=zc_ HT aJ;obtain ⟨eU,eV,eW,eX,eY,eZ,fA,fB,fD⟩:=bk9 aK;obtain ⟨aU,aV,aW,aX⟩:=bk4 aH;obtain ⟨fE,fF⟩:=bk2 eR;obtain ⟨fG,fH,fJ,fK⟩:=bk4 aI;clear dZ d5 d6 d7 d8 d9 eB eC eD eE eF eG eH eI eJ eK eM eN eO;clear hb ho))
 refine z7 (S:=fun w'=>Below W6.heap.size W6 w') (ds:=[]) (fl 16 0) hmx rfl rfl (Below.refl _ _).drew (fun I=>?_)
 refine px_ 0 rfl ?_
 refine px_ 1 rfl ?_
 refine px_ 3 rfl ?_
 refine px_ 5 rfl ?_
 refine px_ 7 rfl ?_
 refine px_ 10 rfl ?_
 refine tx_ 2 rfl I (by rintro w' hs;obtain ⟨aY,aZ,a7,a8⟩:=bg4 hs aU aV aW aX;go_simp;with_reducible rfl) ?_
 refine px_ 4 rfl ?_
 refine tx_ 6 rfl I (by rintro w' hs;obtain ⟨aY,aZ,a7,a8⟩:=bg4 hs aU aV aW aX;go_simp;with_reducible rfl) ?_
 refine tx_ 8 rfl I (by rintro w' hs;obtain ⟨aY,aZ,a7,a8⟩:=bg4 hs aU aV aW aX;go_simp;with_reducible rfl) ?_
 refine zeA (i:=9) (j:=11) (k:=14) (Ni:=some 53) (Nj:=some 55) (Nk:=some 11) (fl 16 2047) (fl 16 3583) (fl 16 17919) rfl rfl rfl rfl rfl rfl (by kernel_rfl) (by decide) (by decide) (by decide) (fun K hK=>?e1_9) (fun K hK=>?e1_11) (fun K hK=>?e1_14)
 case' e1_9 =>
  refine zJ Tryz.func51 (by kernel_rfl) rfl #[.slice As sh.length cs] (by rfl) rfl rfl (by go_simp) ?_
  refine (zaP As sh.length cs HCS.out HLS.out _).mono ?_
  rintro e Wc ⟨rfl,rfl⟩
  refine ⟨_,rfl,?_⟩
  refine hK.out _ _ I (fun _=>?_)
  clear hK K
  refine nx_ ?_
  refine wx_ 11 14 (some 55) (some 11) rfl rfl rfl rfl (fun K hK=>?e2_11) fun K hK=>?e2_14
  case' e2_11 =>
   refine zaL rfl rfl 1 (by first | (go_simp;done) | (go_simp;rfl)) ?_
   intro g55 hg Wc aE aC
   refine hK.out _ _ (zb I aC) (fun aA=>?_)
   have B55:=hhd aE
   clear hK K I aC aE hg
   have I:=aA
   clear aA
   refine nx_ ?_
   refine wx_ 12 14 (some 56) (some 11) rfl rfl rfl rfl (fun K hK=>?e3_12) fun K hK=>?e3_14
   case' e3_12 =>
    refine zae rfl rfl rfl _ _ rfl As sh g55 1 rfl rfl (Kd.C_below aQ.out I) B55.out HLS.out ?_
    intro v56 Wc hrow aC
    obtain ⟨A56,c56,ev⟩:=Kd.R_slice hrow
    rw [List.length_append,List.length_singleton] at ev
    subst ev
    refine hK.out _ _ (zb I aC) (fun aA=>?_)
    replace B55:=za_ B55 aC
    have a9:W6.heap.size≤_:=I.size
    have R56:=hhd (Kd.R_lower hrow I.size)
    clear hK K I aC hrow
    have I:=aA
    clear aA
    refine nx_ ?_
    refine px_ 13 rfl ?_
    refine ox_ 14 (some 11) rfl rfl fun K hK=>?_
    refine box_step rfl rfl (cs:=#[.slice none 0 0,.int .i64 0,.bool false,.slice none 0 0]) (t:=28) (by first | (go_simp;done) | (go_simp;rfl)) ?_
    intro g11 hg Wc aE aC
    refine hK.out _ _ (zb I aC) (fun aA=>?_)
    replace B55:=za_ B55 aC
    replace R56:=zr_ R56 aC
    have aM:W6.heap.size≤g11:=by rw [hg];exact I.size
    have B11:=hhd aE
    clear hK K I aC aE hg
    have I:=aA
    clear aA
    refine nx_ ?_
    refine ox_ 15 none rfl rfl fun K hK=>?_
    refine zA rfl rfl 28 _ _ rfl g11 #[.slice A2 l.length c2,.int .i64 (wrap64 (exp+1)),.bool false,.slice A56 (sh.length+1) c56] rfl rfl 28 #[.slice none 0 0,.int .i64 0,.bool false,.slice none 0 0] B11.out (zV _ _ _ _) rfl (zaK _ _ _ _ _ _ _ _) ?_
    intro Wd hq aD aG
    have HBd:=hhd (aG _ _ (Nat.le_trans (zi aJ) aM) (zb aJ I))
    have D3_d:=hhd ((aD _ (fun e=>by have:=zj aK;omega)).trans (zd aK I))
    have D4_d:=hhd ((aD _ (fun e=>by have:=zj aH;omega)).trans (zd aH I))
    have D6_d:=hhd ((aD _ (fun e=>by have:=zj aI;omega)).trans (zd aI I))
    have N6:=hhd (show g6≠g11 from fun e=>by have:=zj aI;omega)
    have N4:=hhd (show g4≠g11 from fun e=>by have:=zj aH;omega)
    have Ry_d:=hhd (zI (Kd.R_below aN.out I) aD (fun e=>by have h1:=Kd.R_lt aN.out g11 e.symm;omega))
    have R56_d:=zg_ R56 B11 aD
    refine hK.out _ _ (aG _ _ aM I) (fun aA=>?_)
    replace B11:=hhd hq
    clear hK K hq aD aG I
    have I:=aA
    clear aA
    refine zE (by kernel_rfl) ?_
   case' e3_14 =>
    refine box_step rfl rfl (cs:=#[.slice none 0 0,.int .i64 0,.bool false,.slice none 0 0]) (t:=28) (by first | (go_simp;done) | (go_simp;rfl)) ?_
    intro g11 hg Wc aE aC
    refine hK.out _ _ (zb I aC) (fun aA=>?_)
    replace B55:=za_ B55 aC
    have aM:W6.heap.size≤g11:=by rw [hg];exact I.size
    have B11:=hhd aE
    clear hK K I aC aE hg
    have I:=aA
    clear aA
    refine nx_ ?_
    refine ox_ 12 (some 56) rfl rfl fun K hK=>?_
    refine zae rfl rfl rfl _ _ rfl As sh g55 1 rfl rfl (Kd.C_below aQ.out I) B55.out HLS.out ?_
    intro v56 Wc hrow aC
    obtain ⟨A56,c56,ev⟩:=Kd.R_slice hrow
    rw [List.length_append,List.length_singleton] at ev
    subst ev
    refine hK.out _ _ (zb I aC) (fun aA=>?_)
    replace B55:=za_ B55 aC
    replace B11:=za_ B11 aC
    have a9:W6.heap.size≤_:=I.size
    have R56:=hhd (Kd.R_lower hrow I.size)
    clear hK K I aC hrow
    have I:=aA
    clear aA
    refine nx_ ?_
    refine px_ 13 rfl ?_
    refine ox_ 15 none rfl rfl fun K hK=>?_
    refine zA rfl rfl 28 _ _ rfl g11 #[.slice A2 l.length c2,.int .i64 (wrap64 (exp+1)),.bool false,.slice A56 (sh.length+1) c56] rfl rfl 28 #[.slice none 0 0,.int .i64 0,.bool false,.slice none 0 0] B11.out (zV _ _ _ _) rfl (zaK _ _ _ _ _ _ _ _) ?_
    intro Wd hq aD aG
    have HBd:=hhd (aG _ _ (Nat.le_trans (zi aJ) aM) (zb aJ I))
    have D3_d:=hhd ((aD _ (fun e=>by have:=zj aK;omega)).trans (zd aK I))
    have D4_d:=hhd ((aD _ (fun e=>by have:=zj aH;omega)).trans (zd aH I))
    have D6_d:=hhd ((aD _ (fun e=>by have:=zj aI;omega)).trans (zd aI I))
    have N6:=hhd (show g6≠g11 from fun e=>by have:=zj aI;omega)
    have N4:=hhd (show g4≠g11 from fun e=>by have:=zj aH;omega)
    have Ry_d:=hhd (zI (Kd.R_below aN.out I) aD (fun e=>by have h1:=Kd.R_lt aN.out g11 e.symm;omega))
    have R56_d:=zg_ R56 B11 aD
    refine hK.out _ _ (aG _ _ aM I) (fun aA=>?_)
    replace B11:=hhd hq
    clear hK K hq aD aG I
    have I:=aA
    clear aA
    refine zE (by kernel_rfl) ?_
  case' e2_14 =>
   refine box_step rfl rfl (cs:=#[.slice none 0 0,.int .i64 0,.bool false,.slice none 0 0]) (t:=28) (by first | (go_simp;done) | (go_simp;rfl)) ?_
   intro g11 hg Wc aE aC
   refine hK.out _ _ (zb I aC) (fun aA=>?_)
   have aM:W6.heap.size≤g11:=by rw [hg];exact I.size
   have B11:=hhd aE
   clear hK K I aC aE hg
   have I:=aA
   clear aA
   refine nx_ ?_
   refine ox_ 11 (some 55) rfl rfl fun K hK=>?_
   refine zaL rfl rfl 1 (by first | (go_simp;done) | (go_simp;rfl)) ?_
   intro g55 hg Wc aE aC
   refine hK.out _ _ (zb I aC) (fun aA=>?_)
   replace B11:=za_ B11 aC
   have B55:=hhd aE
   clear hK K I aC aE hg
   have I:=aA
   clear aA
   refine nx_ ?_
   refine ox_ 12 (some 56) rfl rfl fun K hK=>?_
   refine zae rfl rfl rfl _ _ rfl As sh g55 1 rfl rfl (Kd.C_below aQ.out I) B55.out HLS.out ?_
   intro v56 Wc hrow aC
   obtain ⟨A56,c56,ev⟩:=Kd.R_slice hrow
   rw [List.length_append,List.length_singleton] at ev
   subst ev
   refine hK.out _ _ (zb I aC) (fun aA=>?_)
   replace B11:=za_ B11 aC
   replace B55:=za_ B55 aC
   have a9:W6.heap.size≤_:=I.size
   have R56:=hhd (Kd.R_lower hrow I.size)
   clear hK K I aC hrow
   have I:=aA
   clear aA
   refine nx_ ?_
   refine px_ 13 rfl ?_
   refine ox_ 15 none rfl rfl fun K hK=>?_
   refine zA rfl rfl 28 _ _ rfl g11 #[.slice A2 l.length c2,.int .i64 (wrap64 (exp+1)),.bool false,.slice A56 (sh.length+1) c56] rfl rfl 28 #[.slice none 0 0,.int .i64 0,.bool false,.slice none 0 0] B11.out (zV _ _ _ _) rfl (zaK _ _ _ _ _ _ _ _) ?_
   intro Wd hq aD aG
   have HBd:=hhd (aG _ _ (Nat.le_trans (zi aJ) aM) (zb aJ I))
   have D3_d:=hhd ((aD _ (fun e=>by have:=zj aK;omega)).trans (zd aK I))
   have D4_d:=hhd ((aD _ (fun e=>by have:=zj aH;omega)).trans (zd aH I))
   have D6_d:=hhd ((aD _ (fun e=>by have:=zj aI;omega)).trans (zd aI I))
   have N6:=hhd (show g6≠g11 from fun e=>by have:=zj aI;omega)
   have N4:=hhd (show g4≠g11 from fun e=>by have:=zj aH;omega)
   have Ry_d:=hhd (zI (Kd.R_below aN.out I) aD (fun e=>by have h1:=Kd.R_lt aN.out g11 e.symm;omega))
   have R56_d:=zg_ R56 B11 aD
   refine hK.out _ _ (aG _ _ aM I) (fun aA=>?_)
   replace B11:=hhd hq
   clear hK K hq aD aG I
   have I:=aA
   clear aA
   refine zE (by kernel_rfl) ?_
 case' e1_11 =>
  refine zaL rfl rfl 1 (by first | (go_simp;done) | (go_simp;rfl)) ?_
  intro g55 hg Wc aE aC
  refine hK.out _ _ (zb I aC) (fun aA=>?_)
  have B55:=hhd aE
  clear hK K I aC aE hg
  have I:=aA
  clear aA
  refine nx_ ?_
  refine wx_ 9 14 (some 53) (some 11) rfl rfl rfl rfl (fun K hK=>?e4_9) fun K hK=>?e4_14
  case' e4_9 =>
   refine zJ Tryz.func51 (by kernel_rfl) rfl #[.slice As sh.length cs] (by rfl) rfl rfl (by go_simp) ?_
   refine (zaP As sh.length cs HCS.out HLS.out _).mono ?_
   rintro e Wc ⟨rfl,rfl⟩
   refine ⟨_,rfl,?_⟩
   refine hK.out _ _ I (fun _=>?_)
   clear hK K
   refine nx_ ?_
   refine wx_ 12 14 (some 56) (some 11) rfl rfl rfl rfl (fun K hK=>?e5_12) fun K hK=>?e5_14
   case' e5_12 =>
    refine zae rfl rfl rfl _ _ rfl As sh g55 1 rfl rfl (Kd.C_below aQ.out I) B55.out HLS.out ?_
    intro v56 Wc hrow aC
    obtain ⟨A56,c56,ev⟩:=Kd.R_slice hrow
    rw [List.length_append,List.length_singleton] at ev
    subst ev
    refine hK.out _ _ (zb I aC) (fun aA=>?_)
    replace B55:=za_ B55 aC
    have a9:W6.heap.size≤_:=I.size
    have R56:=hhd (Kd.R_lower hrow I.size)
    clear hK K I aC hrow
    have I:=aA
    clear aA
    refine nx_ ?_
    refine px_ 13 rfl ?_
    refine ox_ 14 (some 11) rfl rfl fun K hK=>?_
    refine box_step rfl rfl (cs:=#[.slice none 0 0,.int .i64 0,.bool false,.slice none 0 0]) (t:=28) (by first | (go_simp;done) | (go_simp;rfl)) ?_
    intro g11 hg Wc aE aC
    refine hK.out _ _ (zb I aC) (fun aA=>?_)
    replace B55:=za_ B55 aC
    replace R56:=zr_ R56 aC
    have aM:W6.heap.size≤g11:=by rw [hg];exact I.size
    have B11:=hhd aE
    clear hK K I aC aE hg
    have I:=aA
    clear aA
    refine nx_ ?_
    refine ox_ 15 none rfl rfl fun K hK=>?_
    refine zA rfl rfl 28 _ _ rfl g11 #[.slice A2 l.length c2,.int .i64 (wrap64 (exp+1)),.bool false,.slice A56 (sh.length+1) c56] rfl rfl 28 #[.slice none 0 0,.int .i64 0,.bool false,.slice none 0 0] B11.out (zV _ _ _ _) rfl (zaK _ _ _ _ _ _ _ _) ?_
    intro Wd hq aD aG
    have HBd:=hhd (aG _ _ (Nat.le_trans (zi aJ) aM) (zb aJ I))
    have D3_d:=hhd ((aD _ (fun e=>by have:=zj aK;omega)).trans (zd aK I))
    have D4_d:=hhd ((aD _ (fun e=>by have:=zj aH;omega)).trans (zd aH I))
    have D6_d:=hhd ((aD _ (fun e=>by have:=zj aI;omega)).trans (zd aI I))
    have N6:=hhd (show g6≠g11 from fun e=>by have:=zj aI;omega)
    have N4:=hhd (show g4≠g11 from fun e=>by have:=zj aH;omega)
    have Ry_d:=hhd (zI (Kd.R_below aN.out I) aD (fun e=>by have h1:=Kd.R_lt aN.out g11 e.symm;omega))
    have R56_d:=zg_ R56 B11 aD
    refine hK.out _ _ (aG _ _ aM I) (fun aA=>?_)
    replace B11:=hhd hq
    clear hK K hq aD aG I
    have I:=aA
    clear aA
    refine zE (by kernel_rfl) ?_
   case' e5_14 =>
    refine box_step rfl rfl (cs:=#[.slice none 0 0,.int .i64 0,.bool false,.slice none 0 0]) (t:=28) (by first | (go_simp;done) | (go_simp;rfl)) ?_
    intro g11 hg Wc aE aC
    refine hK.out _ _ (zb I aC) (fun aA=>?_)
    replace B55:=za_ B55 aC
    have aM:W6.heap.size≤g11:=by rw [hg];exact I.size
    have B11:=hhd aE
    clear hK K I aC aE hg
    have I:=aA
    clear aA
    refine nx_ ?_
    refine ox_ 12 (some 56) rfl rfl fun K hK=>?_
    refine zae rfl rfl rfl _ _ rfl As sh g55 1 rfl rfl (Kd.C_below aQ.out I) B55.out HLS.out ?_
    intro v56 Wc hrow aC
    obtain ⟨A56,c56,ev⟩:=Kd.R_slice hrow
    rw [List.length_append,List.length_singleton] at ev
    subst ev
    refine hK.out _ _ (zb I aC) (fun aA=>?_)
    replace B55:=za_ B55 aC
    replace B11:=za_ B11 aC
    have a9:W6.heap.size≤_:=I.size
    have R56:=hhd (Kd.R_lower hrow I.size)
    clear hK K I aC hrow
    have I:=aA
    clear aA
    refine nx_ ?_
    refine px_ 13 rfl ?_
    refine ox_ 15 none rfl rfl fun K hK=>?_
    refine zA rfl rfl 28 _ _ rfl g11 #[.slice A2 l.length c2,.int .i64 (wrap64 (exp+1)),.bool false,.slice A56 (sh.length+1) c56] rfl rfl 28 #[.slice none 0 0,.int .i64 0,.bool false,.slice none 0 0] B11.out (zV _ _ _ _) rfl (zaK _ _ _ _ _ _ _ _) ?_
    intro Wd hq aD aG
    have HBd:=hhd (aG _ _ (Nat.le_trans (zi aJ) aM) (zb aJ I))
    have D3_d:=hhd ((aD _ (fun e=>by have:=zj aK;omega)).trans (zd aK I))
    have D4_d:=hhd ((aD _ (fun e=>by have:=zj aH;omega)).trans (zd aH I))
    have D6_d:=hhd ((aD _ (fun e=>by have:=zj aI;omega)).trans (zd aI I))
    have N6:=hhd (show g6≠g11 from fun e=>by have:=zj aI;omega)
    have N4:=hhd (show g4≠g11 from fun e=>by have:=zj aH;omega)
    have Ry_d:=hhd (zI (Kd.R_below aN.out I) aD (fun e=>by have h1:=Kd.R_lt aN.out g11 e.symm;omega))
    have R56_d:=zg_ R56 B11 aD
    refine hK.out _ _ (aG _ _ aM I) (fun aA=>?_)
    replace B11:=hhd hq
    clear hK K hq aD aG I
    have I:=aA
    clear aA
    refine zE (by kernel_rfl) ?_
  case' e4_14 =>
   refine box_step rfl rfl (cs:=#[.slice none 0 0,.int .i64 0,.bool false,.slice none 0 0]) (t:=28) (by first | (go_simp;done) | (go_simp;rfl)) ?_
   intro g11 hg Wc aE aC
   refine hK.out _ _ (zb I aC) (fun aA=>?_)
   replace B55:=za_ B55 aC
   have aM:W6.heap.size≤g11:=by rw [hg];exact I.size
   have B11:=hhd aE
   clear hK K I aC aE hg
   have I:=aA
   clear aA
   refine nx_ ?_
   refine ox_ 9 (some 53) rfl rfl fun K hK=>?_
   refine zJ Tryz.func51 (by kernel_rfl) rfl #[.slice As sh.length cs] (by rfl) rfl rfl (by go_simp) ?_
   refine (zaP As sh.length cs HCS.out HLS.out _).mono ?_
   rintro e Wc ⟨rfl,rfl⟩
   refine ⟨_,rfl,?_⟩
   refine hK.out _ _ I (fun _=>?_)
   clear hK K
   refine nx_ ?_
   refine ox_ 12 (some 56) rfl rfl fun K hK=>?_
   refine zae rfl rfl rfl _ _ rfl As sh g55 1 rfl rfl (Kd.C_below aQ.out I) B55.out HLS.out ?_
   intro v56 Wc hrow aC
   obtain ⟨A56,c56,ev⟩:=Kd.R_slice hrow
   rw [List.length_append,List.length_singleton] at ev
   subst ev
   refine hK.out _ _ (zb I aC) (fun aA=>?_)
   replace B55:=za_ B55 aC
   replace B11:=za_ B11 aC
   have a9:W6.heap.size≤_:=I.size
   have R56:=hhd (Kd.R_lower hrow I.size)
   clear hK K I aC hrow
   have I:=aA
   clear aA
   refine nx_ ?_
   refine px_ 13 rfl ?_
   refine ox_ 15 none rfl rfl fun K hK=>?_
   refine zA rfl rfl 28 _ _ rfl g11 #[.slice A2 l.length c2,.int .i64 (wrap64 (exp+1)),.bool false,.slice A56 (sh.length+1) c56] rfl rfl 28 #[.slice none 0 0,.int .i64 0,.bool false,.slice none 0 0] B11.out (zV _ _ _ _) rfl (zaK _ _ _ _ _ _ _ _) ?_
   intro Wd hq aD aG
   have HBd:=hhd (aG _ _ (Nat.le_trans (zi aJ) aM) (zb aJ I))
   have D3_d:=hhd ((aD _ (fun e=>by have:=zj aK;omega)).trans (zd aK I))
   have D4_d:=hhd ((aD _ (fun e=>by have:=zj aH;omega)).trans (zd aH I))
   have D6_d:=hhd ((aD _ (fun e=>by have:=zj aI;omega)).trans (zd aI I))
   have N6:=hhd (show g6≠g11 from fun e=>by have:=zj aI;omega)
   have N4:=hhd (show g4≠g11 from fun e=>by have:=zj aH;omega)
   have Ry_d:=hhd (zI (Kd.R_below aN.out I) aD (fun e=>by have h1:=Kd.R_lt aN.out g11 e.symm;omega))
   have R56_d:=zg_ R56 B11 aD
   refine hK.out _ _ (aG _ _ aM I) (fun aA=>?_)
   replace B11:=hhd hq
   clear hK K hq aD aG I
   have I:=aA
   clear aA
   refine zE (by kernel_rfl) ?_
 case' e1_14 =>
  refine box_step rfl rfl (cs:=#[.slice none 0 0,.int .i64 0,.bool false,.slice none 0 0]) (t:=28) (by first | (go_simp;done) | (go_simp;rfl)) ?_
  intro g11 hg Wc aE aC
  refine hK.out _ _ (zb I aC) (fun aA=>?_)
  have aM:W6.heap.size≤g11:=by rw [hg];exact I.size
  have B11:=hhd aE
  clear hK K I aC aE hg
  have I:=aA
  clear aA
  refine nx_ ?_
  refine wx_ 9 11 (some 53) (some 55) rfl rfl rfl rfl (fun K hK=>?e6_9) fun K hK=>?e6_11
  case' e6_9 =>
   refine zJ Tryz.func51 (by kernel_rfl) rfl #[.slice As sh.length cs] (by rfl) rfl rfl (by go_simp) ?_
   refine (zaP As sh.length cs HCS.out HLS.out _).mono ?_
   rintro e Wc ⟨rfl,rfl⟩
   refine ⟨_,rfl,?_⟩
   refine hK.out _ _ I (fun _=>?_)
   clear hK K
   refine nx_ ?_
   refine ox_ 11 (some 55) rfl rfl fun K hK=>?_
   refine zaL rfl rfl 1 (by first | (go_simp;done) | (go_simp;rfl)) ?_
   intro g55 hg Wc aE aC
   refine hK.out _ _ (zb I aC) (fun aA=>?_)
   replace B11:=za_ B11 aC
   have B55:=hhd aE
   clear hK K I aC aE hg
   have I:=aA
   clear aA
   refine nx_ ?_
   refine ox_ 12 (some 56) rfl rfl fun K hK=>?_
   refine zae rfl rfl rfl _ _ rfl As sh g55 1 rfl rfl (Kd.C_below aQ.out I) B55.out HLS.out ?_
   intro v56 Wc hrow aC
   obtain ⟨A56,c56,ev⟩:=Kd.R_slice hrow
   rw [List.length_append,List.length_singleton] at ev
   subst ev
   refine hK.out _ _ (zb I aC) (fun aA=>?_)
   replace B11:=za_ B11 aC
   replace B55:=za_ B55 aC
   have a9:W6.heap.size≤_:=I.size
   have R56:=hhd (Kd.R_lower hrow I.size)
   clear hK K I aC hrow
   have I:=aA
   clear aA
   refine nx_ ?_
   refine px_ 13 rfl ?_
   refine ox_ 15 none rfl rfl fun K hK=>?_
   refine zA rfl rfl 28 _ _ rfl g11 #[.slice A2 l.length c2,.int .i64 (wrap64 (exp+1)),.bool false,.slice A56 (sh.length+1) c56] rfl rfl 28 #[.slice none 0 0,.int .i64 0,.bool false,.slice none 0 0] B11.out (zV _ _ _ _) rfl (zaK _ _ _ _ _ _ _ _) ?_
   intro Wd hq aD aG
   have HBd:=hhd (aG _ _ (Nat.le_trans (zi aJ) aM) (zb aJ I))
   have D3_d:=hhd ((aD _ (fun e=>by have:=zj aK;omega)).trans (zd aK I))
   have D4_d:=hhd ((aD _ (fun e=>by have:=zj aH;omega)).trans (zd aH I))
   have D6_d:=hhd ((aD _ (fun e=>by have:=zj aI;omega)).trans (zd aI I))
   have N6:=hhd (show g6≠g11 from fun e=>by have:=zj aI;omega)
   have N4:=hhd (show g4≠g11 from fun e=>by have:=zj aH;omega)
   have Ry_d:=hhd (zI (Kd.R_below aN.out I) aD (fun e=>by have h1:=Kd.R_lt aN.out g11 e.symm;omega))
   have R56_d:=zg_ R56 B11 aD
   refine hK.out _ _ (aG _ _ aM I) (fun aA=>?_)
   replace B11:=hhd hq
   clear hK K hq aD aG I
   have I:=aA
   clear aA
   refine zE (by kernel_rfl) ?_
  case' e6_11 =>
   refine zaL rfl rfl 1 (by first | (go_simp;done) | (go_simp;rfl)) ?_
   intro g55 hg Wc aE aC
   refine hK.out _ _ (zb I aC) (fun aA=>?_)
   replace B11:=za_ B11 aC
   have B55:=hhd aE
   clear hK K I aC aE hg
   have I:=aA
   clear aA
   refine nx_ ?_
   refine ox_ 9 (some 53) rfl rfl fun K hK=>?_
   refine zJ Tryz.func51 (by kernel_rfl) rfl #[.slice As sh.length cs] (by rfl) rfl rfl (by go_simp) ?_
   refine (zaP As sh.length cs HCS.out HLS.out _).mono ?_
   rintro e Wc ⟨rfl,rfl⟩
   refine ⟨_,rfl,?_⟩
   refine hK.out _ _ I (fun _=>?_)
   clear hK K
   refine nx_ ?_
   refine ox_ 12 (some 56) rfl rfl fun K hK=>?_
   refine zae rfl rfl rfl _ _ rfl As sh g55 1 rfl rfl (Kd.C_below aQ.out I) B55.out HLS.out ?_
   intro v56 Wc hrow aC
   obtain ⟨A56,c56,ev⟩:=Kd.R_slice hrow
   rw [List.length_append,List.length_singleton] at ev
   subst ev
   refine hK.out _ _ (zb I aC) (fun aA=>?_)
   replace B11:=za_ B11 aC
   replace B55:=za_ B55 aC
   have a9:W6.heap.size≤_:=I.size
   have R56:=hhd (Kd.R_lower hrow I.size)
   clear hK K I aC hrow
   have I:=aA
   clear aA
   refine nx_ ?_
   refine px_ 13 rfl ?_
   refine ox_ 15 none rfl rfl fun K hK=>?_
   refine zA rfl rfl 28 _ _ rfl g11 #[.slice A2 l.length c2,.int .i64 (wrap64 (exp+1)),.bool false,.slice A56 (sh.length+1) c56] rfl rfl 28 #[.slice none 0 0,.int .i64 0,.bool false,.slice none 0 0] B11.out (zV _ _ _ _) rfl (zaK _ _ _ _ _ _ _ _) ?_
   intro Wd hq aD aG
   have HBd:=hhd (aG _ _ (Nat.le_trans (zi aJ) aM) (zb aJ I))
   have D3_d:=hhd ((aD _ (fun e=>by have:=zj aK;omega)).trans (zd aK I))
   have D4_d:=hhd ((aD _ (fun e=>by have:=zj aH;omega)).trans (zd aH I))
   have D6_d:=hhd ((aD _ (fun e=>by have:=zj aI;omega)).trans (zd aI I))
   have N6:=hhd (show g6≠g11 from fun e=>by have:=zj aI;omega)
   have N4:=hhd (show g4≠g11 from fun e=>by have:=zj aH;omega)
   have Ry_d:=hhd (zI (Kd.R_below aN.out I) aD (fun e=>by have h1:=Kd.R_lt aN.out g11 e.symm;omega))
   have R56_d:=zg_ R56 B11 aD
   refine hK.out _ _ (aG _ _ aM I) (fun aA=>?_)
   replace B11:=hhd hq
   clear hK K hq aD aG I
   have I:=aA
   clear aA
   refine zE (by kernel_rfl) ?_
 all_goals
  have kk:=(za D3_d 3).trans rfl
  clear I
  go_wp2_with (first
   | ((with_reducible refine zf (N:=75) rfl ?_);refine lr_ 75 rfl 28 B11 Tryz.underlying28 ?_)
   | ((with_reducible refine zo (t:=28) (p:=6) rfl ?_);refine re_ 28 6 rfl #[.slice A2 l.length c2,.int .i64 (wrap64 (exp+1)),.bool false,.slice A56 (sh.length+1) c56] D6_d L6 HBd ?_;intro We aD D6_e HB_e;have Ry_e:=zg_ Ry_d D6_d aD;have R56_e:=zg_ R56_d D6_d aD;clear aD))
  have HV:=hhd HEX.out
  clear kk
  refine bodyPost_ret (results_cell_row rfl _ _ g6 28 #[.slice A2 l.length c2,.int .i64 (wrap64 (exp+1)),.bool false,.slice A56 (sh.length+1) c56] (0,0) _ rfl D6_e.out Tryz.underlying28 rfl (zV _ _ _ _)) rfl ?_
  refine ⟨A2,c2,A56,c56,?_,Ry_e.out,Kd.R_lower R56_e.out (zi aJ),HB_e.out⟩
  rw [HEX.out]
end Go.Proofs.YteieahbadclppaaGreat.P

namespace Go.Proofs.YteieahbadclppaaGreat.P
open Go.RowKit Go.Shelf Go.Proofs.YteieahbadclppaaGreatW.PrintWords Go.Proofs.YteieahbadclppaaGreatW.PrintLast Go.Proofs.YteieahbadclppaaGreatW.PrintMore
set_option linter.unusedVariables false
set_option linter.unusedSimpArgs false
section
variable {P:Program} {ops:Array Oper} {o:Oper} {a:Act} {Q:Exit→Act→World→Prop} {K:Act→World→Prop}
theorem zbn {W:World} (hw:Region.wanted o (yielded ops a.tmps)=true) (hN:o.dst=none) (ty:TypeId) (x y:Operand) (ho:o.op=.store ty x y) (g j:Nat) (v:Value) (hx:a.eval x=.pointer (some ⟨g,j,none⟩)) (hy:a.eval y=v)
  (t:TypeId) (old:Array Value) (hg:W.heap[g]?=some (.cells old t (0,0))) (hj:j < old.size) (hi:(P.info? ty).map (·.size)=some 1) (hv:v.cells.toList=[v]) (h1:v.oneCell'=true) (new:Array Value) (hnew:new=old.setIfInBounds j v)
  (h:∀w1,w1.heap[g]?=some (.cells new t (0,0))→(∀k,k≠g→w1.heap[k]?=W.heap[k]?)→(∀B w0,B≤g→Below B w0 W→Below B w0 w1)→K a w1) :
  if Region.wanted o (yielded ops a.tmps)=true then Oper.wp P o a W K Q else K (a.put none undef) W:=by
 rw [if_pos hw]
 have hr:(Instr.storeAt ty (.pointer (some ⟨g,j,none⟩)) v).run P W=.ok () (W.setCells g j [v]):=za6 ty v [v] hg hv hi (by simp;omega) (by simpa using h1)
 have e:W.setCells g j [v]=W.setCell ⟨g,j,none⟩ v:=rfl
 rw [e] at hr
 subst hnew
 unfold Oper.wp execOp
 simp only [ho,hx,hy,Sem.run_bind,Sem.run_pure,Result.andThen_ok,hr]
 show K (a.put o.dst undef) _
 rw [hN]
 exact h _ (zQ hg j v rfl) (fun k hk=>Below.heap_setCell W ⟨g,j,none⟩ v k hk) (fun B w0 hB hb=>hb.setCell (p:=⟨g,j,none⟩) hB v)
end
end Go.Proofs.YteieahbadclppaaGreat.P

namespace Go.Proofs.YteieahbadclppaaGreat.P
open Go.RowKit Go.Shelf Go.Proofs.YteieahbadclppaaGreatW.PrintWords Go.Proofs.YteieahbadclppaaGreatW.PrintLast Go.Proofs.YteieahbadclppaaGreatW.PrintMore
attribute [local go_sem] zF zG zK zL
set_option linter.unusedVariables false
set_option linter.unusedSimpArgs false
end Go.Proofs.YteieahbadclppaaGreat.P

namespace Go.Proofs.YteieahbadclppaaGreat.P
open Go.RowKit Go.Shelf Go.Proofs.YteieahbadclppaaGreatW.PrintWords Go.Proofs.YteieahbadclppaaGreatW.PrintLast Go.Proofs.YteieahbadclppaaGreatW.PrintMore
attribute [local go_sem] Oper.semAt_some
set_option linter.unusedVariables false
set_option linter.unusedSimpArgs false
end Go.Proofs.YteieahbadclppaaGreat.P

