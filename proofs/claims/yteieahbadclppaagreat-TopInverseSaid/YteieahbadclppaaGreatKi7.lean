/- Part 7 of 18 of the proof: the texts that it reaches, one behind the other. No condition. -/
import Derived.Test.YteieahbadclppaaGreatKi6
import Derived.Deep.RegionLawGrows
namespace Go.Proofs.YteieahbadclppaaGreat.P
open Go.RowKit Go.Proofs.YteieahbadclppaaGreatW.PrintWords Go.Proofs.YteieahbadclppaaGreatW.PrintLast Go.Proofs.YteieahbadclppaaGreatW.PrintMore
attribute [local go_sem] zI zJ zO zP
set_option linter.unusedVariables false
set_option linter.unusedSimpArgs false
set_option maxRecDepth 100000 in
set_option maxHeartbeats 4000000 in
theorem zaO (A:Option Addr) (n c:Nat) (hn:n≤c) (hc:n≤1000) (w:World):Calls Tryz.prog 51 #[.slice A n c] w fun e w'=>e=.returned (.slice A n n)∧w'=w:=by
 have hr:∀w,(Instr.slice 26 (.slice A n c) none (some (.int .i64 n)) (some (.int .i64 n))).run Tryz.prog w=.ok (.slice A n n) w:=by
  intro w
  have e1:(Instr.sliceBound (.int .i64 n) c .slice3Acap).run Tryz.prog w=.ok n w:=by
   simp [Instr.sliceBound,asIntOf]
   omega
  have e2:(Instr.sliceBound (.int .i64 n) n .slice3B).run Tryz.prog w=.ok n w:=by
   simp [Instr.sliceBound,asIntOf]
  have e3:(sizeOf 3).run Tryz.prog w=.ok 1 w:=by rfl
  simp [Instr.slice,run_underlying Tryz.underlying26,Instr.sliceBounds,e1,e2,e3]
  intro _
  cases A <;> simp [Addr.add]
 go_enter Tryz.func51,Tryz.ntmps51
 go_wp2
 go_ret
 exact ⟨rfl,rfl⟩
theorem zgp:(Tryz.prog.info? 22).map (·.size)=some 1:=by kernel_rfl
theorem zit:(Tryz.prog.info? 4).map (·.size)=some 1:=by kernel_rfl
theorem zE {α:Type} {d:Kd α} (hE:d.E=[]) {e base g t:Nat} {ok:Nat→Prop} {W w1:World} {v:Value} {xs:List α} {cells:Array Value} (h:d.R e W base ok v xs) (hb:W.heap[g]?=some (.cells cells t (0,0))) (ht:e≠t) (hw:∀k,k≠g→w1.heap[k]?=W.heap[k]?):d.R e w1 base ok v xs :=
 Kd.R_mono (Kd.R_step (Kd.R_tight hE h) (fun k hk _=>hw k (fun e_=>Kd.R_ne h hb ht (by rw [← e_];exact hk)))) (fun k hk=>h.1 k hk.symm)
section
variable {P:Program} {ops:Array Oper} {rest:List Oper} {o:Oper} {a:Act} {Q:Exit→Act→World→Prop}
theorem zbq {W:World} (hgd:o.guard=none) (hN:o.dst=none) (ty:TypeId) (x y:Operand) (ho:o.op=.store ty x y) (g j:Nat) (v:Value) (hx:a.eval x=.pointer (some ⟨g,j,none⟩)) (hy:a.eval y=v)
  (t:TypeId) (old:Array Value) (hg:W.heap[g]?=some (.cells old t (0,0))) (hj:j < old.size) (hi:(P.info? ty).map (·.size)=some 1) (hv:v.cells.toList=[v]) (h1:v.oneCell'=true) (new:Array Value) (hnew:new=old.setIfInBounds j v)
  (h:∀w1,w1.heap[g]?=some (.cells new t (0,0))→(∀k,k≠g→w1.heap[k]?=W.heap[k]?)→(∀B w0,B≤g→Below B w0 W→Below B w0 w1)→wpList P ops Q rest a w1):wpList P ops Q (o :: rest) a W:=by
 have hr:(Instr.storeAt ty (.pointer (some ⟨g,j,none⟩)) v).run P W=.ok () (W.setCells g j [v]):=za8 ty v [v] hg hv hi (by simp;omega) (by simpa using h1)
 have e:W.setCells g j [v]=W.setCell ⟨g,j,none⟩ v:=rfl
 rw [e] at hr
 subst hnew
 refine wpList_plain hgd fun K hK=>?_
 unfold Oper.wp execOp
 simp only [ho,hx,hy,Sem.run_bind,Sem.run_pure,Result.andThen_ok,hr]
 show K (a.put o.dst undef) _
 rw [hN]
 refine hK _ _ (h _ (zS hg j v rfl) (fun k hk=>Below.heap_setCell W ⟨g,j,none⟩ v k hk) (fun B w0 hB hb=>hb.setCell (p:=⟨g,j,none⟩) hB v))
end
section
variable {P:Program} {ops:Array Oper} {o:Oper} {a:Act} {Q:Exit→Act→World→Prop} {K:Act→World→Prop}
theorem zaD {W:World} {N:Option Tmp} (hw:Region.wanted o (yielded ops a.tmps)=true) (hN:o.dst=N) (v:Int)
  (hrun:(execOp a.eval o).run P W=.ok (.value (.slice (some ⟨W.heap.size,0,none⟩) 1 1)) (W.alloc (.cells #[.int .i64 v] 3 (0,0))))
  (h:∀g,g=W.heap.size→∀w1,w1.heap[g]?=some (.cells #[.int .i64 v] 3 (0,0))→Below W.heap.size W w1→K (a.put N (.slice (some ⟨g,0,none⟩) 1 1)) w1) :
  if Region.wanted o (yielded ops a.tmps)=true then Oper.wp P o a W K Q else K (a.put N undef) W :=
 zgR hw hN hrun (h _ rfl _ (zbr W _) (ze (Below.refl _ _) _))

theorem zad {W:World} {N:Option Tmp} (hw:Region.wanted o (yielded ops a.tmps)=true) (hgd:o.guard=none) (hN:o.dst=N) (s x:Operand) (ho:o.op=.call { callee:=.builtin .append,args:=#[s,x],argTypes:=#[26,26] })
  (A:Option Addr) (l:List Int) (g:Nat) (v:Int) (hs:a.eval s=.slice A l.length l.length) (hx:a.eval x=.slice (some ⟨g,0,none⟩) 1 1) (hC:Kd.C (Kd.int .i64) W A l.length l) (hg:W.heap[g]?=some (.cells #[.int .i64 v] 3 (0,0))) (hl:l.length≤1000)
  (h:∀v1 w1,Kd.R (Kd.int .i64) 3 w1 W.heap.size (fun _=>True) v1 (l++[v])→Below W.heap.size W w1→K (a.put N v1) w1) :
  if Region.wanted o (yielded ops a.tmps)=true then Oper.wp Tryz.prog o a W K Q else K (a.put N undef) W:=by
 obtain ⟨i,hi,hz⟩:=Option.map_eq_some_iff.1 ziQ
 simp only [Prod.mk.injEq] at hz
 obtain ⟨z0,z1,z2⟩:=hz
 subst hN
 have hnone:A=none→l.length=0:=fun e=>by
  subst e
  rcases Nat.eq_zero_or_pos l.length with h0 | h0
  ·exact h0
  ·obtain ⟨ad,had,_⟩:=Kd.at_int hC 0 (by omega) (by omega)
   cases had
 refine step_append_grows hgd s x 26 ho 3 i (.int .i64 0) 1 8 Tryz.underlying26 hi z0 z1 z2 rfl (by decide) A l.length l.length (l.map (.int .i64 ·)) hs (fun e=>⟨hnone e,hnone e⟩) (by simp) ?_ ⟨g,0,none⟩ 1 1 [.int .i64 v] hx rfl ?_ (by simp [Value.oneCell']) (by omega) (by unfold maxLen;omega) (by omega) ?_
 ·intro b hb j u hj
  subst hb
  rw [List.getElem?_map] at hj
  obtain ⟨y,hy,hu⟩:=Option.map_eq_some_iff.1 hj
  obtain ⟨hlt,hy2⟩:=List.getElem?_eq_some_iff.1 hy
  obtain ⟨ad,had,h0⟩:=Kd.at_int hC (j:Int) (by omega) (by omega)
  cases had
  rw [Int.toNat_natCast] at h0
  rw [h0,← hu]
  unfold rd
  rw [Int.toNat_natCast,List.getD_eq_getElem?_getD,hy]
  rfl
 ·intro j u hj
  cases j with
  | zero =>
   simp at hj
   subst hj
   exact (zc hg 0).trans rfl
  | succ j=>simp at hj
 ·intro v1 w1 hown hgr
  refine h v1 w1 (Kd.R_of_own (by simpa [zd3] using hown) (fun _ _=>trivial)) ?_
  exact (Below.refl _ _).grown hgr (Nat.le_refl _) (fun k hk=>by cases hk)
end
set_option maxRecDepth 100000 in
set_option maxHeartbeats 4000000 in
theorem zl7 (p0 p1 p2 p4 b:Int) (p5:Bool) (Aw:Option Addr) (wl:List S38) (cw:Nat) (Ax:Option Addr) (cx:Nat) (l y:List S38) (exp h:Int) (As:Option Addr) (cs:Nat) (sh:List Int) (w:World)
  (hx:Kd.C k38 w Ax l.length l) (hw:Kd.C k38 w Aw wl.length wl) (hs:Kd.C (Kd.int .i64) w As sh.length sh) (hcs:sh.length≤cs) (hls:sh.length≤100) (hly:y.length=l.length) (he0:-1000≤exp) (he1:exp≤1000) (hb0:2≤b) (hb1:b≤31)
  (hp:∀W:World,Kd.C k38 W Ax l.length l→Kd.C k38 W Aw wl.length wl→Calls Tryz.prog 49 #[.slice Ax l.length cx,.slice Aw wl.length cw,.int .i64 h,.int .i64 (b - 2),.int .i64 1,.int .i64 p4,.bool p5] W fun e w'=>∃v,e=.returned (.tuple #[v,.int .i64 0])∧Kd.R k38 38 w' W.heap.size (fun _=>True) v y∧Below W.heap.size W w') :
  Calls Tryz.prog 20 #[.agg #[.int .i64 p0,.int .i64 p1,.int .i64 p2,.int .i64 0,.int .i64 p4,.bool p5,.iface 97 (.agg #[]),.int .i64 b,.slice Aw wl.length cw],.agg #[.slice Ax l.length cx,.int .i64 exp,.bool false,.slice As sh.length cs],.agg #[.int .i64 2,.int .i64 h]] w fun e w'=>∃A' c' As' cs',e=.returned (.agg #[.slice A' l.length c',.int .i64 (exp+1),.bool false,.slice As' (sh.length+1) cs'])∧Kd.R k38 38 w' w.heap.size (fun _=>True) (.slice A' l.length c') y∧Kd.R (Kd.int .i64) 3 w' w.heap.size (fun _=>True) (.slice As' (sh.length+1) cs') (sh++[1])∧Below w.heap.size w w':=by
 have hmx:Tryz.prog.follows .mixedOrders=true:=by kernel_rfl
 have hm : ∀ w, (method 294 97 (.agg #[]) "headroom/fft.pass").run Tryz.prog w = .ok (145, .agg #[]) w := fun _ => by kernel_rfl
 have HR:=hhd hx
 have HS:=hhd hw
 have HT:=hhd hs
 have HCS:=hhd hcs
 have HLS:=hhd (show sh.length≤1000 by omega)
 have HLY:=hhd hly
 have HP:=hhd hp
 have HEX:=hhd (show wrap64 (exp+1)=exp+1 by unfold wrap64;omega)
 have HB0:=hhd (Below.refl w.heap.size w)
 clear hx hw hs hcs hls hly hp
 go_enter Tryz.func20,Tryz.ntmps20
 go_wp2_with (first
  | ((with_reducible refine zg (N:=3) rfl ?_);refine ba_ 3 #[.int .i64 p0,.int .i64 p1,.int .i64 p2,.int .i64 0,.int .i64 p4,.bool p5,.iface 97 (.agg #[]),.int .i64 b,.slice Aw wl.length cw] 56 ?_;intro g3 hg W1 hbox hbl;have L3:=gf_ hg HB0.out;have B3_1:=hhd hbox;have HB_1:=hhd (zb HB0.out hbl);have Cx_1:=hhd (Kd.C_below HR.out HB_1.out);have Cw_1:=hhd (Kd.C_below HS.out HB_1.out);have Cs_1:=hhd (Kd.C_below HT.out HB_1.out);obtain ⟨k3_0_1,k3_1_1,k3_2_1,k3_3_1,k3_4_1,k3_5_1,k3_6_1,k3_7_1,k3_8_1⟩:=bk9 B3_1.out;clear hbox hbl hg)
  | ((with_reducible refine zg (N:=4) rfl ?_);refine ba_ 4 #[.slice Ax l.length cx,.int .i64 exp,.bool false,.slice As sh.length cs] 28 ?_;intro g4 hg W2 hbox hbl;have L4:=gf_ hg HB_1.out;have B4_2:=hhd hbox;have HB_2:=hhd (zb HB_1.out hbl);have B3_2:=hhd (za B3_1.out hbl);have Cx_2:=hhd (Kd.C_below HR.out HB_2.out);have Cw_2:=hhd (Kd.C_below HS.out HB_2.out);have Cs_2:=hhd (Kd.C_below HT.out HB_2.out);obtain ⟨k3_0_2,k3_1_2,k3_2_2,k3_3_2,k3_4_2,k3_5_2,k3_6_2,k3_7_2,k3_8_2⟩:=bk9 B3_2.out;clear k3_0_1 k3_1_1 k3_2_1 k3_3_1 k3_4_1 k3_5_1 k3_6_1 k3_7_1 k3_8_1;obtain ⟨k4_0_2,k4_1_2,k4_2_2,k4_3_2⟩:=bk4 B4_2.out;clear hbox hbl hg)
  | ((with_reducible refine zg (N:=5) rfl ?_);refine ba_ 5 #[.int .i64 2,.int .i64 h] 59 ?_;intro g5 hg W3 hbox hbl;have L5:=gf_ hg HB_2.out;have B5_3:=hhd hbox;have HB_3:=hhd (zb HB_2.out hbl);have B3_3:=hhd (za B3_2.out hbl);have B4_3:=hhd (za B4_2.out hbl);have Cx_3:=hhd (Kd.C_below HR.out HB_3.out);have Cw_3:=hhd (Kd.C_below HS.out HB_3.out);have Cs_3:=hhd (Kd.C_below HT.out HB_3.out);obtain ⟨k3_0_3,k3_1_3,k3_2_3,k3_3_3,k3_4_3,k3_5_3,k3_6_3,k3_7_3,k3_8_3⟩:=bk9 B3_3.out;obtain ⟨k4_0_3,k4_1_3,k4_2_3,k4_3_3⟩:=bk4 B4_3.out;clear k3_0_2 k3_1_2 k3_2_2 k3_3_2 k3_4_2 k3_5_2 k3_6_2 k3_7_2 k3_8_2 k4_0_2 k4_1_2 k4_2_2 k4_3_2;obtain ⟨k5_0_3,k5_1_3⟩:=bk2 B5_3.out;clear hbox hbl hg)
  | ((with_reducible refine zg (N:=6) rfl ?_);refine ba_ 6 #[.slice none 0 0,.int .i64 0,.bool false,.slice none 0 0] 28 ?_;intro g6 hg W4 hbox hbl;have L6:=gf_ hg HB_3.out;have B6_4:=hhd hbox;have HB_4:=hhd (zb HB_3.out hbl);have B3_4:=hhd (za B3_3.out hbl);have B4_4:=hhd (za B4_3.out hbl);have B5_4:=hhd (za B5_3.out hbl);have Cx_4:=hhd (Kd.C_below HR.out HB_4.out);have Cw_4:=hhd (Kd.C_below HS.out HB_4.out);have Cs_4:=hhd (Kd.C_below HT.out HB_4.out);obtain ⟨k3_0_4,k3_1_4,k3_2_4,k3_3_4,k3_4_4,k3_5_4,k3_6_4,k3_7_4,k3_8_4⟩:=bk9 B3_4.out;obtain ⟨k4_0_4,k4_1_4,k4_2_4,k4_3_4⟩:=bk4 B4_4.out;obtain ⟨k5_0_4,k5_1_4⟩:=bk2 B5_4.out;clear k3_0_3 k3_1_3 k3_2_3 k3_3_3 k3_4_3 k3_5_3 k3_6_3 k3_7_3 k3_8_3 k4_0_3 k4_1_3 k4_2_3 k4_3_3 k5_0_3 k5_1_3;obtain ⟨k6_0_4,k6_1_4,k6_2_4,k6_3_4⟩:=bk4 B6_4.out;have NE36:=hhd (show g3≠g6 from fun e=>by have:=zf B3_3.out;omega);have NE46:=hhd (show g4≠g6 from fun e=>by have:=zf B4_3.out;omega);have NE56:=hhd (show g5≠g6 from fun e=>by have:=zf B5_3.out;omega);clear hbox hbl hg)
  | (go_at_call 145;(with_reducible refine (zhc 2 (by decide) (by decide) Ax l.length cx _).mono ?_);rintro e W5 ⟨rfl,hb⟩;have HB_5:=hhd (zb HB_4.out hb);have B3_5:=hhd (za B3_4.out hb);have B4_5:=hhd (za B4_4.out hb);have B5_5:=hhd (za B5_4.out hb);have B6_5:=hhd (za B6_4.out hb);have Cx_5:=hhd (Kd.C_below HR.out HB_5.out);have Cw_5:=hhd (Kd.C_below HS.out HB_5.out);have Cs_5:=hhd (Kd.C_below HT.out HB_5.out);obtain ⟨k3_0_5,k3_1_5,k3_2_5,k3_3_5,k3_4_5,k3_5_5,k3_6_5,k3_7_5,k3_8_5⟩:=bk9 B3_5.out;obtain ⟨k4_0_5,k4_1_5,k4_2_5,k4_3_5⟩:=bk4 B4_5.out;obtain ⟨k5_0_5,k5_1_5⟩:=bk2 B5_5.out;obtain ⟨k6_0_5,k6_1_5,k6_2_5,k6_3_5⟩:=bk4 B6_5.out;clear k3_0_4 k3_1_4 k3_2_4 k3_3_4 k3_4_4 k3_5_4 k3_6_4 k3_7_4 k3_8_4 k4_0_4 k4_1_4 k4_2_4 k4_3_4 k5_0_4 k5_1_4 k6_0_4 k6_1_4 k6_2_4 k6_3_4;clear hb)
  | (go_at_call 49;refine (HP.out _ Cx_5.out Cw_5.out).mono ?_;rintro e W6 ⟨vt,rfl,ho,hb⟩;obtain ⟨A2,c2,ev⟩:=Kd.R_slice ho;rw [HLY.out] at ev;subst ev;have Ry_6:=hhd (Kd.R_lower ho (zj HB_5.out));have NR6:=hhd (show some g6≠(Value.slice A2 _ c2).ownBlock from fun e=>Nat.lt_irrefl _ (Nat.lt_of_lt_of_le (zf B6_5.out) (Kd.R_base ho g6 e.symm)));have HB_6:=hhd (zb HB_5.out hb);have B3_6:=hhd (za B3_5.out hb);have B4_6:=hhd (za B4_5.out hb);have B5_6:=hhd (za B5_5.out hb);have B6_6:=hhd (za B6_5.out hb);have Cx_6:=hhd (Kd.C_below HR.out HB_6.out);have Cw_6:=hhd (Kd.C_below HS.out HB_6.out);have Cs_6:=hhd (Kd.C_below HT.out HB_6.out);obtain ⟨k3_0_6,k3_1_6,k3_2_6,k3_3_6,k3_4_6,k3_5_6,k3_6_6,k3_7_6,k3_8_6⟩:=bk9 B3_6.out;obtain ⟨k4_0_6,k4_1_6,k4_2_6,k4_3_6⟩:=bk4 B4_6.out;obtain ⟨k5_0_6,k5_1_6⟩:=bk2 B5_6.out;obtain ⟨k6_0_6,k6_1_6,k6_2_6,k6_3_6⟩:=bk4 B6_6.out;clear k3_0_5 k3_1_5 k3_2_5 k3_3_5 k3_4_5 k3_5_5 k3_6_5 k3_7_5 k3_8_5 k4_0_5 k4_1_5 k4_2_5 k4_3_5 k5_0_5 k5_1_5 k6_0_5 k6_1_5 k6_2_5 k6_3_5;clear hb ho))
 refine zae (S:=fun w'=>Below W6.heap.size W6 w') (ds:=[]) (fl 16 0) hmx rfl rfl (Below.refl _ _).drew (fun hHeld=>?_)
 refine px_ 0 (some 44) (fl 16 1) rfl rfl ?_
 refine px_ 1 (some 45) (fl 16 3) rfl rfl ?_
 refine px_ 3 (some 47) (fl 16 11) rfl rfl ?_
 refine px_ 5 (some 49) (fl 16 43) rfl rfl ?_
 refine px_ 7 (some 51) (fl 16 171) rfl rfl ?_
 refine px_ 10 (some 54) (fl 16 1195) rfl rfl ?_
 refine tx_ 2 (some 46) (fl 16 1199) rfl rfl hHeld (by rintro w' hs;obtain ⟨j_k4_0_6,j_k4_1_6,j_k4_2_6,j_k4_3_6⟩:=bg4 hs k4_0_6 k4_1_6 k4_2_6 k4_3_6;go_simp;with_reducible rfl) ?_
 refine px_ 4 (some 48) (fl 16 1215) rfl rfl ?_
 refine tx_ 6 (some 50) (fl 16 1279) rfl rfl hHeld (by rintro w' hs;obtain ⟨j_k4_0_6,j_k4_1_6,j_k4_2_6,j_k4_3_6⟩:=bg4 hs k4_0_6 k4_1_6 k4_2_6 k4_3_6;go_simp;with_reducible rfl) ?_
 refine tx_ 8 (some 52) (fl 16 1535) rfl rfl hHeld (by rintro w' hs;obtain ⟨j_k4_0_6,j_k4_1_6,j_k4_2_6,j_k4_3_6⟩:=bg4 hs k4_0_6 k4_1_6 k4_2_6 k4_3_6;go_simp;with_reducible rfl) ?_
 refine zev (i:=9) (j:=11) (k:=14) (Ni:=some 53) (Nj:=some 55) (Nk:=some 11) (fl 16 2047) (fl 16 3583) (fl 16 17919) rfl rfl rfl rfl rfl rfl (by kernel_rfl) (by decide) (by decide) (by decide) (fun K hK=>?e1_9) (fun K hK=>?e1_11) (fun K hK=>?e1_14)
 case' e1_9 =>
  refine zN Tryz.func51 (by kernel_rfl) rfl #[.slice As sh.length cs] (by rfl) rfl rfl (by go_simp) ?_
  refine (zaO As sh.length cs HCS.out HLS.out _).mono ?_
  rintro e Wc ⟨rfl,rfl⟩
  refine ⟨_,rfl,?_⟩
  refine hK.out _ _ hHeld (fun _=>?_)
  clear hK K
  refine nx_ (some 53) ?_
  refine zaM (i:=11) (j:=14) (Ni:=some 55) (Nj:=some 11) (fl 16 4095) (fl 16 18431) rfl rfl rfl rfl (by kernel_rfl) (by decide) (by decide) (fun K hK=>?e2_11) (fun K hK=>?e2_14)
  case' e2_11 =>
   refine zaD rfl rfl 1 (by first | (go_simp;done) | (go_simp;rfl)) ?_
   intro g55 hg Wc hbox hbl
   refine hK.out _ _ (zb hHeld hbl) (fun hHeld2=>?_)
   have B55:=hhd hbox
   clear hK K hHeld hbl hbox hg
   have hHeld:=hHeld2
   clear hHeld2
   refine nx_ (some 55) ?_
   refine zaM (i:=12) (j:=14) (Ni:=some 56) (Nj:=some 11) (fl 16 8191) (fl 16 20479) rfl rfl rfl rfl (by kernel_rfl) (by decide) (by decide) (fun K hK=>?e3_12) (fun K hK=>?e3_14)
   case' e3_12 =>
    refine zad rfl rfl rfl _ _ rfl As sh g55 1 rfl rfl (Kd.C_below Cs_6.out hHeld) B55.out HLS.out ?_
    intro v56 Wc hrow hbl
    obtain ⟨A56,c56,ev⟩:=Kd.R_slice hrow
    rw [List.length_append,List.length_singleton] at ev
    subst ev
    refine hK.out _ _ (zb hHeld hbl) (fun hHeld2=>?_)
    replace B55:=hhd (za B55.out hbl)
    have L56:W6.heap.size≤_:=hHeld.size
    have R56:=hhd (Kd.R_lower hrow hHeld.size)
    clear hK K hHeld hbl hrow
    have hHeld:=hHeld2
    clear hHeld2
    refine nx_ (some 56) ?_
    refine px_ 13 (some 57) (fl 16 16383) rfl rfl ?_
    refine zA (i:=14) (N:=some 11) (fl 16 32767) rfl rfl (by kernel_rfl) (by decide) (fun K hK=>?_)
    refine box_step rfl rfl (cs:=#[.slice none 0 0,.int .i64 0,.bool false,.slice none 0 0]) (t:=28) (by first | (go_simp;done) | (go_simp;rfl)) ?_
    intro g11 hg Wc hbox hbl
    refine hK.out _ _ (zb hHeld hbl) (fun hHeld2=>?_)
    replace B55:=hhd (za B55.out hbl)
    replace R56:=hhd (Kd.R_below R56.out hbl)
    have L11:W6.heap.size≤g11:=by rw [hg];exact hHeld.size
    have B11:=hhd hbox
    clear hK K hHeld hbl hbox hg
    have hHeld:=hHeld2
    clear hHeld2
    refine nx_ (some 11) ?_
    refine zA (i:=15) (N:=none) (fl 16 65535) rfl rfl (by kernel_rfl) (by decide) (fun K hK=>?_)
    refine zC rfl rfl 28 _ _ rfl g11 #[.slice A2 l.length c2,.int .i64 (wrap64 (exp+1)),.bool false,.slice A56 (sh.length+1) c56] rfl rfl 28 #[.slice none 0 0,.int .i64 0,.bool false,.slice none 0 0] B11.out (zD _ _ _ _) rfl (z7 _ _ _ _ _ _ _ _) ?_
    intro Wd hq hoth hbel
    have HBd:=hhd (hbel _ _ (Nat.le_trans (zj HB_6.out) L11) (zb HB_6.out hHeld))
    have D3_d:=hhd ((hoth _ (fun e=>by have:=zf B3_6.out;omega)).trans (za B3_6.out hHeld))
    have D4_d:=hhd ((hoth _ (fun e=>by have:=zf B4_6.out;omega)).trans (za B4_6.out hHeld))
    have D6_d:=hhd ((hoth _ (fun e=>by have:=zf B6_6.out;omega)).trans (za B6_6.out hHeld))
    have N6:=hhd (show g6≠g11 from fun e=>by have:=zf B6_6.out;omega)
    have N4:=hhd (show g4≠g11 from fun e=>by have:=zf B4_6.out;omega)
    have Ry_d:=hhd (zK (Kd.R_below Ry_6.out hHeld) hoth (fun e=>by have h1:=Kd.R_lt Ry_6.out g11 e.symm;omega))
    have R56_d:=hhd (zE rfl R56.out B11.out (by decide) hoth)
    refine hK.out _ _ (hbel _ _ L11 hHeld) (fun hHeld2=>?_)
    replace B11:=hhd hq
    clear hK K hq hoth hbel hHeld
    have hHeld:=hHeld2
    clear hHeld2
    refine zM (by kernel_rfl) ?_
   case' e3_14 =>
    refine box_step rfl rfl (cs:=#[.slice none 0 0,.int .i64 0,.bool false,.slice none 0 0]) (t:=28) (by first | (go_simp;done) | (go_simp;rfl)) ?_
    intro g11 hg Wc hbox hbl
    refine hK.out _ _ (zb hHeld hbl) (fun hHeld2=>?_)
    replace B55:=hhd (za B55.out hbl)
    have L11:W6.heap.size≤g11:=by rw [hg];exact hHeld.size
    have B11:=hhd hbox
    clear hK K hHeld hbl hbox hg
    have hHeld:=hHeld2
    clear hHeld2
    refine nx_ (some 11) ?_
    refine zA (i:=12) (N:=some 56) (fl 16 24575) rfl rfl (by kernel_rfl) (by decide) (fun K hK=>?_)
    refine zad rfl rfl rfl _ _ rfl As sh g55 1 rfl rfl (Kd.C_below Cs_6.out hHeld) B55.out HLS.out ?_
    intro v56 Wc hrow hbl
    obtain ⟨A56,c56,ev⟩:=Kd.R_slice hrow
    rw [List.length_append,List.length_singleton] at ev
    subst ev
    refine hK.out _ _ (zb hHeld hbl) (fun hHeld2=>?_)
    replace B55:=hhd (za B55.out hbl)
    replace B11:=hhd (za B11.out hbl)
    have L56:W6.heap.size≤_:=hHeld.size
    have R56:=hhd (Kd.R_lower hrow hHeld.size)
    clear hK K hHeld hbl hrow
    have hHeld:=hHeld2
    clear hHeld2
    refine nx_ (some 56) ?_
    refine px_ 13 (some 57) (fl 16 32767) rfl rfl ?_
    refine zA (i:=15) (N:=none) (fl 16 65535) rfl rfl (by kernel_rfl) (by decide) (fun K hK=>?_)
    refine zC rfl rfl 28 _ _ rfl g11 #[.slice A2 l.length c2,.int .i64 (wrap64 (exp+1)),.bool false,.slice A56 (sh.length+1) c56] rfl rfl 28 #[.slice none 0 0,.int .i64 0,.bool false,.slice none 0 0] B11.out (zD _ _ _ _) rfl (z7 _ _ _ _ _ _ _ _) ?_
    intro Wd hq hoth hbel
    have HBd:=hhd (hbel _ _ (Nat.le_trans (zj HB_6.out) L11) (zb HB_6.out hHeld))
    have D3_d:=hhd ((hoth _ (fun e=>by have:=zf B3_6.out;omega)).trans (za B3_6.out hHeld))
    have D4_d:=hhd ((hoth _ (fun e=>by have:=zf B4_6.out;omega)).trans (za B4_6.out hHeld))
    have D6_d:=hhd ((hoth _ (fun e=>by have:=zf B6_6.out;omega)).trans (za B6_6.out hHeld))
    have N6:=hhd (show g6≠g11 from fun e=>by have:=zf B6_6.out;omega)
    have N4:=hhd (show g4≠g11 from fun e=>by have:=zf B4_6.out;omega)
    have Ry_d:=hhd (zK (Kd.R_below Ry_6.out hHeld) hoth (fun e=>by have h1:=Kd.R_lt Ry_6.out g11 e.symm;omega))
    have R56_d:=hhd (zE rfl R56.out B11.out (by decide) hoth)
    refine hK.out _ _ (hbel _ _ L11 hHeld) (fun hHeld2=>?_)
    replace B11:=hhd hq
    clear hK K hq hoth hbel hHeld
    have hHeld:=hHeld2
    clear hHeld2
    refine zM (by kernel_rfl) ?_
  case' e2_14 =>
   refine box_step rfl rfl (cs:=#[.slice none 0 0,.int .i64 0,.bool false,.slice none 0 0]) (t:=28) (by first | (go_simp;done) | (go_simp;rfl)) ?_
   intro g11 hg Wc hbox hbl
   refine hK.out _ _ (zb hHeld hbl) (fun hHeld2=>?_)
   have L11:W6.heap.size≤g11:=by rw [hg];exact hHeld.size
   have B11:=hhd hbox
   clear hK K hHeld hbl hbox hg
   have hHeld:=hHeld2
   clear hHeld2
   refine nx_ (some 11) ?_
   refine zA (i:=11) (N:=some 55) (fl 16 20479) rfl rfl (by kernel_rfl) (by decide) (fun K hK=>?_)
   refine zaD rfl rfl 1 (by first | (go_simp;done) | (go_simp;rfl)) ?_
   intro g55 hg Wc hbox hbl
   refine hK.out _ _ (zb hHeld hbl) (fun hHeld2=>?_)
   replace B11:=hhd (za B11.out hbl)
   have B55:=hhd hbox
   clear hK K hHeld hbl hbox hg
   have hHeld:=hHeld2
   clear hHeld2
   refine nx_ (some 55) ?_
   refine zA (i:=12) (N:=some 56) (fl 16 24575) rfl rfl (by kernel_rfl) (by decide) (fun K hK=>?_)
   refine zad rfl rfl rfl _ _ rfl As sh g55 1 rfl rfl (Kd.C_below Cs_6.out hHeld) B55.out HLS.out ?_
   intro v56 Wc hrow hbl
   obtain ⟨A56,c56,ev⟩:=Kd.R_slice hrow
   rw [List.length_append,List.length_singleton] at ev
   subst ev
   refine hK.out _ _ (zb hHeld hbl) (fun hHeld2=>?_)
   replace B11:=hhd (za B11.out hbl)
   replace B55:=hhd (za B55.out hbl)
   have L56:W6.heap.size≤_:=hHeld.size
   have R56:=hhd (Kd.R_lower hrow hHeld.size)
   clear hK K hHeld hbl hrow
   have hHeld:=hHeld2
   clear hHeld2
   refine nx_ (some 56) ?_
   refine px_ 13 (some 57) (fl 16 32767) rfl rfl ?_
   refine zA (i:=15) (N:=none) (fl 16 65535) rfl rfl (by kernel_rfl) (by decide) (fun K hK=>?_)
   refine zC rfl rfl 28 _ _ rfl g11 #[.slice A2 l.length c2,.int .i64 (wrap64 (exp+1)),.bool false,.slice A56 (sh.length+1) c56] rfl rfl 28 #[.slice none 0 0,.int .i64 0,.bool false,.slice none 0 0] B11.out (zD _ _ _ _) rfl (z7 _ _ _ _ _ _ _ _) ?_
   intro Wd hq hoth hbel
   have HBd:=hhd (hbel _ _ (Nat.le_trans (zj HB_6.out) L11) (zb HB_6.out hHeld))
   have D3_d:=hhd ((hoth _ (fun e=>by have:=zf B3_6.out;omega)).trans (za B3_6.out hHeld))
   have D4_d:=hhd ((hoth _ (fun e=>by have:=zf B4_6.out;omega)).trans (za B4_6.out hHeld))
   have D6_d:=hhd ((hoth _ (fun e=>by have:=zf B6_6.out;omega)).trans (za B6_6.out hHeld))
   have N6:=hhd (show g6≠g11 from fun e=>by have:=zf B6_6.out;omega)
   have N4:=hhd (show g4≠g11 from fun e=>by have:=zf B4_6.out;omega)
   have Ry_d:=hhd (zK (Kd.R_below Ry_6.out hHeld) hoth (fun e=>by have h1:=Kd.R_lt Ry_6.out g11 e.symm;omega))
   have R56_d:=hhd (zE rfl R56.out B11.out (by decide) hoth)
   refine hK.out _ _ (hbel _ _ L11 hHeld) (fun hHeld2=>?_)
   replace B11:=hhd hq
   clear hK K hq hoth hbel hHeld
   have hHeld:=hHeld2
   clear hHeld2
   refine zM (by kernel_rfl) ?_
 case' e1_11 =>
  refine zaD rfl rfl 1 (by first | (go_simp;done) | (go_simp;rfl)) ?_
  intro g55 hg Wc hbox hbl
  refine hK.out _ _ (zb hHeld hbl) (fun hHeld2=>?_)
  have B55:=hhd hbox
  clear hK K hHeld hbl hbox hg
  have hHeld:=hHeld2
  clear hHeld2
  refine nx_ (some 55) ?_
  refine zaM (i:=9) (j:=14) (Ni:=some 53) (Nj:=some 11) (fl 16 4095) (fl 16 19967) rfl rfl rfl rfl (by kernel_rfl) (by decide) (by decide) (fun K hK=>?e4_9) (fun K hK=>?e4_14)
  case' e4_9 =>
   refine zN Tryz.func51 (by kernel_rfl) rfl #[.slice As sh.length cs] (by rfl) rfl rfl (by go_simp) ?_
   refine (zaO As sh.length cs HCS.out HLS.out _).mono ?_
   rintro e Wc ⟨rfl,rfl⟩
   refine ⟨_,rfl,?_⟩
   refine hK.out _ _ hHeld (fun _=>?_)
   clear hK K
   refine nx_ (some 53) ?_
   refine zaM (i:=12) (j:=14) (Ni:=some 56) (Nj:=some 11) (fl 16 8191) (fl 16 20479) rfl rfl rfl rfl (by kernel_rfl) (by decide) (by decide) (fun K hK=>?e5_12) (fun K hK=>?e5_14)
   case' e5_12 =>
    refine zad rfl rfl rfl _ _ rfl As sh g55 1 rfl rfl (Kd.C_below Cs_6.out hHeld) B55.out HLS.out ?_
    intro v56 Wc hrow hbl
    obtain ⟨A56,c56,ev⟩:=Kd.R_slice hrow
    rw [List.length_append,List.length_singleton] at ev
    subst ev
    refine hK.out _ _ (zb hHeld hbl) (fun hHeld2=>?_)
    replace B55:=hhd (za B55.out hbl)
    have L56:W6.heap.size≤_:=hHeld.size
    have R56:=hhd (Kd.R_lower hrow hHeld.size)
    clear hK K hHeld hbl hrow
    have hHeld:=hHeld2
    clear hHeld2
    refine nx_ (some 56) ?_
    refine px_ 13 (some 57) (fl 16 16383) rfl rfl ?_
    refine zA (i:=14) (N:=some 11) (fl 16 32767) rfl rfl (by kernel_rfl) (by decide) (fun K hK=>?_)
    refine box_step rfl rfl (cs:=#[.slice none 0 0,.int .i64 0,.bool false,.slice none 0 0]) (t:=28) (by first | (go_simp;done) | (go_simp;rfl)) ?_
    intro g11 hg Wc hbox hbl
    refine hK.out _ _ (zb hHeld hbl) (fun hHeld2=>?_)
    replace B55:=hhd (za B55.out hbl)
    replace R56:=hhd (Kd.R_below R56.out hbl)
    have L11:W6.heap.size≤g11:=by rw [hg];exact hHeld.size
    have B11:=hhd hbox
    clear hK K hHeld hbl hbox hg
    have hHeld:=hHeld2
    clear hHeld2
    refine nx_ (some 11) ?_
    refine zA (i:=15) (N:=none) (fl 16 65535) rfl rfl (by kernel_rfl) (by decide) (fun K hK=>?_)
    refine zC rfl rfl 28 _ _ rfl g11 #[.slice A2 l.length c2,.int .i64 (wrap64 (exp+1)),.bool false,.slice A56 (sh.length+1) c56] rfl rfl 28 #[.slice none 0 0,.int .i64 0,.bool false,.slice none 0 0] B11.out (zD _ _ _ _) rfl (z7 _ _ _ _ _ _ _ _) ?_
    intro Wd hq hoth hbel
    have HBd:=hhd (hbel _ _ (Nat.le_trans (zj HB_6.out) L11) (zb HB_6.out hHeld))
    have D3_d:=hhd ((hoth _ (fun e=>by have:=zf B3_6.out;omega)).trans (za B3_6.out hHeld))
    have D4_d:=hhd ((hoth _ (fun e=>by have:=zf B4_6.out;omega)).trans (za B4_6.out hHeld))
    have D6_d:=hhd ((hoth _ (fun e=>by have:=zf B6_6.out;omega)).trans (za B6_6.out hHeld))
    have N6:=hhd (show g6≠g11 from fun e=>by have:=zf B6_6.out;omega)
    have N4:=hhd (show g4≠g11 from fun e=>by have:=zf B4_6.out;omega)
    have Ry_d:=hhd (zK (Kd.R_below Ry_6.out hHeld) hoth (fun e=>by have h1:=Kd.R_lt Ry_6.out g11 e.symm;omega))
    have R56_d:=hhd (zE rfl R56.out B11.out (by decide) hoth)
    refine hK.out _ _ (hbel _ _ L11 hHeld) (fun hHeld2=>?_)
    replace B11:=hhd hq
    clear hK K hq hoth hbel hHeld
    have hHeld:=hHeld2
    clear hHeld2
    refine zM (by kernel_rfl) ?_
   case' e5_14 =>
    refine box_step rfl rfl (cs:=#[.slice none 0 0,.int .i64 0,.bool false,.slice none 0 0]) (t:=28) (by first | (go_simp;done) | (go_simp;rfl)) ?_
    intro g11 hg Wc hbox hbl
    refine hK.out _ _ (zb hHeld hbl) (fun hHeld2=>?_)
    replace B55:=hhd (za B55.out hbl)
    have L11:W6.heap.size≤g11:=by rw [hg];exact hHeld.size
    have B11:=hhd hbox
    clear hK K hHeld hbl hbox hg
    have hHeld:=hHeld2
    clear hHeld2
    refine nx_ (some 11) ?_
    refine zA (i:=12) (N:=some 56) (fl 16 24575) rfl rfl (by kernel_rfl) (by decide) (fun K hK=>?_)
    refine zad rfl rfl rfl _ _ rfl As sh g55 1 rfl rfl (Kd.C_below Cs_6.out hHeld) B55.out HLS.out ?_
    intro v56 Wc hrow hbl
    obtain ⟨A56,c56,ev⟩:=Kd.R_slice hrow
    rw [List.length_append,List.length_singleton] at ev
    subst ev
    refine hK.out _ _ (zb hHeld hbl) (fun hHeld2=>?_)
    replace B55:=hhd (za B55.out hbl)
    replace B11:=hhd (za B11.out hbl)
    have L56:W6.heap.size≤_:=hHeld.size
    have R56:=hhd (Kd.R_lower hrow hHeld.size)
    clear hK K hHeld hbl hrow
    have hHeld:=hHeld2
    clear hHeld2
    refine nx_ (some 56) ?_
    refine px_ 13 (some 57) (fl 16 32767) rfl rfl ?_
    refine zA (i:=15) (N:=none) (fl 16 65535) rfl rfl (by kernel_rfl) (by decide) (fun K hK=>?_)
    refine zC rfl rfl 28 _ _ rfl g11 #[.slice A2 l.length c2,.int .i64 (wrap64 (exp+1)),.bool false,.slice A56 (sh.length+1) c56] rfl rfl 28 #[.slice none 0 0,.int .i64 0,.bool false,.slice none 0 0] B11.out (zD _ _ _ _) rfl (z7 _ _ _ _ _ _ _ _) ?_
    intro Wd hq hoth hbel
    have HBd:=hhd (hbel _ _ (Nat.le_trans (zj HB_6.out) L11) (zb HB_6.out hHeld))
    have D3_d:=hhd ((hoth _ (fun e=>by have:=zf B3_6.out;omega)).trans (za B3_6.out hHeld))
    have D4_d:=hhd ((hoth _ (fun e=>by have:=zf B4_6.out;omega)).trans (za B4_6.out hHeld))
    have D6_d:=hhd ((hoth _ (fun e=>by have:=zf B6_6.out;omega)).trans (za B6_6.out hHeld))
    have N6:=hhd (show g6≠g11 from fun e=>by have:=zf B6_6.out;omega)
    have N4:=hhd (show g4≠g11 from fun e=>by have:=zf B4_6.out;omega)
    have Ry_d:=hhd (zK (Kd.R_below Ry_6.out hHeld) hoth (fun e=>by have h1:=Kd.R_lt Ry_6.out g11 e.symm;omega))
    have R56_d:=hhd (zE rfl R56.out B11.out (by decide) hoth)
    refine hK.out _ _ (hbel _ _ L11 hHeld) (fun hHeld2=>?_)
    replace B11:=hhd hq
    clear hK K hq hoth hbel hHeld
    have hHeld:=hHeld2
    clear hHeld2
    refine zM (by kernel_rfl) ?_
  case' e4_14 =>
   refine box_step rfl rfl (cs:=#[.slice none 0 0,.int .i64 0,.bool false,.slice none 0 0]) (t:=28) (by first | (go_simp;done) | (go_simp;rfl)) ?_
   intro g11 hg Wc hbox hbl
   refine hK.out _ _ (zb hHeld hbl) (fun hHeld2=>?_)
   replace B55:=hhd (za B55.out hbl)
   have L11:W6.heap.size≤g11:=by rw [hg];exact hHeld.size
   have B11:=hhd hbox
   clear hK K hHeld hbl hbox hg
   have hHeld:=hHeld2
   clear hHeld2
   refine nx_ (some 11) ?_
   refine zA (i:=9) (N:=some 53) (fl 16 20479) rfl rfl (by kernel_rfl) (by decide) (fun K hK=>?_)
   refine zN Tryz.func51 (by kernel_rfl) rfl #[.slice As sh.length cs] (by rfl) rfl rfl (by go_simp) ?_
   refine (zaO As sh.length cs HCS.out HLS.out _).mono ?_
   rintro e Wc ⟨rfl,rfl⟩
   refine ⟨_,rfl,?_⟩
   refine hK.out _ _ hHeld (fun _=>?_)
   clear hK K
   refine nx_ (some 53) ?_
   refine zA (i:=12) (N:=some 56) (fl 16 24575) rfl rfl (by kernel_rfl) (by decide) (fun K hK=>?_)
   refine zad rfl rfl rfl _ _ rfl As sh g55 1 rfl rfl (Kd.C_below Cs_6.out hHeld) B55.out HLS.out ?_
   intro v56 Wc hrow hbl
   obtain ⟨A56,c56,ev⟩:=Kd.R_slice hrow
   rw [List.length_append,List.length_singleton] at ev
   subst ev
   refine hK.out _ _ (zb hHeld hbl) (fun hHeld2=>?_)
   replace B55:=hhd (za B55.out hbl)
   replace B11:=hhd (za B11.out hbl)
   have L56:W6.heap.size≤_:=hHeld.size
   have R56:=hhd (Kd.R_lower hrow hHeld.size)
   clear hK K hHeld hbl hrow
   have hHeld:=hHeld2
   clear hHeld2
   refine nx_ (some 56) ?_
   refine px_ 13 (some 57) (fl 16 32767) rfl rfl ?_
   refine zA (i:=15) (N:=none) (fl 16 65535) rfl rfl (by kernel_rfl) (by decide) (fun K hK=>?_)
   refine zC rfl rfl 28 _ _ rfl g11 #[.slice A2 l.length c2,.int .i64 (wrap64 (exp+1)),.bool false,.slice A56 (sh.length+1) c56] rfl rfl 28 #[.slice none 0 0,.int .i64 0,.bool false,.slice none 0 0] B11.out (zD _ _ _ _) rfl (z7 _ _ _ _ _ _ _ _) ?_
   intro Wd hq hoth hbel
   have HBd:=hhd (hbel _ _ (Nat.le_trans (zj HB_6.out) L11) (zb HB_6.out hHeld))
   have D3_d:=hhd ((hoth _ (fun e=>by have:=zf B3_6.out;omega)).trans (za B3_6.out hHeld))
   have D4_d:=hhd ((hoth _ (fun e=>by have:=zf B4_6.out;omega)).trans (za B4_6.out hHeld))
   have D6_d:=hhd ((hoth _ (fun e=>by have:=zf B6_6.out;omega)).trans (za B6_6.out hHeld))
   have N6:=hhd (show g6≠g11 from fun e=>by have:=zf B6_6.out;omega)
   have N4:=hhd (show g4≠g11 from fun e=>by have:=zf B4_6.out;omega)
   have Ry_d:=hhd (zK (Kd.R_below Ry_6.out hHeld) hoth (fun e=>by have h1:=Kd.R_lt Ry_6.out g11 e.symm;omega))
   have R56_d:=hhd (zE rfl R56.out B11.out (by decide) hoth)
   refine hK.out _ _ (hbel _ _ L11 hHeld) (fun hHeld2=>?_)
   replace B11:=hhd hq
   clear hK K hq hoth hbel hHeld
   have hHeld:=hHeld2
   clear hHeld2
   refine zM (by kernel_rfl) ?_
 case' e1_14 =>
  refine box_step rfl rfl (cs:=#[.slice none 0 0,.int .i64 0,.bool false,.slice none 0 0]) (t:=28) (by first | (go_simp;done) | (go_simp;rfl)) ?_
  intro g11 hg Wc hbox hbl
  refine hK.out _ _ (zb hHeld hbl) (fun hHeld2=>?_)
  have L11:W6.heap.size≤g11:=by rw [hg];exact hHeld.size
  have B11:=hhd hbox
  clear hK K hHeld hbl hbox hg
  have hHeld:=hHeld2
  clear hHeld2
  refine nx_ (some 11) ?_
  refine zaM (i:=9) (j:=11) (Ni:=some 53) (Nj:=some 55) (fl 16 18431) (fl 16 19967) rfl rfl rfl rfl (by kernel_rfl) (by decide) (by decide) (fun K hK=>?e6_9) (fun K hK=>?e6_11)
  case' e6_9 =>
   refine zN Tryz.func51 (by kernel_rfl) rfl #[.slice As sh.length cs] (by rfl) rfl rfl (by go_simp) ?_
   refine (zaO As sh.length cs HCS.out HLS.out _).mono ?_
   rintro e Wc ⟨rfl,rfl⟩
   refine ⟨_,rfl,?_⟩
   refine hK.out _ _ hHeld (fun _=>?_)
   clear hK K
   refine nx_ (some 53) ?_
   refine zA (i:=11) (N:=some 55) (fl 16 20479) rfl rfl (by kernel_rfl) (by decide) (fun K hK=>?_)
   refine zaD rfl rfl 1 (by first | (go_simp;done) | (go_simp;rfl)) ?_
   intro g55 hg Wc hbox hbl
   refine hK.out _ _ (zb hHeld hbl) (fun hHeld2=>?_)
   replace B11:=hhd (za B11.out hbl)
   have B55:=hhd hbox
   clear hK K hHeld hbl hbox hg
   have hHeld:=hHeld2
   clear hHeld2
   refine nx_ (some 55) ?_
   refine zA (i:=12) (N:=some 56) (fl 16 24575) rfl rfl (by kernel_rfl) (by decide) (fun K hK=>?_)
   refine zad rfl rfl rfl _ _ rfl As sh g55 1 rfl rfl (Kd.C_below Cs_6.out hHeld) B55.out HLS.out ?_
   intro v56 Wc hrow hbl
   obtain ⟨A56,c56,ev⟩:=Kd.R_slice hrow
   rw [List.length_append,List.length_singleton] at ev
   subst ev
   refine hK.out _ _ (zb hHeld hbl) (fun hHeld2=>?_)
   replace B11:=hhd (za B11.out hbl)
   replace B55:=hhd (za B55.out hbl)
   have L56:W6.heap.size≤_:=hHeld.size
   have R56:=hhd (Kd.R_lower hrow hHeld.size)
   clear hK K hHeld hbl hrow
   have hHeld:=hHeld2
   clear hHeld2
   refine nx_ (some 56) ?_
   refine px_ 13 (some 57) (fl 16 32767) rfl rfl ?_
   refine zA (i:=15) (N:=none) (fl 16 65535) rfl rfl (by kernel_rfl) (by decide) (fun K hK=>?_)
   refine zC rfl rfl 28 _ _ rfl g11 #[.slice A2 l.length c2,.int .i64 (wrap64 (exp+1)),.bool false,.slice A56 (sh.length+1) c56] rfl rfl 28 #[.slice none 0 0,.int .i64 0,.bool false,.slice none 0 0] B11.out (zD _ _ _ _) rfl (z7 _ _ _ _ _ _ _ _) ?_
   intro Wd hq hoth hbel
   have HBd:=hhd (hbel _ _ (Nat.le_trans (zj HB_6.out) L11) (zb HB_6.out hHeld))
   have D3_d:=hhd ((hoth _ (fun e=>by have:=zf B3_6.out;omega)).trans (za B3_6.out hHeld))
   have D4_d:=hhd ((hoth _ (fun e=>by have:=zf B4_6.out;omega)).trans (za B4_6.out hHeld))
   have D6_d:=hhd ((hoth _ (fun e=>by have:=zf B6_6.out;omega)).trans (za B6_6.out hHeld))
   have N6:=hhd (show g6≠g11 from fun e=>by have:=zf B6_6.out;omega)
   have N4:=hhd (show g4≠g11 from fun e=>by have:=zf B4_6.out;omega)
   have Ry_d:=hhd (zK (Kd.R_below Ry_6.out hHeld) hoth (fun e=>by have h1:=Kd.R_lt Ry_6.out g11 e.symm;omega))
   have R56_d:=hhd (zE rfl R56.out B11.out (by decide) hoth)
   refine hK.out _ _ (hbel _ _ L11 hHeld) (fun hHeld2=>?_)
   replace B11:=hhd hq
   clear hK K hq hoth hbel hHeld
   have hHeld:=hHeld2
   clear hHeld2
   refine zM (by kernel_rfl) ?_
  case' e6_11 =>
   refine zaD rfl rfl 1 (by first | (go_simp;done) | (go_simp;rfl)) ?_
   intro g55 hg Wc hbox hbl
   refine hK.out _ _ (zb hHeld hbl) (fun hHeld2=>?_)
   replace B11:=hhd (za B11.out hbl)
   have B55:=hhd hbox
   clear hK K hHeld hbl hbox hg
   have hHeld:=hHeld2
   clear hHeld2
   refine nx_ (some 55) ?_
   refine zA (i:=9) (N:=some 53) (fl 16 20479) rfl rfl (by kernel_rfl) (by decide) (fun K hK=>?_)
   refine zN Tryz.func51 (by kernel_rfl) rfl #[.slice As sh.length cs] (by rfl) rfl rfl (by go_simp) ?_
   refine (zaO As sh.length cs HCS.out HLS.out _).mono ?_
   rintro e Wc ⟨rfl,rfl⟩
   refine ⟨_,rfl,?_⟩
   refine hK.out _ _ hHeld (fun _=>?_)
   clear hK K
   refine nx_ (some 53) ?_
   refine zA (i:=12) (N:=some 56) (fl 16 24575) rfl rfl (by kernel_rfl) (by decide) (fun K hK=>?_)
   refine zad rfl rfl rfl _ _ rfl As sh g55 1 rfl rfl (Kd.C_below Cs_6.out hHeld) B55.out HLS.out ?_
   intro v56 Wc hrow hbl
   obtain ⟨A56,c56,ev⟩:=Kd.R_slice hrow
   rw [List.length_append,List.length_singleton] at ev
   subst ev
   refine hK.out _ _ (zb hHeld hbl) (fun hHeld2=>?_)
   replace B11:=hhd (za B11.out hbl)
   replace B55:=hhd (za B55.out hbl)
   have L56:W6.heap.size≤_:=hHeld.size
   have R56:=hhd (Kd.R_lower hrow hHeld.size)
   clear hK K hHeld hbl hrow
   have hHeld:=hHeld2
   clear hHeld2
   refine nx_ (some 56) ?_
   refine px_ 13 (some 57) (fl 16 32767) rfl rfl ?_
   refine zA (i:=15) (N:=none) (fl 16 65535) rfl rfl (by kernel_rfl) (by decide) (fun K hK=>?_)
   refine zC rfl rfl 28 _ _ rfl g11 #[.slice A2 l.length c2,.int .i64 (wrap64 (exp+1)),.bool false,.slice A56 (sh.length+1) c56] rfl rfl 28 #[.slice none 0 0,.int .i64 0,.bool false,.slice none 0 0] B11.out (zD _ _ _ _) rfl (z7 _ _ _ _ _ _ _ _) ?_
   intro Wd hq hoth hbel
   have HBd:=hhd (hbel _ _ (Nat.le_trans (zj HB_6.out) L11) (zb HB_6.out hHeld))
   have D3_d:=hhd ((hoth _ (fun e=>by have:=zf B3_6.out;omega)).trans (za B3_6.out hHeld))
   have D4_d:=hhd ((hoth _ (fun e=>by have:=zf B4_6.out;omega)).trans (za B4_6.out hHeld))
   have D6_d:=hhd ((hoth _ (fun e=>by have:=zf B6_6.out;omega)).trans (za B6_6.out hHeld))
   have N6:=hhd (show g6≠g11 from fun e=>by have:=zf B6_6.out;omega)
   have N4:=hhd (show g4≠g11 from fun e=>by have:=zf B4_6.out;omega)
   have Ry_d:=hhd (zK (Kd.R_below Ry_6.out hHeld) hoth (fun e=>by have h1:=Kd.R_lt Ry_6.out g11 e.symm;omega))
   have R56_d:=hhd (zE rfl R56.out B11.out (by decide) hoth)
   refine hK.out _ _ (hbel _ _ L11 hHeld) (fun hHeld2=>?_)
   replace B11:=hhd hq
   clear hK K hq hoth hbel hHeld
   have hHeld:=hHeld2
   clear hHeld2
   refine zM (by kernel_rfl) ?_
 all_goals
  have kk:=(zc D3_d.out 3).trans rfl
  clear hHeld
  go_wp2_with (first
   | ((with_reducible refine zg (N:=75) rfl ?_);refine wpList_load_row rfl 28 _ rfl g11 rfl 28 #[.slice A2 l.length c2,.int .i64 (wrap64 (exp+1)),.bool false,.slice A56 (sh.length+1) c56] (0,0) _ B11.out Tryz.underlying28 rfl (zD _ _ _ _) ?_)
   | ((with_reducible refine zo (t:=28) (p:=6) rfl ?_);refine zv rfl 28 _ _ rfl g6 #[.slice A2 l.length c2,.int .i64 (wrap64 (exp+1)),.bool false,.slice A56 (sh.length+1) c56] rfl rfl 28 #[.slice none 0 0,.int .i64 0,.bool false,.slice none 0 0] D6_d.out (zD _ _ _ _) rfl (z7 _ _ _ _ _ _ _ _) ?_;intro We hq hoth hbel;have D6_e:=hhd hq;have HB_e:=hhd (hbel _ _ L6 HBd.out);have Ry_e:=hhd (zE rfl Ry_d.out D6_d.out (by decide) hoth);have R56_e:=hhd (zE rfl R56_d.out D6_d.out (by decide) hoth);clear hq hoth hbel))
  have HV:=hhd HEX.out
  clear kk
  refine bodyPost_ret (results_cell_row rfl _ _ g6 28 #[.slice A2 l.length c2,.int .i64 (wrap64 (exp+1)),.bool false,.slice A56 (sh.length+1) c56] (0,0) _ rfl D6_e.out Tryz.underlying28 rfl (zD _ _ _ _)) rfl ?_
  refine ⟨A2,c2,A56,c56,?_,Ry_e.out,Kd.R_lower R56_e.out (zj HB_6.out),HB_e.out⟩
  rw [HEX.out]
end Go.Proofs.YteieahbadclppaaGreat.P

namespace Go.Proofs.YteieahbadclppaaGreat.P
open Go.RowKit Go.Shelf Go.Proofs.YteieahbadclppaaGreatW.PrintWords Go.Proofs.YteieahbadclppaaGreatW.PrintLast Go.Proofs.YteieahbadclppaaGreatW.PrintMore
set_option linter.unusedVariables false
set_option linter.unusedSimpArgs false
section
variable {P:Program} {ops:Array Oper} {o:Oper} {a:Act} {Q:Exit→Act→World→Prop} {K:Act→World→Prop}
theorem zbn {W:World} (hw:Region.wanted o (yielded ops a.tmps)=true) (hN:o.dst=none) (ty:TypeId) (x y:Operand) (ho:o.op=.store ty x y) (g j:Nat) (v:Value) (hx:a.eval x=.pointer (some ⟨g,j,none⟩)) (hy:a.eval y=v)
  (t:TypeId) (old:Array Value) (hg:W.heap[g]?=some (.cells old t (0,0))) (hj:j < old.size) (hi:(P.info? ty).map (·.size)=some 1) (hv:v.cells.toList=[v]) (h1:v.oneCell'=true) (new:Array Value) (hnew:new=old.setIfInBounds j v)
  (h:∀w1,w1.heap[g]?=some (.cells new t (0,0))→(∀k,k≠g→w1.heap[k]?=W.heap[k]?)→(∀B w0,B≤g→Below B w0 W→Below B w0 w1)→K a w1) :
  if Region.wanted o (yielded ops a.tmps)=true then Oper.wp P o a W K Q else K (a.put none undef) W:=by
 rw [if_pos hw]
 have hr:(Instr.storeAt ty (.pointer (some ⟨g,j,none⟩)) v).run P W=.ok () (W.setCells g j [v]):=za8 ty v [v] hg hv hi (by simp;omega) (by simpa using h1)
 have e:W.setCells g j [v]=W.setCell ⟨g,j,none⟩ v:=rfl
 rw [e] at hr
 subst hnew
 unfold Oper.wp execOp
 simp only [ho,hx,hy,Sem.run_bind,Sem.run_pure,Result.andThen_ok,hr]
 show K (a.put o.dst undef) _
 rw [hN]
 exact h _ (zS hg j v rfl) (fun k hk=>Below.heap_setCell W ⟨g,j,none⟩ v k hk) (fun B w0 hB hb=>hb.setCell (p:=⟨g,j,none⟩) hB v)
end
end Go.Proofs.YteieahbadclppaaGreat.P

namespace Go.Proofs.YteieahbadclppaaGreat.P
open Go.RowKit Go.Shelf Go.Proofs.YteieahbadclppaaGreatW.PrintWords Go.Proofs.YteieahbadclppaaGreatW.PrintLast Go.Proofs.YteieahbadclppaaGreatW.PrintMore
attribute [local go_sem] zI zJ zO zP
set_option linter.unusedVariables false
set_option linter.unusedSimpArgs false
end Go.Proofs.YteieahbadclppaaGreat.P

namespace Go.Proofs.YteieahbadclppaaGreat.P
open Go.RowKit Go.Shelf Go.Proofs.YteieahbadclppaaGreatW.PrintWords Go.Proofs.YteieahbadclppaaGreatW.PrintLast Go.Proofs.YteieahbadclppaaGreatW.PrintMore
attribute [local go_sem] Oper.semAt_some
set_option linter.unusedVariables false
set_option linter.unusedSimpArgs false
section
variable {P:Program} {ops:Array Oper} {Q:Exit→Act→World→Prop}
theorem zdm {l n:Nat} (hL:¬LetsOut Q):∀(r:List Oper) (a:Act) (w:World),r.all zcB=true→wpList P ops Q r a w→wpListIn (Fence.wide.inRound l) n P ops Q r a w
 | [],_,_,_,h=>h
 | o :: r,a,w,hd,h=>by
  have hd1:zcB o=true∧r.all zcB=true:=by simpa using hd
  have ho:∀c,o.op≠.defer c:=fun c e=>by
   have h1:=hd1.1
   unfold zcB at h1
   rw [e] at h1
   cases h1
  unfold wpList at h
  unfold wpListIn
  by_cases hw:Region.wanted o (yielded ops a.tmps)=true
  ·rw [if_pos hw] at h ⊢
   rcases h with h3 | h3
   ·exact zeA ho (Oper.wp_mono (fun a' w'=>zdm hL r a' w' hd1.2) h3)
   ·exact absurd h3.2 hL
  ·rw [if_neg hw] at h ⊢
   exact ⟨fun _ _=>trivial,zdm hL r _ w hd1.2 h⟩
theorem zb8 {id n l:Nat} {r:List Oper} {a:Act} {w:World} (hd:r.all zcB=true) (hL:¬LetsOut Q) (h:wpList P r.toArray Q r a w):(Code.region id r.toArray false).wpIn (Fence.wide.inRound l) n P Q a w :=
 wpIn_region_lit (zdm hL r a w hd h)
end
theorem zdM {fn:Func} {t u:Tmp} (h:fn.results=#[.tmp t,.tmp u]) (tmps:Array Value) (P:Program) (w:World):(results fn tmps).run P w=.ok (.tuple #[tmps.getD t undef,tmps.getD u undef]) w:=by simp [results,h]
theorem zhk:(Tryz.prog.info? 22).map (·.size)=some 1:=by kernel_rfl

def zmO (A A2:Option Addr) (g g7 g8 g9 g10 g11 g12 g13 g20 gn gh:Nat) (l wl:List S38) (c c2 cap:Nat) (h bits s mode:Int) (inv:Bool) (m:Int) (w:World) (pre:List {p:Int×Int // p∈zU h m l.length}) (W:World):Prop :=
 (W.heap[g7]?=some (.cells #[.slice A l.length c] 22 (0,0))∧W.heap[g8]?=some (.cells #[.slice A2 wl.length c2] 22 (0,0))∧W.heap[g9]?=some (.cells #[.int .i64 h] 3 (0,0))∧W.heap[g10]?=some (.cells #[.int .i64 bits] 3 (0,0))∧W.heap[g11]?=some (.cells #[.int .i64 s] 3 (0,0))∧W.heap[g12]?=some (.cells #[.int .i64 mode] 3 (0,0))∧W.heap[g13]?=some (.cells #[.bool inv] 4 (0,0))∧W.heap[g20]?=some (.cells #[.slice (some ⟨g,0,none⟩) l.length cap] 22 (0,0))∧W.heap[gn]?=some (.cells #[.int .i64 l.length] 3 (0,0))∧W.heap[gh]?=some (.cells #[.int .i64 h] 3 (0,0))) ∧
 Kd.R k38 38 W w.heap.size (fun _=>True) (.slice (some ⟨g,0,none⟩) l.length cap) ((pre.map Subtype.val).foldl (zbJ l wl h bits s mode inv) l)∧Below w.heap.size w W
theorem za0 {W W':World} {row:Option Nat} {b t:Nat} {cs:Array Value} (h:W.heap[b]?=some (.cells cs t (0,0))) (hg:W.grownBy W' row) (hr:∀r,row=some r→∃o:Obj,W.heap[r]?=some o∧o.isCells=false):W'.heap[b]?=some (.cells cs t (0,0)) :=
 (hg.block b (zf h) (fun e=>by obtain ⟨o,ho,hc⟩:=hr b e.symm;rw [h] at ho;cases ho;cases hc)).trans h
theorem zeU {W W':World} {row:Option Nat} {base:Nat} {ok:Nat→Prop} {v:Value} {xs:List S38} (h:Kd.R k38 38 W base ok v xs) (hg:W.grownBy W' row) (hr:∀r,row=some r→∃o:Obj,W.heap[r]?=some o∧o.isCells=false):Kd.R k38 38 W' base ok v xs :=
 Kd.R_grown2 h rfl hg (fun k hk e=>by
  obtain ⟨o,ho,hc⟩:=hr k hk
  obtain ⟨cells,h2⟩:=Kd.R_typed h k e.symm
  rw [h2] at ho;cases ho;cases hc)
theorem zk1 {A A2:Option Addr} {g g7 g8 g9 g10 g11 g12 g13 g20 gn gh:Nat} {l wl:List S38} {c c2 cap:Nat} {h bits s mode:Int} {inv:Bool} {m:Int} {w W0:World} (hB:w.heap.size≤W0.heap.size):OwnFrom W0.heap.size (zmO A A2 g g7 g8 g9 g10 g11 g12 g13 g20 gn gh l wl c c2 cap h bits s mode inv m w):=by
 rintro pre W W' row ⟨⟨h7,h8,h9,h10,h11,h12,h13,h20,hn,hh⟩,hR,hb⟩ hg hr
 have hr2:∀r,row=some r→∃o:Obj,W.heap[r]?=some o∧o.isCells=false:=fun r e=>(hr r e).2
 exact ⟨⟨za0 h7 hg hr2,za0 h8 hg hr2,za0 h9 hg hr2,za0 h10 hg hr2,za0 h11 hg hr2,za0 h12 hg hr2,za0 h13 hg hr2,za0 h20 hg hr2,za0 hn hg hr2,za0 hh hg hr2⟩,zeU hR hg hr2,hb.grown hg hb.size (fun k e=>Nat.le_trans hB (hr k e).1)⟩
set_option maxRecDepth 100000 in
set_option maxHeartbeats 8000000 in
theorem ze5 (A A2:Option Addr) (c c2:Nat) (l wl:List S38) (h bits s mode m mm lg:Int) (inv:Bool) (w:World)
  (hr:Kd.C k38 w A l.length l) (hc:l.length≤c) (hs:Kd.C k38 w A2 wl.length wl) (hc2:wl.length≤c2) (hlen:wl.length=l.length) (hn0:0 < l.length) (hn:l.length≤64)
  (hlog:flip_Log.f 10 l.length=some (lg,0)) (h1:1≤h) (h2:h < l.length) (hpow:Go.bits .and .i64 h (h - 1)=0) (hset:two_settings.f bits s mode=some true) (b0:0≤bits) (b1:bits≤40) (hmm:mm=2^bits.toNat)
  (b2:bits≤29) (s0:0≤s) (s1:s≤3) (mo0:0≤mode) (mo1:mode < 3)
  (hx:∀x,x∈l→inB 2147483648 x=true) (hw:∀x,x∈wl→inB mm x=true) (hm:m=l.length / (2*h))
  (hidx:∀p,p∈zU h m l.length→0≤p.1∧p.1+h < l.length∧0≤p.2∧p.2 < l.length) :
  Calls Tryz.prog 49 #[.slice A l.length c,.slice A2 wl.length c2,.int .i64 h,.int .i64 bits,.int .i64 s,.int .i64 mode,.bool inv] w fun e w'=>∃v,e=.returned (.tuple #[v,.int .i64 0])∧Kd.R k38 38 w' w.heap.size (fun _=>True) v (zdl l wl h bits s mode inv m l.length)∧Below w.heap.size w w':=by
 have hmx:Tryz.prog.follows .mixedOrders=true:=by kernel_rfl
 have HCL:=hhd (show api_Cx_79.f l=some l by unfold api_Cx_79.f api_Cx_79a.f;rw [Option.bind_some,if_pos (by simp;omega)];rfl)
 have HR:=hhd hr
 have HS:=hhd hs
 have HC:=hhd hc
 have HC2:=hhd hc2
 have HX:=hhd hx
 have HW:=hhd hw
 have HNE:=hhd hn0
 have HLOG:=hhd hlog
 have HSET:=hhd hset
 have HI:=hhd hidx
 have HM:=hhd hm
 have HLN:=hhd hlen
 have HN:=hhd hn
 have q1:(h < 1)=False:=eq_false (by omega)
 have q2:((l.length:Int)≤h)=False:=eq_false (by omega)
 have q3:wrap64 (h - 1)=h - 1:=by unfold wrap64;omega
 have q4:(wl.length:Int)=(l.length:Int):=by omega
 have q1':decide (h < 1)=false:=decide_eq_false (by omega)
 have q2':decide ((l.length:Int)≤h)=false:=decide_eq_false (by omega)
 have HB0:=hhd (Below.refl w.heap.size w)
 have HH:=hhd (And.intro h1 h2)
 clear hr hs hc hc2 hx hw hlog hset hidx hm hlen hn hn0 h1 h2
 refine (callsIn_wide (n:=10)).1 ?_
 refine callsIn_of_wp_marks Tryz.func49 rfl trivial ?_ rfl
 simp only [Tryz.ntmps49,List.size_toArray,List.length_cons,List.length_nil,Nat.reduceAdd,Nat.reduceSub,Array.replicate_succ,Array.replicate_zero,List.push_toArray,List.append_toArray,List.nil_append,List.cons_append]
 refine wpIn_wide.2 ?_
 go_wp2_with (first
  | ((with_reducible refine zg (N:=7) rfl ?_);refine ba_ 7 #[.slice A l.length c] 22 ?_;intro g7 hg W1 hbox hbl;have L7:=gf_ hg HB0.out;have B7_1:=hhd hbox;have HB_1:=hhd (zb HB0.out hbl);have Cx_1:=hhd (Kd.C_below HR.out HB_1.out);have Cy_1:=hhd (Kd.C_below HS.out HB_1.out);have k7_0_1:=bk1 B7_1.out;clear hbox hbl hg)
  | ((with_reducible refine zg (N:=8) rfl ?_);refine ba_ 8 #[.slice A2 wl.length c2] 22 ?_;intro g8 hg W2 hbox hbl;have L8:=gf_ hg HB_1.out;have B8_2:=hhd hbox;have HB_2:=hhd (zb HB_1.out hbl);have B7_2:=hhd (za B7_1.out hbl);have Cx_2:=hhd (Kd.C_below HR.out HB_2.out);have Cy_2:=hhd (Kd.C_below HS.out HB_2.out);have k7_0_2:=bk1 B7_2.out;clear k7_0_1;have k8_0_2:=bk1 B8_2.out;clear hbox hbl hg)
  | ((with_reducible refine zg (N:=9) rfl ?_);refine ba_ 9 #[.int .i64 h] 3 ?_;intro g9 hg W3 hbox hbl;have L9:=gf_ hg HB_2.out;have B9_3:=hhd hbox;have HB_3:=hhd (zb HB_2.out hbl);have B7_3:=hhd (za B7_2.out hbl);have B8_3:=hhd (za B8_2.out hbl);have Cx_3:=hhd (Kd.C_below HR.out HB_3.out);have Cy_3:=hhd (Kd.C_below HS.out HB_3.out);have k7_0_3:=bk1 B7_3.out;have k8_0_3:=bk1 B8_3.out;clear k7_0_2 k8_0_2;have k9_0_3:=bk1 B9_3.out;clear hbox hbl hg)
  | ((with_reducible refine zg (N:=10) rfl ?_);refine ba_ 10 #[.int .i64 bits] 3 ?_;intro g10 hg W4 hbox hbl;have L10:=gf_ hg HB_3.out;have B10_4:=hhd hbox;have HB_4:=hhd (zb HB_3.out hbl);have B7_4:=hhd (za B7_3.out hbl);have B8_4:=hhd (za B8_3.out hbl);have B9_4:=hhd (za B9_3.out hbl);have Cx_4:=hhd (Kd.C_below HR.out HB_4.out);have Cy_4:=hhd (Kd.C_below HS.out HB_4.out);have k7_0_4:=bk1 B7_4.out;have k8_0_4:=bk1 B8_4.out;have k9_0_4:=bk1 B9_4.out;clear k7_0_3 k8_0_3 k9_0_3;have k10_0_4:=bk1 B10_4.out;clear hbox hbl hg)
  | ((with_reducible refine zg (N:=11) rfl ?_);refine ba_ 11 #[.int .i64 s] 3 ?_;intro g11 hg W5 hbox hbl;have L11:=gf_ hg HB_4.out;have B11_5:=hhd hbox;have HB_5:=hhd (zb HB_4.out hbl);have B7_5:=hhd (za B7_4.out hbl);have B8_5:=hhd (za B8_4.out hbl);have B9_5:=hhd (za B9_4.out hbl);have B10_5:=hhd (za B10_4.out hbl);have Cx_5:=hhd (Kd.C_below HR.out HB_5.out);have Cy_5:=hhd (Kd.C_below HS.out HB_5.out);have k7_0_5:=bk1 B7_5.out;have k8_0_5:=bk1 B8_5.out;have k9_0_5:=bk1 B9_5.out;have k10_0_5:=bk1 B10_5.out;clear k7_0_4 k8_0_4 k9_0_4 k10_0_4;have k11_0_5:=bk1 B11_5.out;clear hbox hbl hg)
  | ((with_reducible refine zg (N:=12) rfl ?_);refine ba_ 12 #[.int .i64 mode] 3 ?_;intro g12 hg W6 hbox hbl;have L12:=gf_ hg HB_5.out;have B12_6:=hhd hbox;have HB_6:=hhd (zb HB_5.out hbl);have B7_6:=hhd (za B7_5.out hbl);have B8_6:=hhd (za B8_5.out hbl);have B9_6:=hhd (za B9_5.out hbl);have B10_6:=hhd (za B10_5.out hbl);have B11_6:=hhd (za B11_5.out hbl);have Cx_6:=hhd (Kd.C_below HR.out HB_6.out);have Cy_6:=hhd (Kd.C_below HS.out HB_6.out);have k7_0_6:=bk1 B7_6.out;have k8_0_6:=bk1 B8_6.out;have k9_0_6:=bk1 B9_6.out;have k10_0_6:=bk1 B10_6.out;have k11_0_6:=bk1 B11_6.out;clear k7_0_5 k8_0_5 k9_0_5 k10_0_5 k11_0_5;have k12_0_6:=bk1 B12_6.out;clear hbox hbl hg)
  | ((with_reducible refine zg (N:=13) rfl ?_);refine ba_ 13 #[.bool inv] 4 ?_;intro g13 hg W7 hbox hbl;have L13:=gf_ hg HB_6.out;have B13_7:=hhd hbox;have HB_7:=hhd (zb HB_6.out hbl);have B7_7:=hhd (za B7_6.out hbl);have B8_7:=hhd (za B8_6.out hbl);have B9_7:=hhd (za B9_6.out hbl);have B10_7:=hhd (za B10_6.out hbl);have B11_7:=hhd (za B11_6.out hbl);have B12_7:=hhd (za B12_6.out hbl);have Cx_7:=hhd (Kd.C_below HR.out HB_7.out);have Cy_7:=hhd (Kd.C_below HS.out HB_7.out);have k7_0_7:=bk1 B7_7.out;have k8_0_7:=bk1 B8_7.out;have k9_0_7:=bk1 B9_7.out;have k10_0_7:=bk1 B10_7.out;have k11_0_7:=bk1 B11_7.out;have k12_0_7:=bk1 B12_7.out;clear k7_0_6 k8_0_6 k9_0_6 k10_0_6 k11_0_6 k12_0_6;have k13_0_7:=bk1 B13_7.out;clear hbox hbl hg)
  | (go_at_call 40;(with_reducible refine (flip_Log.calls 10 _ _ _ _ HLOG.out).mono ?_);rintro e W8 ⟨rfl,hd⟩;have hb:=hd.below;clear hd;have HB_8:=hhd (zb HB_7.out hb);have B7_8:=hhd (za B7_7.out hb);have B8_8:=hhd (za B8_7.out hb);have B9_8:=hhd (za B9_7.out hb);have B10_8:=hhd (za B10_7.out hb);have B11_8:=hhd (za B11_7.out hb);have B12_8:=hhd (za B12_7.out hb);have B13_8:=hhd (za B13_7.out hb);have Cx_8:=hhd (Kd.C_below HR.out HB_8.out);have Cy_8:=hhd (Kd.C_below HS.out HB_8.out);have k7_0_8:=bk1 B7_8.out;have k8_0_8:=bk1 B8_8.out;have k9_0_8:=bk1 B9_8.out;have k10_0_8:=bk1 B10_8.out;have k11_0_8:=bk1 B11_8.out;have k12_0_8:=bk1 B12_8.out;have k13_0_8:=bk1 B13_8.out;clear k7_0_7 k8_0_7 k9_0_7 k10_0_7 k11_0_7 k12_0_7 k13_0_7;clear hb)
  | (go_at_call 78;(with_reducible refine (two_settings.calls bits s mode true _ HSET.out).mono ?_);rintro e W9 ⟨rfl,hb⟩;have HB_9:=hhd (zb HB_8.out hb);have B7_9:=hhd (za B7_8.out hb);have B8_9:=hhd (za B8_8.out hb);have B9_9:=hhd (za B9_8.out hb);have B10_9:=hhd (za B10_8.out hb);have B11_9:=hhd (za B11_8.out hb);have B12_9:=hhd (za B12_8.out hb);have B13_9:=hhd (za B13_8.out hb);have Cx_9:=hhd (Kd.C_below HR.out HB_9.out);have Cy_9:=hhd (Kd.C_below HS.out HB_9.out);have k7_0_9:=bk1 B7_9.out;have k8_0_9:=bk1 B8_9.out;have k9_0_9:=bk1 B9_9.out;have k10_0_9:=bk1 B10_9.out;have k11_0_9:=bk1 B11_9.out;have k12_0_9:=bk1 B12_9.out;have k13_0_9:=bk1 B13_9.out;clear k7_0_8 k8_0_8 k9_0_8 k10_0_8 k11_0_8 k12_0_8 k13_0_8;clear hb)
  | (go_at_call 43;(with_reducible refine (zg3 A c l _ Cx_9.out HC.out HX.out).mono ?_);rintro e W10 ⟨rfl,hb⟩;have HB_10:=hhd (zb HB_9.out hb);have B7_10:=hhd (za B7_9.out hb);have B8_10:=hhd (za B8_9.out hb);have B9_10:=hhd (za B9_9.out hb);have B10_10:=hhd (za B10_9.out hb);have B11_10:=hhd (za B11_9.out hb);have B12_10:=hhd (za B12_9.out hb);have B13_10:=hhd (za B13_9.out hb);have Cx_10:=hhd (Kd.C_below HR.out HB_10.out);have Cy_10:=hhd (Kd.C_below HS.out HB_10.out);have k7_0_10:=bk1 B7_10.out;have k8_0_10:=bk1 B8_10.out;have k9_0_10:=bk1 B9_10.out;have k10_0_10:=bk1 B10_10.out;have k11_0_10:=bk1 B11_10.out;have k12_0_10:=bk1 B12_10.out;have k13_0_10:=bk1 B13_10.out;clear k7_0_9 k8_0_9 k9_0_9 k10_0_9 k11_0_9 k12_0_9 k13_0_9;clear hb)
  | (go_at_call 43;(with_reducible refine (zg5 A2 c2 wl g10 bits mm b0 b1 hmm _ Cy_10.out HC2.out B10_10.out HW.out).mono ?_);rintro e W11 ⟨rfl,hb⟩;have HB_11:=hhd (zb HB_10.out hb);have B7_11:=hhd (za B7_10.out hb);have B8_11:=hhd (za B8_10.out hb);have B9_11:=hhd (za B9_10.out hb);have B10_11:=hhd (za B10_10.out hb);have B11_11:=hhd (za B11_10.out hb);have B12_11:=hhd (za B12_10.out hb);have B13_11:=hhd (za B13_10.out hb);have Cx_11:=hhd (Kd.C_below HR.out HB_11.out);have Cy_11:=hhd (Kd.C_below HS.out HB_11.out);have k7_0_11:=bk1 B7_11.out;have k8_0_11:=bk1 B8_11.out;have k9_0_11:=bk1 B9_11.out;have k10_0_11:=bk1 B10_11.out;have k11_0_11:=bk1 B11_11.out;have k12_0_11:=bk1 B12_11.out;have k13_0_11:=bk1 B13_11.out;clear k7_0_10 k8_0_10 k9_0_10 k10_0_10 k11_0_10 k12_0_10 k13_0_10;clear hb)
  | (go_at_call 79;(refine (api_Cx_79.calls A c l l _ Cx_11.out HC.out HCL.out).mono ?_);rintro e W12 ⟨v20,rfl,ho,hb⟩;obtain ⟨g,cap,hv,hg1,hg2,_⟩:=Kd.R_form ho HNE.out;subst hv;have LG:w.heap.size≤g:=Nat.le_trans (zj HB_11.out) hg1;have Rout_12:=hhd (Kd.R_lower ho (zj HB_11.out));have HB_12:=hhd (zb HB_11.out hb);have B7_12:=hhd (za B7_11.out hb);have B8_12:=hhd (za B8_11.out hb);have B9_12:=hhd (za B9_11.out hb);have B10_12:=hhd (za B10_11.out hb);have B11_12:=hhd (za B11_11.out hb);have B12_12:=hhd (za B12_11.out hb);have B13_12:=hhd (za B13_11.out hb);have Cx_12:=hhd (Kd.C_below HR.out HB_12.out);have Cy_12:=hhd (Kd.C_below HS.out HB_12.out);have k7_0_12:=bk1 B7_12.out;have k8_0_12:=bk1 B8_12.out;have k9_0_12:=bk1 B9_12.out;have k10_0_12:=bk1 B10_12.out;have k11_0_12:=bk1 B11_12.out;have k12_0_12:=bk1 B12_12.out;have k13_0_12:=bk1 B13_12.out;clear k7_0_11 k8_0_11 k9_0_11 k10_0_11 k11_0_11 k12_0_11 k13_0_11;clear hb ho hg1 hg2)
  | ((with_reducible refine zg (N:=20) rfl ?_);refine ba_ 20 #[.slice none 0 0] 22 ?_;intro g20 hg W13 hbox hbl;have L20:=gf_ hg HB_12.out;have B20_13:=hhd hbox;have HB_13:=hhd (zb HB_12.out hbl);have B7_13:=hhd (za B7_12.out hbl);have B8_13:=hhd (za B8_12.out hbl);have B9_13:=hhd (za B9_12.out hbl);have B10_13:=hhd (za B10_12.out hbl);have B11_13:=hhd (za B11_12.out hbl);have B12_13:=hhd (za B12_12.out hbl);have B13_13:=hhd (za B13_12.out hbl);have Rout_13:=hhd (Kd.R_below Rout_12.out hbl);have Cx_13:=hhd (Kd.C_below HR.out HB_13.out);have Cy_13:=hhd (Kd.C_below HS.out HB_13.out);have k7_0_13:=bk1 B7_13.out;have k8_0_13:=bk1 B8_13.out;have k9_0_13:=bk1 B9_13.out;have k10_0_13:=bk1 B10_13.out;have k11_0_13:=bk1 B11_13.out;have k12_0_13:=bk1 B12_13.out;have k13_0_13:=bk1 B13_13.out;clear k7_0_12 k8_0_12 k9_0_12 k10_0_12 k11_0_12 k12_0_12 k13_0_12;have k20_0_13:=bk1 B20_13.out;have N20_7:=hhd (show g7≠g20 from by have:=zf B7_12.out;omega);have N20_8:=hhd (show g8≠g20 from by have:=zf B8_12.out;omega);have NR20:=hhd (show some g20≠_ from by rw [hg];exact Kd.R_ne_new Rout_12.out 0);clear hbox hbl hg)
  | ((with_reducible refine zo (t:=22) (p:=20) rfl ?_);refine zd7 rfl rfl 22 _ _ rfl g20 (.slice (some ⟨g,0,none⟩) l.length cap) rfl rfl 22 _ B20_13.out zhk rfl rfl ?_;intro W14 hq hoth hbel;have B20_14:=hhd hq;have HB_14:=hhd (hbel _ _ L20 HB_13.out);have ne_9:g9≠g20:=(fun e=>by have h1:=B9_13.out;rw [e] at h1;have h2:=h1.symm.trans B20_13.out;simp at h2);have ne_10:g10≠g20:=(fun e=>by have h1:=B10_13.out;rw [e] at h1;have h2:=h1.symm.trans B20_13.out;simp at h2);have ne_11:g11≠g20:=(fun e=>by have h1:=B11_13.out;rw [e] at h1;have h2:=h1.symm.trans B20_13.out;simp at h2);have ne_12:g12≠g20:=(fun e=>by have h1:=B12_13.out;rw [e] at h1;have h2:=h1.symm.trans B20_13.out;simp at h2);have ne_13:g13≠g20:=(fun e=>by have h1:=B13_13.out;rw [e] at h1;have h2:=h1.symm.trans B20_13.out;simp at h2);have ne_7:g7≠g20:=(fun e=>by have h1:=N20_7.out;exact h1 e);have ne_8:g8≠g20:=(fun e=>by have h1:=N20_8.out;exact h1 e);have B7_14:=hhd ((hoth _ (ne_7)).trans B7_13.out);have B8_14:=hhd ((hoth _ (ne_8)).trans B8_13.out);have B9_14:=hhd ((hoth _ (ne_9)).trans B9_13.out);have B10_14:=hhd ((hoth _ (ne_10)).trans B10_13.out);have B11_14:=hhd ((hoth _ (ne_11)).trans B11_13.out);have B12_14:=hhd ((hoth _ (ne_12)).trans B12_13.out);have B13_14:=hhd ((hoth _ (ne_13)).trans B13_13.out);have Rout_14:=hhd (zK Rout_13.out hoth NR20.out);have k7_0_14:=bk1 B7_14.out;have k8_0_14:=bk1 B8_14.out;have k9_0_14:=bk1 B9_14.out;have k10_0_14:=bk1 B10_14.out;have k11_0_14:=bk1 B11_14.out;have k12_0_14:=bk1 B12_14.out;have k13_0_14:=bk1 B13_14.out;clear k7_0_13 k8_0_13 k9_0_13 k10_0_13 k11_0_13 k12_0_13 k13_0_13 k20_0_13;have k20_0_14:=bk1 B20_14.out;clear hq hoth hbel)
  | (go_at_call 80;( refine (zjY l.length h _).mono ?_);rintro e W15 ⟨gn,gh,rfl,hbn,hbh,Ln,Lh,hb⟩;have HB_15:=hhd (zb HB_14.out hb);have B7_15:=hhd (za B7_14.out hb);have B8_15:=hhd (za B8_14.out hb);have B9_15:=hhd (za B9_14.out hb);have B10_15:=hhd (za B10_14.out hb);have B11_15:=hhd (za B11_14.out hb);have B12_15:=hhd (za B12_14.out hb);have B13_15:=hhd (za B13_14.out hb);have B20_15:=hhd (za B20_14.out hb);have Rout_15:=hhd (Kd.R_below Rout_14.out hb);have Cx_15:=hhd (Kd.C_below HR.out HB_15.out);have Cy_15:=hhd (Kd.C_below HS.out HB_15.out);have k7_0_15:=bk1 B7_15.out;have k8_0_15:=bk1 B8_15.out;have k9_0_15:=bk1 B9_15.out;have k10_0_15:=bk1 B10_15.out;have k11_0_15:=bk1 B11_15.out;have k12_0_15:=bk1 B12_15.out;have k13_0_15:=bk1 B13_15.out;have k20_0_15:=bk1 B20_15.out;clear k7_0_14 k8_0_14 k9_0_14 k10_0_14 k11_0_14 k12_0_14 k13_0_14 k20_0_14;have Bn:=hhd hbn;have Bh:=hhd hbh;clear hbn hbh;clear hb))
 refine (wpIn_wide (n:=10)).1 ?_
 refine wpIn_rangeFunc_ownF rfl (by decide) (gf:=106) (lb:=#[.pointer (some ⟨gn,0,none⟩),.pointer (some ⟨gh,0,none⟩)]) rfl trivial (enters_of Tryz.func106 (by kernel_rfl) rfl)
  (zia 9 (by decide) gn gh l.length h m (by have:=HN.out;omega) (by have:=HH.out.1;omega) (by have:=HH.out.2;have:=HN.out;omega) HM.out _ Bn.out Bh.out) zjU (zjV (zf Bn.out) (zf Bh.out)) (Below.refl _ _) (fun _=>rfl)
  (fun pre W=>zmO A A2 g g7 g8 g9 g10 g11 g12 g13 g20 gn gh l wl c c2 cap h bits s mode inv m w pre W)
  (fun _ _ _=>False)
  (zk1 (zj HB_15.out))
  (fun _ _ _ _ _ hs _ _=>hs)
  ⟨⟨B7_15.out,B8_15.out,B9_15.out,B10_15.out,B11_15.out,B12_15.out,B13_15.out,B20_15.out,Bn.out,Bh.out⟩,Rout_15.out,HB_15.out⟩ ?a1 ?assign ?body ?done ?stop
 case assign =>
  intro l x W K hK
  gi_wp2
  exact hK
 case body =>
  rintro lY pre ⟨p,hp⟩ W ⟨⟨h7,h8,h9,h10,h11,h12,h13,h20,hn,hh⟩,hR,hB⟩ hlt
  obtain ⟨i0,i1,i2,i3⟩:=HI.out p hp
  have hC1:=Kd.C_below HR.out hB
  have hC2:=Kd.C_below HS.out hB
  have e1:=HLN.out
  have e2:=HH.out
  have e3:=HN.out
  obtain ⟨ad,rfl,x0,x1⟩:=zam hC1 p.1 i0 (by omega)
  obtain ⟨ad',e4,x2,x3⟩:=zam hC1 (p.1+h) (by omega) (by omega)
  obtain rfl:=Option.some.inj e4
  obtain ⟨ad2,rfl,z0,z1⟩:=zam hC2 p.2 i2 (by omega)
  have ha0:inB 2147483648 (zk l p.1)=true:=by have:=zbl HX.out p.1.toNat (by omega);rwa [Int.toNat_of_nonneg i0] at this
  have ha1:inB 2147483648 (zk l (p.1+h))=true:=by have:=zbl HX.out (p.1+h).toNat (by omega);rwa [Int.toNat_of_nonneg (by omega)] at this
  have hrr:inB mm (zk wl p.2)=true:=by have:=zbl HW.out p.2.toNat (by omega);rwa [Int.toNat_of_nonneg i2] at this
  have hmm1:mm≤1073741823:=by
   have hp:=zau (a:=bits.toNat) (b:=29) (by omega)
   rw [hmm]
   have:(2:Int)^29=536870912:=by decide
   omega
  have hr30:inB 1073741824 (zk wl p.2)=true:=by obtain ⟨c0,c1,c2,c3⟩:=zan hrr;exact zbe (by omega)
  have HWD:=hhd (show zbW (zk wl p.2)=true by obtain ⟨c0,c1,c2,c3⟩:=zan hr30;exact decide_eq_true (by omega))
  have hv30:inB 1073741824 (zH inv (zk wl p.2))=true:=by
   obtain ⟨c0,c1,c2,c3⟩:=zan hr30
   unfold zH
   split
   ·have e:wrap64 (-(zk wl p.2).f1)=-(zk wl p.2).f1:=by unfold wrap64;omega
    exact zbe (by dsimp only;rw [e];omega)
   ·exact hr30
  have HP:=hhd (zk0 (zk l p.1) (zk l (p.1+h)) (zH inv (zk wl p.2)) bits s mode ha1 hv30 b0 b2 s0 s1 mo0 mo1)
  have HQ:=hhd (show ∀Y:List S38,zbJ l wl h bits s mode inv Y p=(Y.set p.1.toNat (zao (zk l p.1) (zk l (p.1+h)) (zH inv (zk wl p.2)) bits s mode).1).set (p.1+h).toNat (zao (zk l p.1) (zk l (p.1+h)) (zH inv (zk wl p.2)) bits s mode).2 from fun _=>rfl)
  have HPRE:=hhd (show ((pre++[(⟨p,hp⟩:{p:Int×Int // p∈zU h m l.length})]).map Subtype.val).foldl (zbJ l wl h bits s mode inv) l=zbJ l wl h bits s mode inv ((pre.map Subtype.val).foldl (zbJ l wl h bits s mode inv) l) p by rw [List.map_append,List.foldl_append];rfl)
  have hY:=zdL l wl h bits s mode inv (pre.map Subtype.val) l
  have w1:wrap64 (p.1+h)=p.1+h:=by unfold wrap64;omega
  have l1:p.1 < l.length:=by omega
  have i4:0≤p.1+h:=by omega
  have l2:p.2 < wl.length:=by omega
  generalize (pre.map Subtype.val).foldl (zbJ l wl h bits s mode inv) l=Y at *
  generalize zk l p.1=a0 at *
  generalize zk l (p.1+h)=a1 at *
  generalize zk wl p.2=r at *
  have E7:=hhd h7
  have E8:=hhd h8
  have E9:=hhd h9
  have E10:=hhd h10
  have E11:=hhd h11
  have E12:=hhd h12
  have E13:=hhd h13
  have E20:=hhd h20
  have En:=hhd hn
  have Eh:=hhd hh
  have ER:=hhd hR
  have EB:=hhd hB
  have HBs:=hhd (Below.refl W.heap.size W)
  have k7:W.cell? ⟨g7,0,none⟩=some (.slice (some ad) l.length c):=(zc h7 0).trans rfl
  have k8:W.cell? ⟨g8,0,none⟩=some (.slice (some ad2) wl.length c2):=(zc h8 0).trans rfl
  have k9:=(zc h9 0).trans rfl
  have k10:=(zc h10 0).trans rfl
  have k11:=(zc h11 0).trans rfl
  have k12:=(zc h12 0).trans rfl
  have k13:=(zc h13 0).trans rfl
  have k20:=(zc h20 0).trans rfl
  have kn:=(zc hn 0).trans rfl
  have kh:=(zc hh 0).trans rfl
  clear h7 h8 h9 h10 h11 h12 h13 h20 hn hh hR hB hC1 hC2 e1 e2 e3 ha0 ha1 hrr hmm1 hr30 hv30 k7_0_15 k8_0_15 k9_0_15 k10_0_15 k11_0_15 k12_0_15 k13_0_15 k20_0_15
  cases inv with
  | true =>
   refine wpIn_block ?_
   refine wpIn_seq ?_
   refine zb8 (by kernel_rfl) (fun ⟨_,_,q⟩=>q) ?_
   go_wp2_with (first
    | ((with_reducible refine zg (N:=23) rfl ?_);refine ba_ 23 #[.int .i64 0,.int .i64 0] 38 ?_;intro g23 hg W1 hbox hbl;have L23:W.heap.size≤g23:=(by rw [hg];exact zj HBs.out);have B23_1:=hhd hbox;have HB_1:=hhd (zb HBs.out hbl);have B7_1:=hhd (za E7.out hbl);have B8_1:=hhd (za E8.out hbl);have B9_1:=hhd (za E9.out hbl);have B10_1:=hhd (za E10.out hbl);have B11_1:=hhd (za E11.out hbl);have B12_1:=hhd (za E12.out hbl);have B13_1:=hhd (za E13.out hbl);have B20_1:=hhd (za E20.out hbl);have Bn_1:=hhd (za En.out hbl);have Bh_1:=hhd (za Eh.out hbl);have Rout_1:=hhd (Kd.R_below ER.out hbl);have k7_0_1:=bk1 B7_1.out;have k8_0_1:=bk1 B8_1.out;have k9_0_1:=bk1 B9_1.out;have k10_0_1:=bk1 B10_1.out;have k11_0_1:=bk1 B11_1.out;have k12_0_1:=bk1 B12_1.out;have k13_0_1:=bk1 B13_1.out;have k20_0_1:=bk1 B20_1.out;have kn_0_1:=bk1 Bn_1.out;have kh_0_1:=bk1 Bh_1.out;clear k7 k8 k9 k10 k11 k12 k13 k20 kn kh;obtain ⟨k23_0_1,k23_1_1⟩:=bk2 B23_1.out;have ne23_7:g7≠g23:=(fun e=>by have:=zf E7.out;rw [hg] at e;omega);have ne23_8:g8≠g23:=(fun e=>by have:=zf E8.out;rw [hg] at e;omega);have ne23_9:g9≠g23:=(fun e=>by have:=zf E9.out;rw [hg] at e;omega);have ne23_10:g10≠g23:=(fun e=>by have:=zf E10.out;rw [hg] at e;omega);have ne23_11:g11≠g23:=(fun e=>by have:=zf E11.out;rw [hg] at e;omega);have ne23_12:g12≠g23:=(fun e=>by have:=zf E12.out;rw [hg] at e;omega);have ne23_13:g13≠g23:=(fun e=>by have:=zf E13.out;rw [hg] at e;omega);have ne23_20:g20≠g23:=(fun e=>by have:=zf E20.out;rw [hg] at e;omega);have ne23_n:gn≠g23:=(fun e=>by have:=zf En.out;rw [hg] at e;omega);have ne23_h:gh≠g23:=(fun e=>by have:=zf Eh.out;rw [hg] at e;omega);have NR23:=hhd (show some g23≠_ from by rw [hg];exact Kd.R_ne_new ER.out 0);clear hbox hbl hg)
    | ((with_reducible refine zo (t:=38) (p:=23) rfl ?_);refine zv rfl 38 _ _ rfl g23 #[.int .i64 r.f0,.int .i64 r.f1] rfl rfl 38 #[.int .i64 0,.int .i64 0] B23_1.out (zu _ _) rfl (zG _ _) ?_;intro W2 hq hoth hbel;have B23_2:=hhd hq;have HB_2:=hhd (hbel _ _ L23 HB_1.out);have B7_2:=hhd ((hoth _ (ne23_7)).trans B7_1.out);have B8_2:=hhd ((hoth _ (ne23_8)).trans B8_1.out);have B9_2:=hhd ((hoth _ (ne23_9)).trans B9_1.out);have B10_2:=hhd ((hoth _ (ne23_10)).trans B10_1.out);have B11_2:=hhd ((hoth _ (ne23_11)).trans B11_1.out);have B12_2:=hhd ((hoth _ (ne23_12)).trans B12_1.out);have B13_2:=hhd ((hoth _ (ne23_13)).trans B13_1.out);have B20_2:=hhd ((hoth _ (ne23_20)).trans B20_1.out);have Bn_2:=hhd ((hoth _ (ne23_n)).trans Bn_1.out);have Bh_2:=hhd ((hoth _ (ne23_h)).trans Bh_1.out);have Rout_2:=hhd (zK Rout_1.out hoth NR23.out);have k7_0_2:=bk1 B7_2.out;have k8_0_2:=bk1 B8_2.out;have k9_0_2:=bk1 B9_2.out;have k10_0_2:=bk1 B10_2.out;have k11_0_2:=bk1 B11_2.out;have k12_0_2:=bk1 B12_2.out;have k13_0_2:=bk1 B13_2.out;have k20_0_2:=bk1 B20_2.out;have kn_0_2:=bk1 Bn_2.out;have kh_0_2:=bk1 Bh_2.out;clear k7_0_1 k8_0_1 k9_0_1 k10_0_1 k11_0_1 k12_0_1 k13_0_1 k20_0_1 kn_0_1 kh_0_1 k23_0_1 k23_1_1;obtain ⟨k23_0_2,k23_1_2⟩:=bk2 B23_2.out;clear hq hoth hbel))
   refine wpIn_seq ?_
   refine wpIn_seq ?_
   refine zb8 (by kernel_rfl) (fun ⟨_,_,q⟩=>q) ?_
   go_wp2
   refine wpIn_cond_true rfl ?_
   refine zb8 (by kernel_rfl) (fun ⟨_,_,q⟩=>q) ?_
   go_wp2_with (first
    | ((with_reducible refine zg (N:=89) rfl ?_);refine wpList_load_row rfl 38 _ rfl g23 rfl 38 #[.int .i64 r.f0,.int .i64 r.f1] (0,0) _ B23_2.out Tryz.underlying38 rfl (zu _ _) ?_)
    | (go_at_call 58;(with_reducible refine (zfc r HWD.out _).mono ?_);rintro e W3 ⟨rfl,hb⟩;have HB_3:=hhd (zb HB_2.out hb);have B7_3:=hhd (za B7_2.out hb);have B8_3:=hhd (za B8_2.out hb);have B9_3:=hhd (za B9_2.out hb);have B10_3:=hhd (za B10_2.out hb);have B11_3:=hhd (za B11_2.out hb);have B12_3:=hhd (za B12_2.out hb);have B13_3:=hhd (za B13_2.out hb);have B20_3:=hhd (za B20_2.out hb);have Bn_3:=hhd (za Bn_2.out hb);have Bh_3:=hhd (za Bh_2.out hb);have B23_3:=hhd (za B23_2.out hb);have Rout_3:=hhd (Kd.R_below Rout_2.out hb);have k7_0_3:=bk1 B7_3.out;have k8_0_3:=bk1 B8_3.out;have k9_0_3:=bk1 B9_3.out;have k10_0_3:=bk1 B10_3.out;have k11_0_3:=bk1 B11_3.out;have k12_0_3:=bk1 B12_3.out;have k13_0_3:=bk1 B13_3.out;have k20_0_3:=bk1 B20_3.out;have kn_0_3:=bk1 Bn_3.out;have kh_0_3:=bk1 Bh_3.out;obtain ⟨k23_0_3,k23_1_3⟩:=bk2 B23_3.out;clear k7_0_2 k8_0_2 k9_0_2 k10_0_2 k11_0_2 k12_0_2 k13_0_2 k20_0_2 kn_0_2 kh_0_2 k23_0_2 k23_1_2;clear hb)
    | ((with_reducible refine zo (t:=38) (p:=23) rfl ?_);refine zv rfl 38 _ _ rfl g23 #[.int .i64 r.f0,.int .i64 (wrap64 (-r.f1))] rfl rfl 38 #[.int .i64 r.f0,.int .i64 r.f1] B23_3.out (zu _ _) rfl (zG _ _) ?_;intro W4 hq hoth hbel;have B23_4:=hhd hq;have HB_4:=hhd (hbel _ _ L23 HB_3.out);have B7_4:=hhd ((hoth _ (ne23_7)).trans B7_3.out);have B8_4:=hhd ((hoth _ (ne23_8)).trans B8_3.out);have B9_4:=hhd ((hoth _ (ne23_9)).trans B9_3.out);have B10_4:=hhd ((hoth _ (ne23_10)).trans B10_3.out);have B11_4:=hhd ((hoth _ (ne23_11)).trans B11_3.out);have B12_4:=hhd ((hoth _ (ne23_12)).trans B12_3.out);have B13_4:=hhd ((hoth _ (ne23_13)).trans B13_3.out);have B20_4:=hhd ((hoth _ (ne23_20)).trans B20_3.out);have Bn_4:=hhd ((hoth _ (ne23_n)).trans Bn_3.out);have Bh_4:=hhd ((hoth _ (ne23_h)).trans Bh_3.out);have Rout_4:=hhd (zK Rout_3.out hoth NR23.out);have k7_0_4:=bk1 B7_4.out;have k8_0_4:=bk1 B8_4.out;have k9_0_4:=bk1 B9_4.out;have k10_0_4:=bk1 B10_4.out;have k11_0_4:=bk1 B11_4.out;have k12_0_4:=bk1 B12_4.out;have k13_0_4:=bk1 B13_4.out;have k20_0_4:=bk1 B20_4.out;have kn_0_4:=bk1 Bn_4.out;have kh_0_4:=bk1 Bh_4.out;clear k7_0_3 k8_0_3 k9_0_3 k10_0_3 k11_0_3 k12_0_3 k13_0_3 k20_0_3 kn_0_3 kh_0_3 k23_0_3 k23_1_3;obtain ⟨k23_0_4,k23_1_4⟩:=bk2 B23_4.out;clear hq hoth hbel))
   have y0:=(HB_4.out.cell (World.block_lt_of_cell? _ _ x0)).trans x0
   have y1:=(HB_4.out.cell (World.block_lt_of_cell? _ _ x1)).trans x1
   have y2:=(HB_4.out.cell (World.block_lt_of_cell? _ _ x2)).trans x2
   have y3:=(HB_4.out.cell (World.block_lt_of_cell? _ _ x3)).trans x3
   refine wpIn_seq ?_
   refine zeS (S:=fun w'=>Below W4.heap.size W4 w') (ds:=[]) (fl 22 0) hmx rfl rfl (by kernel_rfl) (fun ⟨_,_,q⟩=>q) (Below.refl _ _).drew (fun hHeld=>?_)
   refine px_ 1 (some 95) (fl 22 2) rfl rfl ?_
   refine px_ 5 (some 99) (fl 22 34) rfl rfl ?_
   refine tx_ 0 (some 94) (fl 22 35) rfl rfl hHeld (by rintro w' hs;obtain ⟨j_k7_0_4,j_k9_0_4,j_k10_0_4,j_k11_0_4,j_k12_0_4,j_k23_0_4⟩:=bg6 hs k7_0_4 k9_0_4 k10_0_4 k11_0_4 k12_0_4 k23_0_4;obtain ⟨j_k23_1_4,j_y0,j_y1,j_y2,j_y3⟩:=bg5 hs k23_1_4 y0 y1 y2 y3;go_simp;with_reducible rfl) ?_
   refine px_ 2 (some 96) (fl 22 39) rfl rfl ?_
   refine tx_ 3 (some 97) (fl 22 47) rfl rfl hHeld (by rintro w' hs;obtain ⟨j_k7_0_4,j_k9_0_4,j_k10_0_4,j_k11_0_4,j_k12_0_4,j_k23_0_4⟩:=bg6 hs k7_0_4 k9_0_4 k10_0_4 k11_0_4 k12_0_4 k23_0_4;obtain ⟨j_k23_1_4,j_y0,j_y1,j_y2,j_y3⟩:=bg5 hs k23_1_4 y0 y1 y2 y3;go_simp;with_reducible rfl) ?_
   refine tx_ 4 (some 98) (fl 22 63) rfl rfl hHeld (by rintro w' hs;obtain ⟨j_k7_0_4,j_k9_0_4,j_k10_0_4,j_k11_0_4,j_k12_0_4,j_k23_0_4⟩:=bg6 hs k7_0_4 k9_0_4 k10_0_4 k11_0_4 k12_0_4 k23_0_4;obtain ⟨j_k23_1_4,j_y0,j_y1,j_y2,j_y3⟩:=bg5 hs k23_1_4 y0 y1 y2 y3;go_simp;with_reducible rfl) ?_
   refine tx_ 6 (some 100) (fl 22 127) rfl rfl hHeld (by rintro w' hs;obtain ⟨j_k7_0_4,j_k9_0_4,j_k10_0_4,j_k11_0_4,j_k12_0_4,j_k23_0_4⟩:=bg6 hs k7_0_4 k9_0_4 k10_0_4 k11_0_4 k12_0_4 k23_0_4;obtain ⟨j_k23_1_4,j_y0,j_y1,j_y2,j_y3⟩:=bg5 hs k23_1_4 y0 y1 y2 y3;go_simp;with_reducible rfl) ?_
   refine px_ 7 (some 101) (fl 22 255) rfl rfl ?_
   refine px_ 8 (some 102) (fl 22 511) rfl rfl ?_
   refine tx_ 9 (some 103) (fl 22 1023) rfl rfl hHeld (by rintro w' hs;obtain ⟨j_k7_0_4,j_k9_0_4,j_k10_0_4,j_k11_0_4,j_k12_0_4,j_k23_0_4⟩:=bg6 hs k7_0_4 k9_0_4 k10_0_4 k11_0_4 k12_0_4 k23_0_4;obtain ⟨j_k23_1_4,j_y0,j_y1,j_y2,j_y3⟩:=bg5 hs k23_1_4 y0 y1 y2 y3;go_simp;with_reducible rfl) ?_
   refine tx_ 10 (some 104) (fl 22 2047) rfl rfl hHeld (by rintro w' hs;obtain ⟨j_k7_0_4,j_k9_0_4,j_k10_0_4,j_k11_0_4,j_k12_0_4,j_k23_0_4⟩:=bg6 hs k7_0_4 k9_0_4 k10_0_4 k11_0_4 k12_0_4 k23_0_4;obtain ⟨j_k23_1_4,j_y0,j_y1,j_y2,j_y3⟩:=bg5 hs k23_1_4 y0 y1 y2 y3;go_simp;with_reducible rfl) ?_
   refine tx_ 11 (some 105) (fl 22 4095) rfl rfl hHeld (by rintro w' hs;obtain ⟨j_k7_0_4,j_k9_0_4,j_k10_0_4,j_k11_0_4,j_k12_0_4,j_k23_0_4⟩:=bg6 hs k7_0_4 k9_0_4 k10_0_4 k11_0_4 k12_0_4 k23_0_4;obtain ⟨j_k23_1_4,j_y0,j_y1,j_y2,j_y3⟩:=bg5 hs k23_1_4 y0 y1 y2 y3;go_simp;with_reducible rfl) ?_
   refine tx_ 12 (some 106) (fl 22 8191) rfl rfl hHeld (by rintro w' hs;obtain ⟨j_k7_0_4,j_k9_0_4,j_k10_0_4,j_k11_0_4,j_k12_0_4,j_k23_0_4⟩:=bg6 hs k7_0_4 k9_0_4 k10_0_4 k11_0_4 k12_0_4 k23_0_4;obtain ⟨j_k23_1_4,j_y0,j_y1,j_y2,j_y3⟩:=bg5 hs k23_1_4 y0 y1 y2 y3;go_simp;with_reducible rfl) ?_
   refine tx_ 13 (some 107) (fl 22 16383) rfl rfl hHeld (by rintro w' hs;obtain ⟨j_k7_0_4,j_k9_0_4,j_k10_0_4,j_k11_0_4,j_k12_0_4,j_k23_0_4⟩:=bg6 hs k7_0_4 k9_0_4 k10_0_4 k11_0_4 k12_0_4 k23_0_4;obtain ⟨j_k23_1_4,j_y0,j_y1,j_y2,j_y3⟩:=bg5 hs k23_1_4 y0 y1 y2 y3;go_simp;with_reducible rfl) ?_
   refine zev (i:=14) (j:=18) (k:=19) (Ni:=some 108) (Nj:=some 24) (Nk:=some 25) (fl 22 32767) (fl 22 278527) (fl 22 540671) rfl rfl rfl rfl rfl rfl (by kernel_rfl) (by decide) (by decide) (by decide) (fun K hK=>?e1_14) (fun K hK=>?e1_18) (fun K hK=>?e1_19)
   case' e1_14 =>
    refine zN Tryz.func81 (by kernel_rfl) rfl #[.agg #[.int .i64 a0.f0,.int .i64 a0.f1],.agg #[.int .i64 a1.f0,.int .i64 a1.f1],.agg #[.int .i64 r.f0,.int .i64 (wrap64 (-r.f1))],.int .i64 bits,.int .i64 s,.int .i64 mode] (by rfl) rfl rfl (by go_simp) ?_
    refine (two_pair.calls _ _ _ _ _ _ _ _ _ _ _ _ _ _ HP.out).mono ?_
    rintro e Wc ⟨rfl,hb⟩
    refine ⟨_,rfl,?_⟩
    refine hK.out _ _ (zb hHeld hb) (fun hHeld=>?_)
    clear hK K hb
    refine nx_ (some 108) ?_
    refine px_ 15 (some 93) (fl 22 65535) rfl rfl ?_
    refine px_ 16 (some 109) (fl 22 131071) rfl rfl ?_
    refine px_ 17 (some 110) (fl 22 262143) rfl rfl ?_
    refine zaM (i:=18) (j:=19) (Ni:=some 24) (Nj:=some 25) (fl 22 524287) (fl 22 786431) rfl rfl rfl rfl (by kernel_rfl) (by decide) (by decide) (fun K hK=>?e2_18) (fun K hK=>?e2_19)
    case' e2_18 =>
     refine box_step rfl rfl (cs:=#[.int .i64 0,.int .i64 0]) (t:=38) (by first | (go_simp;done) | (go_simp;rfl)) ?_
     intro g24 hg Wc hbox hbl
     refine hK.out _ _ (zb hHeld hbl) (fun hHeld2=>?_)
     have L24:W4.heap.size≤g24:=by rw [hg];exact hHeld.size
     have B24:=hhd hbox
     clear hK K hbl hbox hg hHeld
     have hHeld:=hHeld2
     clear hHeld2
     refine nx_ (some 24) ?_
     refine zA (i:=19) (N:=some 25) (fl 22 1048575) rfl rfl (by kernel_rfl) (by decide) (fun K hK=>?_)
     refine box_step rfl rfl (cs:=#[.int .i64 0,.int .i64 0]) (t:=38) (by first | (go_simp;done) | (go_simp;rfl)) ?_
     intro g25 hg Wc hbox hbl
     refine hK.out _ _ (zb hHeld hbl) (fun hHeld2=>?_)
     have L25:W4.heap.size≤g25:=by rw [hg];exact hHeld.size
     have B25:=hhd hbox
     have N2425:g24≠g25:=by have:=zf B24.out;omega
     replace B24:=hhd (za B24.out hbl)
     clear hK K hbl hbox hg hHeld
     have hHeld:=hHeld2
     clear hHeld2
     refine nx_ (some 25) ?_
    case' e2_19 =>
     refine box_step rfl rfl (cs:=#[.int .i64 0,.int .i64 0]) (t:=38) (by first | (go_simp;done) | (go_simp;rfl)) ?_
     intro g25 hg Wc hbox hbl
     refine hK.out _ _ (zb hHeld hbl) (fun hHeld2=>?_)
     have L25:W4.heap.size≤g25:=by rw [hg];exact hHeld.size
     have B25:=hhd hbox
     clear hK K hbl hbox hg hHeld
     have hHeld:=hHeld2
     clear hHeld2
     refine nx_ (some 25) ?_
     refine zA (i:=18) (N:=some 24) (fl 22 1048575) rfl rfl (by kernel_rfl) (by decide) (fun K hK=>?_)
     refine box_step rfl rfl (cs:=#[.int .i64 0,.int .i64 0]) (t:=38) (by first | (go_simp;done) | (go_simp;rfl)) ?_
     intro g24 hg Wc hbox hbl
     refine hK.out _ _ (zb hHeld hbl) (fun hHeld2=>?_)
     have L24:W4.heap.size≤g24:=by rw [hg];exact hHeld.size
     have B24:=hhd hbox
     have N2425:g24≠g25:=by have:=zf B25.out;omega
     replace B25:=hhd (za B25.out hbl)
     clear hK K hbl hbox hg hHeld
     have hHeld:=hHeld2
     clear hHeld2
     refine nx_ (some 24) ?_
   case' e1_18 =>
    refine box_step rfl rfl (cs:=#[.int .i64 0,.int .i64 0]) (t:=38) (by first | (go_simp;done) | (go_simp;rfl)) ?_
    intro g24 hg Wc hbox hbl
    refine hK.out _ _ (zb hHeld hbl) (fun hHeld2=>?_)
    have L24:W4.heap.size≤g24:=by rw [hg];exact hHeld.size
    have B24:=hhd hbox
    clear hK K hbl hbox hg hHeld
    have hHeld:=hHeld2
    clear hHeld2
    refine nx_ (some 24) ?_
    refine zaM (i:=14) (j:=19) (Ni:=some 108) (Nj:=some 25) (fl 22 294911) (fl 22 802815) rfl rfl rfl rfl (by kernel_rfl) (by decide) (by decide) (fun K hK=>?e3_14) (fun K hK=>?e3_19)
    case' e3_14 =>
     refine zN Tryz.func81 (by kernel_rfl) rfl #[.agg #[.int .i64 a0.f0,.int .i64 a0.f1],.agg #[.int .i64 a1.f0,.int .i64 a1.f1],.agg #[.int .i64 r.f0,.int .i64 (wrap64 (-r.f1))],.int .i64 bits,.int .i64 s,.int .i64 mode] (by rfl) rfl rfl (by go_simp) ?_
     refine (two_pair.calls _ _ _ _ _ _ _ _ _ _ _ _ _ _ HP.out).mono ?_
     rintro e Wc ⟨rfl,hb⟩
     refine ⟨_,rfl,?_⟩
     refine hK.out _ _ (zb hHeld hb) (fun hHeld=>?_)
     replace B24:=hhd (za B24.out hb)
     clear hK K hb
     refine nx_ (some 108) ?_
     refine px_ 15 (some 93) (fl 22 327679) rfl rfl ?_
     refine px_ 16 (some 109) (fl 22 393215) rfl rfl ?_
     refine px_ 17 (some 110) (fl 22 524287) rfl rfl ?_
     refine zA (i:=19) (N:=some 25) (fl 22 1048575) rfl rfl (by kernel_rfl) (by decide) (fun K hK=>?_)
     refine box_step rfl rfl (cs:=#[.int .i64 0,.int .i64 0]) (t:=38) (by first | (go_simp;done) | (go_simp;rfl)) ?_
     intro g25 hg Wc hbox hbl
     refine hK.out _ _ (zb hHeld hbl) (fun hHeld2=>?_)
     have L25:W4.heap.size≤g25:=by rw [hg];exact hHeld.size
     have B25:=hhd hbox
     have N2425:g24≠g25:=by have:=zf B24.out;omega
     replace B24:=hhd (za B24.out hbl)
     clear hK K hbl hbox hg hHeld
     have hHeld:=hHeld2
     clear hHeld2
     refine nx_ (some 25) ?_
    case' e3_19 =>
     refine box_step rfl rfl (cs:=#[.int .i64 0,.int .i64 0]) (t:=38) (by first | (go_simp;done) | (go_simp;rfl)) ?_
     intro g25 hg Wc hbox hbl
     refine hK.out _ _ (zb hHeld hbl) (fun hHeld2=>?_)
     have L25:W4.heap.size≤g25:=by rw [hg];exact hHeld.size
     have B25:=hhd hbox
     have N2425:g24≠g25:=by have:=zf B24.out;omega
     replace B24:=hhd (za B24.out hbl)
     clear hK K hbl hbox hg hHeld
     have hHeld:=hHeld2
     clear hHeld2
     refine nx_ (some 25) ?_
     refine zA (i:=14) (N:=some 108) (fl 22 819199) rfl rfl (by kernel_rfl) (by decide) (fun K hK=>?_)
     refine zN Tryz.func81 (by kernel_rfl) rfl #[.agg #[.int .i64 a0.f0,.int .i64 a0.f1],.agg #[.int .i64 a1.f0,.int .i64 a1.f1],.agg #[.int .i64 r.f0,.int .i64 (wrap64 (-r.f1))],.int .i64 bits,.int .i64 s,.int .i64 mode] (by rfl) rfl rfl (by go_simp) ?_
     refine (two_pair.calls _ _ _ _ _ _ _ _ _ _ _ _ _ _ HP.out).mono ?_
     rintro e Wc ⟨rfl,hb⟩
     refine ⟨_,rfl,?_⟩
     refine hK.out _ _ (zb hHeld hb) (fun hHeld=>?_)
     replace B24:=hhd (za B24.out hb)
     replace B25:=hhd (za B25.out hb)
     clear hK K hb
     refine nx_ (some 108) ?_
     refine px_ 15 (some 93) (fl 22 851967) rfl rfl ?_
     refine px_ 16 (some 109) (fl 22 917503) rfl rfl ?_
     refine px_ 17 (some 110) (fl 22 1048575) rfl rfl ?_
   case' e1_19 =>
    refine box_step rfl rfl (cs:=#[.int .i64 0,.int .i64 0]) (t:=38) (by first | (go_simp;done) | (go_simp;rfl)) ?_
    intro g25 hg Wc hbox hbl
    refine hK.out _ _ (zb hHeld hbl) (fun hHeld2=>?_)
    have L25:W4.heap.size≤g25:=by rw [hg];exact hHeld.size
    have B25:=hhd hbox
    clear hK K hbl hbox hg hHeld
    have hHeld:=hHeld2
    clear hHeld2
    refine nx_ (some 25) ?_
    refine zaM (i:=14) (j:=18) (Ni:=some 108) (Nj:=some 24) (fl 22 557055) (fl 22 802815) rfl rfl rfl rfl (by kernel_rfl) (by decide) (by decide) (fun K hK=>?e4_14) (fun K hK=>?e4_18)
    case' e4_14 =>
     refine zN Tryz.func81 (by kernel_rfl) rfl #[.agg #[.int .i64 a0.f0,.int .i64 a0.f1],.agg #[.int .i64 a1.f0,.int .i64 a1.f1],.agg #[.int .i64 r.f0,.int .i64 (wrap64 (-r.f1))],.int .i64 bits,.int .i64 s,.int .i64 mode] (by rfl) rfl rfl (by go_simp) ?_
     refine (two_pair.calls _ _ _ _ _ _ _ _ _ _ _ _ _ _ HP.out).mono ?_
     rintro e Wc ⟨rfl,hb⟩
     refine ⟨_,rfl,?_⟩
     refine hK.out _ _ (zb hHeld hb) (fun hHeld=>?_)
     replace B25:=hhd (za B25.out hb)
     clear hK K hb
     refine nx_ (some 108) ?_
     refine px_ 15 (some 93) (fl 22 589823) rfl rfl ?_
     refine px_ 16 (some 109) (fl 22 655359) rfl rfl ?_
     refine px_ 17 (some 110) (fl 22 786431) rfl rfl ?_
     refine zA (i:=18) (N:=some 24) (fl 22 1048575) rfl rfl (by kernel_rfl) (by decide) (fun K hK=>?_)
     refine box_step rfl rfl (cs:=#[.int .i64 0,.int .i64 0]) (t:=38) (by first | (go_simp;done) | (go_simp;rfl)) ?_
     intro g24 hg Wc hbox hbl
     refine hK.out _ _ (zb hHeld hbl) (fun hHeld2=>?_)
     have L24:W4.heap.size≤g24:=by rw [hg];exact hHeld.size
     have B24:=hhd hbox
     have N2425:g24≠g25:=by have:=zf B25.out;omega
     replace B25:=hhd (za B25.out hbl)
     clear hK K hbl hbox hg hHeld
     have hHeld:=hHeld2
     clear hHeld2
     refine nx_ (some 24) ?_
    case' e4_18 =>
     refine box_step rfl rfl (cs:=#[.int .i64 0,.int .i64 0]) (t:=38) (by first | (go_simp;done) | (go_simp;rfl)) ?_
     intro g24 hg Wc hbox hbl
     refine hK.out _ _ (zb hHeld hbl) (fun hHeld2=>?_)
     have L24:W4.heap.size≤g24:=by rw [hg];exact hHeld.size
     have B24:=hhd hbox
     have N2425:g24≠g25:=by have:=zf B25.out;omega
     replace B25:=hhd (za B25.out hbl)
     clear hK K hbl hbox hg hHeld
     have hHeld:=hHeld2
     clear hHeld2
     refine nx_ (some 24) ?_
     refine zA (i:=14) (N:=some 108) (fl 22 819199) rfl rfl (by kernel_rfl) (by decide) (fun K hK=>?_)
     refine zN Tryz.func81 (by kernel_rfl) rfl #[.agg #[.int .i64 a0.f0,.int .i64 a0.f1],.agg #[.int .i64 a1.f0,.int .i64 a1.f1],.agg #[.int .i64 r.f0,.int .i64 (wrap64 (-r.f1))],.int .i64 bits,.int .i64 s,.int .i64 mode] (by rfl) rfl rfl (by go_simp) ?_
     refine (two_pair.calls _ _ _ _ _ _ _ _ _ _ _ _ _ _ HP.out).mono ?_
     rintro e Wc ⟨rfl,hb⟩
     refine ⟨_,rfl,?_⟩
     refine hK.out _ _ (zb hHeld hb) (fun hHeld=>?_)
     replace B24:=hhd (za B24.out hb)
     replace B25:=hhd (za B25.out hb)
     clear hK K hb
     refine nx_ (some 108) ?_
     refine px_ 15 (some 93) (fl 22 851967) rfl rfl ?_
     refine px_ 16 (some 109) (fl 22 917503) rfl rfl ?_
     refine px_ 17 (some 110) (fl 22 1048575) rfl rfl ?_
   all_goals

    refine zA (i:=20) (N:=none) (fl 22 2097151) rfl rfl (by kernel_rfl) (by decide) (fun K hK=>?_)
    refine zC rfl rfl 38 _ _ rfl g24 #[.int .i64 (zao a0 a1 (zH true r) bits s mode).1.f0,.int .i64 (zao a0 a1 (zH true r) bits s mode).1.f1] rfl rfl 38 #[.int .i64 0,.int .i64 0] B24.out (zu _ _) rfl (zG _ _) ?_
    intro Wd hq hoth hbel
    refine hK.out _ _ (hbel _ _ L24 hHeld) (fun hHeld2=>?_)
    replace B25:=hhd ((hoth _ (Ne.symm N2425)).trans B25.out)
    replace B24:=hhd hq
    clear hK K hq hoth hbel hHeld
    have hHeld:=hHeld2
    clear hHeld2
    refine zA (i:=21) (N:=none) (fl 22 4194303) rfl rfl (by kernel_rfl) (by decide) (fun K hK=>?_)
    refine zC rfl rfl 38 _ _ rfl g25 #[.int .i64 (zao a0 a1 (zH true r) bits s mode).2.f0,.int .i64 (zao a0 a1 (zH true r) bits s mode).2.f1] rfl rfl 38 #[.int .i64 0,.int .i64 0] B25.out (zu _ _) rfl (zG _ _) ?_
    intro Wf hq hoth hbel
    refine hK.out _ _ (hbel _ _ L25 hHeld) (fun hHeld2=>?_)
    replace B24:=hhd ((hoth _ N2425).trans B24.out)
    replace B25:=hhd hq
    clear hK K hq hoth hbel hHeld
    have hF:=zb HB_4.out hHeld2
    clear hHeld2
    refine zM (by kernel_rfl) ?_
    have L24':=Nat.le_trans (zj HB_4.out) L24
    have L25':=Nat.le_trans (zj HB_4.out) L25
    have RF:=hhd (Kd.R_below ER.out hF)
    have gW:g < W.heap.size:=Kd.R_lt ER.out g rfl
    have n20:g20≠g:=fun e=>Kd.R_ne ER.out E20.out (by decide) (by rw [e];rfl)
    have n9:g9≠g:=fun e=>Kd.R_ne ER.out E9.out (by decide) (by rw [e];rfl)
    have n24:g24≠g:=by omega
    have n25:g25≠g:=by omega
    refine zeS (S:=fun w'=>w'.heap[g20]?=some (.cells #[.slice (some ⟨g,0,none⟩) l.length cap] 22 (0,0))∧w'.heap[g9]?=some (.cells #[.int .i64 h] 3 (0,0))∧w'.heap[g24]?=some (.cells #[.int .i64 (zao a0 a1 (zH true r) bits s mode).1.f0,.int .i64 (zao a0 a1 (zH true r) bits s mode).1.f1] 38 (0,0))∧w'.heap[g25]?=some (.cells #[.int .i64 (zao a0 a1 (zH true r) bits s mode).2.f0,.int .i64 (zao a0 a1 (zH true r) bits s mode).2.f1] 38 (0,0))) (ds:=[]) (fl 12 0) hmx rfl rfl (by kernel_rfl) (fun ⟨_,_,q⟩=>q) ⟨za E20.out hF.drew,za E9.out hF.drew,B24.out,B25.out⟩ (fun hHeld=>?_)
    refine px_ 1 (some 112) (fl 12 2) rfl rfl ?_
    refine px_ 3 (some 114) (fl 12 10) rfl rfl ?_
    refine tx_ 0 (some 111) (fl 12 11) rfl rfl hHeld (by rintro w' ⟨s0,s1,s2,s3⟩;have ja:=(zc s0 0).trans rfl;have jb:=(zc s1 0).trans rfl;have jc:=(zc s2 0).trans rfl;have jd:=(zc s2 1).trans rfl;have je:=(zc s3 0).trans rfl;have jf:=(zc s3 1).trans rfl;go_simp;with_reducible rfl) ?_
    refine tx_ 2 (some 113) (fl 12 15) rfl rfl hHeld (by rintro w' ⟨s0,s1,s2,s3⟩;have ja:=(zc s0 0).trans rfl;have jb:=(zc s1 0).trans rfl;have jc:=(zc s2 0).trans rfl;have jd:=(zc s2 1).trans rfl;have je:=(zc s3 0).trans rfl;have jf:=(zc s3 1).trans rfl;go_simp;with_reducible rfl) ?_
    refine tx_ 4 (some 115) (fl 12 31) rfl rfl hHeld (by rintro w' ⟨s0,s1,s2,s3⟩;have ja:=(zc s0 0).trans rfl;have jb:=(zc s1 0).trans rfl;have jc:=(zc s2 0).trans rfl;have jd:=(zc s2 1).trans rfl;have je:=(zc s3 0).trans rfl;have jf:=(zc s3 1).trans rfl;go_simp;with_reducible rfl) ?_
    refine px_ 5 (some 116) (fl 12 63) rfl rfl ?_
    refine tx_ 6 (some 117) (fl 12 127) rfl rfl hHeld (by rintro w' ⟨s0,s1,s2,s3⟩;have ja:=(zc s0 0).trans rfl;have jb:=(zc s1 0).trans rfl;have jc:=(zc s2 0).trans rfl;have jd:=(zc s2 1).trans rfl;have je:=(zc s3 0).trans rfl;have jf:=(zc s3 1).trans rfl;go_simp;with_reducible rfl) ?_
    refine px_ 8 (some 119) (fl 12 383) rfl rfl ?_
    refine tx_ 7 (some 118) (fl 12 511) rfl rfl hHeld (by rintro w' ⟨s0,s1,s2,s3⟩;have ja:=(zc s0 0).trans rfl;have jb:=(zc s1 0).trans rfl;have jc:=(zc s2 0).trans rfl;have jd:=(zc s2 1).trans rfl;have je:=(zc s3 0).trans rfl;have jf:=(zc s3 1).trans rfl;go_simp;with_reducible rfl) ?_
    refine zA (i:=9) (N:=none) (fl 12 1023) rfl rfl (by kernel_rfl) (by decide) (fun K hK=>?_)
    refine zeT (base:=w.heap.size) rfl rfl _ _ rfl p.1.toNat Y (zao a0 a1 (zH true r) bits s mode).1 (fun _=>True) rfl rfl (zu (.int .i64 0) (.int .i64 0)) (Kd.R_drew RF.out) (by omega) ?_
    intro Wg hRg hgg hog hbg
    refine hK.out _ _ ⟨(hog _ n20).trans hHeld.1,(hog _ n9).trans hHeld.2.1,(hog _ n24).trans hHeld.2.2.1,(hog _ n25).trans hHeld.2.2.2⟩ (fun hHeld2=>?_)
    have RG:=hhd hRg
    have OG:=hhd hog
    have BG:=hhd hbg
    have GG:=hhd hgg
    clear hK K hRg hgg hog hbg hHeld
    have hHeld:=hHeld2
    clear hHeld2
    refine px_ 10 (some 120) (fl 12 2047) rfl rfl ?_
    refine zA (i:=11) (N:=none) (fl 12 4095) rfl rfl (by kernel_rfl) (by decide) (fun K hK=>?_)
    refine zeT (base:=w.heap.size) rfl rfl _ _ rfl (p.1+h).toNat (Y.set p.1.toNat (zao a0 a1 (zH true r) bits s mode).1) (zao a0 a1 (zH true r) bits s mode).2 (fun _=>True) rfl rfl (zu (.int .i64 0) (.int .i64 0)) RG.out (by omega) ?_
    intro Wh hRh hgh hoh hbh
    refine hK.out _ _ ⟨(hoh _ n20).trans hHeld.1,(hoh _ n9).trans hHeld.2.1,(hoh _ n24).trans hHeld.2.2.1,(hoh _ n25).trans hHeld.2.2.2⟩ (fun _=>?_)
    clear hK K hHeld
    refine zM (by kernel_rfl) ?_
    have same:∀k,k < W.heap.size→k≠g→Wh.heap[k]?=W.heap[k]?:=fun k hk hne=>(hoh k hne).trans ((OG.out k hne).trans (hF.block k hk))
    have n7:g7≠g:=fun e=>Kd.R_ne ER.out E7.out (by decide) (by rw [e];rfl)
    have n8:g8≠g:=fun e=>Kd.R_ne ER.out E8.out (by decide) (by rw [e];rfl)
    have n10:g10≠g:=fun e=>Kd.R_ne ER.out E10.out (by decide) (by rw [e];rfl)
    have n11:g11≠g:=fun e=>Kd.R_ne ER.out E11.out (by decide) (by rw [e];rfl)
    have n12:g12≠g:=fun e=>Kd.R_ne ER.out E12.out (by decide) (by rw [e];rfl)
    have n13:g13≠g:=fun e=>Kd.R_ne ER.out E13.out (by decide) (by rw [e];rfl)
    have nn:gn≠g:=fun e=>Kd.R_ne ER.out En.out (by decide) (by rw [e];rfl)
    have nh:gh≠g:=fun e=>Kd.R_ne ER.out Eh.out (by decide) (by rw [e];rfl)
    have hsz:W.heap.size≤Wh.heap.size:=Nat.le_trans hF.size (Nat.le_trans GG.out.size hgh.size)
    refine ⟨⟨hsz,fun k o hk ho=>(same k (Array.getElem?_eq_some_iff.1 hk).1 (fun e=>by obtain ⟨cells,hc⟩:=Kd.R_typed ER.out g rfl;rw [e,hc] at hk;cases hk;cases ho)).trans hk⟩,⟨same _ (zf En.out) nn,same _ (zf Eh.out) nh⟩,⟨(same _ (zf E7.out) n7).trans E7.out,(same _ (zf E8.out) n8).trans E8.out,(same _ (zf E9.out) n9).trans E9.out,(same _ (zf E10.out) n10).trans E10.out,(same _ (zf E11.out) n11).trans E11.out,(same _ (zf E12.out) n12).trans E12.out,(same _ (zf E13.out) n13).trans E13.out,(same _ (zf E20.out) n20).trans E20.out,(same _ (zf En.out) nn).trans En.out,(same _ (zf Eh.out) nh).trans Eh.out⟩,?_,hbh _ (BG.out _ (zbj (EB.out.trans (hF.mono EB.out.size))))⟩
    rw [HPRE.out,HQ.out Y]
    exact hRh

  | false =>
   refine wpIn_block ?_
   refine wpIn_seq ?_
   refine zb8 (by kernel_rfl) (fun ⟨_,_,q⟩=>q) ?_
   go_wp2_with (first
    | ((with_reducible refine zg (N:=23) rfl ?_);refine ba_ 23 #[.int .i64 0,.int .i64 0] 38 ?_;intro g23 hg W1 hbox hbl;have L23:W.heap.size≤g23:=(by rw [hg];exact zj HBs.out);have B23_1:=hhd hbox;have HB_1:=hhd (zb HBs.out hbl);have B7_1:=hhd (za E7.out hbl);have B8_1:=hhd (za E8.out hbl);have B9_1:=hhd (za E9.out hbl);have B10_1:=hhd (za E10.out hbl);have B11_1:=hhd (za E11.out hbl);have B12_1:=hhd (za E12.out hbl);have B13_1:=hhd (za E13.out hbl);have B20_1:=hhd (za E20.out hbl);have Bn_1:=hhd (za En.out hbl);have Bh_1:=hhd (za Eh.out hbl);have Rout_1:=hhd (Kd.R_below ER.out hbl);have k7_0_1:=bk1 B7_1.out;have k8_0_1:=bk1 B8_1.out;have k9_0_1:=bk1 B9_1.out;have k10_0_1:=bk1 B10_1.out;have k11_0_1:=bk1 B11_1.out;have k12_0_1:=bk1 B12_1.out;have k13_0_1:=bk1 B13_1.out;have k20_0_1:=bk1 B20_1.out;have kn_0_1:=bk1 Bn_1.out;have kh_0_1:=bk1 Bh_1.out;clear k7 k8 k9 k10 k11 k12 k13 k20 kn kh;obtain ⟨k23_0_1,k23_1_1⟩:=bk2 B23_1.out;have ne23_7:g7≠g23:=(fun e=>by have:=zf E7.out;rw [hg] at e;omega);have ne23_8:g8≠g23:=(fun e=>by have:=zf E8.out;rw [hg] at e;omega);have ne23_9:g9≠g23:=(fun e=>by have:=zf E9.out;rw [hg] at e;omega);have ne23_10:g10≠g23:=(fun e=>by have:=zf E10.out;rw [hg] at e;omega);have ne23_11:g11≠g23:=(fun e=>by have:=zf E11.out;rw [hg] at e;omega);have ne23_12:g12≠g23:=(fun e=>by have:=zf E12.out;rw [hg] at e;omega);have ne23_13:g13≠g23:=(fun e=>by have:=zf E13.out;rw [hg] at e;omega);have ne23_20:g20≠g23:=(fun e=>by have:=zf E20.out;rw [hg] at e;omega);have ne23_n:gn≠g23:=(fun e=>by have:=zf En.out;rw [hg] at e;omega);have ne23_h:gh≠g23:=(fun e=>by have:=zf Eh.out;rw [hg] at e;omega);have NR23:=hhd (show some g23≠_ from by rw [hg];exact Kd.R_ne_new ER.out 0);clear hbox hbl hg)
    | ((with_reducible refine zo (t:=38) (p:=23) rfl ?_);refine zv rfl 38 _ _ rfl g23 #[.int .i64 r.f0,.int .i64 r.f1] rfl rfl 38 #[.int .i64 0,.int .i64 0] B23_1.out (zu _ _) rfl (zG _ _) ?_;intro W2 hq hoth hbel;have B23_2:=hhd hq;have HB_2:=hhd (hbel _ _ L23 HB_1.out);have B7_2:=hhd ((hoth _ (ne23_7)).trans B7_1.out);have B8_2:=hhd ((hoth _ (ne23_8)).trans B8_1.out);have B9_2:=hhd ((hoth _ (ne23_9)).trans B9_1.out);have B10_2:=hhd ((hoth _ (ne23_10)).trans B10_1.out);have B11_2:=hhd ((hoth _ (ne23_11)).trans B11_1.out);have B12_2:=hhd ((hoth _ (ne23_12)).trans B12_1.out);have B13_2:=hhd ((hoth _ (ne23_13)).trans B13_1.out);have B20_2:=hhd ((hoth _ (ne23_20)).trans B20_1.out);have Bn_2:=hhd ((hoth _ (ne23_n)).trans Bn_1.out);have Bh_2:=hhd ((hoth _ (ne23_h)).trans Bh_1.out);have Rout_2:=hhd (zK Rout_1.out hoth NR23.out);have k7_0_2:=bk1 B7_2.out;have k8_0_2:=bk1 B8_2.out;have k9_0_2:=bk1 B9_2.out;have k10_0_2:=bk1 B10_2.out;have k11_0_2:=bk1 B11_2.out;have k12_0_2:=bk1 B12_2.out;have k13_0_2:=bk1 B13_2.out;have k20_0_2:=bk1 B20_2.out;have kn_0_2:=bk1 Bn_2.out;have kh_0_2:=bk1 Bh_2.out;clear k7_0_1 k8_0_1 k9_0_1 k10_0_1 k11_0_1 k12_0_1 k13_0_1 k20_0_1 kn_0_1 kh_0_1 k23_0_1 k23_1_1;obtain ⟨k23_0_2,k23_1_2⟩:=bk2 B23_2.out;clear hq hoth hbel))
   refine wpIn_seq ?_
   refine wpIn_seq ?_
   refine zb8 (by kernel_rfl) (fun ⟨_,_,q⟩=>q) ?_
   go_wp2
   refine wpIn_cond_false rfl ?_
   refine wpIn_skip ?_
   have y0:=(HB_2.out.cell (World.block_lt_of_cell? _ _ x0)).trans x0
   have y1:=(HB_2.out.cell (World.block_lt_of_cell? _ _ x1)).trans x1
   have y2:=(HB_2.out.cell (World.block_lt_of_cell? _ _ x2)).trans x2
   have y3:=(HB_2.out.cell (World.block_lt_of_cell? _ _ x3)).trans x3
   refine wpIn_seq ?_
   refine zeS (S:=fun w'=>Below W2.heap.size W2 w') (ds:=[]) (fl 22 0) hmx rfl rfl (by kernel_rfl) (fun ⟨_,_,q⟩=>q) (Below.refl _ _).drew (fun hHeld=>?_)
   refine px_ 1 (some 95) (fl 22 2) rfl rfl ?_
   refine px_ 5 (some 99) (fl 22 34) rfl rfl ?_
   refine tx_ 0 (some 94) (fl 22 35) rfl rfl hHeld (by rintro w' hs;obtain ⟨j_k7_0_2,j_k9_0_2,j_k10_0_2,j_k11_0_2,j_k12_0_2,j_k23_0_2⟩:=bg6 hs k7_0_2 k9_0_2 k10_0_2 k11_0_2 k12_0_2 k23_0_2;obtain ⟨j_k23_1_2,j_y0,j_y1,j_y2,j_y3⟩:=bg5 hs k23_1_2 y0 y1 y2 y3;go_simp;with_reducible rfl) ?_
   refine px_ 2 (some 96) (fl 22 39) rfl rfl ?_
   refine tx_ 3 (some 97) (fl 22 47) rfl rfl hHeld (by rintro w' hs;obtain ⟨j_k7_0_2,j_k9_0_2,j_k10_0_2,j_k11_0_2,j_k12_0_2,j_k23_0_2⟩:=bg6 hs k7_0_2 k9_0_2 k10_0_2 k11_0_2 k12_0_2 k23_0_2;obtain ⟨j_k23_1_2,j_y0,j_y1,j_y2,j_y3⟩:=bg5 hs k23_1_2 y0 y1 y2 y3;go_simp;with_reducible rfl) ?_
   refine tx_ 4 (some 98) (fl 22 63) rfl rfl hHeld (by rintro w' hs;obtain ⟨j_k7_0_2,j_k9_0_2,j_k10_0_2,j_k11_0_2,j_k12_0_2,j_k23_0_2⟩:=bg6 hs k7_0_2 k9_0_2 k10_0_2 k11_0_2 k12_0_2 k23_0_2;obtain ⟨j_k23_1_2,j_y0,j_y1,j_y2,j_y3⟩:=bg5 hs k23_1_2 y0 y1 y2 y3;go_simp;with_reducible rfl) ?_
   refine tx_ 6 (some 100) (fl 22 127) rfl rfl hHeld (by rintro w' hs;obtain ⟨j_k7_0_2,j_k9_0_2,j_k10_0_2,j_k11_0_2,j_k12_0_2,j_k23_0_2⟩:=bg6 hs k7_0_2 k9_0_2 k10_0_2 k11_0_2 k12_0_2 k23_0_2;obtain ⟨j_k23_1_2,j_y0,j_y1,j_y2,j_y3⟩:=bg5 hs k23_1_2 y0 y1 y2 y3;go_simp;with_reducible rfl) ?_
   refine px_ 7 (some 101) (fl 22 255) rfl rfl ?_
   refine px_ 8 (some 102) (fl 22 511) rfl rfl ?_
   refine tx_ 9 (some 103) (fl 22 1023) rfl rfl hHeld (by rintro w' hs;obtain ⟨j_k7_0_2,j_k9_0_2,j_k10_0_2,j_k11_0_2,j_k12_0_2,j_k23_0_2⟩:=bg6 hs k7_0_2 k9_0_2 k10_0_2 k11_0_2 k12_0_2 k23_0_2;obtain ⟨j_k23_1_2,j_y0,j_y1,j_y2,j_y3⟩:=bg5 hs k23_1_2 y0 y1 y2 y3;go_simp;with_reducible rfl) ?_
   refine tx_ 10 (some 104) (fl 22 2047) rfl rfl hHeld (by rintro w' hs;obtain ⟨j_k7_0_2,j_k9_0_2,j_k10_0_2,j_k11_0_2,j_k12_0_2,j_k23_0_2⟩:=bg6 hs k7_0_2 k9_0_2 k10_0_2 k11_0_2 k12_0_2 k23_0_2;obtain ⟨j_k23_1_2,j_y0,j_y1,j_y2,j_y3⟩:=bg5 hs k23_1_2 y0 y1 y2 y3;go_simp;with_reducible rfl) ?_
   refine tx_ 11 (some 105) (fl 22 4095) rfl rfl hHeld (by rintro w' hs;obtain ⟨j_k7_0_2,j_k9_0_2,j_k10_0_2,j_k11_0_2,j_k12_0_2,j_k23_0_2⟩:=bg6 hs k7_0_2 k9_0_2 k10_0_2 k11_0_2 k12_0_2 k23_0_2;obtain ⟨j_k23_1_2,j_y0,j_y1,j_y2,j_y3⟩:=bg5 hs k23_1_2 y0 y1 y2 y3;go_simp;with_reducible rfl) ?_
   refine tx_ 12 (some 106) (fl 22 8191) rfl rfl hHeld (by rintro w' hs;obtain ⟨j_k7_0_2,j_k9_0_2,j_k10_0_2,j_k11_0_2,j_k12_0_2,j_k23_0_2⟩:=bg6 hs k7_0_2 k9_0_2 k10_0_2 k11_0_2 k12_0_2 k23_0_2;obtain ⟨j_k23_1_2,j_y0,j_y1,j_y2,j_y3⟩:=bg5 hs k23_1_2 y0 y1 y2 y3;go_simp;with_reducible rfl) ?_
   refine tx_ 13 (some 107) (fl 22 16383) rfl rfl hHeld (by rintro w' hs;obtain ⟨j_k7_0_2,j_k9_0_2,j_k10_0_2,j_k11_0_2,j_k12_0_2,j_k23_0_2⟩:=bg6 hs k7_0_2 k9_0_2 k10_0_2 k11_0_2 k12_0_2 k23_0_2;obtain ⟨j_k23_1_2,j_y0,j_y1,j_y2,j_y3⟩:=bg5 hs k23_1_2 y0 y1 y2 y3;go_simp;with_reducible rfl) ?_
   refine zev (i:=14) (j:=18) (k:=19) (Ni:=some 108) (Nj:=some 24) (Nk:=some 25) (fl 22 32767) (fl 22 278527) (fl 22 540671) rfl rfl rfl rfl rfl rfl (by kernel_rfl) (by decide) (by decide) (by decide) (fun K hK=>?e5_14) (fun K hK=>?e5_18) (fun K hK=>?e5_19)
   case' e5_14 =>
    refine zN Tryz.func81 (by kernel_rfl) rfl #[.agg #[.int .i64 a0.f0,.int .i64 a0.f1],.agg #[.int .i64 a1.f0,.int .i64 a1.f1],.agg #[.int .i64 r.f0,.int .i64 r.f1],.int .i64 bits,.int .i64 s,.int .i64 mode] (by rfl) rfl rfl (by go_simp) ?_
    refine (two_pair.calls _ _ _ _ _ _ _ _ _ _ _ _ _ _ HP.out).mono ?_
    rintro e Wc ⟨rfl,hb⟩
    refine ⟨_,rfl,?_⟩
    refine hK.out _ _ (zb hHeld hb) (fun hHeld=>?_)
    clear hK K hb
    refine nx_ (some 108) ?_
    refine px_ 15 (some 93) (fl 22 65535) rfl rfl ?_
    refine px_ 16 (some 109) (fl 22 131071) rfl rfl ?_
    refine px_ 17 (some 110) (fl 22 262143) rfl rfl ?_
    refine zaM (i:=18) (j:=19) (Ni:=some 24) (Nj:=some 25) (fl 22 524287) (fl 22 786431) rfl rfl rfl rfl (by kernel_rfl) (by decide) (by decide) (fun K hK=>?e6_18) (fun K hK=>?e6_19)
    case' e6_18 =>
     refine box_step rfl rfl (cs:=#[.int .i64 0,.int .i64 0]) (t:=38) (by first | (go_simp;done) | (go_simp;rfl)) ?_
     intro g24 hg Wc hbox hbl
     refine hK.out _ _ (zb hHeld hbl) (fun hHeld2=>?_)
     have L24:W2.heap.size≤g24:=by rw [hg];exact hHeld.size
     have B24:=hhd hbox
     clear hK K hbl hbox hg hHeld
     have hHeld:=hHeld2
     clear hHeld2
     refine nx_ (some 24) ?_
     refine zA (i:=19) (N:=some 25) (fl 22 1048575) rfl rfl (by kernel_rfl) (by decide) (fun K hK=>?_)
     refine box_step rfl rfl (cs:=#[.int .i64 0,.int .i64 0]) (t:=38) (by first | (go_simp;done) | (go_simp;rfl)) ?_
     intro g25 hg Wc hbox hbl
     refine hK.out _ _ (zb hHeld hbl) (fun hHeld2=>?_)
     have L25:W2.heap.size≤g25:=by rw [hg];exact hHeld.size
     have B25:=hhd hbox
     have N2425:g24≠g25:=by have:=zf B24.out;omega
     replace B24:=hhd (za B24.out hbl)
     clear hK K hbl hbox hg hHeld
     have hHeld:=hHeld2
     clear hHeld2
     refine nx_ (some 25) ?_
    case' e6_19 =>
     refine box_step rfl rfl (cs:=#[.int .i64 0,.int .i64 0]) (t:=38) (by first | (go_simp;done) | (go_simp;rfl)) ?_
     intro g25 hg Wc hbox hbl
     refine hK.out _ _ (zb hHeld hbl) (fun hHeld2=>?_)
     have L25:W2.heap.size≤g25:=by rw [hg];exact hHeld.size
     have B25:=hhd hbox
     clear hK K hbl hbox hg hHeld
     have hHeld:=hHeld2
     clear hHeld2
     refine nx_ (some 25) ?_
     refine zA (i:=18) (N:=some 24) (fl 22 1048575) rfl rfl (by kernel_rfl) (by decide) (fun K hK=>?_)
     refine box_step rfl rfl (cs:=#[.int .i64 0,.int .i64 0]) (t:=38) (by first | (go_simp;done) | (go_simp;rfl)) ?_
     intro g24 hg Wc hbox hbl
     refine hK.out _ _ (zb hHeld hbl) (fun hHeld2=>?_)
     have L24:W2.heap.size≤g24:=by rw [hg];exact hHeld.size
     have B24:=hhd hbox
     have N2425:g24≠g25:=by have:=zf B25.out;omega
     replace B25:=hhd (za B25.out hbl)
     clear hK K hbl hbox hg hHeld
     have hHeld:=hHeld2
     clear hHeld2
     refine nx_ (some 24) ?_
   case' e5_18 =>
    refine box_step rfl rfl (cs:=#[.int .i64 0,.int .i64 0]) (t:=38) (by first | (go_simp;done) | (go_simp;rfl)) ?_
    intro g24 hg Wc hbox hbl
    refine hK.out _ _ (zb hHeld hbl) (fun hHeld2=>?_)
    have L24:W2.heap.size≤g24:=by rw [hg];exact hHeld.size
    have B24:=hhd hbox
    clear hK K hbl hbox hg hHeld
    have hHeld:=hHeld2
    clear hHeld2
    refine nx_ (some 24) ?_
    refine zaM (i:=14) (j:=19) (Ni:=some 108) (Nj:=some 25) (fl 22 294911) (fl 22 802815) rfl rfl rfl rfl (by kernel_rfl) (by decide) (by decide) (fun K hK=>?e7_14) (fun K hK=>?e7_19)
    case' e7_14 =>
     refine zN Tryz.func81 (by kernel_rfl) rfl #[.agg #[.int .i64 a0.f0,.int .i64 a0.f1],.agg #[.int .i64 a1.f0,.int .i64 a1.f1],.agg #[.int .i64 r.f0,.int .i64 r.f1],.int .i64 bits,.int .i64 s,.int .i64 mode] (by rfl) rfl rfl (by go_simp) ?_
     refine (two_pair.calls _ _ _ _ _ _ _ _ _ _ _ _ _ _ HP.out).mono ?_
     rintro e Wc ⟨rfl,hb⟩
     refine ⟨_,rfl,?_⟩
     refine hK.out _ _ (zb hHeld hb) (fun hHeld=>?_)
     replace B24:=hhd (za B24.out hb)
     clear hK K hb
     refine nx_ (some 108) ?_
     refine px_ 15 (some 93) (fl 22 327679) rfl rfl ?_
     refine px_ 16 (some 109) (fl 22 393215) rfl rfl ?_
     refine px_ 17 (some 110) (fl 22 524287) rfl rfl ?_
     refine zA (i:=19) (N:=some 25) (fl 22 1048575) rfl rfl (by kernel_rfl) (by decide) (fun K hK=>?_)
     refine box_step rfl rfl (cs:=#[.int .i64 0,.int .i64 0]) (t:=38) (by first | (go_simp;done) | (go_simp;rfl)) ?_
     intro g25 hg Wc hbox hbl
     refine hK.out _ _ (zb hHeld hbl) (fun hHeld2=>?_)
     have L25:W2.heap.size≤g25:=by rw [hg];exact hHeld.size
     have B25:=hhd hbox
     have N2425:g24≠g25:=by have:=zf B24.out;omega
     replace B24:=hhd (za B24.out hbl)
     clear hK K hbl hbox hg hHeld
     have hHeld:=hHeld2
     clear hHeld2
     refine nx_ (some 25) ?_
    case' e7_19 =>
     refine box_step rfl rfl (cs:=#[.int .i64 0,.int .i64 0]) (t:=38) (by first | (go_simp;done) | (go_simp;rfl)) ?_
     intro g25 hg Wc hbox hbl
     refine hK.out _ _ (zb hHeld hbl) (fun hHeld2=>?_)
     have L25:W2.heap.size≤g25:=by rw [hg];exact hHeld.size
     have B25:=hhd hbox
     have N2425:g24≠g25:=by have:=zf B24.out;omega
     replace B24:=hhd (za B24.out hbl)
     clear hK K hbl hbox hg hHeld
     have hHeld:=hHeld2
     clear hHeld2
     refine nx_ (some 25) ?_
     refine zA (i:=14) (N:=some 108) (fl 22 819199) rfl rfl (by kernel_rfl) (by decide) (fun K hK=>?_)
     refine zN Tryz.func81 (by kernel_rfl) rfl #[.agg #[.int .i64 a0.f0,.int .i64 a0.f1],.agg #[.int .i64 a1.f0,.int .i64 a1.f1],.agg #[.int .i64 r.f0,.int .i64 r.f1],.int .i64 bits,.int .i64 s,.int .i64 mode] (by rfl) rfl rfl (by go_simp) ?_
     refine (two_pair.calls _ _ _ _ _ _ _ _ _ _ _ _ _ _ HP.out).mono ?_
     rintro e Wc ⟨rfl,hb⟩
     refine ⟨_,rfl,?_⟩
     refine hK.out _ _ (zb hHeld hb) (fun hHeld=>?_)
     replace B24:=hhd (za B24.out hb)
     replace B25:=hhd (za B25.out hb)
     clear hK K hb
     refine nx_ (some 108) ?_
     refine px_ 15 (some 93) (fl 22 851967) rfl rfl ?_
     refine px_ 16 (some 109) (fl 22 917503) rfl rfl ?_
     refine px_ 17 (some 110) (fl 22 1048575) rfl rfl ?_
   case' e5_19 =>
    refine box_step rfl rfl (cs:=#[.int .i64 0,.int .i64 0]) (t:=38) (by first | (go_simp;done) | (go_simp;rfl)) ?_
    intro g25 hg Wc hbox hbl
    refine hK.out _ _ (zb hHeld hbl) (fun hHeld2=>?_)
    have L25:W2.heap.size≤g25:=by rw [hg];exact hHeld.size
    have B25:=hhd hbox
    clear hK K hbl hbox hg hHeld
    have hHeld:=hHeld2
    clear hHeld2
    refine nx_ (some 25) ?_
    refine zaM (i:=14) (j:=18) (Ni:=some 108) (Nj:=some 24) (fl 22 557055) (fl 22 802815) rfl rfl rfl rfl (by kernel_rfl) (by decide) (by decide) (fun K hK=>?e8_14) (fun K hK=>?e8_18)
    case' e8_14 =>
     refine zN Tryz.func81 (by kernel_rfl) rfl #[.agg #[.int .i64 a0.f0,.int .i64 a0.f1],.agg #[.int .i64 a1.f0,.int .i64 a1.f1],.agg #[.int .i64 r.f0,.int .i64 r.f1],.int .i64 bits,.int .i64 s,.int .i64 mode] (by rfl) rfl rfl (by go_simp) ?_
     refine (two_pair.calls _ _ _ _ _ _ _ _ _ _ _ _ _ _ HP.out).mono ?_
     rintro e Wc ⟨rfl,hb⟩
     refine ⟨_,rfl,?_⟩
     refine hK.out _ _ (zb hHeld hb) (fun hHeld=>?_)
     replace B25:=hhd (za B25.out hb)
     clear hK K hb
     refine nx_ (some 108) ?_
     refine px_ 15 (some 93) (fl 22 589823) rfl rfl ?_
     refine px_ 16 (some 109) (fl 22 655359) rfl rfl ?_
     refine px_ 17 (some 110) (fl 22 786431) rfl rfl ?_
     refine zA (i:=18) (N:=some 24) (fl 22 1048575) rfl rfl (by kernel_rfl) (by decide) (fun K hK=>?_)
     refine box_step rfl rfl (cs:=#[.int .i64 0,.int .i64 0]) (t:=38) (by first | (go_simp;done) | (go_simp;rfl)) ?_
     intro g24 hg Wc hbox hbl
     refine hK.out _ _ (zb hHeld hbl) (fun hHeld2=>?_)
     have L24:W2.heap.size≤g24:=by rw [hg];exact hHeld.size
     have B24:=hhd hbox
     have N2425:g24≠g25:=by have:=zf B25.out;omega
     replace B25:=hhd (za B25.out hbl)
     clear hK K hbl hbox hg hHeld
     have hHeld:=hHeld2
     clear hHeld2
     refine nx_ (some 24) ?_
    case' e8_18 =>
     refine box_step rfl rfl (cs:=#[.int .i64 0,.int .i64 0]) (t:=38) (by first | (go_simp;done) | (go_simp;rfl)) ?_
     intro g24 hg Wc hbox hbl
     refine hK.out _ _ (zb hHeld hbl) (fun hHeld2=>?_)
     have L24:W2.heap.size≤g24:=by rw [hg];exact hHeld.size
     have B24:=hhd hbox
     have N2425:g24≠g25:=by have:=zf B25.out;omega
     replace B25:=hhd (za B25.out hbl)
     clear hK K hbl hbox hg hHeld
     have hHeld:=hHeld2
     clear hHeld2
     refine nx_ (some 24) ?_
     refine zA (i:=14) (N:=some 108) (fl 22 819199) rfl rfl (by kernel_rfl) (by decide) (fun K hK=>?_)
     refine zN Tryz.func81 (by kernel_rfl) rfl #[.agg #[.int .i64 a0.f0,.int .i64 a0.f1],.agg #[.int .i64 a1.f0,.int .i64 a1.f1],.agg #[.int .i64 r.f0,.int .i64 r.f1],.int .i64 bits,.int .i64 s,.int .i64 mode] (by rfl) rfl rfl (by go_simp) ?_
     refine (two_pair.calls _ _ _ _ _ _ _ _ _ _ _ _ _ _ HP.out).mono ?_
     rintro e Wc ⟨rfl,hb⟩
     refine ⟨_,rfl,?_⟩
     refine hK.out _ _ (zb hHeld hb) (fun hHeld=>?_)
     replace B24:=hhd (za B24.out hb)
     replace B25:=hhd (za B25.out hb)
     clear hK K hb
     refine nx_ (some 108) ?_
     refine px_ 15 (some 93) (fl 22 851967) rfl rfl ?_
     refine px_ 16 (some 109) (fl 22 917503) rfl rfl ?_
     refine px_ 17 (some 110) (fl 22 1048575) rfl rfl ?_
   all_goals

    refine zA (i:=20) (N:=none) (fl 22 2097151) rfl rfl (by kernel_rfl) (by decide) (fun K hK=>?_)
    refine zC rfl rfl 38 _ _ rfl g24 #[.int .i64 (zao a0 a1 (zH false r) bits s mode).1.f0,.int .i64 (zao a0 a1 (zH false r) bits s mode).1.f1] rfl rfl 38 #[.int .i64 0,.int .i64 0] B24.out (zu _ _) rfl (zG _ _) ?_
    intro Wd hq hoth hbel
    refine hK.out _ _ (hbel _ _ L24 hHeld) (fun hHeld2=>?_)
    replace B25:=hhd ((hoth _ (Ne.symm N2425)).trans B25.out)
    replace B24:=hhd hq
    clear hK K hq hoth hbel hHeld
    have hHeld:=hHeld2
    clear hHeld2
    refine zA (i:=21) (N:=none) (fl 22 4194303) rfl rfl (by kernel_rfl) (by decide) (fun K hK=>?_)
    refine zC rfl rfl 38 _ _ rfl g25 #[.int .i64 (zao a0 a1 (zH false r) bits s mode).2.f0,.int .i64 (zao a0 a1 (zH false r) bits s mode).2.f1] rfl rfl 38 #[.int .i64 0,.int .i64 0] B25.out (zu _ _) rfl (zG _ _) ?_
    intro Wf hq hoth hbel
    refine hK.out _ _ (hbel _ _ L25 hHeld) (fun hHeld2=>?_)
    replace B24:=hhd ((hoth _ N2425).trans B24.out)
    replace B25:=hhd hq
    clear hK K hq hoth hbel hHeld
    have hF:=zb HB_2.out hHeld2
    clear hHeld2
    refine zM (by kernel_rfl) ?_
    have L24':=Nat.le_trans (zj HB_2.out) L24
    have L25':=Nat.le_trans (zj HB_2.out) L25
    have RF:=hhd (Kd.R_below ER.out hF)
    have gW:g < W.heap.size:=Kd.R_lt ER.out g rfl
    have n20:g20≠g:=fun e=>Kd.R_ne ER.out E20.out (by decide) (by rw [e];rfl)
    have n9:g9≠g:=fun e=>Kd.R_ne ER.out E9.out (by decide) (by rw [e];rfl)
    have n24:g24≠g:=by omega
    have n25:g25≠g:=by omega
    refine zeS (S:=fun w'=>w'.heap[g20]?=some (.cells #[.slice (some ⟨g,0,none⟩) l.length cap] 22 (0,0))∧w'.heap[g9]?=some (.cells #[.int .i64 h] 3 (0,0))∧w'.heap[g24]?=some (.cells #[.int .i64 (zao a0 a1 (zH false r) bits s mode).1.f0,.int .i64 (zao a0 a1 (zH false r) bits s mode).1.f1] 38 (0,0))∧w'.heap[g25]?=some (.cells #[.int .i64 (zao a0 a1 (zH false r) bits s mode).2.f0,.int .i64 (zao a0 a1 (zH false r) bits s mode).2.f1] 38 (0,0))) (ds:=[]) (fl 12 0) hmx rfl rfl (by kernel_rfl) (fun ⟨_,_,q⟩=>q) ⟨za E20.out hF.drew,za E9.out hF.drew,B24.out,B25.out⟩ (fun hHeld=>?_)
    refine px_ 1 (some 112) (fl 12 2) rfl rfl ?_
    refine px_ 3 (some 114) (fl 12 10) rfl rfl ?_
    refine tx_ 0 (some 111) (fl 12 11) rfl rfl hHeld (by rintro w' ⟨s0,s1,s2,s3⟩;have ja:=(zc s0 0).trans rfl;have jb:=(zc s1 0).trans rfl;have jc:=(zc s2 0).trans rfl;have jd:=(zc s2 1).trans rfl;have je:=(zc s3 0).trans rfl;have jf:=(zc s3 1).trans rfl;go_simp;with_reducible rfl) ?_
    refine tx_ 2 (some 113) (fl 12 15) rfl rfl hHeld (by rintro w' ⟨s0,s1,s2,s3⟩;have ja:=(zc s0 0).trans rfl;have jb:=(zc s1 0).trans rfl;have jc:=(zc s2 0).trans rfl;have jd:=(zc s2 1).trans rfl;have je:=(zc s3 0).trans rfl;have jf:=(zc s3 1).trans rfl;go_simp;with_reducible rfl) ?_
    refine tx_ 4 (some 115) (fl 12 31) rfl rfl hHeld (by rintro w' ⟨s0,s1,s2,s3⟩;have ja:=(zc s0 0).trans rfl;have jb:=(zc s1 0).trans rfl;have jc:=(zc s2 0).trans rfl;have jd:=(zc s2 1).trans rfl;have je:=(zc s3 0).trans rfl;have jf:=(zc s3 1).trans rfl;go_simp;with_reducible rfl) ?_
    refine px_ 5 (some 116) (fl 12 63) rfl rfl ?_
    refine tx_ 6 (some 117) (fl 12 127) rfl rfl hHeld (by rintro w' ⟨s0,s1,s2,s3⟩;have ja:=(zc s0 0).trans rfl;have jb:=(zc s1 0).trans rfl;have jc:=(zc s2 0).trans rfl;have jd:=(zc s2 1).trans rfl;have je:=(zc s3 0).trans rfl;have jf:=(zc s3 1).trans rfl;go_simp;with_reducible rfl) ?_
    refine px_ 8 (some 119) (fl 12 383) rfl rfl ?_
    refine tx_ 7 (some 118) (fl 12 511) rfl rfl hHeld (by rintro w' ⟨s0,s1,s2,s3⟩;have ja:=(zc s0 0).trans rfl;have jb:=(zc s1 0).trans rfl;have jc:=(zc s2 0).trans rfl;have jd:=(zc s2 1).trans rfl;have je:=(zc s3 0).trans rfl;have jf:=(zc s3 1).trans rfl;go_simp;with_reducible rfl) ?_
    refine zA (i:=9) (N:=none) (fl 12 1023) rfl rfl (by kernel_rfl) (by decide) (fun K hK=>?_)
    refine zeT (base:=w.heap.size) rfl rfl _ _ rfl p.1.toNat Y (zao a0 a1 (zH false r) bits s mode).1 (fun _=>True) rfl rfl (zu (.int .i64 0) (.int .i64 0)) (Kd.R_drew RF.out) (by omega) ?_
    intro Wg hRg hgg hog hbg
    refine hK.out _ _ ⟨(hog _ n20).trans hHeld.1,(hog _ n9).trans hHeld.2.1,(hog _ n24).trans hHeld.2.2.1,(hog _ n25).trans hHeld.2.2.2⟩ (fun hHeld2=>?_)
    have RG:=hhd hRg
    have OG:=hhd hog
    have BG:=hhd hbg
    have GG:=hhd hgg
    clear hK K hRg hgg hog hbg hHeld
    have hHeld:=hHeld2
    clear hHeld2
    refine px_ 10 (some 120) (fl 12 2047) rfl rfl ?_
    refine zA (i:=11) (N:=none) (fl 12 4095) rfl rfl (by kernel_rfl) (by decide) (fun K hK=>?_)
    refine zeT (base:=w.heap.size) rfl rfl _ _ rfl (p.1+h).toNat (Y.set p.1.toNat (zao a0 a1 (zH false r) bits s mode).1) (zao a0 a1 (zH false r) bits s mode).2 (fun _=>True) rfl rfl (zu (.int .i64 0) (.int .i64 0)) RG.out (by omega) ?_
    intro Wh hRh hgh hoh hbh
    refine hK.out _ _ ⟨(hoh _ n20).trans hHeld.1,(hoh _ n9).trans hHeld.2.1,(hoh _ n24).trans hHeld.2.2.1,(hoh _ n25).trans hHeld.2.2.2⟩ (fun _=>?_)
    clear hK K hHeld
    refine zM (by kernel_rfl) ?_
    have same:∀k,k < W.heap.size→k≠g→Wh.heap[k]?=W.heap[k]?:=fun k hk hne=>(hoh k hne).trans ((OG.out k hne).trans (hF.block k hk))
    have n7:g7≠g:=fun e=>Kd.R_ne ER.out E7.out (by decide) (by rw [e];rfl)
    have n8:g8≠g:=fun e=>Kd.R_ne ER.out E8.out (by decide) (by rw [e];rfl)
    have n10:g10≠g:=fun e=>Kd.R_ne ER.out E10.out (by decide) (by rw [e];rfl)
    have n11:g11≠g:=fun e=>Kd.R_ne ER.out E11.out (by decide) (by rw [e];rfl)
    have n12:g12≠g:=fun e=>Kd.R_ne ER.out E12.out (by decide) (by rw [e];rfl)
    have n13:g13≠g:=fun e=>Kd.R_ne ER.out E13.out (by decide) (by rw [e];rfl)
    have nn:gn≠g:=fun e=>Kd.R_ne ER.out En.out (by decide) (by rw [e];rfl)
    have nh:gh≠g:=fun e=>Kd.R_ne ER.out Eh.out (by decide) (by rw [e];rfl)
    have hsz:W.heap.size≤Wh.heap.size:=Nat.le_trans hF.size (Nat.le_trans GG.out.size hgh.size)
    refine ⟨⟨hsz,fun k o hk ho=>(same k (Array.getElem?_eq_some_iff.1 hk).1 (fun e=>by obtain ⟨cells,hc⟩:=Kd.R_typed ER.out g rfl;rw [e,hc] at hk;cases hk;cases ho)).trans hk⟩,⟨same _ (zf En.out) nn,same _ (zf Eh.out) nh⟩,⟨(same _ (zf E7.out) n7).trans E7.out,(same _ (zf E8.out) n8).trans E8.out,(same _ (zf E9.out) n9).trans E9.out,(same _ (zf E10.out) n10).trans E10.out,(same _ (zf E11.out) n11).trans E11.out,(same _ (zf E12.out) n12).trans E12.out,(same _ (zf E13.out) n13).trans E13.out,(same _ (zf E20.out) n20).trans E20.out,(same _ (zf En.out) nn).trans En.out,(same _ (zf Eh.out) nh).trans Eh.out⟩,?_,hbh _ (BG.out _ (zbj (EB.out.trans (hF.mono EB.out.size))))⟩
    rw [HPRE.out,HQ.out Y]
    exact hRh

 case done =>
  rintro D ys W hD hys ⟨⟨h7,h8,h9,h10,h11,h12,h13,h20,hn,hh⟩,hR,hB⟩ hK
  have k20:W.cell? ⟨g20,0,none⟩=some (.slice (some ⟨g,0,none⟩) l.length cap):=(zc h20 0).trans rfl
  have ER:=hhd hR
  have EB:=hhd hB
  clear h7 h8 h9 h10 h11 h12 h13 hn hh hR hB h20
  go_wp2
  refine ⟨by simp,.inl ⟨_,_,rfl,run_takeDeferred hK,?_⟩⟩
  have gD:D≠g:=fun e=>by
   obtain ⟨cells,hc⟩:=Kd.R_typed ER.out g rfl
   rw [e,hc] at hK
   cases hK
  have hg:=grownBy_putObj' W D (.deferred none)
  exact ⟨_,zdM rfl _ _ _,_,rfl,by rw [hys] at ER;exact zeU ER.out hg (fun r e=>by cases e;exact ⟨_,hK,rfl⟩),EB.out.grown hg EB.out.size (fun k e=>by cases e;exact Nat.le_trans (zj HB_15.out) hD)⟩
 case stop =>
  rintro D c pre W _ _ h _
  exact h.elim
end Go.Proofs.YteieahbadclppaaGreat.P

namespace Go.Proofs.YteieahbadclppaaGreat.P
open Go.RowKit Go.Shelf Go.Proofs.YteieahbadclppaaGreatW.PrintWords Go.Proofs.YteieahbadclppaaGreatW.PrintLast Go.Proofs.YteieahbadclppaaGreatW.PrintMore
attribute [local go_sem] Oper.semAt_some
set_option linter.unusedVariables false
set_option linter.unusedSimpArgs false
end Go.Proofs.YteieahbadclppaaGreat.P

namespace Go.Proofs.YteieahbadclppaaGreat.P
open Go.RowKit Go.Proofs.YteieahbadclppaaGreatW.PrintWords Go.Proofs.YteieahbadclppaaGreatW.PrintLast Go.Proofs.YteieahbadclppaaGreatW.PrintMore
attribute [local go_sem] zI zJ zO zP
set_option linter.unusedVariables false
set_option linter.unusedSimpArgs false
theorem zat (a b c d e f:Value):(Tryz.prog.info? 24).map (·.size)=some (#[a,b,c,d,e,f]:Array Value).size:=by kernel_rfl
set_option maxRecDepth 100000 in
set_option maxHeartbeats 4000000 in
theorem zhl (p0 b lo hi:Int) (hbt:sat_Bits.f p0=some (b,0)) (hB3:(b=15∧lo=-32768∧hi=32767)∨(b=31∧lo=-2147483648∧hi=2147483647)) (p1 p2 p4:Int) (p5:Bool) (L:List S38) (A:Option Addr) (c:Nat) (l l1:List S38) (k:Nat) (h0:0≤p4) (h1:p4 < 3) (q0:0≤p1) (q1:p1≤40) (w:World) (hr:Kd.C k38 w A l.length l) (hc:l.length≤c) (hl:l.length≤1000) (hl1:l1.length≤1000)
  (hck:plan_Check.f p0 p1 p2 0 p4 p5=some 0) (htw:roots_Twiddles.f p1 p0=some (L,0)) (hn:(l.length:Int)=2^p1.toNat) (ho:l.any (zaG (lo) hi)=false) (hf:flip_Flip.f k l=some (l1,0)) (h2:(p2 != 2)=true) :
  Calls Tryz.prog 16 #[.slice A l.length c,.agg (zaj p0 p1 p2 0 p4 p5)] w fun e w'=>∃A' c',e=.returned (.tuple #[.agg #[.slice A' l1.length c',.int .i64 1,.bool false,.slice none 0 0],.int .i64 0])∧Kd.R k38 38 w' w.heap.size (fun _=>True) (.slice A' l1.length c') (l1.map (shC 1 p4))∧Below w.heap.size w w':=by
 have hmx:Tryz.prog.follows .mixedOrders=true:=by kernel_rfl
 have HR:=hhd hr
 have HC:=hhd hc
 have HCK:=hhd hck
 have HBI:=hhd hbt
 have HB3:=hhd hB3
 have hb0:0≤b:=by omega
 have hb1:(0≤b)=True:=eq_true hb0
 have hb2:(b < 0)=False:=eq_false (by omega)
 have hb3:¬b < 0:=by omega
 have hb4:decide (0≤b)=true:=decide_eq_true hb0
 clear hbt hB3 hb0
 have HTW:=hhd htw
 have HL:=hhd hl1
 have HN:=hhd hn
 have HO:=hhd ho
 have HF:=hhd hf
 have HB0:=hhd (Below.refl w.heap.size w)
 clear hr hc hl hl1 hck htw hn ho hf
 unfold zaj
 go_enter Tryz.func16,Tryz.ntmps16
 go_wp2_with (first
  | ((with_reducible refine zg (N:=3) rfl ?_);refine ba_ 3 #[.int .i64 p0,.int .i64 p1,.int .i64 p2,.int .i64 0,.int .i64 p4,.bool p5] 24 ?_;intro g3 hg W1 hbox hbl;have L3:=gf_ hg HB0.out;have B3_1:=hhd hbox;have HB_1:=hhd (zb HB0.out hbl);have Cx_1:=hhd (Kd.C_below HR.out HB_1.out);obtain ⟨k3_0_1,k3_1_1,k3_2_1,k3_3_1,k3_4_1,k3_5_1⟩:=bk6 B3_1.out;clear hbox hbl hg)
  | ((with_reducible refine zg (N:=4) rfl ?_);refine ba_ 4 #[.slice none 0 0,.int .i64 0,.bool false,.slice none 0 0] 28 ?_;intro g4 hg W2 hbox hbl;have L4:=gf_ hg HB_1.out;have B4_2:=hhd hbox;have HB_2:=hhd (zb HB_1.out hbl);have B3_2:=hhd (za B3_1.out hbl);have Cx_2:=hhd (Kd.C_below HR.out HB_2.out);obtain ⟨k3_0_2,k3_1_2,k3_2_2,k3_3_2,k3_4_2,k3_5_2⟩:=bk6 B3_2.out;clear k3_0_1 k3_1_1 k3_2_1 k3_3_1 k3_4_1 k3_5_1;obtain ⟨k4_0_2,k4_1_2,k4_2_2,k4_3_2⟩:=bk4 B4_2.out;have NE34:=hhd (show g3≠g4 from fun e=>by have:=zf B3_1.out;omega);clear hbox hbl hg)
  | ((with_reducible refine zg (N:=9) rfl ?_);refine wpList_load_row rfl 24 _ rfl g3 rfl 24 #[.int .i64 p0,.int .i64 p1,.int .i64 p2,.int .i64 0,.int .i64 p4,.bool p5] (0,0) _ B3_2.out Tryz.underlying24 rfl (zat _ _ _ _ _ _) ?_)
  | (go_at_call 37;(with_reducible refine (plan_Check.calls p0 p1 p2 0 p4 p5 0 _ HCK.out).mono ?_);rintro e W3 ⟨rfl,hb⟩;have HB_3:=hhd (zb HB_2.out hb);have B3_3:=hhd (za B3_2.out hb);have B4_3:=hhd (za B4_2.out hb);have Cx_3:=hhd (Kd.C_below HR.out HB_3.out);obtain ⟨k3_0_3,k3_1_3,k3_2_3,k3_3_3,k3_4_3,k3_5_3⟩:=bk6 B3_3.out;obtain ⟨k4_0_3,k4_1_3,k4_2_3,k4_3_3⟩:=bk4 B4_3.out;clear k3_0_2 k3_1_2 k3_2_2 k3_3_2 k3_4_2 k3_5_2 k4_0_2 k4_1_2 k4_2_2 k4_3_2;clear hb)
  | ((with_reducible refine zg (N:=15) rfl ?_);refine wpList_load_row rfl 24 _ rfl g3 rfl 24 #[.int .i64 p0,.int .i64 p1,.int .i64 p2,.int .i64 0,.int .i64 p4,.bool p5] (0,0) _ B3_3.out Tryz.underlying24 rfl (zat _ _ _ _ _ _) ?_)
  | (go_at_call 19;refine (zeR p0 p1 p2 p4 b p5 L HBI.out HTW.out _).mono ?_;rintro e W4 ⟨Aw,cw,rfl,ho,hb⟩;have Rw_4:=hhd (Kd.R_lower ho (zj HB_3.out));have HB_4:=hhd (zb HB_3.out hb);have B3_4:=hhd (za B3_3.out hb);have B4_4:=hhd (za B4_3.out hb);have Cx_4:=hhd (Kd.C_below HR.out HB_4.out);obtain ⟨k3_0_4,k3_1_4,k3_2_4,k3_3_4,k3_4_4,k3_5_4⟩:=bk6 B3_4.out;obtain ⟨k4_0_4,k4_1_4,k4_2_4,k4_3_4⟩:=bk4 B4_4.out;clear k3_0_3 k3_1_3 k3_2_3 k3_3_3 k3_4_3 k3_5_3 k4_0_3 k4_1_3 k4_2_3 k4_3_3;clear hb ho)
  | ((with_reducible refine zg (N:=7) rfl ?_);refine ba_ 7 #[.int .i64 0,.int .i64 0,.int .i64 0,.int .i64 0,.int .i64 0,.bool false,.nilIface,.int .i64 0,.slice none 0 0] 56 ?_;intro g7 hg W5 hbox hbl;have L7:=gf_ hg HB_4.out;have B7_5:=hhd hbox;have HB_5:=hhd (zb HB_4.out hbl);have B3_5:=hhd (za B3_4.out hbl);have B4_5:=hhd (za B4_4.out hbl);have Rw_5:=hhd (Kd.R_below Rw_4.out hbl);have Cx_5:=hhd (Kd.C_below HR.out HB_5.out);obtain ⟨k3_0_5,k3_1_5,k3_2_5,k3_3_5,k3_4_5,k3_5_5⟩:=bk6 B3_5.out;obtain ⟨k4_0_5,k4_1_5,k4_2_5,k4_3_5⟩:=bk4 B4_5.out;clear k3_0_4 k3_1_4 k3_2_4 k3_3_4 k3_4_4 k3_5_4 k4_0_4 k4_1_4 k4_2_4 k4_3_4;obtain ⟨k7_0_5,k7_1_5,k7_2_5,k7_3_5,k7_4_5,k7_5_5,k7_6_5,k7_7_5,k7_8_5⟩:=bk9 B7_5.out;have NE37:=hhd (show g3≠g7 from fun e=>by have:=zf B3_4.out;omega);have NE47:=hhd (show g4≠g7 from fun e=>by have:=zf B4_4.out;omega);have NR7:=hhd (show some g7≠_ from by rw [hg];exact Kd.R_ne_new Rw_4.out 0);clear hbox hbl hg)
  | ((with_reducible refine zo (t:=56) (p:=7) rfl ?_);refine zv rfl 56 _ _ rfl g7 #[.int .i64 p0,.int .i64 p1,.int .i64 p2,.int .i64 0,.int .i64 p4,.bool p5,.iface 97 (.agg #[]),.int .i64 b,.slice Aw L.length cw] rfl rfl 56 #[.int .i64 0,.int .i64 0,.int .i64 0,.int .i64 0,.int .i64 0,.bool false,.nilIface,.int .i64 0,.slice none 0 0] B7_5.out (za9 _ _ _ _ _ _ _ _ _) rfl (zdU _ _ _ _ _ _ _ _ _) ?_;intro W6 hq hoth hbel;have B7_6:=hhd hq;have HB_6:=hhd (hbel _ _ L7 HB_5.out);have B3_6:=hhd ((hoth _ NE37.out).trans B3_5.out);have B4_6:=hhd ((hoth _ NE47.out).trans B4_5.out);have Rw_6:=hhd (zK Rw_5.out hoth NR7.out);obtain ⟨k3_0_6,k3_1_6,k3_2_6,k3_3_6,k3_4_6,k3_5_6⟩:=bk6 B3_6.out;obtain ⟨k4_0_6,k4_1_6,k4_2_6,k4_3_6⟩:=bk4 B4_6.out;clear k3_0_5 k3_1_5 k3_2_5 k3_3_5 k3_4_5 k3_5_5 k4_0_5 k4_1_5 k4_2_5 k4_3_5 k7_0_5 k7_1_5 k7_2_5 k7_3_5 k7_4_5 k7_5_5 k7_6_5 k7_7_5 k7_8_5;obtain ⟨k7_0_6,k7_1_6,k7_2_6,k7_3_6,k7_4_6,k7_5_6,k7_6_6,k7_7_6,k7_8_6⟩:=bk9 B7_6.out;have Cx_6:=hhd (Kd.C_below HR.out HB_6.out);clear hq hoth hbel))
 refine zae (S:=fun w'=>Below W6.heap.size W6 w') (ds:=[]) (fl 11 0) hmx rfl rfl (Below.refl _ _).drew (fun hHeld=>?_)
 refine px_ 0 (some 17) (fl 11 1) rfl rfl ?_
 refine px_ 2 (some 19) (fl 11 5) rfl rfl ?_
 refine px_ 5 (some 22) (fl 11 37) rfl rfl ?_
 refine tx_ 1 (some 18) (fl 11 39) rfl rfl hHeld (by rintro w' hs;obtain ⟨j_k3_0_6,j_k3_1_6,j_k3_2_6,j_k3_3_6,j_k3_4_6,j_k3_5_6⟩:=bg6 hs k3_0_6 k3_1_6 k3_2_6 k3_3_6 k3_4_6 k3_5_6;obtain ⟨j_k7_0_6,j_k7_1_6,j_k7_2_6,j_k7_3_6,j_k7_4_6,j_k7_5_6⟩:=bg6 hs k7_0_6 k7_1_6 k7_2_6 k7_3_6 k7_4_6 k7_5_6;obtain ⟨j_k7_6_6,j_k7_7_6,j_k7_8_6⟩:=bg3 hs k7_6_6 k7_7_6 k7_8_6;go_simp;with_reducible rfl) ?_
 refine tx_ 3 (some 20) (fl 11 47) rfl rfl hHeld (by rintro w' hs;obtain ⟨j_k3_0_6,j_k3_1_6,j_k3_2_6,j_k3_3_6,j_k3_4_6,j_k3_5_6⟩:=bg6 hs k3_0_6 k3_1_6 k3_2_6 k3_3_6 k3_4_6 k3_5_6;obtain ⟨j_k7_0_6,j_k7_1_6,j_k7_2_6,j_k7_3_6,j_k7_4_6,j_k7_5_6⟩:=bg6 hs k7_0_6 k7_1_6 k7_2_6 k7_3_6 k7_4_6 k7_5_6;obtain ⟨j_k7_6_6,j_k7_7_6,j_k7_8_6⟩:=bg3 hs k7_6_6 k7_7_6 k7_8_6;go_simp;with_reducible rfl) ?_
 refine px_ 4 (some 21) (fl 11 63) rfl rfl ?_
 refine tx_ 6 (some 23) (fl 11 127) rfl rfl hHeld (by rintro w' hs;obtain ⟨j_k3_0_6,j_k3_1_6,j_k3_2_6,j_k3_3_6,j_k3_4_6,j_k3_5_6⟩:=bg6 hs k3_0_6 k3_1_6 k3_2_6 k3_3_6 k3_4_6 k3_5_6;obtain ⟨j_k7_0_6,j_k7_1_6,j_k7_2_6,j_k7_3_6,j_k7_4_6,j_k7_5_6⟩:=bg6 hs k7_0_6 k7_1_6 k7_2_6 k7_3_6 k7_4_6 k7_5_6;obtain ⟨j_k7_6_6,j_k7_7_6,j_k7_8_6⟩:=bg3 hs k7_6_6 k7_7_6 k7_8_6;go_simp;with_reducible rfl) ?_
 refine px_ 7 (some 24) (fl 11 255) rfl rfl ?_
 refine px_ 8 (some 25) (fl 11 511) rfl rfl ?_
 refine zA (i:=9) (N:=some 26) (fl 11 1023) rfl rfl (by kernel_rfl) (by decide) (fun K hK=>?_)
 refine zN Tryz.func38 (by kernel_rfl) rfl #[.slice A l.length c,.agg (zaj p0 p1 p2 0 p4 p5),.int .i64 (lo),.int .i64 hi] (by rfl) rfl rfl (by go_simp;rcases HB3.out with ⟨rfl,rfl,rfl⟩ | ⟨rfl,rfl,rfl⟩ <;> exact ⟨rfl,by decide +kernel,by decide +kernel⟩) ?_
 refine (zcl false p0 p1 p2 0 p4 p5 (lo) hi A c l _ (Kd.C_below Cx_6.out hHeld) HC.out q0 q1 HN.out HO.out).mono ?_
 rintro e Wc ⟨rfl,hbl⟩
 refine ⟨_,rfl,?_⟩
 refine hK.out _ _ (zb hHeld hbl) (fun hHeld2=>?_)
 clear hK K hHeld hbl
 have hHeld:=hHeld2
 clear hHeld2
 refine nx_ (some 26) ?_
 refine px_ 10 (some 8) (fl 11 2047) rfl rfl ?_
 refine zM (by kernel_rfl) ?_
 have HBc:=hhd (zb HB_6.out hHeld)
 have B3c:=hhd (za B3_6.out hHeld)
 have B4c:=hhd (za B4_6.out hHeld)
 have B7c:=hhd (za B7_6.out hHeld)
 have Rwc:=hhd (Kd.R_below Rw_6.out hHeld)
 clear hHeld
 go_wp2_with (first
  | ((with_reducible refine zg (N:=31) rfl ?_);refine wpList_load_row rfl 56 _ rfl g7 rfl 56 #[.int .i64 p0,.int .i64 p1,.int .i64 p2,.int .i64 0,.int .i64 p4,.bool p5,.iface 97 (.agg #[]),.int .i64 b,.slice Aw L.length cw] (0,0) _ B7c.out Tryz.underlying56 rfl (za9 _ _ _ _ _ _ _ _ _) ?_)
  | (go_at_call 39;refine (zkW p0 p1 p2 p4 b p5 Aw L.length cw A c l l1 k h0 h1 _ (Kd.C_below HR.out HBc.out) HC.out HL.out HF.out h2).mono ?_;rintro e We ⟨A2,c2,rfl,ho,hb⟩;have Rze:=hhd (Kd.R_lower ho (zj HBc.out));have B4e:=hhd (za B4c.out hb);have HBe:=hhd (zb HBc.out hb);clear ho hb)
  | ((with_reducible refine zo (t:=28) (p:=4) rfl ?_);refine zv rfl 28 _ _ rfl g4 #[.slice A2 l1.length c2,.int .i64 1,.bool false,.slice none 0 0] rfl rfl 28 #[.slice none 0 0,.int .i64 0,.bool false,.slice none 0 0] B4e.out (zD _ _ _ _) rfl (z7 _ _ _ _ _ _ _ _) ?_;intro Wf hq hoth hbel;have B4f:=hhd hq;have HBf:=hhd (hbel _ _ L4 HBe.out);have Rzf:=hhd (zE rfl Rze.out B4e.out (by decide) hoth);clear hq hoth hbel))
 refine bodyPost_ret (zZ rfl _ _ g4 28 #[.slice A2 l1.length c2,.int .i64 1,.bool false,.slice none 0 0] (0,0) _ rfl B4f.out Tryz.underlying28 rfl (zD _ _ _ _)) rfl ?_
 exact ⟨A2,c2,rfl,Rzf.out,HBf.out⟩
set_option maxRecDepth 100000 in
set_option maxHeartbeats 4000000 in
theorem zhm (p0 b lo hi:Int) (hbt:sat_Bits.f p0=some (b,0)) (hB3:(b=15∧lo=-32768∧hi=32767)∨(b=31∧lo=-2147483648∧hi=2147483647)) (p1 p4:Int) (p5:Bool) (L:List S38) (A:Option Addr) (c:Nat) (l:List S38) (h0:0≤p4) (h1:p4 < 3) (q0:0≤p1) (q1:p1≤40) (w:World) (hr:Kd.C k38 w A l.length l) (hc:l.length≤c) (hl:l.length≤1000) (hl1:l.length≤1000)
  (hck:plan_Check.f p0 p1 2 0 p4 p5=some 0) (htw:roots_Twiddles.f p1 p0=some (L,0)) (hn:(l.length:Int)=2^p1.toNat) (ho:l.any (zaG (lo) hi)=false) :
  Calls Tryz.prog 16 #[.slice A l.length c,.agg (zaj p0 p1 2 0 p4 p5)] w fun e w'=>∃A' c',e=.returned (.tuple #[.agg #[.slice A' l.length c',.int .i64 1,.bool false,.slice none 0 0],.int .i64 0])∧Kd.R k38 38 w' w.heap.size (fun _=>True) (.slice A' l.length c') (l.map (shC 1 p4))∧Below w.heap.size w w':=by
 have hmx:Tryz.prog.follows .mixedOrders=true:=by kernel_rfl
 have HR:=hhd hr
 have HC:=hhd hc
 have HCK:=hhd hck
 have HBI:=hhd hbt
 have HB3:=hhd hB3
 have hb0:0≤b:=by omega
 have hb1:(0≤b)=True:=eq_true hb0
 have hb2:(b < 0)=False:=eq_false (by omega)
 have hb3:¬b < 0:=by omega
 have hb4:decide (0≤b)=true:=decide_eq_true hb0
 clear hbt hB3 hb0
 have HTW:=hhd htw
 have HL:=hhd hl1
 have HN:=hhd hn
 have HO:=hhd ho
 have HB0:=hhd (Below.refl w.heap.size w)
 clear hr hc hl hl1 hck htw hn ho
 unfold zaj
 go_enter Tryz.func16,Tryz.ntmps16
 go_wp2_with (first
  | ((with_reducible refine zg (N:=3) rfl ?_);refine ba_ 3 #[.int .i64 p0,.int .i64 p1,.int .i64 2,.int .i64 0,.int .i64 p4,.bool p5] 24 ?_;intro g3 hg W1 hbox hbl;have L3:=gf_ hg HB0.out;have B3_1:=hhd hbox;have HB_1:=hhd (zb HB0.out hbl);have Cx_1:=hhd (Kd.C_below HR.out HB_1.out);obtain ⟨k3_0_1,k3_1_1,k3_2_1,k3_3_1,k3_4_1,k3_5_1⟩:=bk6 B3_1.out;clear hbox hbl hg)
  | ((with_reducible refine zg (N:=4) rfl ?_);refine ba_ 4 #[.slice none 0 0,.int .i64 0,.bool false,.slice none 0 0] 28 ?_;intro g4 hg W2 hbox hbl;have L4:=gf_ hg HB_1.out;have B4_2:=hhd hbox;have HB_2:=hhd (zb HB_1.out hbl);have B3_2:=hhd (za B3_1.out hbl);have Cx_2:=hhd (Kd.C_below HR.out HB_2.out);obtain ⟨k3_0_2,k3_1_2,k3_2_2,k3_3_2,k3_4_2,k3_5_2⟩:=bk6 B3_2.out;clear k3_0_1 k3_1_1 k3_2_1 k3_3_1 k3_4_1 k3_5_1;obtain ⟨k4_0_2,k4_1_2,k4_2_2,k4_3_2⟩:=bk4 B4_2.out;have NE34:=hhd (show g3≠g4 from fun e=>by have:=zf B3_1.out;omega);clear hbox hbl hg)
  | ((with_reducible refine zg (N:=9) rfl ?_);refine wpList_load_row rfl 24 _ rfl g3 rfl 24 #[.int .i64 p0,.int .i64 p1,.int .i64 2,.int .i64 0,.int .i64 p4,.bool p5] (0,0) _ B3_2.out Tryz.underlying24 rfl (zat _ _ _ _ _ _) ?_)
  | (go_at_call 37;(with_reducible refine (plan_Check.calls p0 p1 2 0 p4 p5 0 _ HCK.out).mono ?_);rintro e W3 ⟨rfl,hb⟩;have HB_3:=hhd (zb HB_2.out hb);have B3_3:=hhd (za B3_2.out hb);have B4_3:=hhd (za B4_2.out hb);have Cx_3:=hhd (Kd.C_below HR.out HB_3.out);obtain ⟨k3_0_3,k3_1_3,k3_2_3,k3_3_3,k3_4_3,k3_5_3⟩:=bk6 B3_3.out;obtain ⟨k4_0_3,k4_1_3,k4_2_3,k4_3_3⟩:=bk4 B4_3.out;clear k3_0_2 k3_1_2 k3_2_2 k3_3_2 k3_4_2 k3_5_2 k4_0_2 k4_1_2 k4_2_2 k4_3_2;clear hb)
  | ((with_reducible refine zg (N:=15) rfl ?_);refine wpList_load_row rfl 24 _ rfl g3 rfl 24 #[.int .i64 p0,.int .i64 p1,.int .i64 2,.int .i64 0,.int .i64 p4,.bool p5] (0,0) _ B3_3.out Tryz.underlying24 rfl (zat _ _ _ _ _ _) ?_)
  | (go_at_call 19;refine (zeR p0 p1 2 p4 b p5 L HBI.out HTW.out _).mono ?_;rintro e W4 ⟨Aw,cw,rfl,ho,hb⟩;have Rw_4:=hhd (Kd.R_lower ho (zj HB_3.out));have HB_4:=hhd (zb HB_3.out hb);have B3_4:=hhd (za B3_3.out hb);have B4_4:=hhd (za B4_3.out hb);have Cx_4:=hhd (Kd.C_below HR.out HB_4.out);obtain ⟨k3_0_4,k3_1_4,k3_2_4,k3_3_4,k3_4_4,k3_5_4⟩:=bk6 B3_4.out;obtain ⟨k4_0_4,k4_1_4,k4_2_4,k4_3_4⟩:=bk4 B4_4.out;clear k3_0_3 k3_1_3 k3_2_3 k3_3_3 k3_4_3 k3_5_3 k4_0_3 k4_1_3 k4_2_3 k4_3_3;clear hb ho)
  | ((with_reducible refine zg (N:=7) rfl ?_);refine ba_ 7 #[.int .i64 0,.int .i64 0,.int .i64 0,.int .i64 0,.int .i64 0,.bool false,.nilIface,.int .i64 0,.slice none 0 0] 56 ?_;intro g7 hg W5 hbox hbl;have L7:=gf_ hg HB_4.out;have B7_5:=hhd hbox;have HB_5:=hhd (zb HB_4.out hbl);have B3_5:=hhd (za B3_4.out hbl);have B4_5:=hhd (za B4_4.out hbl);have Rw_5:=hhd (Kd.R_below Rw_4.out hbl);have Cx_5:=hhd (Kd.C_below HR.out HB_5.out);obtain ⟨k3_0_5,k3_1_5,k3_2_5,k3_3_5,k3_4_5,k3_5_5⟩:=bk6 B3_5.out;obtain ⟨k4_0_5,k4_1_5,k4_2_5,k4_3_5⟩:=bk4 B4_5.out;clear k3_0_4 k3_1_4 k3_2_4 k3_3_4 k3_4_4 k3_5_4 k4_0_4 k4_1_4 k4_2_4 k4_3_4;obtain ⟨k7_0_5,k7_1_5,k7_2_5,k7_3_5,k7_4_5,k7_5_5,k7_6_5,k7_7_5,k7_8_5⟩:=bk9 B7_5.out;have NE37:=hhd (show g3≠g7 from fun e=>by have:=zf B3_4.out;omega);have NE47:=hhd (show g4≠g7 from fun e=>by have:=zf B4_4.out;omega);have NR7:=hhd (show some g7≠_ from by rw [hg];exact Kd.R_ne_new Rw_4.out 0);clear hbox hbl hg)
  | ((with_reducible refine zo (t:=56) (p:=7) rfl ?_);refine zv rfl 56 _ _ rfl g7 #[.int .i64 p0,.int .i64 p1,.int .i64 2,.int .i64 0,.int .i64 p4,.bool p5,.iface 97 (.agg #[]),.int .i64 b,.slice Aw L.length cw] rfl rfl 56 #[.int .i64 0,.int .i64 0,.int .i64 0,.int .i64 0,.int .i64 0,.bool false,.nilIface,.int .i64 0,.slice none 0 0] B7_5.out (za9 _ _ _ _ _ _ _ _ _) rfl (zdU _ _ _ _ _ _ _ _ _) ?_;intro W6 hq hoth hbel;have B7_6:=hhd hq;have HB_6:=hhd (hbel _ _ L7 HB_5.out);have B3_6:=hhd ((hoth _ NE37.out).trans B3_5.out);have B4_6:=hhd ((hoth _ NE47.out).trans B4_5.out);have Rw_6:=hhd (zK Rw_5.out hoth NR7.out);obtain ⟨k3_0_6,k3_1_6,k3_2_6,k3_3_6,k3_4_6,k3_5_6⟩:=bk6 B3_6.out;obtain ⟨k4_0_6,k4_1_6,k4_2_6,k4_3_6⟩:=bk4 B4_6.out;clear k3_0_5 k3_1_5 k3_2_5 k3_3_5 k3_4_5 k3_5_5 k4_0_5 k4_1_5 k4_2_5 k4_3_5 k7_0_5 k7_1_5 k7_2_5 k7_3_5 k7_4_5 k7_5_5 k7_6_5 k7_7_5 k7_8_5;obtain ⟨k7_0_6,k7_1_6,k7_2_6,k7_3_6,k7_4_6,k7_5_6,k7_6_6,k7_7_6,k7_8_6⟩:=bk9 B7_6.out;have Cx_6:=hhd (Kd.C_below HR.out HB_6.out);clear hq hoth hbel))
 refine zae (S:=fun w'=>Below W6.heap.size W6 w') (ds:=[]) (fl 11 0) hmx rfl rfl (Below.refl _ _).drew (fun hHeld=>?_)
 refine px_ 0 (some 17) (fl 11 1) rfl rfl ?_
 refine px_ 2 (some 19) (fl 11 5) rfl rfl ?_
 refine px_ 5 (some 22) (fl 11 37) rfl rfl ?_
 refine tx_ 1 (some 18) (fl 11 39) rfl rfl hHeld (by rintro w' hs;obtain ⟨j_k3_0_6,j_k3_1_6,j_k3_2_6,j_k3_3_6,j_k3_4_6,j_k3_5_6⟩:=bg6 hs k3_0_6 k3_1_6 k3_2_6 k3_3_6 k3_4_6 k3_5_6;obtain ⟨j_k7_0_6,j_k7_1_6,j_k7_2_6,j_k7_3_6,j_k7_4_6,j_k7_5_6⟩:=bg6 hs k7_0_6 k7_1_6 k7_2_6 k7_3_6 k7_4_6 k7_5_6;obtain ⟨j_k7_6_6,j_k7_7_6,j_k7_8_6⟩:=bg3 hs k7_6_6 k7_7_6 k7_8_6;go_simp;with_reducible rfl) ?_
 refine tx_ 3 (some 20) (fl 11 47) rfl rfl hHeld (by rintro w' hs;obtain ⟨j_k3_0_6,j_k3_1_6,j_k3_2_6,j_k3_3_6,j_k3_4_6,j_k3_5_6⟩:=bg6 hs k3_0_6 k3_1_6 k3_2_6 k3_3_6 k3_4_6 k3_5_6;obtain ⟨j_k7_0_6,j_k7_1_6,j_k7_2_6,j_k7_3_6,j_k7_4_6,j_k7_5_6⟩:=bg6 hs k7_0_6 k7_1_6 k7_2_6 k7_3_6 k7_4_6 k7_5_6;obtain ⟨j_k7_6_6,j_k7_7_6,j_k7_8_6⟩:=bg3 hs k7_6_6 k7_7_6 k7_8_6;go_simp;with_reducible rfl) ?_
 refine px_ 4 (some 21) (fl 11 63) rfl rfl ?_
 refine tx_ 6 (some 23) (fl 11 127) rfl rfl hHeld (by rintro w' hs;obtain ⟨j_k3_0_6,j_k3_1_6,j_k3_2_6,j_k3_3_6,j_k3_4_6,j_k3_5_6⟩:=bg6 hs k3_0_6 k3_1_6 k3_2_6 k3_3_6 k3_4_6 k3_5_6;obtain ⟨j_k7_0_6,j_k7_1_6,j_k7_2_6,j_k7_3_6,j_k7_4_6,j_k7_5_6⟩:=bg6 hs k7_0_6 k7_1_6 k7_2_6 k7_3_6 k7_4_6 k7_5_6;obtain ⟨j_k7_6_6,j_k7_7_6,j_k7_8_6⟩:=bg3 hs k7_6_6 k7_7_6 k7_8_6;go_simp;with_reducible rfl) ?_
 refine px_ 7 (some 24) (fl 11 255) rfl rfl ?_
 refine px_ 8 (some 25) (fl 11 511) rfl rfl ?_
 refine zA (i:=9) (N:=some 26) (fl 11 1023) rfl rfl (by kernel_rfl) (by decide) (fun K hK=>?_)
 refine zN Tryz.func38 (by kernel_rfl) rfl #[.slice A l.length c,.agg (zaj p0 p1 2 0 p4 p5),.int .i64 (lo),.int .i64 hi] (by rfl) rfl rfl (by go_simp;rcases HB3.out with ⟨rfl,rfl,rfl⟩ | ⟨rfl,rfl,rfl⟩ <;> exact ⟨rfl,by decide +kernel,by decide +kernel⟩) ?_
 refine (zcl false p0 p1 2 0 p4 p5 (lo) hi A c l _ (Kd.C_below Cx_6.out hHeld) HC.out q0 q1 HN.out HO.out).mono ?_
 rintro e Wc ⟨rfl,hbl⟩
 refine ⟨_,rfl,?_⟩
 refine hK.out _ _ (zb hHeld hbl) (fun hHeld2=>?_)
 clear hK K hHeld hbl
 have hHeld:=hHeld2
 clear hHeld2
 refine nx_ (some 26) ?_
 refine px_ 10 (some 8) (fl 11 2047) rfl rfl ?_
 refine zM (by kernel_rfl) ?_
 have HBc:=hhd (zb HB_6.out hHeld)
 have B3c:=hhd (za B3_6.out hHeld)
 have B4c:=hhd (za B4_6.out hHeld)
 have B7c:=hhd (za B7_6.out hHeld)
 have Rwc:=hhd (Kd.R_below Rw_6.out hHeld)
 clear hHeld
 go_wp2_with (first
  | ((with_reducible refine zg (N:=31) rfl ?_);refine wpList_load_row rfl 56 _ rfl g7 rfl 56 #[.int .i64 p0,.int .i64 p1,.int .i64 2,.int .i64 0,.int .i64 p4,.bool p5,.iface 97 (.agg #[]),.int .i64 b,.slice Aw L.length cw] (0,0) _ B7c.out Tryz.underlying56 rfl (za9 _ _ _ _ _ _ _ _ _) ?_)
  | (go_at_call 39;refine (zkV p0 p1 p4 b p5 Aw L.length cw A c l h0 h1 _ (Kd.C_below HR.out HBc.out) HC.out HL.out).mono ?_;rintro e We ⟨A2,c2,rfl,ho,hb⟩;have Rze:=hhd (Kd.R_lower ho (zj HBc.out));have B4e:=hhd (za B4c.out hb);have HBe:=hhd (zb HBc.out hb);clear ho hb)
  | ((with_reducible refine zo (t:=28) (p:=4) rfl ?_);refine zv rfl 28 _ _ rfl g4 #[.slice A2 l.length c2,.int .i64 1,.bool false,.slice none 0 0] rfl rfl 28 #[.slice none 0 0,.int .i64 0,.bool false,.slice none 0 0] B4e.out (zD _ _ _ _) rfl (z7 _ _ _ _ _ _ _ _) ?_;intro Wf hq hoth hbel;have B4f:=hhd hq;have HBf:=hhd (hbel _ _ L4 HBe.out);have Rzf:=hhd (zE rfl Rze.out B4e.out (by decide) hoth);clear hq hoth hbel))
 refine bodyPost_ret (zZ rfl _ _ g4 28 #[.slice A2 l.length c2,.int .i64 1,.bool false,.slice none 0 0] (0,0) _ rfl B4f.out Tryz.underlying28 rfl (zD _ _ _ _)) rfl ?_
 exact ⟨A2,c2,rfl,Rzf.out,HBf.out⟩
set_option maxRecDepth 100000 in
set_option maxHeartbeats 4000000 in
theorem zj0 (p1 p2 p4:Int) (p5:Bool) (L:List S38) (A:Option Addr) (c:Nat) (l l1:List S38) (k:Nat) (h0:0≤p4) (h1:p4 < 3) (q0:0≤p1) (q1:p1≤40) (w:World) (hr:Kd.C k38 w A l.length l) (hc:l.length≤c) (hl:l.length≤1000) (hl1:l1.length≤1000)
  (hck:plan_Check.f 0 p1 p2 2 p4 p5=some 0) (htw:roots_Twiddles.f p1 0=some (L,0)) (hn:(l.length:Int)=2^p1.toNat) (ho:l.any (zaG (-32768) 32767)=false) (hf:flip_Flip.f k l=some (l1,0)) (h2:(p2 != 2)=true) :
  Calls Tryz.prog 16 #[.slice A l.length c,.agg (zaj 0 p1 p2 2 p4 p5)] w fun e w'=>∃A' c',e=.returned (.tuple #[.agg #[.slice A' l1.length c',.int .i64 0,.bool false,.slice none 0 0],.int .i64 0])∧Kd.R k38 38 w' w.heap.size (fun _=>True) (.slice A' l1.length c') (l1.map (shC 0 p4))∧Below w.heap.size w w':=by
 have hmx:Tryz.prog.follows .mixedOrders=true:=by kernel_rfl
 have HR:=hhd hr
 have HC:=hhd hc
 have HCK:=hhd hck
 have HBI:=hhd (show sat_Bits.f 0=some (15,0) from rfl)
 have HTW:=hhd htw
 have HL:=hhd hl1
 have HN:=hhd hn
 have HO:=hhd ho
 have HF:=hhd hf
 have HB0:=hhd (Below.refl w.heap.size w)
 clear hr hc hl hl1 hck htw hn ho hf
 unfold zaj
 go_enter Tryz.func16,Tryz.ntmps16
 go_wp2_with (first
  | ((with_reducible refine zg (N:=3) rfl ?_);refine ba_ 3 #[.int .i64 0,.int .i64 p1,.int .i64 p2,.int .i64 2,.int .i64 p4,.bool p5] 24 ?_;intro g3 hg W1 hbox hbl;have L3:=gf_ hg HB0.out;have B3_1:=hhd hbox;have HB_1:=hhd (zb HB0.out hbl);have Cx_1:=hhd (Kd.C_below HR.out HB_1.out);obtain ⟨k3_0_1,k3_1_1,k3_2_1,k3_3_1,k3_4_1,k3_5_1⟩:=bk6 B3_1.out;clear hbox hbl hg)
  | ((with_reducible refine zg (N:=4) rfl ?_);refine ba_ 4 #[.slice none 0 0,.int .i64 0,.bool false,.slice none 0 0] 28 ?_;intro g4 hg W2 hbox hbl;have L4:=gf_ hg HB_1.out;have B4_2:=hhd hbox;have HB_2:=hhd (zb HB_1.out hbl);have B3_2:=hhd (za B3_1.out hbl);have Cx_2:=hhd (Kd.C_below HR.out HB_2.out);obtain ⟨k3_0_2,k3_1_2,k3_2_2,k3_3_2,k3_4_2,k3_5_2⟩:=bk6 B3_2.out;clear k3_0_1 k3_1_1 k3_2_1 k3_3_1 k3_4_1 k3_5_1;obtain ⟨k4_0_2,k4_1_2,k4_2_2,k4_3_2⟩:=bk4 B4_2.out;have NE34:=hhd (show g3≠g4 from fun e=>by have:=zf B3_1.out;omega);clear hbox hbl hg)
  | ((with_reducible refine zg (N:=9) rfl ?_);refine wpList_load_row rfl 24 _ rfl g3 rfl 24 #[.int .i64 0,.int .i64 p1,.int .i64 p2,.int .i64 2,.int .i64 p4,.bool p5] (0,0) _ B3_2.out Tryz.underlying24 rfl (zat _ _ _ _ _ _) ?_)
  | (go_at_call 37;(with_reducible refine (plan_Check.calls 0 p1 p2 2 p4 p5 0 _ HCK.out).mono ?_);rintro e W3 ⟨rfl,hb⟩;have HB_3:=hhd (zb HB_2.out hb);have B3_3:=hhd (za B3_2.out hb);have B4_3:=hhd (za B4_2.out hb);have Cx_3:=hhd (Kd.C_below HR.out HB_3.out);obtain ⟨k3_0_3,k3_1_3,k3_2_3,k3_3_3,k3_4_3,k3_5_3⟩:=bk6 B3_3.out;obtain ⟨k4_0_3,k4_1_3,k4_2_3,k4_3_3⟩:=bk4 B4_3.out;clear k3_0_2 k3_1_2 k3_2_2 k3_3_2 k3_4_2 k3_5_2 k4_0_2 k4_1_2 k4_2_2 k4_3_2;clear hb)
  | ((with_reducible refine zg (N:=15) rfl ?_);refine wpList_load_row rfl 24 _ rfl g3 rfl 24 #[.int .i64 0,.int .i64 p1,.int .i64 p2,.int .i64 2,.int .i64 p4,.bool p5] (0,0) _ B3_3.out Tryz.underlying24 rfl (zat _ _ _ _ _ _) ?_)
  | (go_at_call 19;refine (zir 0 p1 p2 p4 15 p5 L HBI.out HTW.out _).mono ?_;rintro e W4 ⟨Aw,cw,rfl,ho,hb⟩;have Rw_4:=hhd (Kd.R_lower ho (zj HB_3.out));have HB_4:=hhd (zb HB_3.out hb);have B3_4:=hhd (za B3_3.out hb);have B4_4:=hhd (za B4_3.out hb);have Cx_4:=hhd (Kd.C_below HR.out HB_4.out);obtain ⟨k3_0_4,k3_1_4,k3_2_4,k3_3_4,k3_4_4,k3_5_4⟩:=bk6 B3_4.out;obtain ⟨k4_0_4,k4_1_4,k4_2_4,k4_3_4⟩:=bk4 B4_4.out;clear k3_0_3 k3_1_3 k3_2_3 k3_3_3 k3_4_3 k3_5_3 k4_0_3 k4_1_3 k4_2_3 k4_3_3;clear hb ho)
  | ((with_reducible refine zg (N:=7) rfl ?_);refine ba_ 7 #[.int .i64 0,.int .i64 0,.int .i64 0,.int .i64 0,.int .i64 0,.bool false,.nilIface,.int .i64 0,.slice none 0 0] 56 ?_;intro g7 hg W5 hbox hbl;have L7:=gf_ hg HB_4.out;have B7_5:=hhd hbox;have HB_5:=hhd (zb HB_4.out hbl);have B3_5:=hhd (za B3_4.out hbl);have B4_5:=hhd (za B4_4.out hbl);have Rw_5:=hhd (Kd.R_below Rw_4.out hbl);have Cx_5:=hhd (Kd.C_below HR.out HB_5.out);obtain ⟨k3_0_5,k3_1_5,k3_2_5,k3_3_5,k3_4_5,k3_5_5⟩:=bk6 B3_5.out;obtain ⟨k4_0_5,k4_1_5,k4_2_5,k4_3_5⟩:=bk4 B4_5.out;clear k3_0_4 k3_1_4 k3_2_4 k3_3_4 k3_4_4 k3_5_4 k4_0_4 k4_1_4 k4_2_4 k4_3_4;obtain ⟨k7_0_5,k7_1_5,k7_2_5,k7_3_5,k7_4_5,k7_5_5,k7_6_5,k7_7_5,k7_8_5⟩:=bk9 B7_5.out;have NE37:=hhd (show g3≠g7 from fun e=>by have:=zf B3_4.out;omega);have NE47:=hhd (show g4≠g7 from fun e=>by have:=zf B4_4.out;omega);have NR7:=hhd (show some g7≠_ from by rw [hg];exact Kd.R_ne_new Rw_4.out 0);clear hbox hbl hg)
  | ((with_reducible refine zo (t:=56) (p:=7) rfl ?_);refine zv rfl 56 _ _ rfl g7 #[.int .i64 0,.int .i64 p1,.int .i64 p2,.int .i64 2,.int .i64 p4,.bool p5,.iface 100 (.agg #[]),.int .i64 15,.slice Aw L.length cw] rfl rfl 56 #[.int .i64 0,.int .i64 0,.int .i64 0,.int .i64 0,.int .i64 0,.bool false,.nilIface,.int .i64 0,.slice none 0 0] B7_5.out (za9 _ _ _ _ _ _ _ _ _) rfl (zf2 _ _ _ _ _ _ _ _ _) ?_;intro W6 hq hoth hbel;have B7_6:=hhd hq;have HB_6:=hhd (hbel _ _ L7 HB_5.out);have B3_6:=hhd ((hoth _ NE37.out).trans B3_5.out);have B4_6:=hhd ((hoth _ NE47.out).trans B4_5.out);have Rw_6:=hhd (zK Rw_5.out hoth NR7.out);obtain ⟨k3_0_6,k3_1_6,k3_2_6,k3_3_6,k3_4_6,k3_5_6⟩:=bk6 B3_6.out;obtain ⟨k4_0_6,k4_1_6,k4_2_6,k4_3_6⟩:=bk4 B4_6.out;clear k3_0_5 k3_1_5 k3_2_5 k3_3_5 k3_4_5 k3_5_5 k4_0_5 k4_1_5 k4_2_5 k4_3_5 k7_0_5 k7_1_5 k7_2_5 k7_3_5 k7_4_5 k7_5_5 k7_6_5 k7_7_5 k7_8_5;obtain ⟨k7_0_6,k7_1_6,k7_2_6,k7_3_6,k7_4_6,k7_5_6,k7_6_6,k7_7_6,k7_8_6⟩:=bk9 B7_6.out;have Cx_6:=hhd (Kd.C_below HR.out HB_6.out);clear hq hoth hbel))
 refine zae (S:=fun w'=>Below W6.heap.size W6 w') (ds:=[]) (fl 11 0) hmx rfl rfl (Below.refl _ _).drew (fun hHeld=>?_)
 refine px_ 0 (some 17) (fl 11 1) rfl rfl ?_
 refine px_ 2 (some 19) (fl 11 5) rfl rfl ?_
 refine px_ 5 (some 22) (fl 11 37) rfl rfl ?_
 refine tx_ 1 (some 18) (fl 11 39) rfl rfl hHeld (by rintro w' hs;obtain ⟨j_k3_0_6,j_k3_1_6,j_k3_2_6,j_k3_3_6,j_k3_4_6,j_k3_5_6⟩:=bg6 hs k3_0_6 k3_1_6 k3_2_6 k3_3_6 k3_4_6 k3_5_6;obtain ⟨j_k7_0_6,j_k7_1_6,j_k7_2_6,j_k7_3_6,j_k7_4_6,j_k7_5_6⟩:=bg6 hs k7_0_6 k7_1_6 k7_2_6 k7_3_6 k7_4_6 k7_5_6;obtain ⟨j_k7_6_6,j_k7_7_6,j_k7_8_6⟩:=bg3 hs k7_6_6 k7_7_6 k7_8_6;go_simp;with_reducible rfl) ?_
 refine tx_ 3 (some 20) (fl 11 47) rfl rfl hHeld (by rintro w' hs;obtain ⟨j_k3_0_6,j_k3_1_6,j_k3_2_6,j_k3_3_6,j_k3_4_6,j_k3_5_6⟩:=bg6 hs k3_0_6 k3_1_6 k3_2_6 k3_3_6 k3_4_6 k3_5_6;obtain ⟨j_k7_0_6,j_k7_1_6,j_k7_2_6,j_k7_3_6,j_k7_4_6,j_k7_5_6⟩:=bg6 hs k7_0_6 k7_1_6 k7_2_6 k7_3_6 k7_4_6 k7_5_6;obtain ⟨j_k7_6_6,j_k7_7_6,j_k7_8_6⟩:=bg3 hs k7_6_6 k7_7_6 k7_8_6;go_simp;with_reducible rfl) ?_
 refine px_ 4 (some 21) (fl 11 63) rfl rfl ?_
 refine tx_ 6 (some 23) (fl 11 127) rfl rfl hHeld (by rintro w' hs;obtain ⟨j_k3_0_6,j_k3_1_6,j_k3_2_6,j_k3_3_6,j_k3_4_6,j_k3_5_6⟩:=bg6 hs k3_0_6 k3_1_6 k3_2_6 k3_3_6 k3_4_6 k3_5_6;obtain ⟨j_k7_0_6,j_k7_1_6,j_k7_2_6,j_k7_3_6,j_k7_4_6,j_k7_5_6⟩:=bg6 hs k7_0_6 k7_1_6 k7_2_6 k7_3_6 k7_4_6 k7_5_6;obtain ⟨j_k7_6_6,j_k7_7_6,j_k7_8_6⟩:=bg3 hs k7_6_6 k7_7_6 k7_8_6;go_simp;with_reducible rfl) ?_
 refine px_ 7 (some 24) (fl 11 255) rfl rfl ?_
 refine px_ 8 (some 25) (fl 11 511) rfl rfl ?_
 refine zA (i:=9) (N:=some 26) (fl 11 1023) rfl rfl (by kernel_rfl) (by decide) (fun K hK=>?_)
 refine zN Tryz.func38 (by kernel_rfl) rfl #[.slice A l.length c,.agg (zaj 0 p1 p2 2 p4 p5),.int .i64 (-32768),.int .i64 32767] (by rfl) rfl rfl (by go_simp;exact ⟨rfl,by unfold wrap64;omega,by unfold wrap64;omega⟩) ?_
 refine (zcl false 0 p1 p2 2 p4 p5 (-32768) 32767 A c l _ (Kd.C_below Cx_6.out hHeld) HC.out q0 q1 HN.out HO.out).mono ?_
 rintro e Wc ⟨rfl,hbl⟩
 refine ⟨_,rfl,?_⟩
 refine hK.out _ _ (zb hHeld hbl) (fun hHeld2=>?_)
 clear hK K hHeld hbl
 have hHeld:=hHeld2
 clear hHeld2
 refine nx_ (some 26) ?_
 refine px_ 10 (some 8) (fl 11 2047) rfl rfl ?_
 refine zM (by kernel_rfl) ?_
 have HBc:=hhd (zb HB_6.out hHeld)
 have B3c:=hhd (za B3_6.out hHeld)
 have B4c:=hhd (za B4_6.out hHeld)
 have B7c:=hhd (za B7_6.out hHeld)
 have Rwc:=hhd (Kd.R_below Rw_6.out hHeld)
 clear hHeld
 go_wp2_with (first
  | ((with_reducible refine zg (N:=31) rfl ?_);refine wpList_load_row rfl 56 _ rfl g7 rfl 56 #[.int .i64 0,.int .i64 p1,.int .i64 p2,.int .i64 2,.int .i64 p4,.bool p5,.iface 100 (.agg #[]),.int .i64 15,.slice Aw L.length cw] (0,0) _ B7c.out Tryz.underlying56 rfl (za9 _ _ _ _ _ _ _ _ _) ?_)
  | (go_at_call 39;refine (zkX 0 p1 p2 p4 15 p5 Aw L.length cw A c l l1 k h0 h1 _ (Kd.C_below HR.out HBc.out) HC.out HL.out HF.out h2).mono ?_;rintro e We ⟨A2,c2,rfl,ho,hb⟩;have Rze:=hhd (Kd.R_lower ho (zj HBc.out));have B4e:=hhd (za B4c.out hb);have HBe:=hhd (zb HBc.out hb);clear ho hb)
  | ((with_reducible refine zo (t:=28) (p:=4) rfl ?_);refine zv rfl 28 _ _ rfl g4 #[.slice A2 l1.length c2,.int .i64 0,.bool false,.slice none 0 0] rfl rfl 28 #[.slice none 0 0,.int .i64 0,.bool false,.slice none 0 0] B4e.out (zD _ _ _ _) rfl (z7 _ _ _ _ _ _ _ _) ?_;intro Wf hq hoth hbel;have B4f:=hhd hq;have HBf:=hhd (hbel _ _ L4 HBe.out);have Rzf:=hhd (zE rfl Rze.out B4e.out (by decide) hoth);clear hq hoth hbel))
 refine bodyPost_ret (zZ rfl _ _ g4 28 #[.slice A2 l1.length c2,.int .i64 0,.bool false,.slice none 0 0] (0,0) _ rfl B4f.out Tryz.underlying28 rfl (zD _ _ _ _)) rfl ?_
 exact ⟨A2,c2,rfl,Rzf.out,HBf.out⟩
end Go.Proofs.YteieahbadclppaaGreat.P

