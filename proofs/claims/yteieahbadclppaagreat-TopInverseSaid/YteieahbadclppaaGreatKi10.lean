/- Part 10 of 18 of the proof: the texts that it reaches, one behind the other. No condition. -/
import Derived.Test.YteieahbadclppaaGreatKi9
import Derived.RangeFuncBox
namespace Go.Proofs.YteieahbadclppaaGreat.P
open Go.RowKit Go.Shelf Go.Proofs.YteieahbadclppaaGreatW.PrintWords Go.Proofs.YteieahbadclppaaGreatW.PrintLast Go.Proofs.YteieahbadclppaaGreatW.PrintMore
set_option linter.unusedVariables false
set_option linter.unusedSimpArgs false
theorem zfK {P : Program} {ops : Array Oper} {Q : Exit → Act → World → Prop} {oi : Oper} {N : Option Tmp} {a : Act} {w : World} {K : Act → World → Prop} {f : FuncId} {fn : Func} {ar : Array Operand} {ts : Array TypeId} (hf : P.funcs[f]? = some fn) (hname : (fn.name == "runtime.NumGoroutine") = false) (args : Array Value) {x : Tmp} {lb : Array Value} (hb : fn.body.isSome = true)
  (hw:Region.wanted oi (yielded ops a.tmps)=true) (hN:oi.dst=N) (hop:oi.op=.call { callee:=.value (.tmp x),args:=ar,argTypes:=ts }) (hx:a.eval (.tmp x)=.func (.func f) #[] lb) (hargs:ar.map a.eval++lb=args)
  (h:Calls P f args w fun e w'=>∃v,e=.returned v∧K (a.put N v) w'):if Region.wanted oi (yielded ops a.tmps)=true then Oper.wp P oi a w K Q else K (a.put N undef) w:=by
 refine zlA f args hw hN ?_ h
 have he:=zfX hf hname hb args w
 unfold execOp
 simp [hop,resolve,Deferred.ofValue,invoke,hx,hargs,he]
def zcv (a b:S38) (bits sign:Int):S38:=⟨wrap64 (wrap64 (a.f0*2^(bits+1).toNat)+wrap64 (sign*b.f0)),wrap64 (wrap64 (a.f1*2^(bits+1).toNat)+wrap64 (sign*b.f1))⟩
set_option maxRecDepth 100000 in
set_option maxHeartbeats 4000000 in
theorem zeY (g3:Nat) (Aw:Option Addr) (wn cw:Nat) (a b r:S38) (bits mode sign turn:Int) (hb0:0≤bits) (hb1:bits≤29) (w:World) (h3:w.heap[g3]?=some (.cells #[.slice Aw wn cw,.int .i64 bits,.int .i64 mode,.int .i64 turn] 95 (0,0)))
  (hc:∀W:World,Calls Tryz.prog 70 #[.agg #[.int .i64 (zcv a b bits sign).f0,.int .i64 (zcv a b bits sign).f1],.int .i64 (bits+2),.int .i64 mode] W fun e w'=>e=.returned (.tuple #[.agg #[.int .i64 r.f0,.int .i64 r.f1],.int .i64 0])∧Below W.heap.size W w') :
  Calls Tryz.prog 105 #[.agg #[.int .i64 a.f0,.int .i64 a.f1],.agg #[.int .i64 b.f0,.int .i64 b.f1],.int .i64 sign,.pointer (some ⟨g3,0,none⟩)] w fun e w'=>e=.returned (.agg #[.int .i64 r.f0,.int .i64 r.f1])∧Below w.heap.size w w':=by
 have hmx:Tryz.prog.follows .mixedOrders=true:=by kernel_rfl
 have HP3:=hhd h3
 have HC:=hhd hc
 have HB0:=hhd (Below.refl w.heap.size w)
 have c3_0:=(zc h3 0).trans rfl
 have c3_1:=(zc h3 1).trans rfl
 have c3_2:=(zc h3 2).trans rfl
 have c3_3:=(zc h3 3).trans rfl
 have hs1:wrap64 (bits+1)=bits+1:=zw (by omega) (by omega)
 have hs2:wrap64 (bits+2)=bits+2:=zw (by omega) (by omega)
 have hs3:0≤bits+1:=by omega
 have hs4:¬bits+1 < 0:=by omega
 clear h3 hc
 go_enter Tryz.func105,Tryz.ntmps105
 go_wp2_with (first
  | ((with_reducible refine zg (N:=4) rfl ?_);refine ba_ 4 #[.int .i64 a.f0,.int .i64 a.f1] 38 ?_;intro g4 hg W1 hbox hbl;have L4:=gf_ hg HB0.out;have B4_1:=hhd hbox;have HB_1:=hhd (zb HB0.out hbl);have B3_1:=hhd (za HP3.out hbl);obtain ⟨k3_0_1,k3_1_1,k3_2_1,k3_3_1⟩:=bk4 B3_1.out;clear c3_0 c3_1 c3_2 c3_3;obtain ⟨k4_0_1,k4_1_1⟩:=bk2 B4_1.out;clear hbox hbl hg)
  | ((with_reducible refine zg (N:=5) rfl ?_);refine ba_ 5 #[.int .i64 b.f0,.int .i64 b.f1] 38 ?_;intro g5 hg W2 hbox hbl;have L5:=gf_ hg HB_1.out;have B5_2:=hhd hbox;have HB_2:=hhd (zb HB_1.out hbl);have B3_2:=hhd (za B3_1.out hbl);have B4_2:=hhd (za B4_1.out hbl);obtain ⟨k3_0_2,k3_1_2,k3_2_2,k3_3_2⟩:=bk4 B3_2.out;obtain ⟨k4_0_2,k4_1_2⟩:=bk2 B4_2.out;clear k3_0_1 k3_1_1 k3_2_1 k3_3_1 k4_0_1 k4_1_1;obtain ⟨k5_0_2,k5_1_2⟩:=bk2 B5_2.out;clear hbox hbl hg)
  | ((with_reducible refine zg (N:=7) rfl ?_);refine ba_ 7 #[.int .i64 0,.int .i64 0] 38 ?_;intro g7 hg W3 hbox hbl;have L7:=gf_ hg HB_2.out;have B7_3:=hhd hbox;have HB_3:=hhd (zb HB_2.out hbl);have B3_3:=hhd (za B3_2.out hbl);have B4_3:=hhd (za B4_2.out hbl);have B5_3:=hhd (za B5_2.out hbl);obtain ⟨k3_0_3,k3_1_3,k3_2_3,k3_3_3⟩:=bk4 B3_3.out;obtain ⟨k4_0_3,k4_1_3⟩:=bk2 B4_3.out;obtain ⟨k5_0_3,k5_1_3⟩:=bk2 B5_3.out;clear k3_0_2 k3_1_2 k3_2_2 k3_3_2 k4_0_2 k4_1_2 k5_0_2 k5_1_2;obtain ⟨k7_0_3,k7_1_3⟩:=bk2 B7_3.out;clear hbox hbl hg))
 refine zae (S:=fun w'=>Below W3.heap.size W3 w') (ds:=[33]) (fl 35 0) hmx rfl rfl (Below.refl _ _).drew (fun hHeld=>?_)
 refine px_ 0 (some 11) (fl 35 1) rfl rfl ?_
 refine px_ 2 (some 13) (fl 35 5) rfl rfl ?_
 refine px_ 6 (some 17) (fl 35 69) rfl rfl ?_
 refine px_ 7 (some 18) (fl 35 197) rfl rfl ?_
 refine px_ 11 (some 22) (fl 35 2245) rfl rfl ?_
 refine px_ 13 (some 24) (fl 35 10437) rfl rfl ?_
 refine px_ 17 (some 28) (fl 35 141509) rfl rfl ?_
 refine px_ 18 (some 29) (fl 35 403653) rfl rfl ?_
 refine px_ 23 (some 34) (fl 35 8792261) rfl rfl ?_
 refine px_ 26 (some 37) (fl 35 75901125) rfl rfl ?_
 refine tx_ 1 (some 12) (fl 35 75901127) rfl rfl hHeld (by rintro w' hs;obtain ⟨j_k4_0_3,j_k4_1_3,j_k5_0_3,j_k5_1_3,j_k3_1_3,j_k3_2_3⟩:=bg6 hs k4_0_3 k4_1_3 k5_0_3 k5_1_3 k3_1_3 k3_2_3;go_simp;with_reducible rfl) ?_
 refine tx_ 3 (some 14) (fl 35 75901135) rfl rfl hHeld (by rintro w' hs;obtain ⟨j_k4_0_3,j_k4_1_3,j_k5_0_3,j_k5_1_3,j_k3_1_3,j_k3_2_3⟩:=bg6 hs k4_0_3 k4_1_3 k5_0_3 k5_1_3 k3_1_3 k3_2_3;go_simp;with_reducible rfl) ?_
 refine px_ 4 (some 15) (fl 35 75901151) rfl rfl ?_
 refine px_ 5 (some 16) (fl 35 75901183) rfl rfl ?_
 refine tx_ 8 (some 19) (fl 35 75901439) rfl rfl hHeld (by rintro w' hs;obtain ⟨j_k4_0_3,j_k4_1_3,j_k5_0_3,j_k5_1_3,j_k3_1_3,j_k3_2_3⟩:=bg6 hs k4_0_3 k4_1_3 k5_0_3 k5_1_3 k3_1_3 k3_2_3;go_simp;with_reducible rfl) ?_
 refine px_ 9 (some 20) (fl 35 75901951) rfl rfl ?_
 refine px_ 10 (some 21) (fl 35 75902975) rfl rfl ?_
 refine tx_ 12 (some 23) (fl 35 75907071) rfl rfl hHeld (by rintro w' hs;obtain ⟨j_k4_0_3,j_k4_1_3,j_k5_0_3,j_k5_1_3,j_k3_1_3,j_k3_2_3⟩:=bg6 hs k4_0_3 k4_1_3 k5_0_3 k5_1_3 k3_1_3 k3_2_3;go_simp;with_reducible rfl) ?_
 refine tx_ 14 (some 25) (fl 35 75923455) rfl rfl hHeld (by rintro w' hs;obtain ⟨j_k4_0_3,j_k4_1_3,j_k5_0_3,j_k5_1_3,j_k3_1_3,j_k3_2_3⟩:=bg6 hs k4_0_3 k4_1_3 k5_0_3 k5_1_3 k3_1_3 k3_2_3;go_simp;with_reducible rfl) ?_
 refine px_ 15 (some 26) (fl 35 75956223) rfl rfl ?_
 refine px_ 16 (some 27) (fl 35 76021759) rfl rfl ?_
 refine tx_ 19 (some 30) (fl 35 76546047) rfl rfl hHeld (by rintro w' hs;obtain ⟨j_k4_0_3,j_k4_1_3,j_k5_0_3,j_k5_1_3,j_k3_1_3,j_k3_2_3⟩:=bg6 hs k4_0_3 k4_1_3 k5_0_3 k5_1_3 k3_1_3 k3_2_3;go_simp;with_reducible rfl) ?_
 refine px_ 20 (some 31) (fl 35 77594623) rfl rfl ?_
 refine px_ 21 (some 32) (fl 35 79691775) rfl rfl ?_
 refine px_ 22 (some 33) (fl 35 83886079) rfl rfl ?_
 refine tx_ 24 (some 35) (fl 35 100663295) rfl rfl hHeld (by rintro w' hs;obtain ⟨j_k4_0_3,j_k4_1_3,j_k5_0_3,j_k5_1_3,j_k3_1_3,j_k3_2_3⟩:=bg6 hs k4_0_3 k4_1_3 k5_0_3 k5_1_3 k3_1_3 k3_2_3;go_simp;with_reducible rfl) ?_
 refine px_ 25 (some 36) (fl 35 134217727) rfl rfl ?_
 refine tx_ 27 (some 38) (fl 35 268435455) rfl rfl hHeld (by rintro w' hs;obtain ⟨j_k4_0_3,j_k4_1_3,j_k5_0_3,j_k5_1_3,j_k3_1_3,j_k3_2_3⟩:=bg6 hs k4_0_3 k4_1_3 k5_0_3 k5_1_3 k3_1_3 k3_2_3;go_simp;with_reducible rfl) ?_
 refine zaM (i:=28) (j:=32) (Ni:=some 39) (Nj:=some 8) (fl 35 536870911) (fl 35 4563402751) rfl rfl rfl rfl (by kernel_rfl) (by decide) (by decide) (fun K hK=>?e1_28) (fun K hK=>?e1_32)
 case' e1_28 =>
  refine zN Tryz.func70 (by kernel_rfl) rfl #[.agg #[.int .i64 (zcv a b bits sign).f0,.int .i64 (zcv a b bits sign).f1],.int .i64 (bits+2),.int .i64 mode] (by rfl) rfl rfl (by go_simp;exact ⟨rfl,rfl⟩) ?_
  refine (HC.out _).mono ?_
  rintro e Wc ⟨rfl,hbl⟩
  refine ⟨_,rfl,?_⟩
  refine hK.out _ _ (zb hHeld hbl) (fun hHeld2=>?_)
  clear hK K hHeld hbl
  have hHeld:=hHeld2
  clear hHeld2
  refine nx_ (some 39) ?_
  refine px_ 29 (some 10) (fl 35 1073741823) rfl rfl ?_
  refine px_ 30 (some 40) (fl 35 2147483647) rfl rfl ?_
  refine px_ 31 (some 41) (fl 35 4294967295) rfl rfl ?_
  refine zA (i:=32) (N:=some 8) (fl 35 8589934591) rfl rfl (by kernel_rfl) (by decide) (fun K hK=>?_)
  refine box_step rfl rfl (cs:=#[.int .i64 0,.int .i64 0]) (t:=38) (by first | (go_simp;done) | (go_simp;rfl)) ?_
  intro g8 hg Wc hbox hbl
  refine hK.out _ _ (zb hHeld hbl) (fun hHeld2=>?_)
  have L8:w.heap.size≤g8:=by rw [hg];exact zj (zb HB_3.out hHeld)
  have B8:=hhd hbox
  have NE7:=hhd (show g7≠g8 from fun e=>by have:=zf (za B7_3.out hHeld);omega)
  clear hK K hHeld hbl hbox hg
  have hHeld:=hHeld2
  clear hHeld2
  refine nx_ (some 8) ?_
  refine zaf (i:=33) (N:=none) (fl 35 17179869183) rfl rfl (by kernel_rfl) (by decide) (fun K hK=>?_)
  refine zC rfl rfl 38 _ _ rfl g8 #[.int .i64 r.f0,.int .i64 r.f1] rfl rfl 38 #[.int .i64 0,.int .i64 0] B8.out (zu _ _) rfl (zG _ _) ?_
  intro Wd hq hoth hbel
  refine hK.out _ _ ?_
  have E8:=hhd hq
  have HBd:=hhd (hbel _ _ L8 (zb HB_3.out hHeld))
  have E7:=hhd ((hoth _ NE7.out).trans (za B7_3.out hHeld))
  clear hK K hHeld hq hoth hbel
  refine px_ 34 (some 9) (fl 35 34359738367) rfl rfl ?_
  refine zM (by kernel_rfl) ?_
 case' e1_32 =>
  refine box_step rfl rfl (cs:=#[.int .i64 0,.int .i64 0]) (t:=38) (by first | (go_simp;done) | (go_simp;rfl)) ?_
  intro g8 hg Wc hbox hbl
  refine hK.out _ _ (zb hHeld hbl) (fun hHeld2=>?_)
  have L8:w.heap.size≤g8:=by rw [hg];exact zj (zb HB_3.out hHeld)
  have B8:=hhd hbox
  have NE7:=hhd (show g7≠g8 from fun e=>by have:=zf (za B7_3.out hHeld);omega)
  clear hK K hHeld hbl hbox hg
  have hHeld:=hHeld2
  clear hHeld2
  refine nx_ (some 8) ?_
  refine zA (i:=28) (N:=some 39) (fl 35 4831838207) rfl rfl (by kernel_rfl) (by decide) (fun K hK=>?_)
  refine zN Tryz.func70 (by kernel_rfl) rfl #[.agg #[.int .i64 (zcv a b bits sign).f0,.int .i64 (zcv a b bits sign).f1],.int .i64 (bits+2),.int .i64 mode] (by rfl) rfl rfl (by go_simp;exact ⟨rfl,rfl⟩) ?_
  refine (HC.out _).mono ?_
  rintro e Wc ⟨rfl,hbl⟩
  refine ⟨_,rfl,?_⟩
  refine hK.out _ _ (zb hHeld hbl) (fun hHeld2=>?_)
  replace B8:=hhd (za B8.out hbl)
  clear hK K hHeld hbl
  have hHeld:=hHeld2
  clear hHeld2
  refine nx_ (some 39) ?_
  refine px_ 29 (some 10) (fl 35 5368709119) rfl rfl ?_
  refine px_ 30 (some 40) (fl 35 6442450943) rfl rfl ?_
  refine px_ 31 (some 41) (fl 35 8589934591) rfl rfl ?_
  refine zaf (i:=33) (N:=none) (fl 35 17179869183) rfl rfl (by kernel_rfl) (by decide) (fun K hK=>?_)
  refine zC rfl rfl 38 _ _ rfl g8 #[.int .i64 r.f0,.int .i64 r.f1] rfl rfl 38 #[.int .i64 0,.int .i64 0] B8.out (zu _ _) rfl (zG _ _) ?_
  intro Wd hq hoth hbel
  refine hK.out _ _ ?_
  have E8:=hhd hq
  have HBd:=hhd (hbel _ _ L8 (zb HB_3.out hHeld))
  have E7:=hhd ((hoth _ NE7.out).trans (za B7_3.out hHeld))
  clear hK K hHeld hq hoth hbel
  refine px_ 34 (some 9) (fl 35 34359738367) rfl rfl ?_
  refine zM (by kernel_rfl) ?_
 all_goals
  clear B8 k3_0_3 k3_1_3 k3_2_3 k3_3_3 k4_0_3 k4_1_3 k5_0_3 k5_1_3 k7_0_3 k7_1_3
  go_wp2_with (first
   | ((with_reducible refine zg (N:=42) rfl ?_);refine wpList_load_row rfl 38 _ rfl g8 rfl 38 #[.int .i64 r.f0,.int .i64 r.f1] (0,0) _ E8.out Tryz.underlying38 rfl (zu _ _) ?_)
   | ((with_reducible refine zo (t:=38) (p:=7) rfl ?_);refine zv rfl 38 _ _ rfl g7 #[.int .i64 r.f0,.int .i64 r.f1] rfl rfl 38 #[.int .i64 0,.int .i64 0] E7.out (zu _ _) rfl (zG _ _) ?_;intro We hq hoth hbel;have F7:=hhd hq;have HBe:=hhd (hbel _ _ L7 HBd.out);clear hq hoth hbel))
  refine bodyPost_ret (results_cell_row rfl _ _ g7 38 #[.int .i64 r.f0,.int .i64 r.f1] (0,0) _ rfl F7.out Tryz.underlying38 rfl (zu _ _)) rfl ?_
  exact ⟨rfl,HBe.out⟩
set_option maxRecDepth 100000 in
set_option maxHeartbeats 4000000 in
theorem zkd (Aw:Option Addr) (wn cw:Nat) (u v y z w1 w3 t1 t3 s1 s3:S38) (r:Nat→S38) (bits mode turn:Int) (hb0:0≤bits) (hb1:bits≤29) (w:World)
  (hT1:∀W:World,Calls Tryz.prog 104 #[.agg #[.int .i64 y.f0,.int .i64 y.f1],.agg #[.int .i64 w1.f0,.int .i64 w1.f1]] W fun e w'=>e=.returned (.tuple #[.agg #[.int .i64 t1.f0,.int .i64 t1.f1],.int .i64 0])∧Below W.heap.size W w')
  (hT3:∀W:World,Calls Tryz.prog 104 #[.agg #[.int .i64 z.f0,.int .i64 z.f1],.agg #[.int .i64 w3.f0,.int .i64 w3.f1]] W fun e w'=>e=.returned (.tuple #[.agg #[.int .i64 t3.f0,.int .i64 t3.f1],.int .i64 0])∧Below W.heap.size W w')
  (hS1:∀W:World,Calls Tryz.prog 96 #[.agg #[.int .i64 t1.f0,.int .i64 t1.f1],.int .i64 turn] W fun e w'=>e=.returned (.tuple #[.agg #[.int .i64 s1.f0,.int .i64 s1.f1],.int .i64 0])∧Below W.heap.size W w')
  (hS3:∀W:World,Calls Tryz.prog 96 #[.agg #[.int .i64 t3.f0,.int .i64 t3.f1],.int .i64 turn] W fun e w'=>e=.returned (.tuple #[.agg #[.int .i64 s3.f0,.int .i64 s3.f1],.int .i64 0])∧Below W.heap.size W w')
  (hO:∀(x:S38) (sg:Int) (q:Nat),(x=zcv u (⟨(wrap64 (t1.f0+t3.f0)),(wrap64 (t1.f1+t3.f1))⟩:S38) bits 1∧q=0)∨(x=zcv v (⟨(wrap64 (s1.f0 - s3.f0)),(wrap64 (s1.f1 - s3.f1))⟩:S38) bits 1∧q=1)∨(x=zcv u (⟨(wrap64 (t1.f0+t3.f0)),(wrap64 (t1.f1+t3.f1))⟩:S38) bits (-1)∧q=2)∨(x=zcv v (⟨(wrap64 (s1.f0 - s3.f0)),(wrap64 (s1.f1 - s3.f1))⟩:S38) bits (-1)∧q=3)→∀W:World,Calls Tryz.prog 70 #[.agg #[.int .i64 x.f0,.int .i64 x.f1],.int .i64 (bits+2),.int .i64 mode] W fun e w'=>e=.returned (.tuple #[.agg #[.int .i64 (r q).f0,.int .i64 (r q).f1],.int .i64 0])∧Below W.heap.size W w') :
  Calls Tryz.prog 73 #[.agg #[.slice Aw wn cw,.int .i64 bits,.int .i64 mode,.int .i64 turn],.agg #[.int .i64 u.f0,.int .i64 u.f1],.agg #[.int .i64 v.f0,.int .i64 v.f1],.agg #[.int .i64 y.f0,.int .i64 y.f1],.agg #[.int .i64 z.f0,.int .i64 z.f1],.agg #[.int .i64 w1.f0,.int .i64 w1.f1],.agg #[.int .i64 w3.f0,.int .i64 w3.f1]] w fun e w'=>e=.returned (.agg #[.int .i64 (r 0).f0,.int .i64 (r 0).f1,.int .i64 (r 1).f0,.int .i64 (r 1).f1,.int .i64 (r 2).f0,.int .i64 (r 2).f1,.int .i64 (r 3).f0,.int .i64 (r 3).f1])∧Below w.heap.size w w':=by
 have hmx:Tryz.prog.follows .mixedOrders=true:=by kernel_rfl
 have HT1:=hhd hT1
 have HT3:=hhd hT3
 have HS1:=hhd hS1
 have HS3:=hhd hS3
 have HO:=hhd hO
 have HB0:=hhd (Below.refl w.heap.size w)
 have HBI:=hhd (And.intro hb0 hb1)
 clear hT1 hT3 hS1 hS3 hO hb0 hb1
 go_enter Tryz.func73,Tryz.ntmps73
 go_wp2_with (first
  | ((with_reducible refine zg (N:=7) rfl ?_);refine ba_ 7 #[.slice Aw wn cw,.int .i64 bits,.int .i64 mode,.int .i64 turn] 95 ?_;intro g7 hg W1 hbox hbl;have L7:=gf_ hg HB0.out;have B7_1:=hhd hbox;have HB_1:=hhd (zb HB0.out hbl);obtain ⟨k7_0_1,k7_1_1,k7_2_1,k7_3_1⟩:=bk4 B7_1.out;clear hbox hbl hg)
  | ((with_reducible refine zg (N:=8) rfl ?_);refine ba_ 8 #[.int .i64 u.f0,.int .i64 u.f1] 38 ?_;intro g8 hg W2 hbox hbl;have L8:=gf_ hg HB_1.out;have B8_2:=hhd hbox;have HB_2:=hhd (zb HB_1.out hbl);have B7_2:=hhd (za B7_1.out hbl);obtain ⟨k7_0_2,k7_1_2,k7_2_2,k7_3_2⟩:=bk4 B7_2.out;clear k7_0_1 k7_1_1 k7_2_1 k7_3_1;obtain ⟨k8_0_2,k8_1_2⟩:=bk2 B8_2.out;clear hbox hbl hg)
  | ((with_reducible refine zg (N:=9) rfl ?_);refine ba_ 9 #[.int .i64 v.f0,.int .i64 v.f1] 38 ?_;intro g9 hg W3 hbox hbl;have L9:=gf_ hg HB_2.out;have B9_3:=hhd hbox;have HB_3:=hhd (zb HB_2.out hbl);have B7_3:=hhd (za B7_2.out hbl);have B8_3:=hhd (za B8_2.out hbl);obtain ⟨k7_0_3,k7_1_3,k7_2_3,k7_3_3⟩:=bk4 B7_3.out;obtain ⟨k8_0_3,k8_1_3⟩:=bk2 B8_3.out;clear k7_0_2 k7_1_2 k7_2_2 k7_3_2 k8_0_2 k8_1_2;obtain ⟨k9_0_3,k9_1_3⟩:=bk2 B9_3.out;clear hbox hbl hg)
  | ((with_reducible refine zg (N:=10) rfl ?_);refine ba_ 10 #[.int .i64 y.f0,.int .i64 y.f1] 38 ?_;intro g10 hg W4 hbox hbl;have L10:=gf_ hg HB_3.out;have B10_4:=hhd hbox;have HB_4:=hhd (zb HB_3.out hbl);have B7_4:=hhd (za B7_3.out hbl);have B8_4:=hhd (za B8_3.out hbl);have B9_4:=hhd (za B9_3.out hbl);obtain ⟨k7_0_4,k7_1_4,k7_2_4,k7_3_4⟩:=bk4 B7_4.out;obtain ⟨k8_0_4,k8_1_4⟩:=bk2 B8_4.out;obtain ⟨k9_0_4,k9_1_4⟩:=bk2 B9_4.out;clear k7_0_3 k7_1_3 k7_2_3 k7_3_3 k8_0_3 k8_1_3 k9_0_3 k9_1_3;obtain ⟨k10_0_4,k10_1_4⟩:=bk2 B10_4.out;clear hbox hbl hg)
  | ((with_reducible refine zg (N:=11) rfl ?_);refine ba_ 11 #[.int .i64 z.f0,.int .i64 z.f1] 38 ?_;intro g11 hg W5 hbox hbl;have L11:=gf_ hg HB_4.out;have B11_5:=hhd hbox;have HB_5:=hhd (zb HB_4.out hbl);have B7_5:=hhd (za B7_4.out hbl);have B8_5:=hhd (za B8_4.out hbl);have B9_5:=hhd (za B9_4.out hbl);have B10_5:=hhd (za B10_4.out hbl);obtain ⟨k7_0_5,k7_1_5,k7_2_5,k7_3_5⟩:=bk4 B7_5.out;obtain ⟨k8_0_5,k8_1_5⟩:=bk2 B8_5.out;obtain ⟨k9_0_5,k9_1_5⟩:=bk2 B9_5.out;obtain ⟨k10_0_5,k10_1_5⟩:=bk2 B10_5.out;clear k7_0_4 k7_1_4 k7_2_4 k7_3_4 k8_0_4 k8_1_4 k9_0_4 k9_1_4 k10_0_4 k10_1_4;obtain ⟨k11_0_5,k11_1_5⟩:=bk2 B11_5.out;clear hbox hbl hg)
  | ((with_reducible refine zg (N:=12) rfl ?_);refine ba_ 12 #[.int .i64 w1.f0,.int .i64 w1.f1] 38 ?_;intro g12 hg W6 hbox hbl;have L12:=gf_ hg HB_5.out;have B12_6:=hhd hbox;have HB_6:=hhd (zb HB_5.out hbl);have B7_6:=hhd (za B7_5.out hbl);have B8_6:=hhd (za B8_5.out hbl);have B9_6:=hhd (za B9_5.out hbl);have B10_6:=hhd (za B10_5.out hbl);have B11_6:=hhd (za B11_5.out hbl);obtain ⟨k7_0_6,k7_1_6,k7_2_6,k7_3_6⟩:=bk4 B7_6.out;obtain ⟨k8_0_6,k8_1_6⟩:=bk2 B8_6.out;obtain ⟨k9_0_6,k9_1_6⟩:=bk2 B9_6.out;obtain ⟨k10_0_6,k10_1_6⟩:=bk2 B10_6.out;obtain ⟨k11_0_6,k11_1_6⟩:=bk2 B11_6.out;clear k7_0_5 k7_1_5 k7_2_5 k7_3_5 k8_0_5 k8_1_5 k9_0_5 k9_1_5 k10_0_5 k10_1_5 k11_0_5 k11_1_5;obtain ⟨k12_0_6,k12_1_6⟩:=bk2 B12_6.out;clear hbox hbl hg)
  | ((with_reducible refine zg (N:=13) rfl ?_);refine ba_ 13 #[.int .i64 w3.f0,.int .i64 w3.f1] 38 ?_;intro g13 hg W7 hbox hbl;have L13:=gf_ hg HB_6.out;have B13_7:=hhd hbox;have HB_7:=hhd (zb HB_6.out hbl);have B7_7:=hhd (za B7_6.out hbl);have B8_7:=hhd (za B8_6.out hbl);have B9_7:=hhd (za B9_6.out hbl);have B10_7:=hhd (za B10_6.out hbl);have B11_7:=hhd (za B11_6.out hbl);have B12_7:=hhd (za B12_6.out hbl);obtain ⟨k7_0_7,k7_1_7,k7_2_7,k7_3_7⟩:=bk4 B7_7.out;obtain ⟨k8_0_7,k8_1_7⟩:=bk2 B8_7.out;obtain ⟨k9_0_7,k9_1_7⟩:=bk2 B9_7.out;obtain ⟨k10_0_7,k10_1_7⟩:=bk2 B10_7.out;obtain ⟨k11_0_7,k11_1_7⟩:=bk2 B11_7.out;obtain ⟨k12_0_7,k12_1_7⟩:=bk2 B12_7.out;clear k7_0_6 k7_1_6 k7_2_6 k7_3_6 k8_0_6 k8_1_6 k9_0_6 k9_1_6 k10_0_6 k10_1_6 k11_0_6 k11_1_6 k12_0_6 k12_1_6;obtain ⟨k13_0_7,k13_1_7⟩:=bk2 B13_7.out;clear hbox hbl hg)
  | ((with_reducible refine zg (N:=14) rfl ?_);refine ba_ 14 #[.int .i64 0,.int .i64 0,.int .i64 0,.int .i64 0,.int .i64 0,.int .i64 0,.int .i64 0,.int .i64 0] 136 ?_;intro g14 hg W8 hbox hbl;have L14:=gf_ hg HB_7.out;have B14_8:=hhd hbox;have HB_8:=hhd (zb HB_7.out hbl);have B7_8:=hhd (za B7_7.out hbl);have B8_8:=hhd (za B8_7.out hbl);have B9_8:=hhd (za B9_7.out hbl);have B10_8:=hhd (za B10_7.out hbl);have B11_8:=hhd (za B11_7.out hbl);have B12_8:=hhd (za B12_7.out hbl);have B13_8:=hhd (za B13_7.out hbl);obtain ⟨k7_0_8,k7_1_8,k7_2_8,k7_3_8⟩:=bk4 B7_8.out;obtain ⟨k8_0_8,k8_1_8⟩:=bk2 B8_8.out;obtain ⟨k9_0_8,k9_1_8⟩:=bk2 B9_8.out;obtain ⟨k10_0_8,k10_1_8⟩:=bk2 B10_8.out;obtain ⟨k11_0_8,k11_1_8⟩:=bk2 B11_8.out;obtain ⟨k12_0_8,k12_1_8⟩:=bk2 B12_8.out;obtain ⟨k13_0_8,k13_1_8⟩:=bk2 B13_8.out;clear k7_0_7 k7_1_7 k7_2_7 k7_3_7 k8_0_7 k8_1_7 k9_0_7 k9_1_7 k10_0_7 k10_1_7 k11_0_7 k11_1_7 k12_0_7 k12_1_7 k13_0_7 k13_1_7;obtain ⟨k14_0_8,k14_1_8,k14_2_8,k14_3_8,k14_4_8,k14_5_8,k14_6_8,k14_7_8⟩:=bk8 B14_8.out;clear hbox hbl hg)
  | ((with_reducible refine zg (N:=27) rfl ?_);simp only [Act.put,zzA,zzB,zzC];refine wpList_load_row rfl 38 _ rfl g10 rfl 38 #[.int .i64 y.f0,.int .i64 y.f1] (0,0) _ B10_8.out Tryz.underlying38 rfl (zu _ _) ?_)
  | ((with_reducible refine zg (N:=28) rfl ?_);simp only [Act.put,zzA,zzB,zzC];refine wpList_load_row rfl 38 _ rfl g12 rfl 38 #[.int .i64 w1.f0,.int .i64 w1.f1] (0,0) _ B12_8.out Tryz.underlying38 rfl (zu _ _) ?_)
  | (go_at_call 104;(with_reducible refine (HT1.out _).mono ?_);rintro e W9 ⟨rfl,hb⟩;have HB_9:=hhd (zb HB_8.out hb);have B7_9:=hhd (za B7_8.out hb);have B8_9:=hhd (za B8_8.out hb);have B9_9:=hhd (za B9_8.out hb);have B10_9:=hhd (za B10_8.out hb);have B11_9:=hhd (za B11_8.out hb);have B12_9:=hhd (za B12_8.out hb);have B13_9:=hhd (za B13_8.out hb);have B14_9:=hhd (za B14_8.out hb);obtain ⟨k7_0_9,k7_1_9,k7_2_9,k7_3_9⟩:=bk4 B7_9.out;obtain ⟨k8_0_9,k8_1_9⟩:=bk2 B8_9.out;obtain ⟨k9_0_9,k9_1_9⟩:=bk2 B9_9.out;obtain ⟨k10_0_9,k10_1_9⟩:=bk2 B10_9.out;obtain ⟨k11_0_9,k11_1_9⟩:=bk2 B11_9.out;obtain ⟨k12_0_9,k12_1_9⟩:=bk2 B12_9.out;obtain ⟨k13_0_9,k13_1_9⟩:=bk2 B13_9.out;obtain ⟨k14_0_9,k14_1_9,k14_2_9,k14_3_9,k14_4_9,k14_5_9,k14_6_9,k14_7_9⟩:=bk8 B14_9.out;clear k7_0_8 k7_1_8 k7_2_8 k7_3_8 k8_0_8 k8_1_8 k9_0_8 k9_1_8 k10_0_8 k10_1_8 k11_0_8 k11_1_8 k12_0_8 k12_1_8 k13_0_8 k13_1_8 k14_0_8 k14_1_8 k14_2_8 k14_3_8 k14_4_8 k14_5_8 k14_6_8 k14_7_8;clear hb)
  | ((with_reducible refine zg (N:=15) rfl ?_);refine ba_ 15 #[.int .i64 0,.int .i64 0] 38 ?_;intro g15 hg W10 hbox hbl;have L15:=gf_ hg HB_9.out;have B15_10:=hhd hbox;have HB_10:=hhd (zb HB_9.out hbl);have B7_10:=hhd (za B7_9.out hbl);have B8_10:=hhd (za B8_9.out hbl);have B9_10:=hhd (za B9_9.out hbl);have B10_10:=hhd (za B10_9.out hbl);have B11_10:=hhd (za B11_9.out hbl);have B12_10:=hhd (za B12_9.out hbl);have B13_10:=hhd (za B13_9.out hbl);have B14_10:=hhd (za B14_9.out hbl);obtain ⟨k7_0_10,k7_1_10,k7_2_10,k7_3_10⟩:=bk4 B7_10.out;obtain ⟨k8_0_10,k8_1_10⟩:=bk2 B8_10.out;obtain ⟨k9_0_10,k9_1_10⟩:=bk2 B9_10.out;obtain ⟨k10_0_10,k10_1_10⟩:=bk2 B10_10.out;obtain ⟨k11_0_10,k11_1_10⟩:=bk2 B11_10.out;obtain ⟨k12_0_10,k12_1_10⟩:=bk2 B12_10.out;obtain ⟨k13_0_10,k13_1_10⟩:=bk2 B13_10.out;obtain ⟨k14_0_10,k14_1_10,k14_2_10,k14_3_10,k14_4_10,k14_5_10,k14_6_10,k14_7_10⟩:=bk8 B14_10.out;clear k7_0_9 k7_1_9 k7_2_9 k7_3_9 k8_0_9 k8_1_9 k9_0_9 k9_1_9 k10_0_9 k10_1_9 k11_0_9 k11_1_9 k12_0_9 k12_1_9 k13_0_9 k13_1_9 k14_0_9 k14_1_9 k14_2_9 k14_3_9 k14_4_9 k14_5_9 k14_6_9 k14_7_9;obtain ⟨k15_0_10,k15_1_10⟩:=bk2 B15_10.out;have NE7_15:=hhd (show g7≠g15 from fun e=>by have:=zf B7_9.out;omega);have NE8_15:=hhd (show g8≠g15 from fun e=>by have:=zf B8_9.out;omega);have NE9_15:=hhd (show g9≠g15 from fun e=>by have:=zf B9_9.out;omega);have NE10_15:=hhd (show g10≠g15 from fun e=>by have:=zf B10_9.out;omega);have NE11_15:=hhd (show g11≠g15 from fun e=>by have:=zf B11_9.out;omega);have NE12_15:=hhd (show g12≠g15 from fun e=>by have:=zf B12_9.out;omega);have NE13_15:=hhd (show g13≠g15 from fun e=>by have:=zf B13_9.out;omega);have NE14_15:=hhd (show g14≠g15 from fun e=>by have:=zf B14_9.out;omega);clear hbox hbl hg)
  | ((with_reducible refine zo (t:=38) (p:=15) rfl ?_);refine zv rfl 38 _ _ rfl g15 #[.int .i64 t1.f0,.int .i64 t1.f1] rfl rfl 38 #[.int .i64 0,.int .i64 0] B15_10.out (zu _ _) rfl (zG _ _) ?_;intro W11 hq hoth hbel;have B15_11:=hhd hq;have HB_11:=hhd (hbel _ _ L15 HB_10.out);have B7_11:=hhd ((hoth _ NE7_15.out).trans B7_10.out);have B8_11:=hhd ((hoth _ NE8_15.out).trans B8_10.out);have B9_11:=hhd ((hoth _ NE9_15.out).trans B9_10.out);have B10_11:=hhd ((hoth _ NE10_15.out).trans B10_10.out);have B11_11:=hhd ((hoth _ NE11_15.out).trans B11_10.out);have B12_11:=hhd ((hoth _ NE12_15.out).trans B12_10.out);have B13_11:=hhd ((hoth _ NE13_15.out).trans B13_10.out);have B14_11:=hhd ((hoth _ NE14_15.out).trans B14_10.out);obtain ⟨k7_0_11,k7_1_11,k7_2_11,k7_3_11⟩:=bk4 B7_11.out;obtain ⟨k8_0_11,k8_1_11⟩:=bk2 B8_11.out;obtain ⟨k9_0_11,k9_1_11⟩:=bk2 B9_11.out;obtain ⟨k10_0_11,k10_1_11⟩:=bk2 B10_11.out;obtain ⟨k11_0_11,k11_1_11⟩:=bk2 B11_11.out;obtain ⟨k12_0_11,k12_1_11⟩:=bk2 B12_11.out;obtain ⟨k13_0_11,k13_1_11⟩:=bk2 B13_11.out;obtain ⟨k14_0_11,k14_1_11,k14_2_11,k14_3_11,k14_4_11,k14_5_11,k14_6_11,k14_7_11⟩:=bk8 B14_11.out;clear k7_0_10 k7_1_10 k7_2_10 k7_3_10 k8_0_10 k8_1_10 k9_0_10 k9_1_10 k10_0_10 k10_1_10 k11_0_10 k11_1_10 k12_0_10 k12_1_10 k13_0_10 k13_1_10 k14_0_10 k14_1_10 k14_2_10 k14_3_10 k14_4_10 k14_5_10 k14_6_10 k14_7_10 k15_0_10 k15_1_10;obtain ⟨k15_0_11,k15_1_11⟩:=bk2 B15_11.out;clear hq hoth hbel)
  | ((with_reducible refine zg (N:=33) rfl ?_);simp only [Act.put,zzA,zzB,zzC];refine wpList_load_row rfl 38 _ rfl g11 rfl 38 #[.int .i64 z.f0,.int .i64 z.f1] (0,0) _ B11_11.out Tryz.underlying38 rfl (zu _ _) ?_)
  | ((with_reducible refine zg (N:=34) rfl ?_);simp only [Act.put,zzA,zzB,zzC];refine wpList_load_row rfl 38 _ rfl g13 rfl 38 #[.int .i64 w3.f0,.int .i64 w3.f1] (0,0) _ B13_11.out Tryz.underlying38 rfl (zu _ _) ?_)
  | (go_at_call 104;(with_reducible refine (HT3.out _).mono ?_);rintro e W12 ⟨rfl,hb⟩;have HB_12:=hhd (zb HB_11.out hb);have B7_12:=hhd (za B7_11.out hb);have B8_12:=hhd (za B8_11.out hb);have B9_12:=hhd (za B9_11.out hb);have B10_12:=hhd (za B10_11.out hb);have B11_12:=hhd (za B11_11.out hb);have B12_12:=hhd (za B12_11.out hb);have B13_12:=hhd (za B13_11.out hb);have B14_12:=hhd (za B14_11.out hb);have B15_12:=hhd (za B15_11.out hb);obtain ⟨k7_0_12,k7_1_12,k7_2_12,k7_3_12⟩:=bk4 B7_12.out;obtain ⟨k8_0_12,k8_1_12⟩:=bk2 B8_12.out;obtain ⟨k9_0_12,k9_1_12⟩:=bk2 B9_12.out;obtain ⟨k10_0_12,k10_1_12⟩:=bk2 B10_12.out;obtain ⟨k11_0_12,k11_1_12⟩:=bk2 B11_12.out;obtain ⟨k12_0_12,k12_1_12⟩:=bk2 B12_12.out;obtain ⟨k13_0_12,k13_1_12⟩:=bk2 B13_12.out;obtain ⟨k14_0_12,k14_1_12,k14_2_12,k14_3_12,k14_4_12,k14_5_12,k14_6_12,k14_7_12⟩:=bk8 B14_12.out;obtain ⟨k15_0_12,k15_1_12⟩:=bk2 B15_12.out;clear k7_0_11 k7_1_11 k7_2_11 k7_3_11 k8_0_11 k8_1_11 k9_0_11 k9_1_11 k10_0_11 k10_1_11 k11_0_11 k11_1_11 k12_0_11 k12_1_11 k13_0_11 k13_1_11 k14_0_11 k14_1_11 k14_2_11 k14_3_11 k14_4_11 k14_5_11 k14_6_11 k14_7_11 k15_0_11 k15_1_11;clear hb)
  | ((with_reducible refine zg (N:=17) rfl ?_);refine ba_ 17 #[.int .i64 0,.int .i64 0] 38 ?_;intro g17 hg W13 hbox hbl;have L17:=gf_ hg HB_12.out;have B17_13:=hhd hbox;have HB_13:=hhd (zb HB_12.out hbl);have B7_13:=hhd (za B7_12.out hbl);have B8_13:=hhd (za B8_12.out hbl);have B9_13:=hhd (za B9_12.out hbl);have B10_13:=hhd (za B10_12.out hbl);have B11_13:=hhd (za B11_12.out hbl);have B12_13:=hhd (za B12_12.out hbl);have B13_13:=hhd (za B13_12.out hbl);have B14_13:=hhd (za B14_12.out hbl);have B15_13:=hhd (za B15_12.out hbl);obtain ⟨k7_0_13,k7_1_13,k7_2_13,k7_3_13⟩:=bk4 B7_13.out;obtain ⟨k8_0_13,k8_1_13⟩:=bk2 B8_13.out;obtain ⟨k9_0_13,k9_1_13⟩:=bk2 B9_13.out;obtain ⟨k10_0_13,k10_1_13⟩:=bk2 B10_13.out;obtain ⟨k11_0_13,k11_1_13⟩:=bk2 B11_13.out;obtain ⟨k12_0_13,k12_1_13⟩:=bk2 B12_13.out;obtain ⟨k13_0_13,k13_1_13⟩:=bk2 B13_13.out;obtain ⟨k14_0_13,k14_1_13,k14_2_13,k14_3_13,k14_4_13,k14_5_13,k14_6_13,k14_7_13⟩:=bk8 B14_13.out;obtain ⟨k15_0_13,k15_1_13⟩:=bk2 B15_13.out;clear k7_0_12 k7_1_12 k7_2_12 k7_3_12 k8_0_12 k8_1_12 k9_0_12 k9_1_12 k10_0_12 k10_1_12 k11_0_12 k11_1_12 k12_0_12 k12_1_12 k13_0_12 k13_1_12 k14_0_12 k14_1_12 k14_2_12 k14_3_12 k14_4_12 k14_5_12 k14_6_12 k14_7_12 k15_0_12 k15_1_12;obtain ⟨k17_0_13,k17_1_13⟩:=bk2 B17_13.out;have NE7_17:=hhd (show g7≠g17 from fun e=>by have:=zf B7_12.out;omega);have NE8_17:=hhd (show g8≠g17 from fun e=>by have:=zf B8_12.out;omega);have NE9_17:=hhd (show g9≠g17 from fun e=>by have:=zf B9_12.out;omega);have NE10_17:=hhd (show g10≠g17 from fun e=>by have:=zf B10_12.out;omega);have NE11_17:=hhd (show g11≠g17 from fun e=>by have:=zf B11_12.out;omega);have NE12_17:=hhd (show g12≠g17 from fun e=>by have:=zf B12_12.out;omega);have NE13_17:=hhd (show g13≠g17 from fun e=>by have:=zf B13_12.out;omega);have NE14_17:=hhd (show g14≠g17 from fun e=>by have:=zf B14_12.out;omega);have NE15_17:=hhd (show g15≠g17 from fun e=>by have:=zf B15_12.out;omega);clear hbox hbl hg)
  | ((with_reducible refine zo (t:=38) (p:=17) rfl ?_);refine zv rfl 38 _ _ rfl g17 #[.int .i64 t3.f0,.int .i64 t3.f1] rfl rfl 38 #[.int .i64 0,.int .i64 0] B17_13.out (zu _ _) rfl (zG _ _) ?_;intro W14 hq hoth hbel;have B17_14:=hhd hq;have HB_14:=hhd (hbel _ _ L17 HB_13.out);have B7_14:=hhd ((hoth _ NE7_17.out).trans B7_13.out);have B8_14:=hhd ((hoth _ NE8_17.out).trans B8_13.out);have B9_14:=hhd ((hoth _ NE9_17.out).trans B9_13.out);have B10_14:=hhd ((hoth _ NE10_17.out).trans B10_13.out);have B11_14:=hhd ((hoth _ NE11_17.out).trans B11_13.out);have B12_14:=hhd ((hoth _ NE12_17.out).trans B12_13.out);have B13_14:=hhd ((hoth _ NE13_17.out).trans B13_13.out);have B14_14:=hhd ((hoth _ NE14_17.out).trans B14_13.out);have B15_14:=hhd ((hoth _ NE15_17.out).trans B15_13.out);obtain ⟨k7_0_14,k7_1_14,k7_2_14,k7_3_14⟩:=bk4 B7_14.out;obtain ⟨k8_0_14,k8_1_14⟩:=bk2 B8_14.out;obtain ⟨k9_0_14,k9_1_14⟩:=bk2 B9_14.out;obtain ⟨k10_0_14,k10_1_14⟩:=bk2 B10_14.out;obtain ⟨k11_0_14,k11_1_14⟩:=bk2 B11_14.out;obtain ⟨k12_0_14,k12_1_14⟩:=bk2 B12_14.out;obtain ⟨k13_0_14,k13_1_14⟩:=bk2 B13_14.out;obtain ⟨k14_0_14,k14_1_14,k14_2_14,k14_3_14,k14_4_14,k14_5_14,k14_6_14,k14_7_14⟩:=bk8 B14_14.out;obtain ⟨k15_0_14,k15_1_14⟩:=bk2 B15_14.out;clear k7_0_13 k7_1_13 k7_2_13 k7_3_13 k8_0_13 k8_1_13 k9_0_13 k9_1_13 k10_0_13 k10_1_13 k11_0_13 k11_1_13 k12_0_13 k12_1_13 k13_0_13 k13_1_13 k14_0_13 k14_1_13 k14_2_13 k14_3_13 k14_4_13 k14_5_13 k14_6_13 k14_7_13 k15_0_13 k15_1_13 k17_0_13 k17_1_13;obtain ⟨k17_0_14,k17_1_14⟩:=bk2 B17_14.out;clear hq hoth hbel)
  | ((with_reducible refine zg (N:=39) rfl ?_);simp only [Act.put,zzA,zzB,zzC];refine wpList_load_row rfl 38 _ rfl g15 rfl 38 #[.int .i64 t1.f0,.int .i64 t1.f1] (0,0) _ B15_14.out Tryz.underlying38 rfl (zu _ _) ?_)
  | (go_at_call 96;(with_reducible refine (HS1.out _).mono ?_);rintro e W15 ⟨rfl,hb⟩;have HB_15:=hhd (zb HB_14.out hb);have B7_15:=hhd (za B7_14.out hb);have B8_15:=hhd (za B8_14.out hb);have B9_15:=hhd (za B9_14.out hb);have B10_15:=hhd (za B10_14.out hb);have B11_15:=hhd (za B11_14.out hb);have B12_15:=hhd (za B12_14.out hb);have B13_15:=hhd (za B13_14.out hb);have B14_15:=hhd (za B14_14.out hb);have B15_15:=hhd (za B15_14.out hb);have B17_15:=hhd (za B17_14.out hb);obtain ⟨k7_0_15,k7_1_15,k7_2_15,k7_3_15⟩:=bk4 B7_15.out;obtain ⟨k8_0_15,k8_1_15⟩:=bk2 B8_15.out;obtain ⟨k9_0_15,k9_1_15⟩:=bk2 B9_15.out;obtain ⟨k10_0_15,k10_1_15⟩:=bk2 B10_15.out;obtain ⟨k11_0_15,k11_1_15⟩:=bk2 B11_15.out;obtain ⟨k12_0_15,k12_1_15⟩:=bk2 B12_15.out;obtain ⟨k13_0_15,k13_1_15⟩:=bk2 B13_15.out;obtain ⟨k14_0_15,k14_1_15,k14_2_15,k14_3_15,k14_4_15,k14_5_15,k14_6_15,k14_7_15⟩:=bk8 B14_15.out;obtain ⟨k15_0_15,k15_1_15⟩:=bk2 B15_15.out;obtain ⟨k17_0_15,k17_1_15⟩:=bk2 B17_15.out;clear k7_0_14 k7_1_14 k7_2_14 k7_3_14 k8_0_14 k8_1_14 k9_0_14 k9_1_14 k10_0_14 k10_1_14 k11_0_14 k11_1_14 k12_0_14 k12_1_14 k13_0_14 k13_1_14 k14_0_14 k14_1_14 k14_2_14 k14_3_14 k14_4_14 k14_5_14 k14_6_14 k14_7_14 k15_0_14 k15_1_14 k17_0_14 k17_1_14;clear hb)
  | ((with_reducible refine zg (N:=19) rfl ?_);refine ba_ 19 #[.int .i64 0,.int .i64 0] 38 ?_;intro g19 hg W16 hbox hbl;have L19:=gf_ hg HB_15.out;have B19_16:=hhd hbox;have HB_16:=hhd (zb HB_15.out hbl);have B7_16:=hhd (za B7_15.out hbl);have B8_16:=hhd (za B8_15.out hbl);have B9_16:=hhd (za B9_15.out hbl);have B10_16:=hhd (za B10_15.out hbl);have B11_16:=hhd (za B11_15.out hbl);have B12_16:=hhd (za B12_15.out hbl);have B13_16:=hhd (za B13_15.out hbl);have B14_16:=hhd (za B14_15.out hbl);have B15_16:=hhd (za B15_15.out hbl);have B17_16:=hhd (za B17_15.out hbl);obtain ⟨k7_0_16,k7_1_16,k7_2_16,k7_3_16⟩:=bk4 B7_16.out;obtain ⟨k8_0_16,k8_1_16⟩:=bk2 B8_16.out;obtain ⟨k9_0_16,k9_1_16⟩:=bk2 B9_16.out;obtain ⟨k10_0_16,k10_1_16⟩:=bk2 B10_16.out;obtain ⟨k11_0_16,k11_1_16⟩:=bk2 B11_16.out;obtain ⟨k12_0_16,k12_1_16⟩:=bk2 B12_16.out;obtain ⟨k13_0_16,k13_1_16⟩:=bk2 B13_16.out;obtain ⟨k14_0_16,k14_1_16,k14_2_16,k14_3_16,k14_4_16,k14_5_16,k14_6_16,k14_7_16⟩:=bk8 B14_16.out;obtain ⟨k15_0_16,k15_1_16⟩:=bk2 B15_16.out;obtain ⟨k17_0_16,k17_1_16⟩:=bk2 B17_16.out;clear k7_0_15 k7_1_15 k7_2_15 k7_3_15 k8_0_15 k8_1_15 k9_0_15 k9_1_15 k10_0_15 k10_1_15 k11_0_15 k11_1_15 k12_0_15 k12_1_15 k13_0_15 k13_1_15 k14_0_15 k14_1_15 k14_2_15 k14_3_15 k14_4_15 k14_5_15 k14_6_15 k14_7_15 k15_0_15 k15_1_15 k17_0_15 k17_1_15;obtain ⟨k19_0_16,k19_1_16⟩:=bk2 B19_16.out;have NE7_19:=hhd (show g7≠g19 from fun e=>by have:=zf B7_15.out;omega);have NE8_19:=hhd (show g8≠g19 from fun e=>by have:=zf B8_15.out;omega);have NE9_19:=hhd (show g9≠g19 from fun e=>by have:=zf B9_15.out;omega);have NE10_19:=hhd (show g10≠g19 from fun e=>by have:=zf B10_15.out;omega);have NE11_19:=hhd (show g11≠g19 from fun e=>by have:=zf B11_15.out;omega);have NE12_19:=hhd (show g12≠g19 from fun e=>by have:=zf B12_15.out;omega);have NE13_19:=hhd (show g13≠g19 from fun e=>by have:=zf B13_15.out;omega);have NE14_19:=hhd (show g14≠g19 from fun e=>by have:=zf B14_15.out;omega);have NE15_19:=hhd (show g15≠g19 from fun e=>by have:=zf B15_15.out;omega);have NE17_19:=hhd (show g17≠g19 from fun e=>by have:=zf B17_15.out;omega);clear hbox hbl hg)
  | ((with_reducible refine zo (t:=38) (p:=19) rfl ?_);refine zv rfl 38 _ _ rfl g19 #[.int .i64 s1.f0,.int .i64 s1.f1] rfl rfl 38 #[.int .i64 0,.int .i64 0] B19_16.out (zu _ _) rfl (zG _ _) ?_;intro W17 hq hoth hbel;have B19_17:=hhd hq;have HB_17:=hhd (hbel _ _ L19 HB_16.out);have B7_17:=hhd ((hoth _ NE7_19.out).trans B7_16.out);have B8_17:=hhd ((hoth _ NE8_19.out).trans B8_16.out);have B9_17:=hhd ((hoth _ NE9_19.out).trans B9_16.out);have B10_17:=hhd ((hoth _ NE10_19.out).trans B10_16.out);have B11_17:=hhd ((hoth _ NE11_19.out).trans B11_16.out);have B12_17:=hhd ((hoth _ NE12_19.out).trans B12_16.out);have B13_17:=hhd ((hoth _ NE13_19.out).trans B13_16.out);have B14_17:=hhd ((hoth _ NE14_19.out).trans B14_16.out);have B15_17:=hhd ((hoth _ NE15_19.out).trans B15_16.out);have B17_17:=hhd ((hoth _ NE17_19.out).trans B17_16.out);obtain ⟨k7_0_17,k7_1_17,k7_2_17,k7_3_17⟩:=bk4 B7_17.out;obtain ⟨k8_0_17,k8_1_17⟩:=bk2 B8_17.out;obtain ⟨k9_0_17,k9_1_17⟩:=bk2 B9_17.out;obtain ⟨k10_0_17,k10_1_17⟩:=bk2 B10_17.out;obtain ⟨k11_0_17,k11_1_17⟩:=bk2 B11_17.out;obtain ⟨k12_0_17,k12_1_17⟩:=bk2 B12_17.out;obtain ⟨k13_0_17,k13_1_17⟩:=bk2 B13_17.out;obtain ⟨k14_0_17,k14_1_17,k14_2_17,k14_3_17,k14_4_17,k14_5_17,k14_6_17,k14_7_17⟩:=bk8 B14_17.out;obtain ⟨k15_0_17,k15_1_17⟩:=bk2 B15_17.out;obtain ⟨k17_0_17,k17_1_17⟩:=bk2 B17_17.out;clear k7_0_16 k7_1_16 k7_2_16 k7_3_16 k8_0_16 k8_1_16 k9_0_16 k9_1_16 k10_0_16 k10_1_16 k11_0_16 k11_1_16 k12_0_16 k12_1_16 k13_0_16 k13_1_16 k14_0_16 k14_1_16 k14_2_16 k14_3_16 k14_4_16 k14_5_16 k14_6_16 k14_7_16 k15_0_16 k15_1_16 k17_0_16 k17_1_16 k19_0_16 k19_1_16;obtain ⟨k19_0_17,k19_1_17⟩:=bk2 B19_17.out;clear hq hoth hbel)
  | ((with_reducible refine zg (N:=46) rfl ?_);simp only [Act.put,zzA,zzB,zzC];refine wpList_load_row rfl 38 _ rfl g17 rfl 38 #[.int .i64 t3.f0,.int .i64 t3.f1] (0,0) _ B17_17.out Tryz.underlying38 rfl (zu _ _) ?_)
  | (go_at_call 96;(with_reducible refine (HS3.out _).mono ?_);rintro e W18 ⟨rfl,hb⟩;have HB_18:=hhd (zb HB_17.out hb);have B7_18:=hhd (za B7_17.out hb);have B8_18:=hhd (za B8_17.out hb);have B9_18:=hhd (za B9_17.out hb);have B10_18:=hhd (za B10_17.out hb);have B11_18:=hhd (za B11_17.out hb);have B12_18:=hhd (za B12_17.out hb);have B13_18:=hhd (za B13_17.out hb);have B14_18:=hhd (za B14_17.out hb);have B15_18:=hhd (za B15_17.out hb);have B17_18:=hhd (za B17_17.out hb);have B19_18:=hhd (za B19_17.out hb);obtain ⟨k7_0_18,k7_1_18,k7_2_18,k7_3_18⟩:=bk4 B7_18.out;obtain ⟨k8_0_18,k8_1_18⟩:=bk2 B8_18.out;obtain ⟨k9_0_18,k9_1_18⟩:=bk2 B9_18.out;obtain ⟨k10_0_18,k10_1_18⟩:=bk2 B10_18.out;obtain ⟨k11_0_18,k11_1_18⟩:=bk2 B11_18.out;obtain ⟨k12_0_18,k12_1_18⟩:=bk2 B12_18.out;obtain ⟨k13_0_18,k13_1_18⟩:=bk2 B13_18.out;obtain ⟨k14_0_18,k14_1_18,k14_2_18,k14_3_18,k14_4_18,k14_5_18,k14_6_18,k14_7_18⟩:=bk8 B14_18.out;obtain ⟨k15_0_18,k15_1_18⟩:=bk2 B15_18.out;obtain ⟨k17_0_18,k17_1_18⟩:=bk2 B17_18.out;obtain ⟨k19_0_18,k19_1_18⟩:=bk2 B19_18.out;clear k7_0_17 k7_1_17 k7_2_17 k7_3_17 k8_0_17 k8_1_17 k9_0_17 k9_1_17 k10_0_17 k10_1_17 k11_0_17 k11_1_17 k12_0_17 k12_1_17 k13_0_17 k13_1_17 k14_0_17 k14_1_17 k14_2_17 k14_3_17 k14_4_17 k14_5_17 k14_6_17 k14_7_17 k15_0_17 k15_1_17 k17_0_17 k17_1_17 k19_0_17 k19_1_17;clear hb)
  | ((with_reducible refine zg (N:=21) rfl ?_);refine ba_ 21 #[.int .i64 0,.int .i64 0] 38 ?_;intro g21 hg W19 hbox hbl;have L21:=gf_ hg HB_18.out;have B21_19:=hhd hbox;have HB_19:=hhd (zb HB_18.out hbl);have B7_19:=hhd (za B7_18.out hbl);have B8_19:=hhd (za B8_18.out hbl);have B9_19:=hhd (za B9_18.out hbl);have B10_19:=hhd (za B10_18.out hbl);have B11_19:=hhd (za B11_18.out hbl);have B12_19:=hhd (za B12_18.out hbl);have B13_19:=hhd (za B13_18.out hbl);have B14_19:=hhd (za B14_18.out hbl);have B15_19:=hhd (za B15_18.out hbl);have B17_19:=hhd (za B17_18.out hbl);have B19_19:=hhd (za B19_18.out hbl);obtain ⟨k7_0_19,k7_1_19,k7_2_19,k7_3_19⟩:=bk4 B7_19.out;obtain ⟨k8_0_19,k8_1_19⟩:=bk2 B8_19.out;obtain ⟨k9_0_19,k9_1_19⟩:=bk2 B9_19.out;obtain ⟨k10_0_19,k10_1_19⟩:=bk2 B10_19.out;obtain ⟨k11_0_19,k11_1_19⟩:=bk2 B11_19.out;obtain ⟨k12_0_19,k12_1_19⟩:=bk2 B12_19.out;obtain ⟨k13_0_19,k13_1_19⟩:=bk2 B13_19.out;obtain ⟨k14_0_19,k14_1_19,k14_2_19,k14_3_19,k14_4_19,k14_5_19,k14_6_19,k14_7_19⟩:=bk8 B14_19.out;obtain ⟨k15_0_19,k15_1_19⟩:=bk2 B15_19.out;obtain ⟨k17_0_19,k17_1_19⟩:=bk2 B17_19.out;obtain ⟨k19_0_19,k19_1_19⟩:=bk2 B19_19.out;clear k7_0_18 k7_1_18 k7_2_18 k7_3_18 k8_0_18 k8_1_18 k9_0_18 k9_1_18 k10_0_18 k10_1_18 k11_0_18 k11_1_18 k12_0_18 k12_1_18 k13_0_18 k13_1_18 k14_0_18 k14_1_18 k14_2_18 k14_3_18 k14_4_18 k14_5_18 k14_6_18 k14_7_18 k15_0_18 k15_1_18 k17_0_18 k17_1_18 k19_0_18 k19_1_18;obtain ⟨k21_0_19,k21_1_19⟩:=bk2 B21_19.out;have NE7_21:=hhd (show g7≠g21 from fun e=>by have:=zf B7_18.out;omega);have NE8_21:=hhd (show g8≠g21 from fun e=>by have:=zf B8_18.out;omega);have NE9_21:=hhd (show g9≠g21 from fun e=>by have:=zf B9_18.out;omega);have NE10_21:=hhd (show g10≠g21 from fun e=>by have:=zf B10_18.out;omega);have NE11_21:=hhd (show g11≠g21 from fun e=>by have:=zf B11_18.out;omega);have NE12_21:=hhd (show g12≠g21 from fun e=>by have:=zf B12_18.out;omega);have NE13_21:=hhd (show g13≠g21 from fun e=>by have:=zf B13_18.out;omega);have NE14_21:=hhd (show g14≠g21 from fun e=>by have:=zf B14_18.out;omega);have NE15_21:=hhd (show g15≠g21 from fun e=>by have:=zf B15_18.out;omega);have NE17_21:=hhd (show g17≠g21 from fun e=>by have:=zf B17_18.out;omega);have NE19_21:=hhd (show g19≠g21 from fun e=>by have:=zf B19_18.out;omega);clear hbox hbl hg)
  | ((with_reducible refine zo (t:=38) (p:=21) rfl ?_);refine zv rfl 38 _ _ rfl g21 #[.int .i64 s3.f0,.int .i64 s3.f1] rfl rfl 38 #[.int .i64 0,.int .i64 0] B21_19.out (zu _ _) rfl (zG _ _) ?_;intro W20 hq hoth hbel;have B21_20:=hhd hq;have HB_20:=hhd (hbel _ _ L21 HB_19.out);have B7_20:=hhd ((hoth _ NE7_21.out).trans B7_19.out);have B8_20:=hhd ((hoth _ NE8_21.out).trans B8_19.out);have B9_20:=hhd ((hoth _ NE9_21.out).trans B9_19.out);have B10_20:=hhd ((hoth _ NE10_21.out).trans B10_19.out);have B11_20:=hhd ((hoth _ NE11_21.out).trans B11_19.out);have B12_20:=hhd ((hoth _ NE12_21.out).trans B12_19.out);have B13_20:=hhd ((hoth _ NE13_21.out).trans B13_19.out);have B14_20:=hhd ((hoth _ NE14_21.out).trans B14_19.out);have B15_20:=hhd ((hoth _ NE15_21.out).trans B15_19.out);have B17_20:=hhd ((hoth _ NE17_21.out).trans B17_19.out);have B19_20:=hhd ((hoth _ NE19_21.out).trans B19_19.out);obtain ⟨k7_0_20,k7_1_20,k7_2_20,k7_3_20⟩:=bk4 B7_20.out;obtain ⟨k8_0_20,k8_1_20⟩:=bk2 B8_20.out;obtain ⟨k9_0_20,k9_1_20⟩:=bk2 B9_20.out;obtain ⟨k10_0_20,k10_1_20⟩:=bk2 B10_20.out;obtain ⟨k11_0_20,k11_1_20⟩:=bk2 B11_20.out;obtain ⟨k12_0_20,k12_1_20⟩:=bk2 B12_20.out;obtain ⟨k13_0_20,k13_1_20⟩:=bk2 B13_20.out;obtain ⟨k14_0_20,k14_1_20,k14_2_20,k14_3_20,k14_4_20,k14_5_20,k14_6_20,k14_7_20⟩:=bk8 B14_20.out;obtain ⟨k15_0_20,k15_1_20⟩:=bk2 B15_20.out;obtain ⟨k17_0_20,k17_1_20⟩:=bk2 B17_20.out;obtain ⟨k19_0_20,k19_1_20⟩:=bk2 B19_20.out;clear k7_0_19 k7_1_19 k7_2_19 k7_3_19 k8_0_19 k8_1_19 k9_0_19 k9_1_19 k10_0_19 k10_1_19 k11_0_19 k11_1_19 k12_0_19 k12_1_19 k13_0_19 k13_1_19 k14_0_19 k14_1_19 k14_2_19 k14_3_19 k14_4_19 k14_5_19 k14_6_19 k14_7_19 k15_0_19 k15_1_19 k17_0_19 k17_1_19 k19_0_19 k19_1_19 k21_0_19 k21_1_19;obtain ⟨k21_0_20,k21_1_20⟩:=bk2 B21_20.out;clear hq hoth hbel))
 refine zae (S:=fun w'=>Below W20.heap.size W20 w') (ds:=[25]) (fl 26 0) hmx rfl rfl (Below.refl _ _).drew (fun hHeld=>?_)
 refine px_ 0 (some 52) (fl 26 1) rfl rfl ?_
 refine px_ 2 (some 54) (fl 26 5) rfl rfl ?_
 refine px_ 5 (some 57) (fl 26 37) rfl rfl ?_
 refine px_ 7 (some 59) (fl 26 165) rfl rfl ?_
 refine px_ 11 (some 63) (fl 26 2213) rfl rfl ?_
 refine px_ 13 (some 65) (fl 26 10405) rfl rfl ?_
 refine px_ 16 (some 68) (fl 26 75941) rfl rfl ?_
 refine px_ 18 (some 70) (fl 26 338085) rfl rfl ?_
 refine tx_ 1 (some 53) (fl 26 338087) rfl rfl hHeld (by rintro w' hs;obtain ⟨j_k15_0_20,j_k15_1_20,j_k17_0_20,j_k17_1_20,j_k19_0_20,j_k19_1_20⟩:=bg6 hs k15_0_20 k15_1_20 k17_0_20 k17_1_20 k19_0_20 k19_1_20;obtain ⟨j_k21_0_20,j_k21_1_20⟩:=bg2 hs k21_0_20 k21_1_20;go_simp;with_reducible rfl) ?_
 refine tx_ 3 (some 55) (fl 26 338095) rfl rfl hHeld (by rintro w' hs;obtain ⟨j_k15_0_20,j_k15_1_20,j_k17_0_20,j_k17_1_20,j_k19_0_20,j_k19_1_20⟩:=bg6 hs k15_0_20 k15_1_20 k17_0_20 k17_1_20 k19_0_20 k19_1_20;obtain ⟨j_k21_0_20,j_k21_1_20⟩:=bg2 hs k21_0_20 k21_1_20;go_simp;with_reducible rfl) ?_
 refine px_ 4 (some 56) (fl 26 338111) rfl rfl ?_
 refine tx_ 6 (some 58) (fl 26 338175) rfl rfl hHeld (by rintro w' hs;obtain ⟨j_k15_0_20,j_k15_1_20,j_k17_0_20,j_k17_1_20,j_k19_0_20,j_k19_1_20⟩:=bg6 hs k15_0_20 k15_1_20 k17_0_20 k17_1_20 k19_0_20 k19_1_20;obtain ⟨j_k21_0_20,j_k21_1_20⟩:=bg2 hs k21_0_20 k21_1_20;go_simp;with_reducible rfl) ?_
 refine tx_ 8 (some 60) (fl 26 338431) rfl rfl hHeld (by rintro w' hs;obtain ⟨j_k15_0_20,j_k15_1_20,j_k17_0_20,j_k17_1_20,j_k19_0_20,j_k19_1_20⟩:=bg6 hs k15_0_20 k15_1_20 k17_0_20 k17_1_20 k19_0_20 k19_1_20;obtain ⟨j_k21_0_20,j_k21_1_20⟩:=bg2 hs k21_0_20 k21_1_20;go_simp;with_reducible rfl) ?_
 refine px_ 9 (some 61) (fl 26 338943) rfl rfl ?_
 refine px_ 10 (some 62) (fl 26 339967) rfl rfl ?_
 refine tx_ 12 (some 64) (fl 26 344063) rfl rfl hHeld (by rintro w' hs;obtain ⟨j_k15_0_20,j_k15_1_20,j_k17_0_20,j_k17_1_20,j_k19_0_20,j_k19_1_20⟩:=bg6 hs k15_0_20 k15_1_20 k17_0_20 k17_1_20 k19_0_20 k19_1_20;obtain ⟨j_k21_0_20,j_k21_1_20⟩:=bg2 hs k21_0_20 k21_1_20;go_simp;with_reducible rfl) ?_
 refine tx_ 14 (some 66) (fl 26 360447) rfl rfl hHeld (by rintro w' hs;obtain ⟨j_k15_0_20,j_k15_1_20,j_k17_0_20,j_k17_1_20,j_k19_0_20,j_k19_1_20⟩:=bg6 hs k15_0_20 k15_1_20 k17_0_20 k17_1_20 k19_0_20 k19_1_20;obtain ⟨j_k21_0_20,j_k21_1_20⟩:=bg2 hs k21_0_20 k21_1_20;go_simp;with_reducible rfl) ?_
 refine px_ 15 (some 67) (fl 26 393215) rfl rfl ?_
 refine tx_ 17 (some 69) (fl 26 524287) rfl rfl hHeld (by rintro w' hs;obtain ⟨j_k15_0_20,j_k15_1_20,j_k17_0_20,j_k17_1_20,j_k19_0_20,j_k19_1_20⟩:=bg6 hs k15_0_20 k15_1_20 k17_0_20 k17_1_20 k19_0_20 k19_1_20;obtain ⟨j_k21_0_20,j_k21_1_20⟩:=bg2 hs k21_0_20 k21_1_20;go_simp;with_reducible rfl) ?_
 refine tx_ 19 (some 71) (fl 26 1048575) rfl rfl hHeld (by rintro w' hs;obtain ⟨j_k15_0_20,j_k15_1_20,j_k17_0_20,j_k17_1_20,j_k19_0_20,j_k19_1_20⟩:=bg6 hs k15_0_20 k15_1_20 k17_0_20 k17_1_20 k19_0_20 k19_1_20;obtain ⟨j_k21_0_20,j_k21_1_20⟩:=bg2 hs k21_0_20 k21_1_20;go_simp;with_reducible rfl) ?_
 refine px_ 20 (some 72) (fl 26 2097151) rfl rfl ?_
 refine px_ 21 (some 73) (fl 26 4194303) rfl rfl ?_
 refine zaM (i:=22) (j:=23) (Ni:=some 23) (Nj:=some 24) (fl 26 8388607) (fl 26 12582911) rfl rfl rfl rfl (by kernel_rfl) (by decide) (by decide) (fun K hK=>?e1_22) (fun K hK=>?e1_23)
 case' e1_22 =>
  refine box_step rfl rfl (cs:=#[.int .i64 0,.int .i64 0]) (t:=38) (by first | (go_simp;done) | (go_simp;rfl)) ?_
  intro g23 hg Wc hbox hbl
  refine hK.out _ _ (zb hHeld hbl) (fun hHeld2=>?_)
  have L23:w.heap.size≤g23:=by rw [hg];exact zj (zb HB_20.out hHeld)
  have M23:W20.heap.size≤g23:=by rw [hg];exact hHeld.size
  have B23:=hhd hbox
  clear hK K hHeld hbl hbox hg
  have hHeld:=hHeld2
  clear hHeld2
  refine nx_ (some 23) ?_
  refine zA (i:=23) (N:=some 24) (fl 26 16777215) rfl rfl (by kernel_rfl) (by decide) (fun K hK=>?_)
  refine box_step rfl rfl (cs:=#[.int .i64 0,.int .i64 0]) (t:=38) (by first | (go_simp;done) | (go_simp;rfl)) ?_
  intro g24 hg Wc hbox hbl
  have NEQ:=hhd (show g23≠g24 by have:=zf B23.out;omega)
  refine hK.out _ _ (zb hHeld hbl) (fun hHeld2=>?_)
  replace B23:=hhd (za B23.out hbl)
  have L24:w.heap.size≤g24:=by rw [hg];exact zj (zb HB_20.out hHeld)
  have M24:W20.heap.size≤g24:=by rw [hg];exact hHeld.size
  have B24:=hhd hbox
  clear hK K hHeld hbl hbox hg
  have hHeld:=hHeld2
  clear hHeld2
  refine nx_ (some 24) ?_
  refine zA (i:=24) (N:=none) (fl 26 33554431) rfl rfl (by kernel_rfl) (by decide) (fun K hK=>?_)
  refine zC rfl rfl 38 _ _ rfl g23 #[.int .i64 (wrap64 (t1.f0+t3.f0)),.int .i64 (wrap64 (t1.f1+t3.f1))] rfl rfl 38 #[.int .i64 0,.int .i64 0] B23.out (zu _ _) rfl (zG _ _) ?_
  intro Wd hq hoth hbel
  refine hK.out _ _ (hbel _ _ M23 hHeld) (fun hHeld2=>?_)
  replace B24:=hhd ((hoth _ NEQ.out.symm).trans B24.out)
  replace B23:=hhd hq
  clear hK K hq hoth hbel hHeld
  have hHeld:=hHeld2
  clear hHeld2
  refine zaf (i:=25) (N:=none) (fl 26 67108863) rfl rfl (by kernel_rfl) (by decide) (fun K hK=>?_)
  refine zC rfl rfl 38 _ _ rfl g24 #[.int .i64 (wrap64 (s1.f0 - s3.f0)),.int .i64 (wrap64 (s1.f1 - s3.f1))] rfl rfl 38 #[.int .i64 0,.int .i64 0] B24.out (zu _ _) rfl (zG _ _) ?_
  intro We hq hoth hbel
  refine hK.out _ _ ?_
  have E24:=hhd hq
  have E23:=hhd ((hoth _ NEQ.out).trans B23.out)
  have HBd:=hhd (hbel _ _ L24 (zb HB_20.out hHeld))
  have E7:=hhd ((hoth _ (fun e=>by have:=zf B7_20.out;omega)).trans (za B7_20.out hHeld))
  have E8:=hhd ((hoth _ (fun e=>by have:=zf B8_20.out;omega)).trans (za B8_20.out hHeld))
  have E9:=hhd ((hoth _ (fun e=>by have:=zf B9_20.out;omega)).trans (za B9_20.out hHeld))
  have E14:=hhd ((hoth _ (fun e=>by have:=zf B14_20.out;omega)).trans (za B14_20.out hHeld))
  clear hK K hHeld hq hoth hbel
  refine zM (by kernel_rfl) ?_
 case' e1_23 =>
  refine box_step rfl rfl (cs:=#[.int .i64 0,.int .i64 0]) (t:=38) (by first | (go_simp;done) | (go_simp;rfl)) ?_
  intro g24 hg Wc hbox hbl
  refine hK.out _ _ (zb hHeld hbl) (fun hHeld2=>?_)
  have L24:w.heap.size≤g24:=by rw [hg];exact zj (zb HB_20.out hHeld)
  have M24:W20.heap.size≤g24:=by rw [hg];exact hHeld.size
  have B24:=hhd hbox
  clear hK K hHeld hbl hbox hg
  have hHeld:=hHeld2
  clear hHeld2
  refine nx_ (some 24) ?_
  refine zA (i:=22) (N:=some 23) (fl 26 16777215) rfl rfl (by kernel_rfl) (by decide) (fun K hK=>?_)
  refine box_step rfl rfl (cs:=#[.int .i64 0,.int .i64 0]) (t:=38) (by first | (go_simp;done) | (go_simp;rfl)) ?_
  intro g23 hg Wc hbox hbl
  have NEQ:=hhd (show g23≠g24 by have:=zf B24.out;omega)
  refine hK.out _ _ (zb hHeld hbl) (fun hHeld2=>?_)
  replace B24:=hhd (za B24.out hbl)
  have L23:w.heap.size≤g23:=by rw [hg];exact zj (zb HB_20.out hHeld)
  have M23:W20.heap.size≤g23:=by rw [hg];exact hHeld.size
  have B23:=hhd hbox
  clear hK K hHeld hbl hbox hg
  have hHeld:=hHeld2
  clear hHeld2
  refine nx_ (some 23) ?_
  refine zA (i:=24) (N:=none) (fl 26 33554431) rfl rfl (by kernel_rfl) (by decide) (fun K hK=>?_)
  refine zC rfl rfl 38 _ _ rfl g23 #[.int .i64 (wrap64 (t1.f0+t3.f0)),.int .i64 (wrap64 (t1.f1+t3.f1))] rfl rfl 38 #[.int .i64 0,.int .i64 0] B23.out (zu _ _) rfl (zG _ _) ?_
  intro Wd hq hoth hbel
  refine hK.out _ _ (hbel _ _ M23 hHeld) (fun hHeld2=>?_)
  replace B24:=hhd ((hoth _ NEQ.out.symm).trans B24.out)
  replace B23:=hhd hq
  clear hK K hq hoth hbel hHeld
  have hHeld:=hHeld2
  clear hHeld2
  refine zaf (i:=25) (N:=none) (fl 26 67108863) rfl rfl (by kernel_rfl) (by decide) (fun K hK=>?_)
  refine zC rfl rfl 38 _ _ rfl g24 #[.int .i64 (wrap64 (s1.f0 - s3.f0)),.int .i64 (wrap64 (s1.f1 - s3.f1))] rfl rfl 38 #[.int .i64 0,.int .i64 0] B24.out (zu _ _) rfl (zG _ _) ?_
  intro We hq hoth hbel
  refine hK.out _ _ ?_
  have E24:=hhd hq
  have E23:=hhd ((hoth _ NEQ.out).trans B23.out)
  have HBd:=hhd (hbel _ _ L24 (zb HB_20.out hHeld))
  have E7:=hhd ((hoth _ (fun e=>by have:=zf B7_20.out;omega)).trans (za B7_20.out hHeld))
  have E8:=hhd ((hoth _ (fun e=>by have:=zf B8_20.out;omega)).trans (za B8_20.out hHeld))
  have E9:=hhd ((hoth _ (fun e=>by have:=zf B9_20.out;omega)).trans (za B9_20.out hHeld))
  have E14:=hhd ((hoth _ (fun e=>by have:=zf B14_20.out;omega)).trans (za B14_20.out hHeld))
  clear hK K hHeld hq hoth hbel
  refine zM (by kernel_rfl) ?_
 all_goals
  clear B23 B24 k7_0_20 k7_1_20 k7_2_20 k7_3_20 k8_0_20 k8_1_20 k9_0_20 k9_1_20 k10_0_20 k10_1_20 k11_0_20 k11_1_20 k12_0_20 k12_1_20 k13_0_20 k13_1_20 k14_0_20 k14_1_20 k14_2_20 k14_3_20 k14_4_20 k14_5_20 k14_6_20 k14_7_20 k15_0_20 k15_1_20 k17_0_20 k17_1_20 k19_0_20 k19_1_20 k21_0_20 k21_1_20
  go_wp2
  have q8_0:We.cell? ⟨g8,0,none⟩=some (.int .i64 u.f0):=(zc E8.out 0).trans rfl
  have q8_1:We.cell? ⟨g8,1,none⟩=some (.int .i64 u.f1):=(zc E8.out 1).trans rfl
  have q9_0:We.cell? ⟨g9,0,none⟩=some (.int .i64 v.f0):=(zc E9.out 0).trans rfl
  have q9_1:We.cell? ⟨g9,1,none⟩=some (.int .i64 v.f1):=(zc E9.out 1).trans rfl
  have q23_0:We.cell? ⟨g23,0,none⟩=some (.int .i64 (wrap64 (t1.f0+t3.f0))):=(zc E23.out 0).trans rfl
  have q23_1:We.cell? ⟨g23,1,none⟩=some (.int .i64 (wrap64 (t1.f1+t3.f1))):=(zc E23.out 1).trans rfl
  have q24_0:We.cell? ⟨g24,0,none⟩=some (.int .i64 (wrap64 (s1.f0 - s3.f0))):=(zc E24.out 0).trans rfl
  have q24_1:We.cell? ⟨g24,1,none⟩=some (.int .i64 (wrap64 (s1.f1 - s3.f1))):=(zc E24.out 1).trans rfl
  refine zae (S:=fun w'=>Below We.heap.size We w') (ds:=[17]) (fl 18 0) hmx rfl rfl (Below.refl _ _).drew (fun hHeld=>?_)
  refine px_ 0 (some 75) (fl 18 1) rfl rfl ?_
  refine px_ 4 (some 79) (fl 18 17) rfl rfl ?_
  refine px_ 8 (some 83) (fl 18 273) rfl rfl ?_
  refine px_ 12 (some 87) (fl 18 4369) rfl rfl ?_
  refine tx_ 1 (some 76) (fl 18 4371) rfl rfl hHeld (by rintro w' hs;obtain ⟨j_q8_0,j_q8_1,j_q9_0,j_q9_1,j_q23_0,j_q23_1⟩:=bg6 hs q8_0 q8_1 q9_0 q9_1 q23_0 q23_1;obtain ⟨j_q24_0,j_q24_1⟩:=bg2 hs q24_0 q24_1;go_simp;with_reducible rfl) ?_
  refine tx_ 2 (some 77) (fl 18 4375) rfl rfl hHeld (by rintro w' hs;obtain ⟨j_q8_0,j_q8_1,j_q9_0,j_q9_1,j_q23_0,j_q23_1⟩:=bg6 hs q8_0 q8_1 q9_0 q9_1 q23_0 q23_1;obtain ⟨j_q24_0,j_q24_1⟩:=bg2 hs q24_0 q24_1;go_simp;with_reducible rfl) ?_
  refine tx_ 5 (some 80) (fl 18 4407) rfl rfl hHeld (by rintro w' hs;obtain ⟨j_q8_0,j_q8_1,j_q9_0,j_q9_1,j_q23_0,j_q23_1⟩:=bg6 hs q8_0 q8_1 q9_0 q9_1 q23_0 q23_1;obtain ⟨j_q24_0,j_q24_1⟩:=bg2 hs q24_0 q24_1;go_simp;with_reducible rfl) ?_
  refine tx_ 6 (some 81) (fl 18 4471) rfl rfl hHeld (by rintro w' hs;obtain ⟨j_q8_0,j_q8_1,j_q9_0,j_q9_1,j_q23_0,j_q23_1⟩:=bg6 hs q8_0 q8_1 q9_0 q9_1 q23_0 q23_1;obtain ⟨j_q24_0,j_q24_1⟩:=bg2 hs q24_0 q24_1;go_simp;with_reducible rfl) ?_
  refine tx_ 9 (some 84) (fl 18 4983) rfl rfl hHeld (by rintro w' hs;obtain ⟨j_q8_0,j_q8_1,j_q9_0,j_q9_1,j_q23_0,j_q23_1⟩:=bg6 hs q8_0 q8_1 q9_0 q9_1 q23_0 q23_1;obtain ⟨j_q24_0,j_q24_1⟩:=bg2 hs q24_0 q24_1;go_simp;with_reducible rfl) ?_
  refine tx_ 10 (some 85) (fl 18 6007) rfl rfl hHeld (by rintro w' hs;obtain ⟨j_q8_0,j_q8_1,j_q9_0,j_q9_1,j_q23_0,j_q23_1⟩:=bg6 hs q8_0 q8_1 q9_0 q9_1 q23_0 q23_1;obtain ⟨j_q24_0,j_q24_1⟩:=bg2 hs q24_0 q24_1;go_simp;with_reducible rfl) ?_
  refine tx_ 13 (some 88) (fl 18 14199) rfl rfl hHeld (by rintro w' hs;obtain ⟨j_q8_0,j_q8_1,j_q9_0,j_q9_1,j_q23_0,j_q23_1⟩:=bg6 hs q8_0 q8_1 q9_0 q9_1 q23_0 q23_1;obtain ⟨j_q24_0,j_q24_1⟩:=bg2 hs q24_0 q24_1;go_simp;with_reducible rfl) ?_
  refine tx_ 14 (some 89) (fl 18 30583) rfl rfl hHeld (by rintro w' hs;obtain ⟨j_q8_0,j_q8_1,j_q9_0,j_q9_1,j_q23_0,j_q23_1⟩:=bg6 hs q8_0 q8_1 q9_0 q9_1 q23_0 q23_1;obtain ⟨j_q24_0,j_q24_1⟩:=bg2 hs q24_0 q24_1;go_simp;with_reducible rfl) ?_
  refine zA (i:=3) (N:=some 78) (fl 18 30591) rfl rfl (by kernel_rfl) (by decide) (fun K hK=>?_)
  refine zfK Tryz.func105 (by kernel_rfl) #[.agg #[.int .i64 u.f0,.int .i64 u.f1],.agg #[.int .i64 (wrap64 (t1.f0+t3.f0)),.int .i64 (wrap64 (t1.f1+t3.f1))],.int .i64 1,.pointer (some ⟨g7,0,none⟩)] (lb:=#[.pointer (some ⟨g7,0,none⟩)]) rfl (by rfl) rfl rfl rfl (by go_simp) ?_
  refine (zeY g7 Aw wn cw u (⟨(wrap64 (t1.f0+t3.f0)),(wrap64 (t1.f1+t3.f1))⟩:S38) (r 0) bits mode 1 turn HBI.out.1 HBI.out.2 _ (za E7.out hHeld) (HO.out _ 1 0 (Or.inl ⟨rfl,rfl⟩))).mono ?_
  rintro e Wc ⟨rfl,hbl⟩
  refine ⟨_,rfl,?_⟩
  refine hK.out _ _ (zb hHeld hbl) (fun hHeld2=>?_)
  clear hK K hHeld hbl
  have hHeld:=hHeld2
  clear hHeld2
  refine nx_ (some 78) ?_
  refine zA (i:=7) (N:=some 82) (fl 18 30719) rfl rfl (by kernel_rfl) (by decide) (fun K hK=>?_)
  refine zfK Tryz.func105 (by kernel_rfl) #[.agg #[.int .i64 v.f0,.int .i64 v.f1],.agg #[.int .i64 (wrap64 (s1.f0 - s3.f0)),.int .i64 (wrap64 (s1.f1 - s3.f1))],.int .i64 1,.pointer (some ⟨g7,0,none⟩)] (lb:=#[.pointer (some ⟨g7,0,none⟩)]) rfl (by rfl) rfl rfl rfl (by go_simp) ?_
  refine (zeY g7 Aw wn cw v (⟨(wrap64 (s1.f0 - s3.f0)),(wrap64 (s1.f1 - s3.f1))⟩:S38) (r 1) bits mode 1 turn HBI.out.1 HBI.out.2 _ (za E7.out hHeld) (HO.out _ 1 1 (Or.inr (Or.inl ⟨rfl,rfl⟩)))).mono ?_
  rintro e Wc ⟨rfl,hbl⟩
  refine ⟨_,rfl,?_⟩
  refine hK.out _ _ (zb hHeld hbl) (fun hHeld2=>?_)
  clear hK K hHeld hbl
  have hHeld:=hHeld2
  clear hHeld2
  refine nx_ (some 82) ?_
  refine zA (i:=11) (N:=some 86) (fl 18 32767) rfl rfl (by kernel_rfl) (by decide) (fun K hK=>?_)
  refine zfK Tryz.func105 (by kernel_rfl) #[.agg #[.int .i64 u.f0,.int .i64 u.f1],.agg #[.int .i64 (wrap64 (t1.f0+t3.f0)),.int .i64 (wrap64 (t1.f1+t3.f1))],.int .i64 (-1),.pointer (some ⟨g7,0,none⟩)] (lb:=#[.pointer (some ⟨g7,0,none⟩)]) rfl (by rfl) rfl rfl rfl (by go_simp) ?_
  refine (zeY g7 Aw wn cw u (⟨(wrap64 (t1.f0+t3.f0)),(wrap64 (t1.f1+t3.f1))⟩:S38) (r 2) bits mode (-1) turn HBI.out.1 HBI.out.2 _ (za E7.out hHeld) (HO.out _ (-1) 2 (Or.inr (Or.inr (Or.inl ⟨rfl,rfl⟩))))).mono ?_
  rintro e Wc ⟨rfl,hbl⟩
  refine ⟨_,rfl,?_⟩
  refine hK.out _ _ (zb hHeld hbl) (fun hHeld2=>?_)
  clear hK K hHeld hbl
  have hHeld:=hHeld2
  clear hHeld2
  refine nx_ (some 86) ?_
  refine zA (i:=15) (N:=some 90) (fl 18 65535) rfl rfl (by kernel_rfl) (by decide) (fun K hK=>?_)
  refine zfK Tryz.func105 (by kernel_rfl) #[.agg #[.int .i64 v.f0,.int .i64 v.f1],.agg #[.int .i64 (wrap64 (s1.f0 - s3.f0)),.int .i64 (wrap64 (s1.f1 - s3.f1))],.int .i64 (-1),.pointer (some ⟨g7,0,none⟩)] (lb:=#[.pointer (some ⟨g7,0,none⟩)]) rfl (by rfl) rfl rfl rfl (by go_simp) ?_
  refine (zeY g7 Aw wn cw v (⟨(wrap64 (s1.f0 - s3.f0)),(wrap64 (s1.f1 - s3.f1))⟩:S38) (r 3) bits mode (-1) turn HBI.out.1 HBI.out.2 _ (za E7.out hHeld) (HO.out _ (-1) 3 (Or.inr (Or.inr (Or.inr ⟨rfl,rfl⟩))))).mono ?_
  rintro e Wc ⟨rfl,hbl⟩
  refine ⟨_,rfl,?_⟩
  refine hK.out _ _ (zb hHeld hbl) (fun hHeld2=>?_)
  clear hK K hHeld hbl
  have hHeld:=hHeld2
  clear hHeld2
  refine nx_ (some 90) ?_
  refine px_ 16 (some 91) (fl 18 131071) rfl rfl ?_
  refine zaf (i:=17) (N:=none) (fl 18 262143) rfl rfl (by kernel_rfl) (by decide) (fun K hK=>?_)
  refine zC rfl rfl 136 _ _ rfl g14 #[.int .i64 (r 0).f0,.int .i64 (r 0).f1,.int .i64 (r 1).f0,.int .i64 (r 1).f1,.int .i64 (r 2).f0,.int .i64 (r 2).f1,.int .i64 (r 3).f0,.int .i64 (r 3).f1] rfl rfl 136 #[.int .i64 0,.int .i64 0,.int .i64 0,.int .i64 0,.int .i64 0,.int .i64 0,.int .i64 0,.int .i64 0] (za E14.out hHeld) (zbK _ _ _ _ _ _ _ _) rfl (zeF _ _ _ _ _ _ _ _) ?_
  intro Wf hq hoth hbel
  refine hK.out _ _ ?_
  have F14:=hhd hq
  have HBf:=hhd (hbel _ _ L14 (zb HBd.out hHeld))
  clear hK K hHeld hq hoth hbel
  refine zM (by kernel_rfl) ?_
  go_wp2
  refine bodyPost_ret (results_cell_row rfl _ _ g14 136 #[.int .i64 (r 0).f0,.int .i64 (r 0).f1,.int .i64 (r 1).f0,.int .i64 (r 1).f1,.int .i64 (r 2).f0,.int .i64 (r 2).f1,.int .i64 (r 3).f0,.int .i64 (r 3).f1] (0,0) _ rfl F14.out Tryz.underlying136 rfl (zbK _ _ _ _ _ _ _ _)) rfl ?_
  exact ⟨rfl,HBf.out⟩
end Go.Proofs.YteieahbadclppaaGreat.P

namespace Go.Proofs.YteieahbadclppaaGreat.P
open Go.RowKit Go.Shelf Go.Proofs.YteieahbadclppaaGreatW.PrintWords Go.Proofs.YteieahbadclppaaGreatW.PrintLast Go.Proofs.YteieahbadclppaaGreatW.PrintMore
attribute [local go_sem] Oper.semAt_some
set_option linter.unusedVariables false
set_option linter.unusedSimpArgs false
def zB (l:List S38) (fr by_:Nat):Nat→List S38
 | 0=>[]
 | k+1=>zB l fr by_ k++[zk l ((fr+k*by_:Nat):Int)]
theorem zR (l:List S38) (fr by_:Nat):∀k,(zB l fr by_ k).length=k
 | 0=>rfl
 | k+1=>by rw [zB,List.length_append,zR l fr by_ k];rfl
def zdY (s A B C:Nat) (W W':World):Prop:=Below s W W'∧W'.heap[A]?=W.heap[A]?∧W'.heap[B]?=W.heap[B]?∧W'.heap[C]?=W.heap[C]?
theorem zlh {s A B C:Nat} {X Y Z:World} (h:zdY s A B C X Y) (k:zdY s A B C Y Z):zdY s A B C X Z:=⟨h.1.trans k.1,k.2.1.trans h.2.1,k.2.2.1.trans h.2.2.1,k.2.2.2.trans h.2.2.2⟩
theorem zli {s A B C:Nat} {w:World} (hs:s≤w.heap.size) (hA:A < w.heap.size) (hB:B < w.heap.size) (hC:C < w.heap.size) (W:World) (l:Nat) (o o':Obj) (hl:w.heap.size≤l) (h1:W.heap[l]?=some o) (h2:o.isCells=false) (h3:o.isWalk=false):zdY s A B C W (W.putObj l o') :=
 ⟨(Below.refl s W).grown (grownBy_putObj' W l o') (by have:=(Array.getElem?_eq_some_iff.1 h1).1;omega) (fun k e=>by cases e;omega),World.putObj_heap_other (by omega),World.putObj_heap_other (by omega),World.putObj_heap_other (by omega)⟩
theorem zlj {n a b:Nat} (h:a < b) (hb:b≤n):n - (intOf (.int .i64 (b:Int))).toNat < n - (intOf (.int .i64 (a:Int))).toNat:=by
 simp [intOf];omega
set_option maxRecDepth 100000 in
set_option maxHeartbeats 4000000 in
theorem zke (n:Nat) (hn:1≤n) (lY Bf Bx Bb s:Nat) (A:Option Addr) (c:Nat) (l:List S38) (fr by_ N:Nat) (w0:World) (hs:s=w0.heap.size) (hC:Kd.C k38 w0 A l.length l) (hl:l.length≤64) (hfr:fr≤64) (hby:1≤by_) (hby2:by_≤64) (hN1:∀k,k < N→fr+k*by_ < l.length) (hN2:l.length≤fr+N*by_) (J Jx:List S38→World→Prop)
  (hJb:∀pre W W',J pre W→Below W.heap.size W W'→J pre W')
  (hY:∀pre x W,J pre W→pre.length < N→YieldAt Fence.wide (n - 1) Tryz.prog lY #[.agg #[.int .i64 x.f0,.int .i64 x.f1]] W fun e W' =>
   (e=.returned (.bool true)∧J (pre++[x]) W'∧zdY s Bf Bx Bb W W')∨(e=.returned (.bool false)∧Jx (pre++[x]) W'))
  (W:World) (hW:Below s w0 W) (hbf:W.heap[Bf]?=some (.cells #[.int .i64 fr] 3 (0,0))) (hbx:W.heap[Bx]?=some (.cells #[.slice A l.length c] 22 (0,0))) (hbb:W.heap[Bb]?=some (.cells #[.int .i64 by_] 3 (0,0))) (h0:J [] W) :
  CallsIn Fence.wide n Tryz.prog 103 #[.func (.yield lY) #[] #[],.pointer (some ⟨Bf,0,none⟩),.pointer (some ⟨Bx,0,none⟩),.pointer (some ⟨Bb,0,none⟩)] W fun e W'=>(∃v,e=.returned v) ∧
   ((∃ys,ys=zB l fr by_ N∧J ys W')∨(∃pre,True∧Jx pre W')):=by
 have k0:W.cell? ⟨Bf,0,none⟩=some (.int .i64 fr):=(zc hbf 0).trans rfl
 have HC:=hhd hC
 have HW:=hhd hW
 have HL:=hhd hl
 have HB1:=hhd hby
 have HB2:=hhd hby2
 have HN1:=hhd hN1
 have HN2:=hhd hN2
 have HFR:=hhd hfr
 have H1:=hhd hbf
 have H2:=hhd hbx
 have H3:=hhd hbb
 clear hC hW hl hby hby2 hN1 hN2 hfr hbf hbx hbb
 refine callsIn_of_wp Tryz.func103 rfl trivial ?_ rfl
 simp only [Tryz.ntmps103,List.size_toArray,List.length_cons,List.length_nil,Nat.reduceAdd,Nat.reduceSub,Array.replicate_succ,Array.replicate_zero,List.push_toArray,List.append_toArray,List.nil_append,List.cons_append]
 gi_wp2
 clear k0
 gi_loopw [5] (fun v5 wr=>∃(k:Nat),k≤N∧v5=.int .i64 ((fr+k*by_:Nat):Int)∧J (zB l fr by_ k) wr∧Below s w0 wr∧wr.heap[Bf]?=some (.cells #[.int .i64 fr] 3 (0,0))∧wr.heap[Bx]?=some (.cells #[.slice A l.length c] 22 (0,0))∧wr.heap[Bb]?=some (.cells #[.int .i64 by_] 3 (0,0))) (fun v5 _=>(fr+N*by_) - (intOf v5).toNat)
 case atStart=>exact ⟨0,by omega,by simp,h0,HW.out,H1.out,H2.out,H3.out⟩
 case round =>
  obtain ⟨k,hk,rfl,hJk,hbk,q1,q2,q3⟩:=hrel
  have HJ:=hhd hJk
  have HBK:=hhd hbk
  have Q1:=hhd q1
  have Q2:=hhd q2
  have Q3:=hhd q3
  have kx:wr.cell? ⟨Bx,0,none⟩=some (.slice A l.length c):=(zc q2 0).trans rfl
  have HST:=hhd (show zB l fr by_ (k+1)=zB l fr by_ k++[zk l ((fr+k*by_:Nat):Int)] from rfl)
  have HNX:=hhd (show fr+(k+1)*by_=fr+k*by_+by_ by rw [Nat.succ_mul];omega)
  clear hJk hbk q1 q2 q3 HW h0 H1 H2 H3
  by_cases hlt:k < N
  ·have hi:=HN1.out k hlt
   have HIL:=hhd (show fr+(k+1)*by_≤fr+N*by_ from Nat.add_le_add_left (Nat.mul_le_mul_right _ hlt) _)
   obtain ⟨ad,rfl,g0,g1⟩:=zam HC.out ((fr+k*by_:Nat):Int) (by omega) (by omega)
   generalize hix:fr+k*by_=ix at *
   rw [Int.toNat_natCast] at g0 g1
   replace g0:=(HBK.out.cell (by rw [hs];exact World.block_lt_of_cell? w0 _ g0)).trans g0
   replace g1:=(HBK.out.cell (by rw [hs];exact World.block_lt_of_cell? w0 _ g1)).trans g1
   have c1:(↑ix:Int) < ↑l.length:=by omega
   have hlen:(zB l fr by_ k).length < N:=by rw [zR];exact hlt
   have HLT:=hhd hlt
   generalize zk l (ix:Int)=x at *
   obtain ⟨fn,tmps,assign,body,hy,hR⟩:=hY _ x wr HJ.out hlen
   gi_wp2
   refine hR.mono ?_
   rintro e W3 (⟨rfl,hJ3,hk3⟩ | ⟨rfl,hJx3⟩)
   ·have HK3:=hhd hk3
    have HJ3:=hhd hJ3
    have kb:W3.cell? ⟨Bb,0,none⟩=some (.int .i64 by_):=(zc (hk3.2.2.2.trans Q3.out) 0).trans rfl
    have hw1:wrap64 (↑ix+↑by_)=((ix+by_:Nat):Int):=by rw [zw (by omega) (by have:=HL.out;have:=HB2.out;omega)];omega
    clear hR hy hk3 hJ3
    gi_wp2
    go_roundw
    case rel=>exact ⟨k+1,HLT.out,by rw [hw1,HNX.out],by rw [HST.out];exact HJ3.out,HBK.out.trans HK3.out.1,HK3.out.2.1.trans Q1.out,HK3.out.2.2.1.trans Q2.out,HK3.out.2.2.2.trans Q3.out⟩
    case measure=>rw [hw1];exact zlj (by have:=HB1.out;omega) (by rw [← HNX.out];exact HIL.out)
   ·gi_wp2
    refine bodyPost_ret (results_none rfl _ _ _) rfl ?_
    exact ⟨⟨_,rfl⟩,.inr ⟨_,trivial,hJx3⟩⟩
  ·obtain rfl:k=N:=Nat.le_antisymm hk (Nat.le_of_not_lt hlt)
   have c1:¬(((fr+k*by_:Nat):Int) < ↑l.length):=by have:=HN2.out;omega
   gi_wp2
   go_end0
   exact ⟨⟨_,rfl⟩,.inl HJ.out⟩
theorem zig (n:Nat) (hn:1≤n) (Bf Bx Bb s:Nat) (A:Option Addr) (c:Nat) (l:List S38) (fr by_ N:Nat) (w0 w:World) (hs:s=w0.heap.size) (hC:Kd.C k38 w0 A l.length l) (hl:l.length≤64) (hfr:fr≤64) (hby:1≤by_) (hby2:by_≤64) (hN1:∀k,k < N→fr+k*by_ < l.length) (hN2:l.length≤fr+N*by_) (hw:Below s w0 w)
  (hbf:w.heap[Bf]?=some (.cells #[.int .i64 fr] 3 (0,0))) (hbx:w.heap[Bx]?=some (.cells #[.slice A l.length c] 22 (0,0))) (hbb:w.heap[Bb]?=some (.cells #[.int .i64 by_] 3 (0,0))) :
  SeqStopsK Fence.wide n Tryz.prog 103 #[.pointer (some ⟨Bf,0,none⟩),.pointer (some ⟨Bx,0,none⟩),.pointer (some ⟨Bb,0,none⟩)] (fun x:S38=>#[Value.agg #[.int .i64 x.f0,.int .i64 x.f1]]) (zdY s Bf Bx Bb) (fun ys=>ys=zB l fr by_ N) (fun _=>True) N w:=fun lY J Jx W hW hJ _ hY h0 =>
 zke n hn lY Bf Bx Bb s A c l fr by_ N w0 hs hC hl hfr hby hby2 hN1 hN2 J Jx (fun pre X Y h hXY=>hJ _ _ _ none h (zaZ hXY none) (fun r e=>by cases e)) hY W (hw.trans (hW.mono (by rw [hs];exact hw.size))) (za hbf hW) (za hbx hW) (za hbb hW) h0
set_option maxRecDepth 100000 in
set_option maxHeartbeats 4000000 in
theorem zeJ (A:Option Addr) (n c:Nat) (fr by_:Int) (w:World) :
  Calls Tryz.prog 72 #[.slice A n c,.int .i64 fr,.int .i64 by_] w fun e w'=>∃g1 g2 g3,e=.returned (.func (.func 103) #[] #[.pointer (some ⟨g1,0,none⟩),.pointer (some ⟨g2,0,none⟩),.pointer (some ⟨g3,0,none⟩)])∧w'.heap[g1]?=some (.cells #[.int .i64 fr] 3 (0,0))∧w'.heap[g2]?=some (.cells #[.slice A n c] 22 (0,0))∧w'.heap[g3]?=some (.cells #[.int .i64 by_] 3 (0,0))∧w.heap.size≤g1∧w.heap.size≤g2∧w.heap.size≤g3∧Below w.heap.size w w':=by
 have HB0:=hhd (Below.refl w.heap.size w)
 go_enter Tryz.func72,Tryz.ntmps72
 go_wp2_with (first
  | ((with_reducible refine zg (N:=3) rfl ?_);refine ba_ 3 #[.slice A n c] 22 ?_;intro g3 hg W1 hbox hbl;have L3:=gf_ hg HB0.out;have B3_1:=hhd hbox;have HB_1:=hhd (zb HB0.out hbl);have k3_0_1:=bk1 B3_1.out;clear hbox hbl hg)
  | ((with_reducible refine zg (N:=4) rfl ?_);refine ba_ 4 #[.int .i64 fr] 3 ?_;intro g4 hg W2 hbox hbl;have L4:=gf_ hg HB_1.out;have B4_2:=hhd hbox;have HB_2:=hhd (zb HB_1.out hbl);have B3_2:=hhd (za B3_1.out hbl);have k3_0_2:=bk1 B3_2.out;clear k3_0_1;have k4_0_2:=bk1 B4_2.out;clear hbox hbl hg)
  | ((with_reducible refine zg (N:=5) rfl ?_);refine ba_ 5 #[.int .i64 by_] 3 ?_;intro g5 hg W3 hbox hbl;have L5:=gf_ hg HB_2.out;have B5_3:=hhd hbox;have HB_3:=hhd (zb HB_2.out hbl);have B3_3:=hhd (za B3_2.out hbl);have B4_3:=hhd (za B4_2.out hbl);have k3_0_3:=bk1 B3_3.out;have k4_0_3:=bk1 B4_3.out;clear k3_0_2 k4_0_2;have k5_0_3:=bk1 B5_3.out;clear hbox hbl hg))
 go_ret
 exact ⟨g4,g3,g5,rfl,B4_3.out,B3_3.out,B5_3.out,L4,L3,L5,HB_3.out⟩
def zja (g2 Bf Bx Bb:Nat) (A:Option Addr) (n c fr by_:Nat) (w:World) (pre:List S38) (W:World):Prop :=
 (∃A1 c1,W.heap[g2]?=some (.cells #[.slice A1 pre.length c1] 22 (0,0))∧Kd.R k38 38 W w.heap.size (fun _=>True) (.slice A1 pre.length c1) pre) ∧
 W.heap[Bf]?=some (.cells #[.int .i64 fr] 3 (0,0))∧W.heap[Bx]?=some (.cells #[.slice A n c] 22 (0,0))∧W.heap[Bb]?=some (.cells #[.int .i64 by_] 3 (0,0))∧Below w.heap.size w W
theorem zfL {g2 Bf Bx Bb:Nat} {A:Option Addr} {n c fr by_:Nat} {w:World} {pre:List S38} {W W':World} {row:Option Nat} (h:zja g2 Bf Bx Bb A n c fr by_ w pre W) (hg:W.grownBy W' row) (hr:∀r,row=some r→w.heap.size≤r∧∃o:Obj,W.heap[r]?=some o∧o.isCells=false):zja g2 Bf Bx Bb A n c fr by_ w pre W':=by
 obtain ⟨⟨A1,c1,h1,h2⟩,h3,h4,h5,h6⟩:=h
 have hr2:∀r,row=some r→∃o:Obj,W.heap[r]?=some o∧o.isCells=false:=fun r e=>(hr r e).2
 exact ⟨⟨A1,c1,za0 h1 hg hr2,zeU h2 hg hr2⟩,za0 h3 hg hr2,za0 h4 hg hr2,za0 h5 hg hr2,h6.grown hg h6.size (fun k e=>(hr k e).1)⟩
theorem zlk {g2 Bf Bx Bb:Nat} {A:Option Addr} {n c fr by_:Nat} {w W0:World} (hB:w.heap.size≤W0.heap.size):OwnFrom W0.heap.size (zja g2 Bf Bx Bb A n c fr by_ w) :=
 fun pre W W' row h hg hr=>zfL h hg (fun r e=>⟨Nat.le_trans hB (hr r e).1,(hr r e).2⟩)
theorem zcR {B:Nat} {W W':World} {row:Option Nat} (hg:W.grownBy W' row) (hr:∀r,row=some r→∃cs t fr,W.heap[r]?=some (.cells cs t fr)):KeepsFrom B W W' :=
 ⟨hg.size,fun k o _ hk ho=>(hg.block k (Array.getElem?_eq_some_iff.1 hk).1 (fun e=>by
  obtain ⟨cs,t,fr,h⟩:=hr k e.symm
  rw [hk] at h;cases h;cases ho)).trans hk⟩
set_option maxRecDepth 100000 in
set_option maxHeartbeats 4000000 in
theorem zgK (Bf Bx Bb:Nat) (A:Option Addr) (c:Nat) (l:List S38) (fr by_ N:Nat) (w:World) (hC:Kd.C k38 w A l.length l) (hl:l.length≤64) (hfr:fr≤64) (hby:1≤by_) (hby2:by_≤64) (hN:N≤64) (hN1:∀k,k < N→fr+k*by_ < l.length) (hN2:l.length≤fr+N*by_)
  (hbf:w.heap[Bf]?=some (.cells #[.int .i64 fr] 3 (0,0))) (hbx:w.heap[Bx]?=some (.cells #[.slice A l.length c] 22 (0,0))) (hbb:w.heap[Bb]?=some (.cells #[.int .i64 by_] 3 (0,0))) :
  Calls Tryz.prog 102 #[.slice none 0 0,.func (.func 103) #[] #[.pointer (some ⟨Bf,0,none⟩),.pointer (some ⟨Bx,0,none⟩),.pointer (some ⟨Bb,0,none⟩)]] w fun e w'=>∃v,e=.returned v∧Kd.R k38 38 w' w.heap.size (fun _=>True) v (zB l fr by_ N)∧Below w.heap.size w w':=by
 have hmx:Tryz.prog.follows .mixedOrders=true:=by kernel_rfl
 have HC:=hhd hC
 have HL:=hhd (And.intro hl (And.intro hfr (And.intro hby hby2)))
 have HN:=hhd hN
 have HN1:=hhd hN1
 have HN2:=hhd hN2
 have H1:=hhd hbf
 have H2:=hhd hbx
 have H3:=hhd hbb
 have HB0:=hhd (Below.refl w.heap.size w)
 clear hC hl hfr hby hby2 hN hN1 hN2 hbf hbx hbb
 refine (callsIn_wide (n:=10)).1 ?_
 refine callsIn_of_wp_marks Tryz.func102 rfl trivial ?_ rfl
 simp only [Tryz.ntmps102,List.size_toArray,List.length_cons,List.length_nil,Nat.reduceAdd,Nat.reduceSub,Array.replicate_succ,Array.replicate_zero,List.push_toArray,List.append_toArray,List.nil_append,List.cons_append]
 refine wpIn_wide.2 ?_
 go_wp2_with (first
  | ((with_reducible refine zg (N:=2) rfl ?_);refine ba_ 2 #[.slice none 0 0] 22 ?_;intro g2 hg W1 hbox hbl;have L2:=gf_ hg HB0.out;have B2_1:=hhd hbox;have HB_1:=hhd (zb HB0.out hbl);have k2_0_1:=bk1 B2_1.out;have HBL:=hhd hbl;clear hbox hbl hg))
 refine (wpIn_wide (n:=10)).1 ?_
 have LW:w.heap.size≤W1.heap.size:=zj HB_1.out
 refine wpIn_rangeFunc_ownH rfl (by decide) (gf:=103) (lb:=#[.pointer (some ⟨Bf,0,none⟩),.pointer (some ⟨Bx,0,none⟩),.pointer (some ⟨Bb,0,none⟩)]) rfl trivial (enters_of Tryz.func103 (by kernel_rfl) rfl)
  (zig 9 (by decide) Bf Bx Bb w.heap.size A c l fr by_ N w W1 rfl HC.out HL.out.1 HL.out.2.1 HL.out.2.2.1 HL.out.2.2.2 HN1.out HN2.out HB_1.out (za H1.out HBL.out) (za H2.out HBL.out) (za H3.out HBL.out)) zlh (zli LW (Nat.lt_of_lt_of_le (zf H1.out) LW) (Nat.lt_of_lt_of_le (zf H2.out) LW) (Nat.lt_of_lt_of_le (zf H3.out) LW)) (Below.refl _ _) (fun _=>rfl)
  (fun pre W=>zja g2 Bf Bx Bb A l.length c fr by_ w pre W)
  (fun _ _ _=>False)
  (zlk LW)
  (fun _ _ _ _ _ hs _ _=>hs)
  ⟨⟨none,0,B2_1.out,Kd.R_nil k38 38 _ _ _⟩,za H1.out HBL.out,za H2.out HBL.out,za H3.out HBL.out,HB_1.out⟩
  (fun x a' W=>∃g5,w.heap.size≤g5∧g5≠g2∧W.heap[g5]?=some (.cells #[.int .i64 x.f0,.int .i64 x.f1] 38 (0,0))∧a'={ tmps:=#[.slice none 0 0,.func (.func 103) #[] #[.pointer (some ⟨Bf,0,none⟩),.pointer (some ⟨Bx,0,none⟩),.pointer (some ⟨Bb,0,none⟩)],.pointer (some ⟨g2,0,none⟩),undef,.slice none 0 0,.pointer (some ⟨g5,0,none⟩),.func (.func 103) #[] #[.pointer (some ⟨Bf,0,none⟩),.pointer (some ⟨Bx,0,none⟩),.pointer (some ⟨Bb,0,none⟩)],.agg #[.int .i64 x.f0,.int .i64 x.f1],undef,undef,undef,undef,undef],defers:=[] })
  (fun x a' _ X Y row hs hg hr=>by obtain ⟨g5,h1,hn,h2,h3⟩:=hs;exact ⟨g5,h1,hn,za0 h2 hg (fun r e=>(hr r e).2),h3⟩)
  ?assign ?body ?done ?stop
 case assign =>
  rintro lY pre x W K hI hK
  have HI:=hhd hI
  have HKK:=hhd hK
  clear hI hK
  have HBs:=hhd (Below.refl W.heap.size W)
  refine zb8 (by kernel_rfl) (fun ⟨_,_,q⟩=>q) ?_
  simp only [List.zip_toArray,List.zip_cons_cons,List.zip_nil_right,List.size_toArray,List.length_cons,List.length_nil,List.foldl_toArray',List.foldl_cons,List.foldl_nil,zzA,zzC,zzB]
  go_wp2_with (first
  | ((with_reducible refine zg (N:=5) rfl ?_);refine ba_ 5 #[.int .i64 0,.int .i64 0] 38 ?_;intro g5 hg V1 hbox hbl;have L5:W.heap.size≤g5:=(by rw [hg];exact zj HBs.out);have B5_1:=hhd hbox;have HB_1:=hhd (zb HBs.out hbl);obtain ⟨k5_0_1,k5_1_1⟩:=bk2 B5_1.out;clear hbox hbl hg)
  | ((with_reducible refine zo (t:=38) (p:=5) rfl ?_);refine zv rfl 38 _ _ rfl g5 #[.int .i64 x.f0,.int .i64 x.f1] rfl rfl 38 #[.int .i64 0,.int .i64 0] B5_1.out (zu _ _) rfl (zG _ _) ?_;intro V2 hq hoth hbel;have B5_2:=hhd hq;have HB_2:=hhd (hbel _ _ L5 HB_1.out);clear k5_0_1 k5_1_1;obtain ⟨k5_0_2,k5_1_2⟩:=bk2 B5_2.out;clear hq hoth hbel))
  have hB:Below W.heap.size W V2:=HB_2.out
  have hsz:=HI.out.2.2.2.2.size
  refine HKK.out _ _ (zcR (zaZ hB none) (fun r e=>by cases e)) ⟨hB.mono hsz,hB.block _ (zf HI.out.2.1),hB.block _ (zf HI.out.2.2.1),hB.block _ (zf HI.out.2.2.2.1)⟩ (zfL HI.out (zaZ hB none) (fun r e=>by cases e)) ⟨g5,Nat.le_trans hsz L5,?_,B5_2.out,rfl⟩
  obtain ⟨⟨A1,c1,h2,_⟩,_⟩:=HI.out
  have:=zf h2
  omega
 case body =>
  rintro lY pre x a' W hl ⟨r,hr⟩ ⟨⟨A1,c1,h2,hR⟩,h3,h4,h5,hB⟩ ⟨g5,hg5,hn5,b5,rfl⟩ hlt
  have k2:W.cell? ⟨g2,0,none⟩=some (.slice A1 pre.length c1):=(zc h2 0).trans rfl
  have kx0:W.cell? ⟨g5,0,none⟩=some (.int .i64 x.f0):=(zc b5 0).trans rfl
  have kx1:W.cell? ⟨g5,1,none⟩=some (.int .i64 x.f1):=(zc b5 1).trans rfl
  have E2:=hhd h2
  have ER:=hhd hR
  have E3:=hhd h3
  have E4:=hhd h4
  have E5:=hhd h5
  have EB:=hhd hB
  have HLT:=hhd hlt
  have NF:=hhd (show Bf≠g2 from fun e=>by have:=zf H1.out;omega)
  have NX:=hhd (show Bx≠g2 from fun e=>by have:=zf H2.out;omega)
  have NB:=hhd (show Bb≠g2 from fun e=>by have:=zf H3.out;omega)
  clear h2 hR h3 h4 h5 hB hlt b5
  refine wpIn_block ?_
  refine zb8 (by kernel_rfl) (fun ⟨_,_,q⟩=>q) ?_
  go_wp2_with (first
   | ((with_reducible refine zaC (b:=.append) (xs:=#[.tmp 8,.tmp 10]) rfl ?_);at_builtin;refine Kd.R_append k38 (w0:=w) w.heap.size rfl (.tmp 8) (.tmp 10) 22 38 (.agg #[(.int .i64 0),(.int .i64 0)]) 16 rfl Tryz.underlying22 zb3 rfl (by decide) (by omega) (.slice A1 pre.length c1) pre x [.int .i64 x.f0,.int .i64 x.f1] (fun _=>True) (fun _=>False) rfl rfl ?aP (fun _ hk=>hk.elim) ?aF ?aO ?aB ?aS ?aL ?_;(case aP=>exact zaF _ _ _ x);(case aB=>exact EB.out);(case aF=>exact (fun _ _=>trivial));(case aO=>exact ER.out);(case aS=>exact zj EB.out);(case aL=>have:=HN.out;have:=HLT.out;omega);intro v11 V1 ho hb hg hat;obtain ⟨A2,c2,ev⟩:=Kd.R_slice ho;subst ev;have HO:=hhd ho;have HBV:=hhd hb;have HG:=hhd hg;have F2:=hhd ((hg.block g2 (zf E2.out) (Kd.R_ne ER.out E2.out (by decide))).trans E2.out);have f2:=(zc F2.out 0).trans rfl;clear ho hb hg hat k2 kx0 kx1)
   | ((with_reducible refine zo (t:=22) (p:=2) rfl ?_);refine zd7 rfl rfl 22 _ _ rfl g2 (.slice A2 (pre++[x]).length c2) rfl rfl 22 _ F2.out zhk rfl rfl ?_;intro V2 hq hoth hbel;have G2:=hhd hq;have HOT:=hhd hoth;have HBE:=hhd hbel;clear hq hoth hbel f2))
  have bf:=(HG.out.block Bf (zf E3.out) (Kd.R_ne ER.out E3.out (by decide)))
  have bx:=(HG.out.block Bx (zf E4.out) (Kd.R_ne ER.out E4.out (by decide)))
  have bb:=(HG.out.block Bb (zf E5.out) (Kd.R_ne ER.out E5.out (by decide)))
  have hWs:Below w.heap.size W V1:=(Below.refl _ W).grown HG.out EB.out.size (fun k e=>Kd.R_base ER.out k e)
  refine ⟨KeepsFrom.trans (zcR HG.out (fun r e=>by obtain ⟨cs,hc⟩:=Kd.R_typed ER.out r e;exact ⟨_,_,_,hc⟩)) ⟨(HBE.out 0 V1 (Nat.zero_le _) (Below.refl _ _)).size,fun k o _ hk ho=>(HOT.out k (fun e=>by rw [e,F2.out] at hk;cases hk;cases ho)).trans hk⟩,⟨HBE.out _ _ L2 hWs,(HOT.out _ NF.out).trans bf,(HOT.out _ NX.out).trans bx,(HOT.out _ NB.out).trans bb⟩,⟨A2,c2,G2.out,zK HO.out HOT.out (Kd.R_ne HO.out F2.out (by decide))⟩,(HOT.out _ NF.out).trans (bf.trans E3.out),(HOT.out _ NX.out).trans (bx.trans E4.out),(HOT.out _ NB.out).trans (bb.trans E5.out),HBE.out _ _ L2 HBV.out⟩
 case done =>
  rintro D ys W hD hys ⟨⟨A1,c1,h2,hR⟩,h3,h4,h5,hB⟩ hK
  have k2:W.cell? ⟨g2,0,none⟩=some (.slice A1 ys.length c1):=(zc h2 0).trans rfl
  have ER:=hhd hR
  have EB:=hhd hB
  have EK:=hhd hK
  clear h2 hR h3 h4 h5 hB hK
  go_wp2
  refine ⟨by simp,.inl ⟨_,_,rfl,run_takeDeferred EK.out,?_⟩⟩
  have hg:=grownBy_putObj' W D (.deferred none)
  exact ⟨_,results_tmp rfl _ _ _,_,rfl,by rw [← hys];exact zeU ER.out hg (fun r e=>by cases e;exact ⟨_,EK.out,rfl⟩),EB.out.grown hg EB.out.size (fun k e=>by cases e;exact Nat.le_trans LW hD)⟩
 case stop =>
  rintro D c pre W _ _ h _
  exact h.elim
set_option maxRecDepth 100000 in
set_option maxHeartbeats 4000000 in
theorem zdP (Bf Bx Bb:Nat) (A:Option Addr) (c:Nat) (l:List S38) (fr by_ N:Nat) (w:World) (hC:Kd.C k38 w A l.length l) (hl:l.length≤64) (hfr:fr≤64) (hby:1≤by_) (hby2:by_≤64) (hN:N≤64) (hN1:∀k,k < N→fr+k*by_ < l.length) (hN2:l.length≤fr+N*by_)
  (hbf:w.heap[Bf]?=some (.cells #[.int .i64 fr] 3 (0,0))) (hbx:w.heap[Bx]?=some (.cells #[.slice A l.length c] 22 (0,0))) (hbb:w.heap[Bb]?=some (.cells #[.int .i64 by_] 3 (0,0))) :
  Calls Tryz.prog 71 #[.func (.func 103) #[] #[.pointer (some ⟨Bf,0,none⟩),.pointer (some ⟨Bx,0,none⟩),.pointer (some ⟨Bb,0,none⟩)]] w fun e w'=>∃v,e=.returned v∧Kd.R k38 38 w' w.heap.size (fun _=>True) v (zB l fr by_ N)∧Below w.heap.size w w':=by
 have HA:=hhd (zgK Bf Bx Bb A c l fr by_ N w hC hl hfr hby hby2 hN hN1 hN2 hbf hbx hbb)
 clear hC hl hfr hby hby2 hN hN1 hN2 hbf hbx hbb
 go_enter Tryz.func71,Tryz.ntmps71
 go_wp2_with (go_at_call 102;refine HA.out.mono ?_;rintro e W1 ⟨v,rfl,hR,hB⟩)
 go_ret
 exact ⟨v,rfl,hR,hB⟩
end Go.Proofs.YteieahbadclppaaGreat.P

namespace Go.Proofs.YteieahbadclppaaGreat.P
open Go.RowKit Go.Proofs.YteieahbadclppaaGreatW.PrintWords Go.Proofs.YteieahbadclppaaGreatW.PrintLast Go.Proofs.YteieahbadclppaaGreatW.PrintMore
attribute [local go_sem] zI zJ zO zP zX zY z8 z9
set_option linter.unusedVariables false
set_option linter.unusedSimpArgs false
def split_plan_root.f (l0_0:List (S38)) (a0_1:Int) (a0_2:Int) (a0_3:Int) (a1:Int):Option (Int×Int):=if 0≤a1 then (if a1 < (l0_0.length:Int) then (if a0_3=1 then ((cx_Conj.f ((zk l0_0 a1).f0) ((zk l0_0 a1).f1)).bind fun bt188=>(some (bt188.1,bt188.2.1))) else (some ((zk l0_0 a1).f0,(zk l0_0 a1).f1))) else (none)) else (none)
set_option maxHeartbeats 8000000 in
set_option maxRecDepth 100000 in
theorem split_plan_root.calls (A0_0:Option Addr) (c0_0:Nat) (l0_0:List (S38)) (a0_1:Int) (a0_2:Int) (a0_3:Int) (a1:Int) (r1:Int) (r2:Int) (w:World) (hr0_0:Kd.C k38 w A0_0 l0_0.length l0_0) (hc0_0:l0_0.length≤c0_0) (h:split_plan_root.f l0_0 a0_1 a0_2 a0_3 a1=some (r1,r2)) :
  Calls Tryz.prog 74 #[.agg #[.slice A0_0 l0_0.length c0_0,.int .i64 a0_1,.int .i64 a0_2,.int .i64 a0_3],.int .i64 a1] w fun e w'=>e=.returned (.agg #[.int .i64 r1,.int .i64 r2])∧Below w.heap.size w w':=by
 have hu95:=Tryz.underlying95
 have hu38:=Tryz.underlying38
 have HR0_0:=Aside0.mk hr0_0
 have HC0_0:=Aside0.mk hc0_0
 clear hr0_0 hc0_0
 have HB:=Aside0.mk (Below.refl w.heap.size w)
 have H:(if 0≤a1 then (if a1 < (l0_0.length:Int) then (if a0_3=1 then ((cx_Conj.f ((zk l0_0 a1).f0) ((zk l0_0 a1).f1)).bind fun bt188=>(some (bt188.1,bt188.2.1))) else (some ((zk l0_0 a1).f0,(zk l0_0 a1).f1))) else (none)) else (none))=some (r1,r2):=h
 clear h
 by_cases c3:0≤a1
 ·rw [if_pos c3] at H
  have c3b0:decide (0≤a1)=true:=decide_eq_true c3
  clear c3
  by_cases c4:a1 < (l0_0.length:Int)
  ·rw [if_pos c4] at H
   have c4b0:decide (a1 < (l0_0.length:Int))=true:=decide_eq_true c4
   clear c4
   by_cases c5:a0_3=1
   ·rw [if_pos c5] at H
    have c5b0:(a0_3 == 1)=true:=beq_iff_eq.mpr c5
    have c5b1:(a0_3 != 1)=false:=bne_eq_false_iff_eq.mpr c5
    clear c5
    replace H:=Option.bind_eq_some_iff.mp H
    obtain ⟨⟨t188,t189,t190⟩,A60,H⟩:=H
    replace H:(some (t188,t189))=some (r1,r2):=H
    have A6:=Aside0.mk A60
    clear A60
    simp only [Option.some.injEq,Prod.mk.injEq] at H
    obtain ⟨rfl,rfl⟩:=H
    go_enter Tryz.func74,Tryz.ntmps74
    go_wp2_with (first | ((with_reducible refine zg (N:=2) rfl ?_);refine ba_ 2 #[.slice A0_0 l0_0.length c0_0,.int .i64 a0_1,.int .i64 a0_2,.int .i64 a0_3] 95 ?_;intro gb184 hg w7 hbox hb;have n0_:=Aside0.mk (zb (by repeat (first | (with_reducible first | exact HB.out | apply ze | apply zd | apply zh) | exact HB.out)) hb);have n1_:=Aside0.mk (hbox);have n2_:=Aside0.mk ((by rw [hg];exact (zj (by repeat (first | (with_reducible first | exact HB.out | apply ze | apply zd | apply zh) | exact HB.out))):w.heap.size≤gb184));have n3_:=Aside0.mk ((by rw [hg];exact (zj (by repeat (first | (with_reducible first | exact HB.out | apply ze | apply zd | apply zh) | exact HB.out))):w.heap.size≤gb184));clear HB;have HB:=n0_;have BK184:=n1_;have GW184:=n2_;have GE184:=n3_;clear n0_ n1_ n2_ n3_;clear hb hbox hg) | ((with_reducible refine zg (N:=4) rfl ?_);refine ba_ 4 #[.int .i64 0,.int .i64 0] 38 ?_;intro gb185 hg w8 hbox hb;have n0_:=Aside0.mk (za (g:=gb184) (o:=.cells #[.slice A0_0 l0_0.length c0_0,.int .i64 a0_1,.int .i64 a0_2,.int .i64 a0_3] 95 (0,0)) (by (with_reducible repeat (first | refine zn ?_ _ | refine zq ?_ | refine zm ?_ _));exact BK184.out) hb);have n1_:=Aside0.mk (zb (by repeat (first | (with_reducible first | exact HB.out | apply ze | apply zd | apply zh | refine zp ?_ GE184.out) | exact HB.out)) hb);have n2_:=Aside0.mk (hbox);have n3_:=Aside0.mk ((by rw [hg];exact (zj (by repeat (first | (with_reducible first | exact HB.out | apply ze | apply zd | apply zh | refine zp ?_ GE184.out) | exact HB.out))):w.heap.size≤gb185));have n4_:=Aside0.mk ((by rw [hg];exact (zj (by repeat (first | (with_reducible first | exact HB.out | apply ze | apply zd | apply zh | refine zp ?_ GE184.out) | exact HB.out))):w.heap.size≤gb185));have n5_:=Aside0.mk ((by rw [hg];exact Nat.ne_of_lt (zf (g:=gb184) (o:=.cells #[.slice A0_0 l0_0.length c0_0,.int .i64 a0_1,.int .i64 a0_2,.int .i64 a0_3] 95 (0,0)) (by (with_reducible repeat (first | refine zn ?_ _ | refine zq ?_ | refine zm ?_ _));exact BK184.out)):gb184≠gb185));have n6_:=Aside0.mk ((by rw [hg];exact Nat.ne_of_gt (zf (g:=gb184) (o:=.cells #[.slice A0_0 l0_0.length c0_0,.int .i64 a0_1,.int .i64 a0_2,.int .i64 a0_3] 95 (0,0)) (by (with_reducible repeat (first | refine zn ?_ _ | refine zq ?_ | refine zm ?_ _));exact BK184.out)):gb185≠gb184));clear BK184;clear HB;have BK184:=n0_;have HB:=n1_;have BK185:=n2_;have GW185:=n3_;have GE185:=n4_;have NB184_185:=n5_;have NB185_184:=n6_;clear n0_ n1_ n2_ n3_ n4_ n5_ n6_;clear hb hbox hg;have hnb9:=NB184_185.out;have hnc9:=NB185_184.out;have hcz10_0:w8.cell? ⟨gb184,0,none⟩=some (.slice A0_0 l0_0.length c0_0):=(zc BK184.out 0).trans rfl;have hcz10_1:w8.cell? ⟨gb184,1,none⟩=some (.int .i64 a0_1):=(zc BK184.out 1).trans rfl;have hcz10_2:w8.cell? ⟨gb184,2,none⟩=some (.int .i64 a0_2):=(zc BK184.out 2).trans rfl;have hcz10_3:w8.cell? ⟨gb184,3,none⟩=some (.int .i64 a0_3):=(zc BK184.out 3).trans rfl;have hfz10_0:=zi BK184.out 0;have hfz10_1:=zi BK184.out 1;have hfz10_2:=zi BK184.out 2;have hfz10_3:=zi BK184.out 3;have p186:0≤(a1:Int):=of_decide_eq_true (by first | (with_reducible assumption) | assumption);have q186:a1 < (l0_0.length:Int):=of_decide_eq_true (by first | (with_reducible assumption) | assumption);obtain ⟨ad186,e186,hx186_0,hx186_1⟩:=zam HR0_0.out a1 p186 q186;cases e186;replace hx186_0:=(HB.out.cell (World.block_lt_of_cell? w _ hx186_0)).trans hx186_0;replace hx186_1:=(HB.out.cell (World.block_lt_of_cell? w _ hx186_1)).trans hx186_1;replace p186:=eq_true p186;replace q186:=eq_true q186) | ((with_reducible refine zg (N:=5) rfl ?_);refine ba_ 5 #[.int .i64 0,.int .i64 0] 38 ?_;intro gb187 hg w11 hbox hb;have n0_:=Aside0.mk (za (g:=gb184) (o:=.cells #[.slice (some ad186) l0_0.length c0_0,.int .i64 a0_1,.int .i64 a0_2,.int .i64 a0_3] 95 (0,0)) (by (with_reducible repeat (first | refine zn ?_ _ | refine zq ?_ | refine zm ?_ _));exact BK184.out) hb);have n1_:=Aside0.mk (za (g:=gb185) (o:=.cells #[.int .i64 0,.int .i64 0] 38 (0,0)) (by (with_reducible repeat (first | refine zn ?_ _ | refine zq ?_ | refine zm ?_ _));exact BK185.out) hb);have n2_:=Aside0.mk (zb (by repeat (first | (with_reducible first | exact HB.out | apply ze | apply zd | apply zh | refine zp ?_ GE184.out | refine zp ?_ GE185.out) | exact HB.out)) hb);have n3_:=Aside0.mk (hbox);have n4_:=Aside0.mk ((by rw [hg];exact (zj (by repeat (first | (with_reducible first | exact HB.out | apply ze | apply zd | apply zh | refine zp ?_ GE184.out | refine zp ?_ GE185.out) | exact HB.out))):w.heap.size≤gb187));have n5_:=Aside0.mk ((by rw [hg];exact (zj (by repeat (first | (with_reducible first | exact HB.out | apply ze | apply zd | apply zh | refine zp ?_ GE184.out | refine zp ?_ GE185.out) | exact HB.out))):w.heap.size≤gb187));have n6_:=Aside0.mk ((by rw [hg];exact Nat.ne_of_lt (zf (g:=gb184) (o:=.cells #[.slice (some ad186) l0_0.length c0_0,.int .i64 a0_1,.int .i64 a0_2,.int .i64 a0_3] 95 (0,0)) (by (with_reducible repeat (first | refine zn ?_ _ | refine zq ?_ | refine zm ?_ _));exact BK184.out)):gb184≠gb187));have n7_:=Aside0.mk ((by rw [hg];exact Nat.ne_of_gt (zf (g:=gb184) (o:=.cells #[.slice (some ad186) l0_0.length c0_0,.int .i64 a0_1,.int .i64 a0_2,.int .i64 a0_3] 95 (0,0)) (by (with_reducible repeat (first | refine zn ?_ _ | refine zq ?_ | refine zm ?_ _));exact BK184.out)):gb187≠gb184));have n8_:=Aside0.mk ((by rw [hg];exact Nat.ne_of_lt (zf (g:=gb185) (o:=.cells #[.int .i64 0,.int .i64 0] 38 (0,0)) (by (with_reducible repeat (first | refine zn ?_ _ | refine zq ?_ | refine zm ?_ _));exact BK185.out)):gb185≠gb187));have n9_:=Aside0.mk ((by rw [hg];exact Nat.ne_of_gt (zf (g:=gb185) (o:=.cells #[.int .i64 0,.int .i64 0] 38 (0,0)) (by (with_reducible repeat (first | refine zn ?_ _ | refine zq ?_ | refine zm ?_ _));exact BK185.out)):gb187≠gb185));clear BK184;clear BK185;clear HB;have BK184:=n0_;have BK185:=n1_;have HB:=n2_;have BK187:=n3_;have GW187:=n4_;have GE187:=n5_;have NB184_187:=n6_;have NB187_184:=n7_;have NB185_187:=n8_;have NB187_185:=n9_;clear n0_ n1_ n2_ n3_ n4_ n5_ n6_ n7_ n8_ n9_;clear hb hbox hg;have hnb12:=NB187_184.out;have hnc12:=NB184_187.out;have hnb13:=NB187_185.out;have hnc13:=NB185_187.out;have hcz14_0:w11.cell? ⟨gb187,0,none⟩=some (.int .i64 0):=(zc BK187.out 0).trans rfl;have hcz14_1:w11.cell? ⟨gb187,1,none⟩=some (.int .i64 0):=(zc BK187.out 1).trans rfl;have hfz14_0:=zi BK187.out 0;have hfz14_1:=zi BK187.out 1;have hcz15_0:w11.cell? ⟨gb184,0,none⟩=some (.slice (some ad186) l0_0.length c0_0):=(zc BK184.out 0).trans rfl;have hcz15_1:w11.cell? ⟨gb184,1,none⟩=some (.int .i64 a0_1):=(zc BK184.out 1).trans rfl;have hcz15_2:w11.cell? ⟨gb184,2,none⟩=some (.int .i64 a0_2):=(zc BK184.out 2).trans rfl;have hcz15_3:w11.cell? ⟨gb184,3,none⟩=some (.int .i64 a0_3):=(zc BK184.out 3).trans rfl;have hfz15_0:=zi BK184.out 0;have hfz15_1:=zi BK184.out 1;have hfz15_2:=zi BK184.out 2;have hfz15_3:=zi BK184.out 3) | ((with_reducible refine zy (f:=58) rfl ?_);refine zQ (some 16) rfl rfl Tryz.func58 (by kernel_rfl) rfl #[.agg #[.int .i64 ((zk l0_0 a1).f0),.int .i64 ((zk l0_0 a1).f1)]] rfl (by (try simp only [List.map_toArray,List.map_cons,List.map_nil]);first | done | rfl | (simp only [List.length_drop,List.length_take];rfl)) ?_;(with_reducible refine (cx_Conj.calls ((zk l0_0 a1).f0) ((zk l0_0 a1).f1) t188 t189 t190 _ A6.out).mono ?_);rintro e w16 ⟨rfl,hb⟩;refine ⟨_,rfl,?_⟩;have n0_:=Aside0.mk (za (g:=gb184) (o:=.cells #[.slice (some ad186) l0_0.length c0_0,.int .i64 a0_1,.int .i64 a0_2,.int .i64 a0_3] 95 (0,0)) (by (with_reducible repeat (first | refine zn ?_ _ | refine zq ?_ | refine zm ?_ _));refine zaA ?_ NB184_187.out _;(with_reducible repeat (first | refine zn ?_ _ | refine zq ?_ | refine zm ?_ _));refine zaA ?_ NB184_187.out _;(with_reducible repeat (first | refine zn ?_ _ | refine zq ?_ | refine zm ?_ _));exact BK184.out) hb);have n1_:=Aside0.mk (za (g:=gb185) (o:=.cells #[.int .i64 0,.int .i64 0] 38 (0,0)) (by (with_reducible repeat (first | refine zn ?_ _ | refine zq ?_ | refine zm ?_ _));refine zaA ?_ NB185_187.out _;(with_reducible repeat (first | refine zn ?_ _ | refine zq ?_ | refine zm ?_ _));refine zaA ?_ NB185_187.out _;(with_reducible repeat (first | refine zn ?_ _ | refine zq ?_ | refine zm ?_ _));exact BK185.out) hb);have n2_:=Aside0.mk (za (g:=gb187) (o:=.cells #[.int .i64 ((zk l0_0 a1).f0),.int .i64 ((zk l0_0 a1).f1)] 38 (0,0)) (by (with_reducible repeat (first | refine zn ?_ _ | refine zq ?_ | refine zm ?_ _));refine zS (cs:=#[.int .i64 ((zk l0_0 a1).f0),.int .i64 0]) ?_ 1 _ rfl;(with_reducible repeat (first | refine zn ?_ _ | refine zq ?_ | refine zm ?_ _));refine zS (cs:=#[.int .i64 0,.int .i64 0]) ?_ 0 _ rfl;(with_reducible repeat (first | refine zn ?_ _ | refine zq ?_ | refine zm ?_ _));exact BK187.out) hb);have n3_:=Aside0.mk (zb (by repeat (first | (with_reducible first | exact HB.out | apply ze | apply zd | apply zh | refine zp ?_ GE184.out | refine zp ?_ GE185.out | refine zp ?_ GE187.out) | exact HB.out)) hb);clear BK184;clear BK185;clear BK187;clear HB;have BK184:=n0_;have BK185:=n1_;have BK187:=n2_;have HB:=n3_;clear n0_ n1_ n2_ n3_;(try clear hb);(try clear hb2);(try clear hk);(try clear hi);have hcz17_0:w16.cell? ⟨gb187,0,none⟩=some (.int .i64 ((zk l0_0 a1).f0)):=(zc BK187.out 0).trans rfl;have hcz17_1:w16.cell? ⟨gb187,1,none⟩=some (.int .i64 ((zk l0_0 a1).f1)):=(zc BK187.out 1).trans rfl;have hfz17_0:=zi BK187.out 0;have hfz17_1:=zi BK187.out 1;have hcz18_0:w16.cell? ⟨gb185,0,none⟩=some (.int .i64 0):=(zc BK185.out 0).trans rfl;have hcz18_1:w16.cell? ⟨gb185,1,none⟩=some (.int .i64 0):=(zc BK185.out 1).trans rfl;have hfz18_0:=zi BK185.out 0;have hfz18_1:=zi BK185.out 1))
    refine bodyPost_ret (results_cell_row rfl _ _ gb185 38 #[.int .i64 t188,.int .i64 t189] (0,0) _ rfl (by (with_reducible repeat (first | refine zn ?_ _ | refine zq ?_ | refine zm ?_ _));refine zS (cs:=#[.int .i64 t188,.int .i64 0]) ?_ 1 _ rfl;(with_reducible repeat (first | refine zn ?_ _ | refine zq ?_ | refine zm ?_ _));refine zS (cs:=#[.int .i64 0,.int .i64 0]) ?_ 0 _ rfl;(with_reducible repeat (first | refine zn ?_ _ | refine zq ?_ | refine zm ?_ _));refine zaA ?_ NB185_187.out _;(with_reducible repeat (first | refine zn ?_ _ | refine zq ?_ | refine zm ?_ _));refine zaA ?_ NB185_187.out _;(with_reducible repeat (first | refine zn ?_ _ | refine zq ?_ | refine zm ?_ _));exact BK185.out) Tryz.underlying38 rfl (by kernel_rfl)) rfl ?_
    exact ⟨by first | rfl | (simp [zr,zt] <;> rfl) | (simp [*,zr,zt] <;> rfl),by repeat (first | (with_reducible first | exact HB.out | apply ze | apply zd | apply zh | refine zp ?_ GE184.out | refine zp ?_ GE185.out | refine zp ?_ GE187.out) | exact HB.out)⟩
   ·rw [if_neg c5] at H
    have c5b0:(a0_3 == 1)=false:=beq_eq_false_iff_ne.mpr c5
    have c5b1:(a0_3 != 1)=true:=bne_iff_ne.mpr c5
    simp only [Option.some.injEq,Prod.mk.injEq] at H
    obtain ⟨rfl,rfl⟩:=H
    go_enter Tryz.func74,Tryz.ntmps74
    go_wp2_with (first | ((with_reducible refine zg (N:=2) rfl ?_);refine ba_ 2 #[.slice A0_0 l0_0.length c0_0,.int .i64 a0_1,.int .i64 a0_2,.int .i64 a0_3] 95 ?_;intro gb184 hg w19 hbox hb;have n0_:=Aside0.mk (zb (by repeat (first | (with_reducible first | exact HB.out | apply ze | apply zd | apply zh) | exact HB.out)) hb);have n1_:=Aside0.mk (hbox);have n2_:=Aside0.mk ((by rw [hg];exact (zj (by repeat (first | (with_reducible first | exact HB.out | apply ze | apply zd | apply zh) | exact HB.out))):w.heap.size≤gb184));have n3_:=Aside0.mk ((by rw [hg];exact (zj (by repeat (first | (with_reducible first | exact HB.out | apply ze | apply zd | apply zh) | exact HB.out))):w.heap.size≤gb184));clear HB;have HB:=n0_;have BK184:=n1_;have GW184:=n2_;have GE184:=n3_;clear n0_ n1_ n2_ n3_;clear hb hbox hg) | ((with_reducible refine zg (N:=4) rfl ?_);refine ba_ 4 #[.int .i64 0,.int .i64 0] 38 ?_;intro gb185 hg w20 hbox hb;have n0_:=Aside0.mk (za (g:=gb184) (o:=.cells #[.slice A0_0 l0_0.length c0_0,.int .i64 a0_1,.int .i64 a0_2,.int .i64 a0_3] 95 (0,0)) (by (with_reducible repeat (first | refine zn ?_ _ | refine zq ?_ | refine zm ?_ _));exact BK184.out) hb);have n1_:=Aside0.mk (zb (by repeat (first | (with_reducible first | exact HB.out | apply ze | apply zd | apply zh | refine zp ?_ GE184.out) | exact HB.out)) hb);have n2_:=Aside0.mk (hbox);have n3_:=Aside0.mk ((by rw [hg];exact (zj (by repeat (first | (with_reducible first | exact HB.out | apply ze | apply zd | apply zh | refine zp ?_ GE184.out) | exact HB.out))):w.heap.size≤gb185));have n4_:=Aside0.mk ((by rw [hg];exact (zj (by repeat (first | (with_reducible first | exact HB.out | apply ze | apply zd | apply zh | refine zp ?_ GE184.out) | exact HB.out))):w.heap.size≤gb185));have n5_:=Aside0.mk ((by rw [hg];exact Nat.ne_of_lt (zf (g:=gb184) (o:=.cells #[.slice A0_0 l0_0.length c0_0,.int .i64 a0_1,.int .i64 a0_2,.int .i64 a0_3] 95 (0,0)) (by (with_reducible repeat (first | refine zn ?_ _ | refine zq ?_ | refine zm ?_ _));exact BK184.out)):gb184≠gb185));have n6_:=Aside0.mk ((by rw [hg];exact Nat.ne_of_gt (zf (g:=gb184) (o:=.cells #[.slice A0_0 l0_0.length c0_0,.int .i64 a0_1,.int .i64 a0_2,.int .i64 a0_3] 95 (0,0)) (by (with_reducible repeat (first | refine zn ?_ _ | refine zq ?_ | refine zm ?_ _));exact BK184.out)):gb185≠gb184));clear BK184;clear HB;have BK184:=n0_;have HB:=n1_;have BK185:=n2_;have GW185:=n3_;have GE185:=n4_;have NB184_185:=n5_;have NB185_184:=n6_;clear n0_ n1_ n2_ n3_ n4_ n5_ n6_;clear hb hbox hg;have hnb21:=NB184_185.out;have hnc21:=NB185_184.out;have hcz22_0:w20.cell? ⟨gb184,0,none⟩=some (.slice A0_0 l0_0.length c0_0):=(zc BK184.out 0).trans rfl;have hcz22_1:w20.cell? ⟨gb184,1,none⟩=some (.int .i64 a0_1):=(zc BK184.out 1).trans rfl;have hcz22_2:w20.cell? ⟨gb184,2,none⟩=some (.int .i64 a0_2):=(zc BK184.out 2).trans rfl;have hcz22_3:w20.cell? ⟨gb184,3,none⟩=some (.int .i64 a0_3):=(zc BK184.out 3).trans rfl;have hfz22_0:=zi BK184.out 0;have hfz22_1:=zi BK184.out 1;have hfz22_2:=zi BK184.out 2;have hfz22_3:=zi BK184.out 3;have p186:0≤(a1:Int):=of_decide_eq_true (by first | (with_reducible assumption) | assumption);have q186:a1 < (l0_0.length:Int):=of_decide_eq_true (by first | (with_reducible assumption) | assumption);obtain ⟨ad186,e186,hx186_0,hx186_1⟩:=zam HR0_0.out a1 p186 q186;cases e186;replace hx186_0:=(HB.out.cell (World.block_lt_of_cell? w _ hx186_0)).trans hx186_0;replace hx186_1:=(HB.out.cell (World.block_lt_of_cell? w _ hx186_1)).trans hx186_1;replace p186:=eq_true p186;replace q186:=eq_true q186) | ((with_reducible refine zg (N:=5) rfl ?_);refine ba_ 5 #[.int .i64 0,.int .i64 0] 38 ?_;intro gb187 hg w23 hbox hb;have n0_:=Aside0.mk (za (g:=gb184) (o:=.cells #[.slice (some ad186) l0_0.length c0_0,.int .i64 a0_1,.int .i64 a0_2,.int .i64 a0_3] 95 (0,0)) (by (with_reducible repeat (first | refine zn ?_ _ | refine zq ?_ | refine zm ?_ _));exact BK184.out) hb);have n1_:=Aside0.mk (za (g:=gb185) (o:=.cells #[.int .i64 0,.int .i64 0] 38 (0,0)) (by (with_reducible repeat (first | refine zn ?_ _ | refine zq ?_ | refine zm ?_ _));exact BK185.out) hb);have n2_:=Aside0.mk (zb (by repeat (first | (with_reducible first | exact HB.out | apply ze | apply zd | apply zh | refine zp ?_ GE184.out | refine zp ?_ GE185.out) | exact HB.out)) hb);have n3_:=Aside0.mk (hbox);have n4_:=Aside0.mk ((by rw [hg];exact (zj (by repeat (first | (with_reducible first | exact HB.out | apply ze | apply zd | apply zh | refine zp ?_ GE184.out | refine zp ?_ GE185.out) | exact HB.out))):w.heap.size≤gb187));have n5_:=Aside0.mk ((by rw [hg];exact (zj (by repeat (first | (with_reducible first | exact HB.out | apply ze | apply zd | apply zh | refine zp ?_ GE184.out | refine zp ?_ GE185.out) | exact HB.out))):w.heap.size≤gb187));have n6_:=Aside0.mk ((by rw [hg];exact Nat.ne_of_lt (zf (g:=gb184) (o:=.cells #[.slice (some ad186) l0_0.length c0_0,.int .i64 a0_1,.int .i64 a0_2,.int .i64 a0_3] 95 (0,0)) (by (with_reducible repeat (first | refine zn ?_ _ | refine zq ?_ | refine zm ?_ _));exact BK184.out)):gb184≠gb187));have n7_:=Aside0.mk ((by rw [hg];exact Nat.ne_of_gt (zf (g:=gb184) (o:=.cells #[.slice (some ad186) l0_0.length c0_0,.int .i64 a0_1,.int .i64 a0_2,.int .i64 a0_3] 95 (0,0)) (by (with_reducible repeat (first | refine zn ?_ _ | refine zq ?_ | refine zm ?_ _));exact BK184.out)):gb187≠gb184));have n8_:=Aside0.mk ((by rw [hg];exact Nat.ne_of_lt (zf (g:=gb185) (o:=.cells #[.int .i64 0,.int .i64 0] 38 (0,0)) (by (with_reducible repeat (first | refine zn ?_ _ | refine zq ?_ | refine zm ?_ _));exact BK185.out)):gb185≠gb187));have n9_:=Aside0.mk ((by rw [hg];exact Nat.ne_of_gt (zf (g:=gb185) (o:=.cells #[.int .i64 0,.int .i64 0] 38 (0,0)) (by (with_reducible repeat (first | refine zn ?_ _ | refine zq ?_ | refine zm ?_ _));exact BK185.out)):gb187≠gb185));clear BK184;clear BK185;clear HB;have BK184:=n0_;have BK185:=n1_;have HB:=n2_;have BK187:=n3_;have GW187:=n4_;have GE187:=n5_;have NB184_187:=n6_;have NB187_184:=n7_;have NB185_187:=n8_;have NB187_185:=n9_;clear n0_ n1_ n2_ n3_ n4_ n5_ n6_ n7_ n8_ n9_;clear hb hbox hg;have hnb24:=NB187_184.out;have hnc24:=NB184_187.out;have hnb25:=NB187_185.out;have hnc25:=NB185_187.out;have hcz26_0:w23.cell? ⟨gb187,0,none⟩=some (.int .i64 0):=(zc BK187.out 0).trans rfl;have hcz26_1:w23.cell? ⟨gb187,1,none⟩=some (.int .i64 0):=(zc BK187.out 1).trans rfl;have hfz26_0:=zi BK187.out 0;have hfz26_1:=zi BK187.out 1;have hcz27_0:w23.cell? ⟨gb184,0,none⟩=some (.slice (some ad186) l0_0.length c0_0):=(zc BK184.out 0).trans rfl;have hcz27_1:w23.cell? ⟨gb184,1,none⟩=some (.int .i64 a0_1):=(zc BK184.out 1).trans rfl;have hcz27_2:w23.cell? ⟨gb184,2,none⟩=some (.int .i64 a0_2):=(zc BK184.out 2).trans rfl;have hcz27_3:w23.cell? ⟨gb184,3,none⟩=some (.int .i64 a0_3):=(zc BK184.out 3).trans rfl;have hfz27_0:=zi BK184.out 0;have hfz27_1:=zi BK184.out 1;have hfz27_2:=zi BK184.out 2;have hfz27_3:=zi BK184.out 3;have hcz28_0:w23.cell? ⟨gb185,0,none⟩=some (.int .i64 0):=(zc BK185.out 0).trans rfl;have hcz28_1:w23.cell? ⟨gb185,1,none⟩=some (.int .i64 0):=(zc BK185.out 1).trans rfl;have hfz28_0:=zi BK185.out 0;have hfz28_1:=zi BK185.out 1))
    refine bodyPost_ret (results_cell_row rfl _ _ gb185 38 #[.int .i64 ((zk l0_0 a1).f0),.int .i64 ((zk l0_0 a1).f1)] (0,0) _ rfl (by (with_reducible repeat (first | refine zn ?_ _ | refine zq ?_ | refine zm ?_ _));refine zS (cs:=#[.int .i64 ((zk l0_0 a1).f0),.int .i64 0]) ?_ 1 _ rfl;(with_reducible repeat (first | refine zn ?_ _ | refine zq ?_ | refine zm ?_ _));refine zS (cs:=#[.int .i64 0,.int .i64 0]) ?_ 0 _ rfl;(with_reducible repeat (first | refine zn ?_ _ | refine zq ?_ | refine zm ?_ _));refine zaA ?_ NB185_187.out _;(with_reducible repeat (first | refine zn ?_ _ | refine zq ?_ | refine zm ?_ _));refine zaA ?_ NB185_187.out _;(with_reducible repeat (first | refine zn ?_ _ | refine zq ?_ | refine zm ?_ _));exact BK185.out) Tryz.underlying38 rfl (by kernel_rfl)) rfl ?_
    exact ⟨by first | rfl | (simp [zr,zt] <;> rfl) | (simp [*,zr,zt] <;> rfl),by repeat (first | (with_reducible first | exact HB.out | apply ze | apply zd | apply zh | refine zp ?_ GE184.out | refine zp ?_ GE185.out | refine zp ?_ GE187.out) | exact HB.out)⟩
  ·rw [if_neg c4] at H
   exact absurd H (by simp)
 ·rw [if_neg c3] at H
  exact absurd H (by simp)

end Go.Proofs.YteieahbadclppaaGreat.P

namespace Go.Proofs.YteieahbadclppaaGreat.P
open Go.RowKit Go.Shelf Go.Proofs.YteieahbadclppaaGreatW.PrintWords Go.Proofs.YteieahbadclppaaGreatW.PrintLast Go.Proofs.YteieahbadclppaaGreatW.PrintMore
set_option linter.unusedVariables false
set_option linter.unusedSimpArgs false
def nT (inv:Bool):Nat:=if inv then 1 else 3
def zaX (inv:Bool):Int:=if inv then 1 else -1
def zbb (u v y z w1 w3:S38) (bits mode:Int) (inv:Bool):Nat→S38
 | 0=>shC (bits+2) mode (zak (upC (bits+1) u) (zak (zT y w1) (zT z w3)))
 | 1=>shC (bits+2) mode (zak (upC (bits+1) v) (zay (zaa (nT inv) (zT y w1)) (zaa (nT inv) (zT z w3))))
 | 2=>shC (bits+2) mode (zay (upC (bits+1) u) (zak (zT y w1) (zT z w3)))
 | _=>shC (bits+2) mode (zay (upC (bits+1) v) (zay (zaa (nT inv) (zT y w1)) (zaa (nT inv) (zT z w3))))
def leB (x:S38) (m:Int):Prop:=x.f0≤m∧x.f1≤m∧-m≤x.f0∧-m≤x.f1
theorem ziu {a b:S38} (ha:inB 2147483648 a=true) (hb:inB 536870912 b=true):leB (zT a b) 2305843009213693952:=by
 obtain ⟨a1,a2,a3,a4⟩:=zan ha
 obtain ⟨w1,w2,w3,w4⟩:=zan hb
 have m1:=zaL (by decide) a1 a3 w1 w3 (by decide)
 have m2:=zaL (by decide) a2 a4 w2 w4 (by decide)
 have m3:=zaL (by decide) a1 a3 w2 w4 (by decide)
 have m4:=zaL (by decide) a2 a4 w1 w3 (by decide)
 unfold leB zT
 dsimp only
 omega
theorem zkf {a:S38} {bits:Int} (b0:0≤bits) (b1:bits≤29) (ha:inB 2147483648 a=true):leB (upC (bits+1) a) 2305843009213693952:=by
 obtain ⟨a1,a2,a3,a4⟩:=zan ha
 have p0:=zau (a:=0) (b:=(bits+1).toNat) (by omega)
 have p1:=zau (a:=(bits+1).toNat) (b:=30) (by omega)
 have e:(2:Int)^30=1073741824:=by decide
 have e0:(2:Int)^0=1:=by decide
 rw [e] at p1
 rw [e0] at p0
 have n1:=zaL (by decide) a1 a3 p1 (by omega) (by decide)
 have n2:=zaL (by decide) a2 a4 p1 (by omega) (by decide)
 unfold leB upC
 dsimp only
 omega
theorem zhG (a b:S38) (bits:Int) (ha:leB (upC (bits+1) a) 2305843009213693952) (hb:leB b 4611686018427387904):zcv a b bits 1=zak (upC (bits+1) a) b:=by
 obtain ⟨a1,a2,a3,a4⟩:=ha
 obtain ⟨b1,b2,b3,b4⟩:=hb
 unfold zcv zak
 change S38.mk (wrap64 (wrap64 (upC (bits+1) a).f0+wrap64 (1*b.f0))) (wrap64 (wrap64 (upC (bits+1) a).f1+wrap64 (1*b.f1)))=_
 rw [Int.one_mul,Int.one_mul,zw (x:=b.f0) (by omega) (by omega),zw (x:=b.f1) (by omega) (by omega),zw (x:=(upC (bits+1) a).f0) (by omega) (by omega),zw (x:=(upC (bits+1) a).f1) (by omega) (by omega),zw (by omega) (by omega),zw (by omega) (by omega)]
theorem zhH (a b:S38) (bits:Int) (ha:leB (upC (bits+1) a) 2305843009213693952) (hb:leB b 4611686018427387904):zcv a b bits (-1)=zay (upC (bits+1) a) b:=by
 obtain ⟨a1,a2,a3,a4⟩:=ha
 obtain ⟨b1,b2,b3,b4⟩:=hb
 unfold zcv zay
 change S38.mk (wrap64 (wrap64 (upC (bits+1) a).f0+wrap64 (-1*b.f0))) (wrap64 (wrap64 (upC (bits+1) a).f1+wrap64 (-1*b.f1)))=_
 rw [Int.neg_one_mul,Int.neg_one_mul,zw (x:=-b.f0) (by omega) (by omega),zw (x:=-b.f1) (by omega) (by omega),zw (x:=(upC (bits+1) a).f0) (by omega) (by omega),zw (x:=(upC (bits+1) a).f1) (by omega) (by omega),zw (by omega) (by omega),zw (by omega) (by omega)]
 rfl
theorem zmc (inv:Bool):za3 (zaX inv)=nT inv:=by cases inv <;> decide +kernel
theorem zll (Aw:Option Addr) (wn cw:Nat) (u v y z w1 w3:S38) (bits mode:Int) (inv:Bool) (hb0:0≤bits) (hb1:bits≤29) (m0:0≤mode) (m1:mode < 3) (hu:inB 2147483648 u=true) (hv:inB 2147483648 v=true) (hy:inB 2147483648 y=true) (hz:inB 2147483648 z=true) (h1:inB 536870912 w1=true) (h3:inB 536870912 w3=true) (w:World) :
  Calls Tryz.prog 73 #[.agg #[.slice Aw wn cw,.int .i64 bits,.int .i64 mode,.int .i64 (zaX inv)],.agg #[.int .i64 u.f0,.int .i64 u.f1],.agg #[.int .i64 v.f0,.int .i64 v.f1],.agg #[.int .i64 y.f0,.int .i64 y.f1],.agg #[.int .i64 z.f0,.int .i64 z.f1],.agg #[.int .i64 w1.f0,.int .i64 w1.f1],.agg #[.int .i64 w3.f0,.int .i64 w3.f1]] w fun e w'=>e=.returned (.agg #[.int .i64 (zbb u v y z w1 w3 bits mode inv 0).f0,.int .i64 (zbb u v y z w1 w3 bits mode inv 0).f1,.int .i64 (zbb u v y z w1 w3 bits mode inv 1).f0,.int .i64 (zbb u v y z w1 w3 bits mode inv 1).f1,.int .i64 (zbb u v y z w1 w3 bits mode inv 2).f0,.int .i64 (zbb u v y z w1 w3 bits mode inv 2).f1,.int .i64 (zbb u v y z w1 w3 bits mode inv 3).f0,.int .i64 (zbb u v y z w1 w3 bits mode inv 3).f1])∧Below w.heap.size w w':=by
 have q1:=ziu hy h1
 have q3:=ziu hz h3
 have qu:=zkf hb0 hb1 hu
 have qv:=zkf hb0 hb1 hv
 have hT:∀(a b:S38),inB 2147483648 a=true→inB 536870912 b=true→∀W:World,Calls Tryz.prog 104 #[.agg #[.int .i64 a.f0,.int .i64 a.f1],.agg #[.int .i64 b.f0,.int .i64 b.f1]] W fun e w'=>e=.returned (.tuple #[.agg #[.int .i64 (zT a b).f0,.int .i64 (zT a b).f1],.int .i64 0])∧Below W.heap.size W w':=by
  intro a b ha hb W
  have hb3:inB 1073741824 b=true:=by obtain ⟨c0,c1,c2,c3⟩:=zan hb;exact zbe (by omega)
  have e:=zf6 a b ha hb3
  have h:=zex a b ha hb3 W
  rw [show zbz a b=(zT a b).f0 from congrArg S38.f0 e,show zbA a b=(zT a b).f1 from congrArg S38.f1 e] at h
  exact h
 have hS:∀x:S38,leB x 2305843009213693952→∀W:World,Calls Tryz.prog 96 #[.agg #[.int .i64 x.f0,.int .i64 x.f1],.int .i64 (zaX inv)] W fun e w'=>e=.returned (.tuple #[.agg #[.int .i64 (zaa (nT inv) x).f0,.int .i64 (zaa (nT inv) x).f1],.int .i64 0])∧Below W.heap.size W w':=by
  intro x hx W
  have h:=zfd x (zaX inv) (decide_eq_true hx) W
  rw [zmc] at h
  have e:=zhB x (nT inv) (by cases inv <;> decide) hx.1 hx.2.1 hx.2.2.1 hx.2.2.2
  rw [show (zai x.f0 x.f1 (nT inv)).1=_ from congrArg S38.f0 e,show (zai x.f0 x.f1 (nT inv)).2=_ from congrArg S38.f1 e] at h
  exact h
 have hrot:∀x:S38,leB x 2305843009213693952→leB (zaa (nT inv) x) 2305843009213693952:=fun x hx=>zj8 _ hx.1 hx.2.1 hx.2.2.1 hx.2.2.2
 have eS:(⟨wrap64 ((zT y w1).f0+(zT z w3).f0),wrap64 ((zT y w1).f1+(zT z w3).f1)⟩:S38)=zak (zT y w1) (zT z w3):=by
  unfold leB at q1 q3
  unfold zak
  rw [zw (by omega) (by omega),zw (by omega) (by omega)]
 have eL:(⟨wrap64 ((zaa (nT inv) (zT y w1)).f0 - (zaa (nT inv) (zT z w3)).f0),wrap64 ((zaa (nT inv) (zT y w1)).f1 - (zaa (nT inv) (zT z w3)).f1)⟩:S38)=zay (zaa (nT inv) (zT y w1)) (zaa (nT inv) (zT z w3)):=by
  have r1:=hrot _ q1
  have r3:=hrot _ q3
  unfold leB at r1 r3
  unfold zay
  rw [zw (by omega) (by omega),zw (by omega) (by omega)]
 have lS:leB (zak (zT y w1) (zT z w3)) 4611686018427387904:=by
  unfold leB at q1 q3 ⊢
  unfold zak
  dsimp only
  omega
 have lL:leB (zay (zaa (nT inv) (zT y w1)) (zaa (nT inv) (zT z w3))) 4611686018427387904:=by
  have r1:=hrot _ q1
  have r3:=hrot _ q3
  unfold leB at r1 r3 ⊢
  unfold zay
  dsimp only
  omega
 refine zkd Aw wn cw u v y z w1 w3 (zT y w1) (zT z w3) (zaa (nT inv) (zT y w1)) (zaa (nT inv) (zT z w3)) (zbb u v y z w1 w3 bits mode inv) bits mode (zaX inv) hb0 hb1 w (hT y w1 hy h1) (hT z w3 hz h3) (hS _ q1) (hS _ q3) ?_
 intro x sg q hx W
 rw [eS,eL,zhG u _ bits qu lS,zhG v _ bits qv lL,zhH u _ bits qu lS,zhH v _ bits qv lL] at hx
 rcases hx with ⟨rfl,rfl⟩ | ⟨rfl,rfl⟩ | ⟨rfl,rfl⟩ | ⟨rfl,rfl⟩ <;> exact cx_Shift.calls _ _ _ _ _ _ _ W (zbo _ (bits+2) mode (by omega) (by omega) m0 m1)
theorem zhI (Aw:Option Addr) (cw:Nat) (wl:List S38) (bits mode:Int) (inv:Bool) (k:Int) (h0:0≤k) (h1:k < wl.length) (hw:∀x,x∈wl→inB 536870912 x=true) (w:World) (hC:Kd.C k38 w Aw wl.length wl) (hc:wl.length≤cw) :
  Calls Tryz.prog 74 #[.agg #[.slice Aw wl.length cw,.int .i64 bits,.int .i64 mode,.int .i64 (zaX inv)],.int .i64 k] w fun e w'=>e=.returned (.agg #[.int .i64 (zH inv (zk wl k)).f0,.int .i64 (zH inv (zk wl k)).f1])∧Below w.heap.size w w':=by
 refine split_plan_root.calls Aw cw wl bits mode (zaX inv) k _ _ w hC hc ?_
 unfold split_plan_root.f
 rw [if_pos h0,if_pos h1]
 cases inv with
 | true =>
  rw [if_pos (show zaX true=1 from rfl)]
  unfold cx_Conj.f
  rw [if_pos (show zbW ⟨(zk wl k).f0,(zk wl k).f1⟩=true from by
   obtain ⟨c0,c1,c2,c3⟩:=zan (zc0 hw h0 h1)
   exact decide_eq_true (by dsimp only;omega))]
  rfl
 | false=>rfl
def zbw (E F G wl:List S38) (by_:Nat) (bits mode:Int) (inv:Bool) (hN:Nat):Nat→List S38
 | 0=>List.replicate (4*hN) z38
 | k+1=>zcZ (zbw E F G wl by_ bits mode inv hN k) 0 hN k (zbb (zk E k) (zk E ((hN+k:Nat):Int)) (zk F k) (zk G k) (zH inv (zk wl ((k*by_:Nat):Int))) (zH inv (zk wl ((3*k*by_:Nat):Int))) bits mode inv) 4
theorem zeg (E F G wl:List S38) (by_:Nat) (bits mode:Int) (inv:Bool) (hN:Nat):∀k,(zbw E F G wl by_ bits mode inv hN k).length=4*hN
 | 0=>by simp [zbw]
 | k+1=>by rw [zbw,zfn,zeg E F G wl by_ bits mode inv hN k]
def zap (wl:List S38) (bits mode:Int) (inv:Bool):Nat→List S38→List S38
 | 0,x=>x
 | 1,x=>[shC 1 mode (zak (zk x 0) (zk x 1)),shC 1 mode (zay (zk x 0) (zk x 1))]
 | l+2,x=>zbw (zap wl bits mode inv (l+1) (zB x 0 2 (2^(l+1)))) (zap wl bits mode inv l (zB x 1 4 (2^l))) (zap wl bits mode inv l (zB x 3 4 (2^l))) wl (wl.length / 2^(l+2)) bits mode inv (2^l) (2^l)
theorem zbE (wl:List S38) (bits mode:Int) (inv:Bool):∀(l:Nat) (x:List S38),x.length=2^l→(zap wl bits mode inv l x).length=2^l
 | 0,x,h=>h
 | 1,x,h=>rfl
 | l+2,x,h=>by rw [zap,zeg,Nat.pow_succ,Nat.pow_succ];omega
def okS (wl:List S38) (bits mode:Int) (inv:Bool):Nat→List S38→Prop
 | 0,x=>∀z,z∈x→inB 2147483648 z=true
 | 1,x=>∀z,z∈x→inB 2147483648 z=true
 | l+2,x=>okS wl bits mode inv (l+1) (zB x 0 2 (2^(l+1)))∧okS wl bits mode inv l (zB x 1 4 (2^l))∧okS wl bits mode inv l (zB x 3 4 (2^l)) ∧
  (∀z,z∈zap wl bits mode inv (l+1) (zB x 0 2 (2^(l+1)))→inB 2147483648 z=true)∧(∀z,z∈zap wl bits mode inv l (zB x 1 4 (2^l))→inB 2147483648 z=true)∧(∀z,z∈zap wl bits mode inv l (zB x 3 4 (2^l))→inB 2147483648 z=true)
def zdg (Aw:Option Addr) (cw:Nat) (wl:List S38) (bits mode:Int) (inv:Bool) (l:Nat):Prop :=
 ∀(x:List S38) (Ax:Option Addr) (cx:Nat) (W:World),x.length=2^l→okS wl bits mode inv l x→Kd.C k38 W Ax x.length x→x.length≤cx→Kd.C k38 W Aw wl.length wl →
  Calls Tryz.prog 48 #[.agg #[.slice Aw wl.length cw,.int .i64 bits,.int .i64 mode,.int .i64 (zaX inv)],.slice Ax x.length cx] W fun e w'=>∃A' c',e=.returned (.slice A' (2^l) c')∧2^l≤c'∧Kd.C k38 w' A' (2^l) (zap wl bits mode inv l x)∧(1≤l→Kd.R k38 38 w' W.heap.size (fun _=>True) (.slice A' (2^l) c') (zap wl bits mode inv l x))∧Below W.heap.size W w'
set_option maxRecDepth 100000 in
set_option maxHeartbeats 4000000 in
theorem zlm (Aw:Option Addr) (cw:Nat) (wl:List S38) (bits mode:Int) (inv:Bool):zdg Aw cw wl bits mode inv 0:=by
 intro x Ax cx w hl hok hC hc hwC
 have HB0:=hhd (Below.refl w.heap.size w)
 have HC:=hhd hC
 have HCC:=hhd hc
 have hl1:x.length=1:=hl
 clear hl hok hC hwC hc
 rw [hl1]
 go_enter Tryz.func48,Tryz.ntmps48
 go_wp2_with (first
  | ((with_reducible refine zg (N:=2) rfl ?_);refine ba_ 2 #[.slice Aw wl.length cw,.int .i64 bits,.int .i64 mode,.int .i64 (zaX inv)] 95 ?_;intro g2 hg W1 hbox hbl;have L2:=gf_ hg HB0.out;have B2_1:=hhd hbox;have HB_1:=hhd (zb HB0.out hbl);obtain ⟨k2_0_1,k2_1_1,k2_2_1,k2_3_1⟩:=bk4 B2_1.out;clear hbox hbl hg))
 go_ret
 exact ⟨Ax,cx,rfl,by have:=HCC.out;omega,by have:=Kd.C_below HC.out HB_1.out;rw [hl1] at this;exact this,by omega,HB_1.out⟩
theorem zkg (a b:S38) (W:World) (base:Nat):zas (k38.M W base fun _=>True) k38.sz [a,b] [.int .i64 a.f0,.int .i64 a.f1,.int .i64 b.f0,.int .i64 b.f1]:=by
 refine ⟨rfl,fun j p hj=>?_⟩
 match j,hj with
 | 0,hj=>obtain rfl:=Option.some.inj hj;exact zaF W base _ a
 | 1,hj=>obtain rfl:=Option.some.inj hj;exact zaF W base _ b
set_option maxRecDepth 100000 in
set_option maxHeartbeats 4000000 in
theorem zmd (Aw:Option Addr) (cw:Nat) (wl:List S38) (bits mode:Int) (inv:Bool) (m0:0≤mode) (m1:mode < 3):zdg Aw cw wl bits mode inv 1:=by
 intro x Ax cx w hl hok hC hc hwC
 have hmx:Tryz.prog.follows .mixedOrders=true:=by kernel_rfl
 have HB0:=hhd (Below.refl w.heap.size w)
 have HC:=hhd hC
 have HM:=hhd (And.intro m0 m1)
 have hl1:x.length=2:=hl
 have b0:=zan (hok (zk x 0) (zez x 0 (by omega)))
 have b1:=zan (hok (zk x 1) (zez x 1 (by omega)))
 have HRS:=hhd (show zap wl bits mode inv 1 x=[shC 1 mode (zak (zk x 0) (zk x 1)),shC 1 mode (zay (zk x 0) (zk x 1))] from rfl)
 clear hl hok hC hwC hc
 rw [hl1]
 go_enter Tryz.func48,Tryz.ntmps48
 go_wp2_with (first
  | ((with_reducible refine zg (N:=2) rfl ?_);refine ba_ 2 #[.slice Aw wl.length cw,.int .i64 bits,.int .i64 mode,.int .i64 (zaX inv)] 95 ?_;intro g2 hg W1 hbox hbl;have L2:=gf_ hg HB0.out;have B2_1:=hhd hbox;have HB_1:=hhd (zb HB0.out hbl);have Cx_1:=hhd (Kd.C_below HC.out HB_1.out);obtain ⟨k2_0_1,k2_1_1,k2_2_1,k2_3_1⟩:=bk4 B2_1.out;clear hbox hbl hg))
 have hcc:=Kd.C_below HC.out HB_1.out
 obtain ⟨ad,hAx,x00,x01⟩:=zam hcc 0 (by decide) (by rw [hl1];decide)
 obtain ⟨ad',hAx',x10,x11⟩:=zam hcc 1 (by decide) (by rw [hl1];decide)
 subst hAx
 obtain rfl:=Option.some.inj hAx'
 simp [Addr.add] at x00 x01 x10 x11
 have HEsm:=hhd (show wrap64 ((zk x 0).f0+(zk x 1).f0)=(zak (zk x 0) (zk x 1)).f0∧wrap64 ((zk x 0).f1+(zk x 1).f1)=(zak (zk x 0) (zk x 1)).f1 from ⟨zw (by omega) (by omega),zw (by omega) (by omega)⟩)
 have HEdf:=hhd (show wrap64 ((zk x 0).f0 - (zk x 1).f0)=(zay (zk x 0) (zk x 1)).f0∧wrap64 ((zk x 0).f1 - (zk x 1).f1)=(zay (zk x 0) (zk x 1)).f1 from ⟨zw (by omega) (by omega),zw (by omega) (by omega)⟩)
 generalize zak (zk x 0) (zk x 1)=sm at *
 generalize zay (zk x 0) (zk x 1)=df at *
 generalize hxa:zk x 0=a at *
 generalize hxb:zk x 1=b at *
 have HXA:=hhd hxa
 have HXB:=hhd hxb
 clear hxa hxb
 clear b0 b1 hcc
 refine zae (S:=fun w'=>Below W1.heap.size W1 w') (ds:=[26]) (fl 28 0) hmx rfl rfl (Below.refl _ _).drew (fun hHeld=>?_)
 refine px_ 0 (some 27) (fl 28 1) rfl rfl ?_
 refine px_ 1 (some 28) (fl 28 3) rfl rfl ?_
 refine px_ 2 (some 29) (fl 28 7) rfl rfl ?_
 refine px_ 4 (some 31) (fl 28 23) rfl rfl ?_
 refine px_ 5 (some 32) (fl 28 55) rfl rfl ?_
 refine px_ 6 (some 33) (fl 28 119) rfl rfl ?_
 refine px_ 9 (some 36) (fl 28 631) rfl rfl ?_
 refine px_ 10 (some 37) (fl 28 1655) rfl rfl ?_
 refine px_ 11 (some 38) (fl 28 3703) rfl rfl ?_
 refine px_ 13 (some 40) (fl 28 11895) rfl rfl ?_
 refine px_ 14 (some 41) (fl 28 28279) rfl rfl ?_
 refine px_ 15 (some 42) (fl 28 61047) rfl rfl ?_
 refine px_ 19 (some 46) (fl 28 585335) rfl rfl ?_
 refine tx_ 3 (some 30) (fl 28 585343) rfl rfl hHeld (by rintro w' hs;obtain ⟨j_k2_1_1,j_k2_2_1,j_k2_3_1,j_x00,j_x01,j_x10⟩:=bg6 hs k2_1_1 k2_2_1 k2_3_1 x00 x01 x10;have j_x11:=bg hs x11;go_simp;with_reducible rfl) ?_
 refine tx_ 7 (some 34) (fl 28 585471) rfl rfl hHeld (by rintro w' hs;obtain ⟨j_k2_1_1,j_k2_2_1,j_k2_3_1,j_x00,j_x01,j_x10⟩:=bg6 hs k2_1_1 k2_2_1 k2_3_1 x00 x01 x10;have j_x11:=bg hs x11;go_simp;with_reducible rfl) ?_
 refine px_ 8 (some 35) (fl 28 585727) rfl rfl ?_
 refine tx_ 12 (some 39) (fl 28 589823) rfl rfl hHeld (by rintro w' hs;obtain ⟨j_k2_1_1,j_k2_2_1,j_k2_3_1,j_x00,j_x01,j_x10⟩:=bg6 hs k2_1_1 k2_2_1 k2_3_1 x00 x01 x10;have j_x11:=bg hs x11;go_simp;with_reducible rfl) ?_
 refine tx_ 16 (some 43) (fl 28 655359) rfl rfl hHeld (by rintro w' hs;obtain ⟨j_k2_1_1,j_k2_2_1,j_k2_3_1,j_x00,j_x01,j_x10⟩:=bg6 hs k2_1_1 k2_2_1 k2_3_1 x00 x01 x10;have j_x11:=bg hs x11;go_simp;with_reducible rfl) ?_
 refine px_ 17 (some 44) (fl 28 786431) rfl rfl ?_
 refine px_ 18 (some 45) (fl 28 1048575) rfl rfl ?_
 refine tx_ 20 (some 47) (fl 28 2097151) rfl rfl hHeld (by rintro w' hs;obtain ⟨j_k2_1_1,j_k2_2_1,j_k2_3_1,j_x00,j_x01,j_x10⟩:=bg6 hs k2_1_1 k2_2_1 k2_3_1 x00 x01 x10;have j_x11:=bg hs x11;go_simp;with_reducible rfl) ?_
 refine zaM (i:=21) (j:=25) (Ni:=some 48) (Nj:=some 6) (fl 28 4194303) (fl 28 35651583) rfl rfl rfl rfl (by kernel_rfl) (by decide) (by decide) (fun K hK=>?e1_21) (fun K hK=>?e1_25)
 case' e1_21 =>
  refine zN Tryz.func70 (by kernel_rfl) rfl #[.agg #[.int .i64 sm.f0,.int .i64 sm.f1],.int .i64 1,.int .i64 mode] (by rfl) rfl rfl (by go_simp;exact ⟨HEsm.out.1,HEsm.out.2⟩) ?_
  refine (cx_Shift.calls _ _ _ _ _ _ _ _ (zbo sm 1 mode (by decide) (by decide) HM.out.1 HM.out.2)).mono ?_
  rintro e Wc ⟨rfl,hbl⟩
  refine ⟨_,rfl,?_⟩
  refine hK.out _ _ (zb hHeld hbl) (fun hHeld2=>?_)
  clear hK K hHeld hbl
  have hHeld:=hHeld2
  clear hHeld2
  refine nx_ (some 48) ?_
  refine px_ 22 (some 26) (fl 28 8388607) rfl rfl ?_
  refine px_ 23 (some 49) (fl 28 16777215) rfl rfl ?_
  refine px_ 24 (some 50) (fl 28 33554431) rfl rfl ?_
  refine zA (i:=25) (N:=some 6) (fl 28 67108863) rfl rfl (by kernel_rfl) (by decide) (fun K hK=>?_)
  refine box_step rfl rfl (cs:=#[.int .i64 0,.int .i64 0]) (t:=38) (by first | (go_simp;done) | (go_simp;rfl)) ?_
  intro g6 hg Wc hbox hbl
  refine hK.out _ _ (zb hHeld hbl) (fun hHeld2=>?_)
  have L6:w.heap.size≤g6:=by rw [hg];exact zj (zb HB_1.out hHeld)
  have M6:W1.heap.size≤g6:=by rw [hg];exact hHeld.size
  have B6:=hhd hbox
  clear hK K hHeld hbl hbox hg
  have hHeld:=hHeld2
  clear hHeld2
  refine nx_ (some 6) ?_
  refine zaf (i:=26) (N:=none) (fl 28 134217727) rfl rfl (by kernel_rfl) (by decide) (fun K hK=>?_)
  refine zC rfl rfl 38 _ _ rfl g6 #[.int .i64 (shC 1 mode sm).f0,.int .i64 (shC 1 mode sm).f1] rfl rfl 38 #[.int .i64 0,.int .i64 0] B6.out (zu _ _) rfl (zG _ _) ?_
  intro Wd hq hoth hbel
  refine hK.out _ _ ?_
  have E6:=hhd hq
  have HBd:=hhd (hbel _ _ L6 (zb HB_1.out hHeld))
  have D2:=hhd ((hoth _ (fun e=>by have:=zf B2_1.out;omega)).trans (za B2_1.out hHeld))
  clear hK K hHeld hq hoth hbel B6
  refine px_ 27 (some 7) (fl 28 268435455) rfl rfl ?_
  refine zM (by kernel_rfl) ?_
 case' e1_25 =>
  refine box_step rfl rfl (cs:=#[.int .i64 0,.int .i64 0]) (t:=38) (by first | (go_simp;done) | (go_simp;rfl)) ?_
  intro g6 hg Wc hbox hbl
  refine hK.out _ _ (zb hHeld hbl) (fun hHeld2=>?_)
  have L6:w.heap.size≤g6:=by rw [hg];exact zj (zb HB_1.out hHeld)
  have M6:W1.heap.size≤g6:=by rw [hg];exact hHeld.size
  have B6:=hhd hbox
  clear hK K hHeld hbl hbox hg
  have hHeld:=hHeld2
  clear hHeld2
  refine nx_ (some 6) ?_
  refine zA (i:=21) (N:=some 48) (fl 28 37748735) rfl rfl (by kernel_rfl) (by decide) (fun K hK=>?_)
  refine zN Tryz.func70 (by kernel_rfl) rfl #[.agg #[.int .i64 sm.f0,.int .i64 sm.f1],.int .i64 1,.int .i64 mode] (by rfl) rfl rfl (by go_simp;exact ⟨HEsm.out.1,HEsm.out.2⟩) ?_
  refine (cx_Shift.calls _ _ _ _ _ _ _ _ (zbo sm 1 mode (by decide) (by decide) HM.out.1 HM.out.2)).mono ?_
  rintro e Wc ⟨rfl,hbl⟩
  refine ⟨_,rfl,?_⟩
  refine hK.out _ _ (zb hHeld hbl) (fun hHeld2=>?_)
  replace B6:=hhd (za B6.out hbl)
  clear hK K hHeld hbl
  have hHeld:=hHeld2
  clear hHeld2
  refine nx_ (some 48) ?_
  refine px_ 22 (some 26) (fl 28 41943039) rfl rfl ?_
  refine px_ 23 (some 49) (fl 28 50331647) rfl rfl ?_
  refine px_ 24 (some 50) (fl 28 67108863) rfl rfl ?_
  refine zaf (i:=26) (N:=none) (fl 28 134217727) rfl rfl (by kernel_rfl) (by decide) (fun K hK=>?_)
  refine zC rfl rfl 38 _ _ rfl g6 #[.int .i64 (shC 1 mode sm).f0,.int .i64 (shC 1 mode sm).f1] rfl rfl 38 #[.int .i64 0,.int .i64 0] B6.out (zu _ _) rfl (zG _ _) ?_
  intro Wd hq hoth hbel
  refine hK.out _ _ ?_
  have E6:=hhd hq
  have HBd:=hhd (hbel _ _ L6 (zb HB_1.out hHeld))
  have D2:=hhd ((hoth _ (fun e=>by have:=zf B2_1.out;omega)).trans (za B2_1.out hHeld))
  clear hK K hHeld hq hoth hbel B6
  refine px_ 27 (some 7) (fl 28 268435455) rfl rfl ?_
  refine zM (by kernel_rfl) ?_
 all_goals
  clear k2_0_1 k2_1_1 k2_2_1 k2_3_1 x00 x01 x10 x11
  have hcc:=Kd.C_below HC.out HBd.out
  obtain ⟨ad2,hAx,x00,x01⟩:=zam hcc 0 (by decide) (by rw [hl1];decide)
  obtain ⟨ad3,hAx',x10,x11⟩:=zam hcc 1 (by decide) (by rw [hl1];decide)
  obtain rfl:=Option.some.inj hAx
  obtain rfl:=Option.some.inj hAx'
  simp [Addr.add] at x00 x01 x10 x11
  have e0:zk x 0=a:=HXA.out
  have e1:zk x 1=b:=HXB.out
  rw [e0] at x00 x01
  rw [e1] at x10 x11
  have m1:=(zc D2.out 1).trans rfl
  have m2:=(zc D2.out 2).trans rfl
  have m3:=(zc D2.out 3).trans rfl
  clear hcc e0 e1
  go_wp2
  refine zae (S:=fun w'=>Below Wd.heap.size Wd w') (ds:=[26]) (fl 28 0) hmx rfl rfl (Below.refl _ _).drew (fun hHeld=>?_)
  refine px_ 0 (some 52) (fl 28 1) rfl rfl ?_
  refine px_ 1 (some 53) (fl 28 3) rfl rfl ?_
  refine px_ 2 (some 54) (fl 28 7) rfl rfl ?_
  refine px_ 4 (some 56) (fl 28 23) rfl rfl ?_
  refine px_ 5 (some 57) (fl 28 55) rfl rfl ?_
  refine px_ 6 (some 58) (fl 28 119) rfl rfl ?_
  refine px_ 9 (some 61) (fl 28 631) rfl rfl ?_
  refine px_ 10 (some 62) (fl 28 1655) rfl rfl ?_
  refine px_ 11 (some 63) (fl 28 3703) rfl rfl ?_
  refine px_ 13 (some 65) (fl 28 11895) rfl rfl ?_
  refine px_ 14 (some 66) (fl 28 28279) rfl rfl ?_
  refine px_ 15 (some 67) (fl 28 61047) rfl rfl ?_
  refine px_ 19 (some 71) (fl 28 585335) rfl rfl ?_
  refine tx_ 3 (some 55) (fl 28 585343) rfl rfl hHeld (by rintro w' hs;obtain ⟨j_m1,j_m2,j_m3,j_x00,j_x01,j_x10⟩:=bg6 hs m1 m2 m3 x00 x01 x10;have j_x11:=bg hs x11;go_simp;with_reducible rfl) ?_
  refine tx_ 7 (some 59) (fl 28 585471) rfl rfl hHeld (by rintro w' hs;obtain ⟨j_m1,j_m2,j_m3,j_x00,j_x01,j_x10⟩:=bg6 hs m1 m2 m3 x00 x01 x10;have j_x11:=bg hs x11;go_simp;with_reducible rfl) ?_
  refine px_ 8 (some 60) (fl 28 585727) rfl rfl ?_
  refine tx_ 12 (some 64) (fl 28 589823) rfl rfl hHeld (by rintro w' hs;obtain ⟨j_m1,j_m2,j_m3,j_x00,j_x01,j_x10⟩:=bg6 hs m1 m2 m3 x00 x01 x10;have j_x11:=bg hs x11;go_simp;with_reducible rfl) ?_
  refine tx_ 16 (some 68) (fl 28 655359) rfl rfl hHeld (by rintro w' hs;obtain ⟨j_m1,j_m2,j_m3,j_x00,j_x01,j_x10⟩:=bg6 hs m1 m2 m3 x00 x01 x10;have j_x11:=bg hs x11;go_simp;with_reducible rfl) ?_
  refine px_ 17 (some 69) (fl 28 786431) rfl rfl ?_
  refine px_ 18 (some 70) (fl 28 1048575) rfl rfl ?_
  refine tx_ 20 (some 72) (fl 28 2097151) rfl rfl hHeld (by rintro w' hs;obtain ⟨j_m1,j_m2,j_m3,j_x00,j_x01,j_x10⟩:=bg6 hs m1 m2 m3 x00 x01 x10;have j_x11:=bg hs x11;go_simp;with_reducible rfl) ?_
  refine zaM (i:=21) (j:=25) (Ni:=some 73) (Nj:=some 8) (fl 28 4194303) (fl 28 35651583) rfl rfl rfl rfl (by kernel_rfl) (by decide) (by decide) (fun K hK=>?_) (fun K hK=>?_)
  focus
   refine zN Tryz.func70 (by kernel_rfl) rfl #[.agg #[.int .i64 df.f0,.int .i64 df.f1],.int .i64 1,.int .i64 mode] (by rfl) rfl rfl (by go_simp;exact ⟨HEdf.out.1,HEdf.out.2⟩) ?_
   refine (cx_Shift.calls _ _ _ _ _ _ _ _ (zbo df 1 mode (by decide) (by decide) HM.out.1 HM.out.2)).mono ?_
   rintro e Wc ⟨rfl,hbl⟩
   refine ⟨_,rfl,?_⟩
   refine hK.out _ _ (zb hHeld hbl) (fun hHeld2=>?_)
   clear hK K hHeld hbl
   have hHeld:=hHeld2
   clear hHeld2
   refine nx_ (some 73) ?_
   refine px_ 22 (some 51) (fl 28 8388607) rfl rfl ?_
   refine px_ 23 (some 74) (fl 28 16777215) rfl rfl ?_
   refine px_ 24 (some 75) (fl 28 33554431) rfl rfl ?_
   refine zA (i:=25) (N:=some 8) (fl 28 67108863) rfl rfl (by kernel_rfl) (by decide) (fun K hK=>?_)
   refine box_step rfl rfl (cs:=#[.int .i64 0,.int .i64 0]) (t:=38) (by first | (go_simp;done) | (go_simp;rfl)) ?_
   intro g8 hg Wc hbox hbl
   refine hK.out _ _ (zb hHeld hbl) (fun hHeld2=>?_)
   have L8:w.heap.size≤g8:=by rw [hg];exact zj (zb HBd.out hHeld)
   have M8:Wd.heap.size≤g8:=by rw [hg];exact hHeld.size
   have B8:=hhd hbox
   clear hK K hHeld hbl hbox hg
   have hHeld:=hHeld2
   clear hHeld2
   refine nx_ (some 8) ?_
   refine zaf (i:=26) (N:=none) (fl 28 134217727) rfl rfl (by kernel_rfl) (by decide) (fun K hK=>?_)
   refine zC rfl rfl 38 _ _ rfl g8 #[.int .i64 (shC 1 mode df).f0,.int .i64 (shC 1 mode df).f1] rfl rfl 38 #[.int .i64 0,.int .i64 0] B8.out (zu _ _) rfl (zG _ _) ?_
   intro We hq hoth hbel
   refine hK.out _ _ ?_
   have E8:=hhd hq
   have HBe:=hhd (hbel _ _ L8 (zb HBd.out hHeld))
   have F6:=hhd ((hoth _ (fun e=>by have:=zf E6.out;omega)).trans (za E6.out hHeld))
   clear hK K hHeld hq hoth hbel B8
   refine px_ 27 (some 9) (fl 28 268435455) rfl rfl ?_
   refine zM (by kernel_rfl) ?_
  rotate_left 1
  focus
   refine box_step rfl rfl (cs:=#[.int .i64 0,.int .i64 0]) (t:=38) (by first | (go_simp;done) | (go_simp;rfl)) ?_
   intro g8 hg Wc hbox hbl
   refine hK.out _ _ (zb hHeld hbl) (fun hHeld2=>?_)
   have L8:w.heap.size≤g8:=by rw [hg];exact zj (zb HBd.out hHeld)
   have M8:Wd.heap.size≤g8:=by rw [hg];exact hHeld.size
   have B8:=hhd hbox
   clear hK K hHeld hbl hbox hg
   have hHeld:=hHeld2
   clear hHeld2
   refine nx_ (some 8) ?_
   refine zA (i:=21) (N:=some 73) (fl 28 37748735) rfl rfl (by kernel_rfl) (by decide) (fun K hK=>?_)
   refine zN Tryz.func70 (by kernel_rfl) rfl #[.agg #[.int .i64 df.f0,.int .i64 df.f1],.int .i64 1,.int .i64 mode] (by rfl) rfl rfl (by go_simp;exact ⟨HEdf.out.1,HEdf.out.2⟩) ?_
   refine (cx_Shift.calls _ _ _ _ _ _ _ _ (zbo df 1 mode (by decide) (by decide) HM.out.1 HM.out.2)).mono ?_
   rintro e Wc ⟨rfl,hbl⟩
   refine ⟨_,rfl,?_⟩
   refine hK.out _ _ (zb hHeld hbl) (fun hHeld2=>?_)
   replace B8:=hhd (za B8.out hbl)
   clear hK K hHeld hbl
   have hHeld:=hHeld2
   clear hHeld2
   refine nx_ (some 73) ?_
   refine px_ 22 (some 51) (fl 28 41943039) rfl rfl ?_
   refine px_ 23 (some 74) (fl 28 50331647) rfl rfl ?_
   refine px_ 24 (some 75) (fl 28 67108863) rfl rfl ?_
   refine zaf (i:=26) (N:=none) (fl 28 134217727) rfl rfl (by kernel_rfl) (by decide) (fun K hK=>?_)
   refine zC rfl rfl 38 _ _ rfl g8 #[.int .i64 (shC 1 mode df).f0,.int .i64 (shC 1 mode df).f1] rfl rfl 38 #[.int .i64 0,.int .i64 0] B8.out (zu _ _) rfl (zG _ _) ?_
   intro We hq hoth hbel
   refine hK.out _ _ ?_
   have E8:=hhd hq
   have HBe:=hhd (hbel _ _ L8 (zb HBd.out hHeld))
   have F6:=hhd ((hoth _ (fun e=>by have:=zf E6.out;omega)).trans (za E6.out hHeld))
   clear hK K hHeld hq hoth hbel B8
   refine px_ 27 (some 9) (fl 28 268435455) rfl rfl ?_
   refine zM (by kernel_rfl) ?_
  all_goals
   clear m1 m2 m3 x00 x01 x10 x11
   go_wp2_with (first
    | ((with_reducible refine zg (N:=76) rfl ?_);(try simp only [Act.put,zzA,zzB,zzC]);refine wpList_load_row rfl 38 _ rfl g6 rfl 38 #[.int .i64 (shC 1 mode sm).f0,.int .i64 (shC 1 mode sm).f1] (0,0) _ F6.out Tryz.underlying38 rfl (zu _ _) ?_)
    | ((with_reducible refine zg (N:=77) rfl ?_);(try simp only [Act.put,zzA,zzB,zzC]);refine wpList_load_row rfl 38 _ rfl g8 rfl 38 #[.int .i64 (shC 1 mode df).f0,.int .i64 (shC 1 mode df).f1] (0,0) _ E8.out Tryz.underlying38 rfl (zu _ _) ?_)
    | ((with_reducible refine zg (N:=78) rfl ?_);refine Kd.R_lit k38 _ 38 ?hg (N:=78) ?hd (xs:=[shC 1 mode sm,shC 1 mode df]) (inner:=[.int .i64 (shC 1 mode sm).f0,.int .i64 (shC 1 mode sm).f1,.int .i64 (shC 1 mode df).f0,.int .i64 (shC 1 mode df).f1]) (ok:=fun _=>True) (okp:=fun _=>True) ?hr (zkg _ _ _ _) (fun _ hk=>hk) trivial (Below.refl _ _) (Nat.le_refl _) (show (2:Nat)≤9223372036854775807 from by omega) ?_;(case hd=>rfl);(case hg=>rfl);(case hr=>first | (go_simp;done) | (go_simp;rfl));intro v78 Wl ho hb hg_ hnew_;clear hg_ hnew_;obtain ⟨A78,c78,ev,hc78,hC78⟩:=Kd.R_reads ho;subst ev;have RL:=hhd (Kd.R_lower ho (zj HBe.out));have CL:=hhd hC78;have HCL:=hhd hc78;have HBl:=hhd (zb HBe.out hb);clear ho hb hc78 hC78))
   go_ret
   exact ⟨A78,c78,rfl,HCL.out,by rw [HRS.out];exact CL.out,fun _=>by rw [HRS.out];exact RL.out,HBl.out⟩
end Go.Proofs.YteieahbadclppaaGreat.P

namespace Go.Proofs.YteieahbadclppaaGreat.P
open Go.RowKit Go.Proofs.YteieahbadclppaaGreatW.PrintWords Go.Proofs.YteieahbadclppaaGreatW.PrintLast Go.Proofs.YteieahbadclppaaGreatW.PrintMore
set_option linter.unusedVariables false
set_option linter.unusedSimpArgs false
def zce (x:S38):S38:=⟨-x.f0,-x.f1⟩
def zcf (bits:Nat) (w w':S38) (i j l:Nat):Row:=[(⟨2^(bits+1),0⟩,2^(bits+1),i),(w,2^bits+1,j),(w',2^bits+1,l)]
theorem zeh (x:List S38) (bits:Nat) (w w':S38) (i j l:Nat):dot x (zcf bits w w' i j l)=zak (upC ((bits:Int)+1) (x.getD i z38)) (zak (zaS w (x.getD j z38)) (zaS w' (x.getD l z38))):=by
 have e:((bits:Int)+1).toNat=bits+1:=by omega
 unfold zcf dot dot dot dot zaw zak upC z38
 rw [e]
 apply zaH <;> (simp only [zaS];grind)
def zfo (wl:List S38) (bits:Nat) (inv:Bool) (by_ hN q k:Nat):Row :=
 match q with
 | 0=>zcf bits (zH inv (zk wl ((k*by_:Nat):Int))) (zH inv (zk wl ((3*k*by_:Nat):Int))) k (2*hN+k) (3*hN+k)
 | 1=>zcf bits (zaa (nT inv) (zH inv (zk wl ((k*by_:Nat):Int)))) (zce (zaa (nT inv) (zH inv (zk wl ((3*k*by_:Nat):Int))))) (hN+k) (2*hN+k) (3*hN+k)
 | 2=>zcf bits (zce (zH inv (zk wl ((k*by_:Nat):Int)))) (zce (zH inv (zk wl ((3*k*by_:Nat):Int)))) k (2*hN+k) (3*hN+k)
 | _=>zcf bits (zce (zaa (nT inv) (zH inv (zk wl ((k*by_:Nat):Int))))) (zaa (nT inv) (zH inv (zk wl ((3*k*by_:Nat):Int)))) (hN+k) (2*hN+k) (3*hN+k)
def zb7 (wl:List S38) (bits:Nat) (inv:Bool) (by_ hN:Nat):List Row:=(List.range (4*hN)).map fun p=>zfo wl bits inv by_ hN (p / hN) (p % hN)
theorem neg_mul (w y:S38):zaS (zce w) y=zce (zaS w y):=by
 unfold zaS zce
 apply zaH <;> dsimp only <;> grind
theorem zdD (y w:S38):zT y w=zaS w y:=by
 unfold zT zaS
 apply zaH <;> dsimp only <;> grind
theorem zmY (wl:List S38) (bits:Nat) (inv:Bool) (by_ hN k:Nat):zfo wl bits inv by_ hN 0 k=zcf bits (zH inv (zk wl ((k*by_:Nat):Int))) (zH inv (zk wl ((3*k*by_:Nat):Int))) k (2*hN+k) (3*hN+k):=rfl
theorem zmZ (wl:List S38) (bits:Nat) (inv:Bool) (by_ hN k:Nat):zfo wl bits inv by_ hN 1 k=zcf bits (zaa (nT inv) (zH inv (zk wl ((k*by_:Nat):Int)))) (zce (zaa (nT inv) (zH inv (zk wl ((3*k*by_:Nat):Int))))) (hN+k) (2*hN+k) (3*hN+k):=rfl
theorem zm0 (wl:List S38) (bits:Nat) (inv:Bool) (by_ hN k:Nat):zfo wl bits inv by_ hN 2 k=zcf bits (zce (zH inv (zk wl ((k*by_:Nat):Int)))) (zce (zH inv (zk wl ((3*k*by_:Nat):Int)))) k (2*hN+k) (3*hN+k):=rfl
theorem zm1 (wl:List S38) (bits:Nat) (inv:Bool) (by_ hN k:Nat):zfo wl bits inv by_ hN 3 k=zcf bits (zce (zaa (nT inv) (zH inv (zk wl ((k*by_:Nat):Int))))) (zaa (nT inv) (zH inv (zk wl ((3*k*by_:Nat):Int)))) (hN+k) (2*hN+k) (3*hN+k):=rfl
theorem zme (u v y z w1 w3:S38) (bits mode:Int) (inv:Bool):zbb u v y z w1 w3 bits mode inv 0=shC (bits+2) mode (zak (upC (bits+1) u) (zak (zT y w1) (zT z w3))):=rfl
theorem zmf (u v y z w1 w3:S38) (bits mode:Int) (inv:Bool):zbb u v y z w1 w3 bits mode inv 1=shC (bits+2) mode (zak (upC (bits+1) v) (zay (zaa (nT inv) (zT y w1)) (zaa (nT inv) (zT z w3)))):=rfl
theorem zmg (u v y z w1 w3:S38) (bits mode:Int) (inv:Bool):zbb u v y z w1 w3 bits mode inv 2=shC (bits+2) mode (zay (upC (bits+1) u) (zak (zT y w1) (zT z w3))):=rfl
theorem zmh (u v y z w1 w3:S38) (bits mode:Int) (inv:Bool):zbb u v y z w1 w3 bits mode inv 3=shC (bits+2) mode (zay (upC (bits+1) v) (zay (zaa (nT inv) (zT y w1)) (zaa (nT inv) (zT z w3)))):=rfl
theorem znz (E F G wl:List S38) (mode:Int) (bits:Nat) (inv:Bool) (by_ hN q k c:Nat) (hE:E.length=2*hN) (hF:F.length=hN) (hG:G.length=hN) (hk:k < hN) (hq:q < 4) (hc:(bits:Int)+2=c) :
  shC c mode (dot (E++F++G) (zfo wl bits inv by_ hN q k))=zbb (zk E k) (zk E ((hN+k:Nat):Int)) (zk F k) (zk G k) (zH inv (zk wl ((k*by_:Nat):Int))) (zH inv (zk wl ((3*k*by_:Nat):Int))) bits mode inv q:=by
 have g0:(E++F++G).getD k z38=zk E k:=by
  rw [zbv,List.getD_eq_getElem?_getD,List.getD_eq_getElem?_getD,List.append_assoc,List.getElem?_append_left (by omega)]
 have g1:(E++F++G).getD (hN+k) z38=zk E ((hN+k:Nat):Int):=by
  rw [zbv,List.getD_eq_getElem?_getD,List.getD_eq_getElem?_getD,List.append_assoc,List.getElem?_append_left (by omega)]
 have g2:(E++F++G).getD (2*hN+k) z38=zk F k:=by
  rw [zbv,List.getD_eq_getElem?_getD,List.getD_eq_getElem?_getD,List.append_assoc,List.getElem?_append_right (by omega),List.getElem?_append_left (by omega),hE,Nat.add_sub_cancel_left]
 have g3:(E++F++G).getD (3*hN+k) z38=zk G k:=by
  rw [zbv,List.getD_eq_getElem?_getD,List.getD_eq_getElem?_getD,List.append_assoc,List.getElem?_append_right (by omega),List.getElem?_append_right (by omega),hE,hF,show 3*hN+k - 2*hN - hN=k by omega]
 have h4:q=0∨q=1∨q=2∨q=3:=by omega
 rcases h4 with rfl | rfl | rfl | rfl
 ·rw [zmY,zme,zeh,g0,g2,g3,hc,zdD,zdD]
 ·rw [zmZ,zmf,zeh,g1,g2,g3,hc,zcD,zcD,neg_mul]
  congr 1
 ·rw [zm0,zmg,zeh,g0,g2,g3,hc,zdD,zdD,neg_mul,neg_mul]
  congr 1
  unfold zak zay zce
  apply zaH <;> dsimp only <;> omega
 ·rw [zm1,zmh,zeh,g1,g2,g3,hc,zcD,zcD,neg_mul]
  congr 1
  unfold zak zay zce
  apply zaH <;> dsimp only <;> omega
def zf9 (hN:Nat):List Nat:=(List.range hN).flatMap fun k=>[0+(0*hN+k),0+(1*hN+k),0+(2*hN+k),0+(3*hN+k)]
def zjb (hN:Nat):Bool :=
 decide ((zf9 hN).Nodup) && ((List.range (4*hN)).all fun i=>(zf9 hN).contains i) &&
 (List.range hN).all fun k=>(List.range 4).all fun q=>decide ((0+(q*hN+k)) / hN=q) && (decide ((0+(q*hN+k)) % hN=k) && decide (0+(q*hN+k) < 4*hN))
set_option maxRecDepth 100000 in
theorem zln:((List.range 5).all fun t=>zjb (2^t))=true:=by decide +kernel
theorem ze7 (E F G wl:List S38) (by_:Nat) (bits mode:Int) (inv:Bool) (hN:Nat):∀n,zbw E F G wl by_ bits mode inv hN n=zaT (List.replicate (4*hN) z38) ((List.range n).flatMap fun k=>(List.range 4).map fun q=>(0+(q*hN+k),zbb (zk E k) (zk E ((hN+k:Nat):Int)) (zk F k) (zk G k) (zH inv (zk wl ((k*by_:Nat):Int))) (zH inv (zk wl ((3*k*by_:Nat):Int))) bits mode inv q))
 | 0=>rfl
 | n+1=>by
  rw [zbw,ze7 E F G wl by_ bits mode inv hN n,List.range_succ (n:=n),List.flatMap_append,zct,List.flatMap_cons,List.flatMap_nil,List.append_nil]
  rfl
theorem zih (E F G wl:List S38) (mode:Int) (bits:Nat) (inv:Bool) (by_ hN c:Nat) (hE:E.length=2*hN) (hF:F.length=hN) (hG:G.length=hN) (hck:zjb hN=true) (hc:(bits:Int)+2=c) :
  zbw E F G wl by_ bits mode inv hN hN=zag c mode (zb7 wl bits inv by_ hN) (E++F++G):=by
 unfold zjb at hck
 rw [Bool.and_eq_true,Bool.and_eq_true,decide_eq_true_eq,List.all_eq_true,List.all_eq_true] at hck
 obtain ⟨⟨hn,hall⟩,hp⟩:=hck
 have hq:∀k,k < hN→∀q,q < 4→(0+(q*hN+k)) / hN=q∧(0+(q*hN+k)) % hN=k∧0+(q*hN+k) < 4*hN:=by
  intro k hk q hq
  have h1:=hp k (List.mem_range.2 hk)
  rw [List.all_eq_true] at h1
  have h2:=h1 q (List.mem_range.2 hq)
  simpa only [Bool.and_eq_true,decide_eq_true_eq] using h2
 rw [ze7]
 have hms:(((List.range hN).flatMap fun k=>(List.range 4).map fun q=>(0+(q*hN+k),zbb (zk E k) (zk E ((hN+k:Nat):Int)) (zk F k) (zk G k) (zH inv (zk wl ((k*by_:Nat):Int))) (zH inv (zk wl ((3*k*by_:Nat):Int))) bits mode inv q)).map (·.1))=zf9 hN:=by
  rw [List.map_flatMap]
  rfl
 refine zfk (by rw [hms];exact hn) ?_ (by simp [zag,zb7]) ?_ ?_
 ·intro p hp1
  obtain ⟨k,hk,hp1⟩:=List.mem_flatMap.1 hp1
  obtain ⟨q,hq1,rfl⟩:=List.mem_map.1 hp1
  rw [List.length_replicate]
  exact (hq k (List.mem_range.1 hk) q (List.mem_range.1 hq1)).2.2
 ·intro i hi
  rw [List.length_replicate] at hi
  have h1:=hall i (List.mem_range.2 hi)
  rw [List.contains_iff_mem,← hms] at h1
  obtain ⟨p,hp1,rfl⟩:=List.mem_map.1 h1
  exact ⟨p,hp1,rfl⟩
 ·intro p hp1
  obtain ⟨k,hk,hp1⟩:=List.mem_flatMap.1 hp1
  obtain ⟨q,hq1,rfl⟩:=List.mem_map.1 hp1
  have hk:=List.mem_range.1 hk
  have hq1:=List.mem_range.1 hq1
  obtain ⟨a1,a2,a3⟩:=hq k hk q hq1
  have e:(zag c mode (zb7 wl bits inv by_ hN) (E++F++G)).getD (0+(q*hN+k)) z38=shC c mode (dot (E++F++G) (zfo wl bits inv by_ hN ((0+(q*hN+k)) / hN) ((0+(q*hN+k)) % hN))):=by
   generalize 0+(q*hN+k)=i at *
   simp [zag,zb7,List.getD_eq_getElem?_getD,a3]
  rw [e,a1,a2]
  exact znz E F G wl mode bits inv by_ hN q k c hE hF hG hk hq1 hc
theorem z6.div {z:S38} {p M:Int} (hp:0 < p) (hM:0≤M) (h:z6 (zaq p z) (p*M)):z6 z M:=by
 obtain ⟨a,b⟩:=z
 obtain ⟨_,h⟩:=h
 simp only [zaq,z6] at *
 refine ⟨hM,?_⟩
 have hpp:0 < p*p:=Int.mul_pos hp hp
 refine Int.le_of_mul_le_mul_left (a:=p*p) ?_ hpp
 grind
def zav (M:Int) (x:List S38):Prop:=0≤M∧∀k,k < x.length→z6 (zaq 64 (x.getD k z38)) M
theorem zhJ {x:List S38} {M:Int} {r:Row} (h:zav M x) (hr:zbB x.length r=true) (hN:zaE r*M≤64*4611686018427387904):zfE (dot x r) 4611686018427387904:=by
 have h1:=zdo (x:=lsc 64 x) h.1 r (by rw [zaI];exact hr) (fun k hk=>by rw [zbt];rw [zaI] at hk;exact h.2 k hk)
 rw [zde] at h1
 have h2:=(h1.up hN).part
 unfold zaq at h2
 dsimp only at h2
 unfold zfE
 omega
def zdq (n c:Nat) (E M M':Int) (rows:List Row):Prop:=∀r,r∈rows→zbB n r=true∧zaE r*E≤2^c*(E+1)∧zaE r*M+91*2^c≤2^c*M'∧zaE r*M≤64*4611686018427387904
theorem zkh {c:Nat} {mode:Int} {rows:List Row} {x:List S38} {k:Nat} (hk:k < rows.length):(zag c mode rows x).getD k z38=shC c mode (dot x rows[k]):=by
 simp [zag,List.getD_eq_getElem?_getD,List.getElem?_map,List.getElem?_eq_getElem hk]
theorem zdE (c:Nat) (mode:Int) (rows:List Row) (x:List S38):(zag c mode rows x).length=rows.length:=by simp [zag]
theorem zdr {x v:List S38} {D c:Nat} {E M M':Int} {rows:List Row} {mode:Int} (h:zaJ D E x v) (hm:zav M x) (hM':0≤M') (hr:zdq x.length c E M M' rows) (hc:c≤62):zaJ (D+c) (E+92) (zag c mode rows x) (zal rows v)∧zav M' (zag c mode rows x):=by
 refine ⟨zi5 h (fun r hr1=>⟨(hr r hr1).1,(hr r hr1).2.1,zhJ hm (hr r hr1).1 (hr r hr1).2.2.2⟩) hc,hM',fun k hk=>?_⟩
 rw [zdE] at hk
 rw [zkh hk]
 obtain ⟨a1,a2,a3,a4⟩:=hr _ (List.getElem_mem hk)
 exact z6.div (Int.pow_pos (by decide)) hM' (zi6 hm.1 hm.2 a1 a3 hc (zhJ hm a1 a4))
theorem zav.in {M m:Int} {x:List S38} (h:zav M x) (hm:M≤64*m):∀z,z∈x→inB m z=true:=by
 intro z hz
 obtain ⟨k,hk,rfl⟩:=List.getElem_of_mem hz
 have h1:=((h.2 k hk).up hm).part
 rw [List.getD_eq_getElem?_getD,List.getElem?_eq_getElem hk] at h1
 unfold zaq at h1
 dsimp only [Option.getD] at h1
 exact zbe (by omega)
theorem zaJ.shift {D d:Nat} {E:Int} {x v:List S38} (h:zaJ D E x v):zaJ (D+d) E x (lsc (2^d) v):=by
 obtain ⟨hl,hE,hk⟩:=h
 refine ⟨by rw [zaI,hl],hE,fun k hk1=>?_⟩
 have h1:=(hk k hk1).scl (2^d) (Int.le_of_lt (Int.pow_pos (by decide)))
 rw [zbt]
 have e:zaq (2^d) (zcc D (x.getD k z38) (v.getD k z38))=zcc (D+d) (x.getD k z38) (zaq (2^d) (v.getD k z38)):=by
  unfold zcc zaw zaq
  rw [Int.pow_add]
  apply zaH <;> dsimp only <;> grind
 rw [e] at h1
 refine h1.up ?_
 rw [Int.pow_add]
 have:2^d*(E*2^D)=E*((2:Int)^D*2^d):=by grind
 omega
theorem zaJ.append {D:Nat} {E:Int} {x v y u:List S38} (h:zaJ D E x v) (g:zaJ D E y u):zaJ D E (x++y) (v++u):=by
 refine ⟨by rw [List.length_append,List.length_append,h.1,g.1],h.2.1,fun k hk=>?_⟩
 rw [List.length_append] at hk
 by_cases hk1:k < x.length
 ·have:=h.2.2 k hk1
  rw [List.getD_eq_getElem?_getD,List.getD_eq_getElem?_getD] at this ⊢
  rw [List.getElem?_append_left hk1,List.getElem?_append_left (by rw [← h.1];exact hk1)]
  exact this
 ·have:=g.2.2 (k - x.length) (by omega)
  rw [List.getD_eq_getElem?_getD,List.getD_eq_getElem?_getD] at this ⊢
  rw [List.getElem?_append_right (by omega),List.getElem?_append_right (by rw [← h.1];omega),← h.1]
  exact this
theorem zav.append {M:Int} {x y:List S38} (h:zav M x) (g:zav M y):zav M (x++y):=by
 refine ⟨h.1,fun k hk=>?_⟩
 rw [List.length_append] at hk
 by_cases hk1:k < x.length
 ·have:=h.2 k hk1
  rw [List.getD_eq_getElem?_getD] at this ⊢
  rw [List.getElem?_append_left hk1]
  exact this
 ·have:=g.2 (k - x.length) (by omega)
  rw [List.getD_eq_getElem?_getD] at this ⊢
  rw [List.getElem?_append_right (by omega)]
  exact this
theorem zaJ.up {D:Nat} {E E':Int} {x v:List S38} (h:zaJ D E x v) (hE:E≤E'):zaJ D E' x v :=
 ⟨h.1,Int.le_trans h.2.1 hE,fun k hk=>(h.2.2 k hk).up (Int.mul_le_mul_of_nonneg_right hE (Int.le_of_lt (Int.pow_pos (by decide))))⟩
theorem zav.up {M M':Int} {x:List S38} (h:zav M x) (hM:M≤M'):zav M' x:=⟨Int.le_trans h.1 hM,fun k hk=>(h.2 k hk).up hM⟩
theorem zaV {n:Nat} {t:S38×Int×Nat} {r:Row} (h1:z6 t.1 t.2.1) (h2:t.2.2 < n) (h3:zbB n r=true):zbB n (t :: r)=true:=by
 simp only [zbB,Bool.and_eq_true,decide_eq_true_eq]
 exact ⟨h1.1,h1.2,h2,h3⟩
theorem zei (b:Nat):z6 ⟨2^b,0⟩ (2^b):=⟨Int.le_of_lt (Int.pow_pos (by decide)),by simp⟩
theorem zdF {inv:Bool} {w:S38} {R:Int} (hR:R≤9223372036854775807) (h:z6 w R):z6 (zH inv w) R:=by
 have hp:=h.part
 unfold zH
 split
 ·have e:wrap64 (-w.f1)=-w.f1:=zw (by omega) (by omega)
  rw [e]
  obtain ⟨h0,h1⟩:=h
  exact ⟨h0,by dsimp only;grind⟩
 ·exact h
theorem zcg {w:S38} {R:Int} (q:Nat) (h:z6 w R):z6 (zaa q w) R:=by
 obtain ⟨h0,h1⟩:=h
 refine ⟨h0,?_⟩
 unfold zaa
 split <;> (try dsimp only) <;> grind
theorem zds {w:S38} {R:Int} (h:z6 w R):z6 (zce w) R:=by
 obtain ⟨h0,h1⟩:=h
 refine ⟨h0,?_⟩
 unfold zce
 dsimp only
 grind
theorem zki (wl:List S38) (bits:Nat) (inv:Bool) (h m:Int) (n:Nat) (hh:0≤h) (hc:zeH h m n=true) (k:Nat) (hk:k < n) :
  ∃(a b:Nat) (i:Int),a < n∧b < n∧0≤i∧i < n∧(zeG wl bits inv h m k=zfI bits (zH inv (zk wl i)) a b∨zeG wl bits inv h m k=zfJ bits (zH inv (zk wl i)) a b):=by
 unfold zeH at hc
 rw [Bool.and_eq_true,Bool.and_eq_true,decide_eq_true_eq,List.all_eq_true,List.all_eq_true] at hc
 obtain ⟨⟨hn,hall⟩,hp⟩:=hc
 have h1:=hall k (List.mem_range.2 hk)
 rw [List.contains_iff_mem] at h1
 obtain ⟨p,hp1,hq⟩:=List.mem_flatMap.1 h1
 have h2:=hp p hp1
 simp only [Bool.and_eq_true,decide_eq_true_eq] at h2
 obtain ⟨q0,q1,q2,q3,q4,q5,q6⟩:=h2
 simp only [List.mem_cons,List.not_mem_nil,or_false] at hq
 have t1:((p.1.toNat:Nat):Int)=p.1:=Int.toNat_of_nonneg q0
 have t2:(((p.1+h).toNat:Nat):Int)=p.1+h:=Int.toNat_of_nonneg (by omega)
 rcases hq with rfl | rfl
 ·refine ⟨p.1.toNat,p.1.toNat+h.toNat,p.2,hk,by omega,q5,q6,.inl ?_⟩
  unfold zeG
  rw [t1,if_pos q2,← q4]
 ·refine ⟨(p.1+h).toNat - h.toNat,(p.1+h).toNat,p.2,by omega,hk,q5,q6,.inr ?_⟩
  unfold zeG
  rw [t2,if_neg q3,show p.1+h - h=p.1 by omega,← q4]
theorem zlo (wl:List S38) (bits:Nat) (inv:Bool) (h m:Int) (n c:Nat) (E M M':Int) (hh:0≤h) (hc:zeH h m n=true) (hb:bits≤40) (hw:∀i:Int,0≤i→i < n→z6 (zk wl i) (2^bits+1))
  (h1:(2*2^bits+1)*E≤2^c*(E+1)) (h2:(2*2^bits+1)*M+91*2^c≤2^c*M') (h3:(2*2^bits+1)*M≤64*4611686018427387904):zdq n c E M M' (zdC wl bits inv h m n):=by
 have hR:(2:Int)^bits+1≤9223372036854775807:=by
  have:=zau (a:=bits) (b:=40) hb
  have e:(2:Int)^40=1099511627776:=by decide
  omega
 intro r hr
 obtain ⟨k,hk,rfl⟩:=List.mem_map.1 hr
 obtain ⟨a,b,i,ha,hb1,i0,i1,hf⟩:=zki wl bits inv h m n hh hc k (List.mem_range.1 hk)
 have hn:=zdF (inv:=inv) hR (hw i i0 i1)
 have hN:∀w:S38,zaE [((⟨2^bits,0⟩:S38),(2:Int)^bits,a),(w,2^bits+1,b)]=2*2^bits+1:=fun w=>by unfold zaE zaE zaE;dsimp only;omega
 rcases hf with e | e <;> rw [e]
 ·refine ⟨zaV (zei bits) ha (zaV hn hb1 rfl),?_⟩
  unfold zfI
  rw [hN]
  exact ⟨h1,h2,h3⟩
 ·refine ⟨zaV (zei bits) ha (zaV (zds hn) hb1 rfl),?_⟩
  unfold zfJ
  rw [hN]
  exact ⟨h1,h2,h3⟩
theorem znA (a b c d:Nat) (p:Int) (w0 w1 w2 w3:S38):zaE [(w0,p,a),(w1,p+1,b),(w2,p+1,c),(w3,p+1,d)]=4*p+3:=by
 unfold zaE zaE zaE zaE zaE
 dsimp only
 omega
theorem zlp (wl:List S38) (h T n:Nat) (u:Int) (bits c:Nat) (inv:Bool) (E M M':Int) (hc:zeI h T n=true) (hb:bits≤40) (hw:∀j k:Nat,j < h→k < 4→z6 (zk wl ((k:Int)*j*u)) (2^bits+1))
  (h1:(4*2^bits+3)*E≤2^c*(E+1)) (h2:(4*2^bits+3)*M+91*2^c≤2^c*M') (h3:(4*2^bits+3)*M≤64*4611686018427387904):zdq n c E M M' (zcL wl h u bits inv n):=by
 have hR:(2:Int)^bits+1≤9223372036854775807:=by
  have:=zau (a:=bits) (b:=40) hb
  have e:(2:Int)^40=1099511627776:=by decide
  omega
 unfold zeI at hc
 rw [Bool.and_eq_true,Bool.and_eq_true,decide_eq_true_eq,List.all_eq_true,List.all_eq_true] at hc
 obtain ⟨⟨hn,hall⟩,hp⟩:=hc
 have hq:∀t,t < T→∀j,j < h→∀q,q < 4→(t*(4*h)+(q*h+j)) / (4*h)=t∧(t*(4*h)+(q*h+j)) % (4*h) % h=j∧(t*(4*h)+(q*h+j)) % (4*h) / h=q∧t*(4*h)+(q*h+j) < n:=by
  intro t ht j hj q hq
  have h1:=hp t (List.mem_range.2 ht)
  rw [List.all_eq_true] at h1
  have h2:=h1 j (List.mem_range.2 hj)
  rw [List.all_eq_true] at h2
  have h3:=h2 q (List.mem_range.2 hq)
  simpa only [Bool.and_eq_true,decide_eq_true_eq] using h3
 intro r hr
 obtain ⟨k,hk,rfl⟩:=List.mem_map.1 hr
 have hkk:=hall k hk
 rw [List.contains_iff_mem] at hkk
 obtain ⟨t,ht,hkk⟩:=List.mem_flatMap.1 hkk
 obtain ⟨j,hj,hkk⟩:=List.mem_flatMap.1 hkk
 have ht:=List.mem_range.1 ht
 have hj:=List.mem_range.1 hj
 have key:∃q,q < 4∧k=t*(4*h)+(q*h+j):=by
  simp only [List.mem_cons,List.not_mem_nil,or_false] at hkk
  rcases hkk with e | e | e | e
  ·exact ⟨0,by decide,e⟩
  ·exact ⟨1,by decide,e⟩
  ·exact ⟨2,by decide,e⟩
  ·exact ⟨3,by decide,e⟩
 obtain ⟨q,hq4,rfl⟩:=key
 obtain ⟨a1,a2,a3,a4⟩:=hq t ht j hj q hq4
 unfold zi9
 rw [a1,a2,a3]
 have hn:∀k,k < 4→z6 (wOf wl u inv j k) (2^bits+1):=fun k hk=>zdF hR (hw j k hj hk)
 unfold zi8
 rw [znA]
 exact ⟨zaV (zei bits) (hq t ht j hj 0 (by decide)).2.2.2 (zaV (zcg _ (hn 1 (by decide))) (hq t ht j hj 2 (by decide)).2.2.2 (zaV (zcg _ (hn 2 (by decide))) (hq t ht j hj 1 (by decide)).2.2.2 (zaV (zcg _ (hn 3 (by decide))) (hq t ht j hj 3 (by decide)).2.2.2 rfl))),h1,h2,h3⟩
theorem znB (a b c:Nat) (bits:Nat) (w0 w1 w2:S38):zaE [(w0,(2:Int)^(bits+1),a),(w1,(2:Int)^bits+1,b),(w2,(2:Int)^bits+1,c)]=4*2^bits+2:=by
 unfold zaE zaE zaE zaE
 dsimp only
 rw [Int.pow_succ]
 omega
theorem zhK (wl:List S38) (bits:Nat) (inv:Bool) (by_ hN c:Nat) (E M M':Int) (hN0:0 < hN) (hb:bits≤40) (hw:∀k:Nat,k < hN→z6 (zk wl ((k*by_:Nat):Int)) (2^bits+1)∧z6 (zk wl ((3*k*by_:Nat):Int)) (2^bits+1))
  (h1:(4*2^bits+2)*E≤2^c*(E+1)) (h2:(4*2^bits+2)*M+91*2^c≤2^c*M') (h3:(4*2^bits+2)*M≤64*4611686018427387904):zdq (4*hN) c E M M' (zb7 wl bits inv by_ hN):=by
 have hR:(2:Int)^bits+1≤9223372036854775807:=by
  have:=zau (a:=bits) (b:=40) hb
  have e:(2:Int)^40=1099511627776:=by decide
  omega
 intro r hr
 obtain ⟨p,hp,rfl⟩:=List.mem_map.1 hr
 have hk:p % hN < hN:=Nat.mod_lt _ hN0
 generalize p % hN=k at *
 obtain ⟨w1,w3⟩:=hw k hk
 have n1:=zdF (inv:=inv) hR w1
 have n3:=zdF (inv:=inv) hR w3
 have hall:∀(w w':S38) (i:Nat),z6 w (2^bits+1)→z6 w' (2^bits+1)→i < 4*hN→zbB (4*hN) (zcf bits w w' i (2*hN+k) (3*hN+k))=true∧zaE (zcf bits w w' i (2*hN+k) (3*hN+k))*E≤2^c*(E+1)∧zaE (zcf bits w w' i (2*hN+k) (3*hN+k))*M+91*2^c≤2^c*M'∧zaE (zcf bits w w' i (2*hN+k) (3*hN+k))*M≤64*4611686018427387904:=by
  intro w w' i hw hw' hi
  unfold zcf
  rw [znB]
  exact ⟨zaV (zei (bits+1)) hi (zaV hw (by dsimp only;omega) (zaV hw' (by dsimp only;omega) rfl)),h1,h2,h3⟩
 generalize p / hN=q at *
 match q with
 | 0=>exact hall _ _ _ n1 n3 (by omega)
 | 1=>exact hall _ _ _ (zcg _ n1) (zds (zcg _ n3)) (by omega)
 | 2=>exact hall _ _ _ (zds n1) (zds n3) (by omega)
 | q+3=>exact hall _ _ _ (zds (zcg _ n1)) (zcg _ n3) (by omega)
def goT (mode:Int) (T:List (Nat×List Row)) (x:List S38):List S38:=T.foldl (fun y s=>zag s.1 mode s.2 y) x
def idT (T:List (Nat×List Row)) (v:List S38):List S38:=T.foldl (fun y s=>zal s.2 y) v
def zab (fm g:Nat) (inv:Bool) (p:Bool×Nat):Nat×List Row :=
 if p.1 then (bN fm+2,zcL (twL fm g) (2^p.2) ((2^g / (4*2^p.2):Nat):Int) (bN fm) inv (2^g))
 else (bN fm+1,zdC (twL fm g) (bN fm) inv (2^p.2) (2^g / (2*2^p.2)) (2^g))
theorem zeZ (fm:Nat):bN fm≤29∧13≤bN fm:=by unfold bN;split <;> omega
theorem qN (fm:Nat):(8192:Int)≤2^bN fm∧(2:Int)^bN fm≤536870912:=by
 unfold bN
 split <;> decide
theorem zmi {wl:List S38} {R:Int} (hR:0≤R) (h:∀z,z∈wl→z6 z R) (i:Int):z6 (zk wl i) R:=by
 unfold zk
 rw [List.getD_eq_getElem?_getD]
 by_cases hi:i.toNat < wl.length
 ·rw [List.getElem?_eq_getElem hi]
  exact h _ (List.getElem_mem hi)
 ·rw [List.getElem?_eq_none (by omega)]
  exact z6.zero.up hR
theorem zcE (fm g:Nat) (inv:Bool) (p:Bool×Nat):(zab fm g inv p).2.length=2^g:=by
 unfold zab
 split <;> simp [zdC,zcL]
theorem zmj {Q E M:Int} (q0:8192≤Q) (q1:Q≤536870912) (e0:0≤E) (e1:E≤Q) (m0:0≤M) (m1:M≤184*Q):(2*Q+1)*E≤2*Q*(E+1)∧(2*Q+1)*M+91*(2*Q)≤2*Q*(M+240)∧(2*Q+1)*M≤64*4611686018427387904:=by
 refine ⟨by grind,by grind,?_⟩
 have h:=Int.mul_le_mul (show 2*Q+1≤1073741825 by omega) (show M≤98784247808 by omega) m0 (by decide)
 omega
theorem zmk {Q E M:Int} (q0:8192≤Q) (q1:Q≤536870912) (e0:0≤E) (e1:E≤Q) (m0:0≤M) (m1:M≤184*Q):(4*Q+3)*E≤4*Q*(E+1)∧(4*Q+3)*M+91*(4*Q)≤4*Q*(M+240)∧(4*Q+3)*M≤64*4611686018427387904:=by
 refine ⟨by grind,by grind,?_⟩
 have h:=Int.mul_le_mul (show 4*Q+3≤2147483651 by omega) (show M≤98784247808 by omega) m0 (by decide)
 omega
theorem pc2 {g t:Nat} (h2:2≤g) (h6:g≤6) (h:pcB g (false,t)=true):zeH (2^t) (2^g / (2*2^t)) (2^g)=true∧2*2^t≤2^g∧Go.bits .and .i64 ((2^t:Nat):Int) (((2^t:Nat):Int) - 1)=0∧t < g:=by
 unfold pcB at h
 simp only [Bool.false_eq_true,if_false,Bool.and_eq_true,decide_eq_true_eq] at h
 exact ⟨List.all_eq_true.1 (List.all_eq_true.1 zld g (zbZ h2 h6)) t (List.mem_range.2 h.1),h.2.1,h.2.2,h.1⟩
theorem pc4 {g t:Nat} (h2:2≤g) (h6:g≤6) (h:pcB g (true,t)=true):zeI (2^t) (2^g / (4*2^t)) (2^g)=true∧2^g / (4*2^t)*(4*2^t)=2^g∧((2^g:Nat):Int).tdiv (4*((2^t:Nat):Int))=((2^g / (4*2^t):Nat):Int)∧((2^t:Nat):Int)≤((2^g:Nat):Int) / 4∧Go.bits .and .i64 ((2^t:Nat):Int) (((2^t:Nat):Int) - 1)=0:=by
 unfold pcB at h
 simp only [if_true,Bool.and_eq_true,decide_eq_true_eq] at h
 exact ⟨List.all_eq_true.1 (List.all_eq_true.1 zlg g (zbZ h2 h6)) t (List.mem_range.2 h.1),h.2.1,h.2.2.1,h.2.2.2.1,h.2.2.2.2⟩
theorem ziv {fm g:Nat} (inv:Bool) (hf:fm < 2) (h2:2≤g) (h6:g≤6) {p:Bool×Nat} (hp:pcB g p=true) {E M:Int} (e0:0≤E) (e1:E≤2^bN fm) (m0:0≤M) (m1:M≤184*2^bN fm) :
  zdq (2^g) (zab fm g inv p).1 E M (M+240) (zab fm g inv p).2∧(zab fm g inv p).1≤62:=by
 obtain ⟨q0,q1⟩:=qN fm
 obtain ⟨b0,b1⟩:=zeZ fm
 obtain ⟨t1,t2,t3⟩:=zbC hf h2 h6
 have hw:∀i:Int,z6 (zk (twL fm g) i) (2^bN fm+1):=zmi (by omega) fun z hz=>(t3 z hz).1
 obtain ⟨f,t⟩:=p
 cases f with
 | false =>
  obtain ⟨c1,c2,c3,c4⟩:=pc2 h2 h6 hp
  have ec:(2:Int)^(bN fm+1)=2*2^bN fm:=by rw [Int.pow_succ];omega
  obtain ⟨n1,n2,n3⟩:=zmj q0 q1 e0 e1 m0 m1
  refine ⟨?_,by show bN fm+1≤62;omega⟩
  exact zlo (twL fm g) (bN fm) inv (2^t) (2^g / (2*2^t)) (2^g) (bN fm+1) E M (M+240) (Int.le_of_lt (Int.pow_pos (by decide))) c1 (by omega) (fun i _ _=>hw i) (by rw [ec];exact n1) (by rw [ec];exact n2) n3
 | true =>
  obtain ⟨c1,_⟩:=pc4 h2 h6 hp
  have ec:(2:Int)^(bN fm+2)=4*2^bN fm:=by rw [Int.pow_succ,Int.pow_succ];omega
  obtain ⟨n1,n2,n3⟩:=zmk q0 q1 e0 e1 m0 m1
  refine ⟨?_,by show bN fm+2≤62;omega⟩
  exact zlp (twL fm g) (2^t) (2^g / (4*2^t)) (2^g) ((2^g / (4*2^t):Nat):Int) (bN fm) (bN fm+2) inv E M (M+240) c1 (by omega) (fun j k _ _=>hw _) (by rw [ec];exact n1) (by rw [ec];exact n2) n3
def csN (fm:Nat):List (Bool×Nat)→Nat
 | []=>0
 | p :: r=>(if p.1 then bN fm+2 else bN fm+1)+csN fm r
theorem zkj (fm g:Nat) (inv:Bool) (p:Bool×Nat):(zab fm g inv p).1=if p.1 then bN fm+2 else bN fm+1:=by
 unfold zab
 split <;> rfl
theorem zm2 {fm g:Nat} (inv:Bool) (mode:Int) (hf:fm < 2) (h2:2≤g) (h6:g≤6):∀(ps:List (Bool×Nat)),(∀p,p∈ps→pcB g p=true)→∀(x v:List S38) (D:Nat) (E M:Int),x.length=2^g→zaJ D E x v→zav M x→E+92*ps.length≤2^bN fm→M+240*ps.length≤184*2^bN fm →
  zaJ (D+csN fm ps) (E+92*ps.length) (goT mode (ps.map (zab fm g inv)) x) (idT (ps.map (zab fm g inv)) v)∧zav (M+240*ps.length) (goT mode (ps.map (zab fm g inv)) x)∧(goT mode (ps.map (zab fm g inv)) x).length=2^g
 | [],_,x,v,D,E,M,hx,hn,hm,hE,hM=>⟨by simpa [goT,idT,csN] using hn,by simpa [goT] using hm,hx⟩
 | p :: ps,hp,x,v,D,E,M,hx,hn,hm,hE,hM=>by
  rw [List.length_cons,Int.natCast_add] at hE hM
  have e0:=hn.2.1
  have m0:=hm.1
  obtain ⟨r1,r2⟩:=ziv inv hf h2 h6 (hp p (List.mem_cons_self ..)) e0 (show E≤2^bN fm by omega) m0 (show M≤184*2^bN fm by omega)
  obtain ⟨s1,s2⟩:=zdr (mode:=mode) (M':=M+240) hn hm (by omega) (by rw [hx];exact r1) r2
  have ih:=zm2 inv mode hf h2 h6 ps (fun q hq=>hp q (List.mem_cons_of_mem _ hq)) _ _ _ _ _ (by rw [zdE,zcE]) s1 s2 (by omega) (by omega)
  rw [List.length_cons,Int.natCast_add]
  obtain ⟨i1,i2,i3⟩:=ih
  refine ⟨?_,?_,i3⟩
  ·have e:D+csN fm (p :: ps)=D+(zab fm g inv p).1+csN fm ps:=by rw [zkj];simp only [csN];omega
   rw [e,show E+92*((ps.length:Int)+((1:Nat):Int))=E+92+92*ps.length by omega]
   exact i1
  ·rw [show M+240*((ps.length:Int)+((1:Nat):Int))=M+240+240*ps.length by omega]
   exact i2
theorem zkk {fm g n:Nat} (inv:Bool):∀(ps:List (Bool×Nat)) (F:List Int→List S38),ZL n (2^g) F→ZL n (2^g) (fun x=>idT (ps.map (zab fm g inv)) (F x))
 | [],F,h=>h
 | p :: ps,F,h=>by
  have h1:=h.rows (zab fm g inv p).2
  rw [zcE] at h1
  exact zkk inv ps _ h1
theorem zaN (k:Nat):(0:Int) < 2^k:=Int.pow_pos (by decide)
theorem zdt {n c:Nat} {rows:List Row} (h:∀r,r∈rows→zbB n r=true∧zaE r≤2^c) {v:List S38} {e:Int} (hv:v.length=n) (he:0≤e) (hn:∀k,k < n→z6 (v.getD k z38) e):∀k,k < rows.length→z6 ((zal rows v).getD k z38) (2^c*e):=by
 intro k hk
 have e1:(zal rows v).getD k z38=dot v rows[k]:=by
  simp [zal,List.getD_eq_getElem?_getD,List.getElem?_map,List.getElem?_eq_getElem hk]
 obtain ⟨h1,h2⟩:=h _ (List.getElem_mem hk)
 rw [e1]
 exact (zdo he _ (by rw [hv];exact h1) (by rw [hv];exact hn)).up (Int.mul_le_mul_of_nonneg_right h2 he)
theorem ziw {fm g:Nat} (inv:Bool) (hf:fm < 2) (h2:2≤g) (h6:g≤6):∀(ps:List (Bool×Nat)),(∀p,p∈ps→pcB g p=true)→∀(v:List S38) (e:Int),v.length=2^g→0≤e→(∀k,k < 2^g→z6 (v.getD k z38) e) →
  ∀k,k < 2^g→z6 ((idT (ps.map (zab fm g inv)) v).getD k z38) (2^(csN fm ps+ps.length)*e)
 | [],_,v,e,hv,he,hn=>by
  intro k hk
  have:=hn k hk
  simpa [idT,csN] using this
 | p :: ps,hp,v,e,hv,he,hn=>by
  have hq:=qN fm
  obtain ⟨r1,r2⟩:=ziv inv hf h2 h6 (hp p (List.mem_cons_self ..)) (E:=1) (M:=0) (by decide) (by omega) (by decide) (by omega)
  have h1:=zdt (c:=(zab fm g inv p).1+1) (rows:=(zab fm g inv p).2) (fun r hr=>⟨(r1 r hr).1,by have:=(r1 r hr).2.1;rw [Int.pow_succ];omega⟩) hv he hn
  rw [zcE] at h1
  have ih:=ziw inv hf h2 h6 ps (fun q hq=>hp q (List.mem_cons_of_mem _ hq)) _ _ (by rw [zal,List.length_map,zcE]) (Int.mul_nonneg (Int.le_of_lt (zaN _)) he) h1
  intro k hk
  have h3:=ih k hk
  rw [zkj,← Int.mul_assoc,← Int.pow_add] at h3
  have e2:csN fm (p :: ps)+(p :: ps).length=csN fm ps+ps.length+((if p.1=true then bN fm+2 else bN fm+1)+1):=by simp only [csN,List.length_cons];omega
  rw [e2]
  exact h3
theorem zej:z6 ⟨1,0⟩ 1:=⟨by decide,by decide⟩
def zaK (s:Nat→Nat) (n:Nat):List Row:=(List.range n).map fun k=>[(⟨1,0⟩,1,s k)]
theorem znC (x:List S38) (j:Nat):dot x [(⟨1,0⟩,1,j)]=x.getD j z38:=by
 unfold dot dot zaw zaS z38
 apply zaH <;> dsimp only <;> omega
theorem zgv (mode:Int) (s:Nat→Nat) (n:Nat) (x:List S38):zag 1 mode (zaK s n) x=((List.range n).map fun k=>x.getD (s k) z38).map (shC 1 mode):=by
 unfold zag zaK
 rw [List.map_map,List.map_map]
 refine List.map_congr_left fun k _=>?_
 simp only [Function.comp,znC]
 rfl
theorem zkl {g:Nat} (h2:2≤g) (h6:g≤6) {k:Nat} (hk:k < 2^g):zbu g k < 2^g:=by
 have h:([2,3,4,5,6].all fun g=>(List.range (2^g)).all fun k=>decide (zbu g k < 2^g))=true:=by decide +kernel
 exact of_decide_eq_true (List.all_eq_true.1 (List.all_eq_true.1 h g (zbZ h2 h6)) k (List.mem_range.2 hk))
theorem zix {fm n:Nat} {s:Nat→Nat} (hs:∀k,k < n→s k < n) {E M M':Int} (e0:0≤E) (h1:M+182≤2*M') (h2:M≤64*4611686018427387904):zdq n 1 E M M' (zaK s n):=by
 intro r hr
 obtain ⟨k,hk,rfl⟩:=List.mem_map.1 hr
 refine ⟨zaV zej (hs k (List.mem_range.1 hk)) rfl,?_⟩
 have e:∀j:Nat,zaE [((⟨1,0⟩:S38),(1:Int),j)]=1:=fun j=>rfl
 rw [e]
 omega
structure Tr (fm g:Nat) (R V:List S38→List S38) (D K:Nat) (E:Int):Prop where
 near:∀(x v:List S38) (D0:Nat) (E0:Int),x.length=2^g→zaJ D0 E0 x v→zav (364*2^bN fm) x→E0≤1000→zaJ (D0+D) (E0+E) (R x) (V v)∧zav (184*2^bN fm) (R x)∧(R x).length=2^g
 zl:∀(n:Nat) (F:List Int→List S38),ZL n (2^g) F→ZL n (2^g) (fun x=>V (F x))
 big:∀(v:List S38) (e:Int),v.length=2^g→0≤e→(∀k,k < 2^g→z6 (v.getD k z38) e)→∀k,k < 2^g→z6 ((V v).getD k z38) (2^K*e)
def zga (fm g ker:Nat) (inv:Bool):List (Nat×List Row):=(pcL ker g).map (zab fm g inv)
def zcF (fm g ker:Nat) (inv:Bool) (mode:Int) (x:List S38) (k:Nat):List S38:=goT mode (((pcL ker g).take k).map (zab fm g inv)) ((zb6 g x).map (shC 1 mode))
def zjc (fm g ker:Nat) (inv:Bool) (mode:Int) (x:List S38):List S38:=goT mode (zga fm g ker inv) ((zb6 g x).map (shC 1 mode))
def zlI (fm g ker:Nat) (inv:Bool) (v:List S38):List S38:=idT (zga fm g ker inv) (zal (zaK (zbu g) (2^g)) v)
theorem zkm (g:Nat) (mode:Int) (x:List S38):(zb6 g x).map (shC 1 mode)=zag 1 mode (zaK (zbu g) (2^g)) x:=(zgv mode (zbu g) (2^g) x).symm
theorem zml {fm g:Nat} (mode:Int) (h2:2≤g) (h6:g≤6) {x v:List S38} {D0:Nat} {E0:Int} (hx:x.length=2^g) (hn:zaJ D0 E0 x v) (hm:zav (364*2^bN fm) x) :
  zaJ (D0+1) (E0+92) ((zb6 g x).map (shC 1 mode)) (zal (zaK (zbu g) (2^g)) v)∧zav (182*2^bN fm+91) ((zb6 g x).map (shC 1 mode))∧((zb6 g x).map (shC 1 mode)).length=2^g:=by
 have hq:=qN fm
 have r1:=zix (fm:=fm) (n:=2^g) (s:=zbu g) (fun k hk=>zkl h2 h6 hk) hn.2.1 (M:=364*2^bN fm) (M':=182*2^bN fm+91) (by omega) (by omega)
 have s:=zdr (mode:=mode) (M':=182*2^bN fm+91) hn hm (by omega) (by rw [hx];exact r1) (by decide)
 rw [zkm]
 exact ⟨s.1,s.2,by simp [zag,zaK]⟩
theorem zkn {fm g ker:Nat} (inv:Bool) (mode:Int) (hf:fm < 2) (h2:2≤g) (h6:g≤6) (hk:ker < 2) {x v:List S38} {D0:Nat} {E0:Int} (hx:x.length=2^g) (hn:zaJ D0 E0 x v) (hm:zav (364*2^bN fm) x) (hE:E0≤1000) (k:Nat) :
  zaJ (D0+1+csN fm ((pcL ker g).take k)) (E0+92+92*((pcL ker g).take k).length) (zcF fm g ker inv mode x k) (idT (((pcL ker g).take k).map (zab fm g inv)) (zal (zaK (zbu g) (2^g)) v))∧zav (184*2^bN fm) (zcF fm g ker inv mode x k)∧(zcF fm g ker inv mode x k).length=2^g:=by
 have hq:=qN fm
 have hl:=zfF h2 h6 hk
 have hl2:((pcL ker g).take k).length≤6:=by rw [List.length_take];omega
 obtain ⟨s1,s2,s3⟩:=zml mode h2 h6 hx hn hm
 obtain ⟨p1,p2,p3⟩:=zm2 inv mode hf h2 h6 ((pcL ker g).take k) (fun p hp=>zfm h2 h6 hk p (List.mem_of_mem_take hp)) _ _ _ _ _ s3 s1 s2 (by omega) (by omega)
 exact ⟨p1,p2.up (by omega),p3⟩
theorem znT {fm g ker:Nat} (inv:Bool) (mode:Int) (hf:fm < 2) (h2:2≤g) (h6:g≤6) (hk:ker < 2):Tr fm g (zjc fm g ker inv mode) (zlI fm g ker inv) (1+csN fm (pcL ker g)) (csN fm (pcL ker g)+(pcL ker g).length) (92+92*(pcL ker g).length) where
 near x v D0 E0 hx hn hm hE:=by
  have h:=zkn inv mode hf h2 h6 hk hx hn hm hE (pcL ker g).length
  unfold zcF at h
  rw [List.take_length] at h
  rw [show D0+(1+csN fm (pcL ker g))=D0+1+csN fm (pcL ker g) by omega,show E0+(92+92*((pcL ker g).length:Int))=E0+92+92*((pcL ker g).length:Int) by omega]
  exact h
 zl n F h:=by
  have h1:=h.rows (zaK (zbu g) (2^g))
  rw [show (zaK (zbu g) (2^g)).length=2^g by simp [zaK]] at h1
  exact zkk inv (pcL ker g) _ h1
 big v e hv he hn:=by
  have h1:=zdt (n:=2^g) (c:=0) (rows:=zaK (zbu g) (2^g)) (fun r hr=>by
   obtain ⟨k,hk,rfl⟩:=List.mem_map.1 hr
   exact ⟨zaV zej (zkl h2 h6 (List.mem_range.1 hk)) rfl,by show (1:Int)+0≤2^0;decide⟩) hv he hn
  rw [show (zaK (zbu g) (2^g)).length=2^g by simp [zaK],show (2:Int)^0*e=e by omega] at h1
  exact ziw inv hf h2 h6 (pcL ker g) (zfm h2 h6 hk) _ e (by simp [zal,zaK]) he h1
end Go.Proofs.YteieahbadclppaaGreat.P

