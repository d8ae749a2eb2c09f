/- Part 9 of 18 of the proof: the texts that it reaches, one behind the other. No condition. -/
import Derived.Test.YteieahbadclppaaGreatKi8
namespace Go.Proofs.YteieahbadclppaaGreat.P
open Go.RowKit Go.Shelf Go.Proofs.YteieahbadclppaaGreatW.PrintWords Go.Proofs.YteieahbadclppaaGreatW.PrintLast Go.Proofs.YteieahbadclppaaGreatW.PrintMore
set_option linter.unusedVariables false
set_option linter.unusedSimpArgs false
def zah (P:Nat→Nat→S38) (q:Nat):Nat→S38
 | 0=>⟨0,0⟩
 | k+1=>⟨wrap64 ((zah P q k).f0+(P q k).f0),wrap64 ((zah P q k).f1+(P q k).f1)⟩
def zcY (O:Nat→S38):Nat→Array Value
 | 0=>#[.int .i64 0,.int .i64 0,.int .i64 0,.int .i64 0,.int .i64 0,.int .i64 0,.int .i64 0,.int .i64 0]
 | 1=>#[.int .i64 (O 0).f0,.int .i64 (O 0).f1,.int .i64 0,.int .i64 0,.int .i64 0,.int .i64 0,.int .i64 0,.int .i64 0]
 | 2=>#[.int .i64 (O 0).f0,.int .i64 (O 0).f1,.int .i64 (O 1).f0,.int .i64 (O 1).f1,.int .i64 0,.int .i64 0,.int .i64 0,.int .i64 0]
 | 3=>#[.int .i64 (O 0).f0,.int .i64 (O 0).f1,.int .i64 (O 1).f0,.int .i64 (O 1).f1,.int .i64 (O 2).f0,.int .i64 (O 2).f1,.int .i64 0,.int .i64 0]
 | _=>#[.int .i64 (O 0).f0,.int .i64 (O 0).f1,.int .i64 (O 1).f0,.int .i64 (O 1).f1,.int .i64 (O 2).f0,.int .i64 (O 2).f1,.int .i64 (O 3).f0,.int .i64 (O 3).f1]
set_option maxRecDepth 100000 in
set_option maxHeartbeats 4000000 in
theorem zk9 {W:World} {a:Act} {o:Oper} (x:Operand) (ho:o.op=.load 3 x) (g j:Nat) (v:Int) (hx:a.eval x=.pointer (some ⟨g,j,none⟩)) (hc:W.cell? ⟨g,j,none⟩=some (.int .i64 v)):(execOp a.eval o).run Tryz.prog W=.ok (.value (.int .i64 v)) W:=by
 unfold execOp
 simp only [ho,hx]
 go_simp
theorem zdA {W:World} {ops:Array Oper} {o:Oper} {a:Act} {Q:Exit→Act→World→Prop} {K:Act→World→Prop} {N:Option Tmp} (hgd:o.guard=none) (hN:o.dst=N) (x:Operand) (ho:o.op=.load 3 x) (g j:Nat) (v:Int) (hx:a.eval x=.pointer (some ⟨g,j,none⟩)) (hc:W.cell? ⟨g,j,none⟩=some (.int .i64 v))
  (h:K (a.put N (.int .i64 v)) W):if Region.wanted o (yielded ops a.tmps)=true then Oper.wp Tryz.prog o a W K Q else K (a.put N undef) W :=
 zgR (by unfold Region.wanted;rw [hgd]) hN (zk9 x ho g j v hx hc) h
theorem zdB (O:Nat→S38) (q:Nat):(zcY O q).size=8:=by
 unfold zcY
 split <;> rfl
theorem zhw (O:Nat→S38) (q:Nat) (hq:q < 4):((zcY O q).setIfInBounds (q*2) (.int .i64 (O q).f0)).setIfInBounds (q*2+1) (.int .i64 (O q).f1)=zcY O (q+1):=by
 have h:q=0∨q=1∨q=2∨q=3:=by omega
 rcases h with rfl | rfl | rfl | rfl <;> rfl
theorem zhx (c0 c1 c2 c3 c4 c5 c6 c7:Value) (w:World):(Instr.index 136 (.agg #[c0,c1,c2,c3,c4,c5,c6,c7]) (.int .i64 0)).run Tryz.prog w=.ok (.agg #[c0,c1]) w:=by kernel_rfl
theorem zhy (c0 c1 c2 c3 c4 c5 c6 c7:Value) (w:World):(Instr.index 136 (.agg #[c0,c1,c2,c3,c4,c5,c6,c7]) (.int .i64 1)).run Tryz.prog w=.ok (.agg #[c2,c3]) w:=by kernel_rfl
theorem zhz (c0 c1 c2 c3 c4 c5 c6 c7:Value) (w:World):(Instr.index 136 (.agg #[c0,c1,c2,c3,c4,c5,c6,c7]) (.int .i64 2)).run Tryz.prog w=.ok (.agg #[c4,c5]) w:=by kernel_rfl
theorem zhA (c0 c1 c2 c3 c4 c5 c6 c7:Value) (w:World):(Instr.index 136 (.agg #[c0,c1,c2,c3,c4,c5,c6,c7]) (.int .i64 3)).run Tryz.prog w=.ok (.agg #[c6,c7]) w:=by kernel_rfl
theorem zb0:(Tryz.prog.info? 38).map (·.size)=some 2:=by kernel_rfl
set_option maxRecDepth 100000 in
set_option maxHeartbeats 4000000 in
theorem zj6 (a w_ T O:Nat→S38) (P:Nat→Nat→S38) (bits s mode:Int) (inv:Bool) (h0:0≤bits) (hT0:wrap64 ((a 0).f0*2^min bits.toNat 64)=(T 0).f0) (hT1:wrap64 ((a 0).f1*2^min bits.toNat 64)=(T 0).f1)
  (hT:∀k,1≤k→k < 4→∀W:World,Calls Tryz.prog 104 #[.agg #[.int .i64 (a k).f0,.int .i64 (a k).f1],.agg #[.int .i64 (w_ k).f0,.int .i64 (w_ k).f1]] W fun e w'=>e=.returned (.tuple #[.agg #[.int .i64 (T k).f0,.int .i64 (T k).f1],.int .i64 0])∧Below W.heap.size W w')
  (hP:∀q k:Nat,q < 4→k < 4→∀W:World,Calls Tryz.prog 96 #[.agg #[.int .i64 (T k).f0,.int .i64 (T k).f1],.int .i64 (wrap64 (q*byV inv k))] W fun e w'=>e=.returned (.tuple #[.agg #[.int .i64 (P q k).f0,.int .i64 (P q k).f1],.int .i64 0])∧Below W.heap.size W w')
  (hO:∀q,q < 4→∀W:World,Calls Tryz.prog 70 #[.agg #[.int .i64 (zah P q 4).f0,.int .i64 (zah P q 4).f1],.int .i64 (wrap64 (bits+s)),.int .i64 mode] W fun e w'=>e=.returned (.tuple #[.agg #[.int .i64 (O q).f0,.int .i64 (O q).f1],.int .i64 0])∧Below W.heap.size W w') (w:World) :
  Calls Tryz.prog 107 #[.agg #[.int .i64 (a 0).f0,.int .i64 (a 0).f1,.int .i64 (a 1).f0,.int .i64 (a 1).f1,.int .i64 (a 2).f0,.int .i64 (a 2).f1,.int .i64 (a 3).f0,.int .i64 (a 3).f1],.agg #[.int .i64 (w_ 0).f0,.int .i64 (w_ 0).f1,.int .i64 (w_ 1).f0,.int .i64 (w_ 1).f1,.int .i64 (w_ 2).f0,.int .i64 (w_ 2).f1,.int .i64 (w_ 3).f0,.int .i64 (w_ 3).f1],.int .i64 bits,.int .i64 s,.int .i64 mode,.bool inv] w fun e w'=>e=.returned (.agg #[.int .i64 (O 0).f0,.int .i64 (O 0).f1,.int .i64 (O 1).f0,.int .i64 (O 1).f1,.int .i64 (O 2).f0,.int .i64 (O 2).f1,.int .i64 (O 3).f0,.int .i64 (O 3).f1])∧Below w.heap.size w w':=by
 have hmx:Tryz.prog.follows .mixedOrders=true:=by kernel_rfl
 have HT:=hhd hT
 have HP:=hhd hP
 have HO:=hhd hO
 have HB0:=hhd (Below.refl w.heap.size w)
 have HA0:=hhd hT0
 have HA1:=hhd hT1
 clear hT hP hO hT0 hT1
 go_enter Tryz.func107,Tryz.ntmps107
 go_wp2_with (first
  | ((with_reducible refine zg (N:=6) rfl ?_);refine ba_ 6 #[.int .i64 (a 0).f0,.int .i64 (a 0).f1,.int .i64 (a 1).f0,.int .i64 (a 1).f1,.int .i64 (a 2).f0,.int .i64 (a 2).f1,.int .i64 (a 3).f0,.int .i64 (a 3).f1] 136 ?_;intro g6 hg W1 hbox hbl;have L6:=gf_ hg HB0.out;have B6_1:=hhd hbox;have HB_1:=hhd (zb HB0.out hbl);obtain ⟨k6_0_1,k6_1_1,k6_2_1,k6_3_1,k6_4_1,k6_5_1,k6_6_1,k6_7_1⟩:=bx8 (.int .i64 (a 0).f0) (.int .i64 (a 0).f1) (.int .i64 (a 1).f0) (.int .i64 (a 1).f1) (.int .i64 (a 2).f0) (.int .i64 (a 2).f1) (.int .i64 (a 3).f0) (.int .i64 (a 3).f1) B6_1.out;clear hbox hbl hg)
  | ((with_reducible refine zg (N:=7) rfl ?_);refine ba_ 7 #[.int .i64 (w_ 0).f0,.int .i64 (w_ 0).f1,.int .i64 (w_ 1).f0,.int .i64 (w_ 1).f1,.int .i64 (w_ 2).f0,.int .i64 (w_ 2).f1,.int .i64 (w_ 3).f0,.int .i64 (w_ 3).f1] 136 ?_;intro g7 hg W2 hbox hbl;have L7:=gf_ hg HB_1.out;have B7_2:=hhd hbox;have HB_2:=hhd (zb HB_1.out hbl);have B6_2:=hhd (za B6_1.out hbl);obtain ⟨k6_0_2,k6_1_2,k6_2_2,k6_3_2,k6_4_2,k6_5_2,k6_6_2,k6_7_2⟩:=bx8 (.int .i64 (a 0).f0) (.int .i64 (a 0).f1) (.int .i64 (a 1).f0) (.int .i64 (a 1).f1) (.int .i64 (a 2).f0) (.int .i64 (a 2).f1) (.int .i64 (a 3).f0) (.int .i64 (a 3).f1) B6_2.out;clear k6_0_1 k6_1_1 k6_2_1 k6_3_1 k6_4_1 k6_5_1 k6_6_1 k6_7_1;obtain ⟨k7_0_2,k7_1_2,k7_2_2,k7_3_2,k7_4_2,k7_5_2,k7_6_2,k7_7_2⟩:=bx8 (.int .i64 (w_ 0).f0) (.int .i64 (w_ 0).f1) (.int .i64 (w_ 1).f0) (.int .i64 (w_ 1).f1) (.int .i64 (w_ 2).f0) (.int .i64 (w_ 2).f1) (.int .i64 (w_ 3).f0) (.int .i64 (w_ 3).f1) B7_2.out;have NE6_7:=hhd (show g6≠g7 from fun e=>by have:=zf B6_1.out;omega);have NE7_6:=hhd (show g7≠g6 from fun e=>NE6_7.out e.symm);clear hbox hbl hg)
  | ((with_reducible refine zg (N:=12) rfl ?_);refine ba_ 12 #[.int .i64 0,.int .i64 0,.int .i64 0,.int .i64 0,.int .i64 0,.int .i64 0,.int .i64 0,.int .i64 0] 136 ?_;intro g12 hg W3 hbox hbl;have L12:=gf_ hg HB_2.out;have B12_3:=hhd hbox;have HB_3:=hhd (zb HB_2.out hbl);have B6_3:=hhd (za B6_2.out hbl);have B7_3:=hhd (za B7_2.out hbl);obtain ⟨k6_0_3,k6_1_3,k6_2_3,k6_3_3,k6_4_3,k6_5_3,k6_6_3,k6_7_3⟩:=bx8 (.int .i64 (a 0).f0) (.int .i64 (a 0).f1) (.int .i64 (a 1).f0) (.int .i64 (a 1).f1) (.int .i64 (a 2).f0) (.int .i64 (a 2).f1) (.int .i64 (a 3).f0) (.int .i64 (a 3).f1) B6_3.out;obtain ⟨k7_0_3,k7_1_3,k7_2_3,k7_3_3,k7_4_3,k7_5_3,k7_6_3,k7_7_3⟩:=bx8 (.int .i64 (w_ 0).f0) (.int .i64 (w_ 0).f1) (.int .i64 (w_ 1).f0) (.int .i64 (w_ 1).f1) (.int .i64 (w_ 2).f0) (.int .i64 (w_ 2).f1) (.int .i64 (w_ 3).f0) (.int .i64 (w_ 3).f1) B7_3.out;clear k6_0_2 k6_1_2 k6_2_2 k6_3_2 k6_4_2 k6_5_2 k6_6_2 k6_7_2 k7_0_2 k7_1_2 k7_2_2 k7_3_2 k7_4_2 k7_5_2 k7_6_2 k7_7_2;obtain ⟨k12_0_3,k12_1_3,k12_2_3,k12_3_3,k12_4_3,k12_5_3,k12_6_3,k12_7_3⟩:=bk8 B12_3.out;have NE6_12:=hhd (show g6≠g12 from fun e=>by have:=zf B6_2.out;omega);have NE12_6:=hhd (show g12≠g6 from fun e=>NE6_12.out e.symm);have NE7_12:=hhd (show g7≠g12 from fun e=>by have:=zf B7_2.out;omega);have NE12_7:=hhd (show g12≠g7 from fun e=>NE7_12.out e.symm);clear hbox hbl hg))
 refine zae (S:=fun w'=>Below W3.heap.size W3 w') (ds:=[13]) (fl 14 0) hmx rfl rfl (Below.refl _ _).drew (fun hHeld=>?_)
 refine px_ 0 (some 23) (fl 14 1) rfl rfl ?_
 refine px_ 1 (some 24) (fl 14 3) rfl rfl ?_
 refine px_ 3 (some 26) (fl 14 11) rfl rfl ?_
 refine px_ 5 (some 28) (fl 14 43) rfl rfl ?_
 refine px_ 6 (some 29) (fl 14 107) rfl rfl ?_
 refine px_ 8 (some 31) (fl 14 363) rfl rfl ?_
 refine tx_ 2 (some 25) (fl 14 367) rfl rfl hHeld (by rintro w' hs;obtain ⟨j_k6_0_3,j_k6_1_3⟩:=bg2 hs k6_0_3 k6_1_3;go_simp;with_reducible rfl) ?_
 refine px_ 4 (some 27) (fl 14 383) rfl rfl ?_
 refine tx_ 7 (some 30) (fl 14 511) rfl rfl hHeld (by rintro w' hs;obtain ⟨j_k6_0_3,j_k6_1_3⟩:=bg2 hs k6_0_3 k6_1_3;go_simp;with_reducible rfl) ?_
 refine px_ 9 (some 32) (fl 14 1023) rfl rfl ?_
 refine px_ 10 (some 33) (fl 14 2047) rfl rfl ?_
 refine px_ 11 (some 34) (fl 14 4095) rfl rfl ?_
 refine zA (i:=12) (N:=some 13) (fl 14 8191) rfl rfl (by kernel_rfl) (by decide) (fun K hK=>?_)
 refine box_step rfl rfl (cs:=#[.int .i64 0,.int .i64 0,.int .i64 0,.int .i64 0,.int .i64 0,.int .i64 0,.int .i64 0,.int .i64 0]) (t:=136) (by first | (go_simp;done) | (go_simp;rfl)) ?_
 intro g13 hg Wc hbox hbl
 refine hK.out _ _ (zb hHeld hbl) (fun hHeld2=>?_)
 have L13:w.heap.size≤g13:=by rw [hg];exact zj (zb HB_3.out hHeld)
 have M13:W3.heap.size≤g13:=by rw [hg];exact hHeld.size
 have B13:=hhd hbox
 have NE6_13:=hhd (show g6≠g13 from fun e=>by have:=zf B6_3.out;omega)
 have NE13_6:=hhd (show g13≠g6 from fun e=>NE6_13.out e.symm)
 have NE7_13:=hhd (show g7≠g13 from fun e=>by have:=zf B7_3.out;omega)
 have NE13_7:=hhd (show g13≠g7 from fun e=>NE7_13.out e.symm)
 have NE12_13:=hhd (show g12≠g13 from fun e=>by have:=zf B12_3.out;omega)
 have NE13_12:=hhd (show g13≠g12 from fun e=>NE12_13.out e.symm)
 clear hK K hHeld hbl hbox hg
 have hHeld:=hHeld2
 clear hHeld2
 refine nx_ (some 13) ?_
 refine zaf (i:=13) (N:=none) (fl 14 16383) rfl rfl (by kernel_rfl) (by decide) (fun K hK=>?_)
 refine zC rfl rfl 136 _ _ rfl g13 #[.int .i64 (wrap64 ((a 0).f0*2^min bits.toNat 64)),.int .i64 (wrap64 ((a 0).f1*2^min bits.toNat 64)),.int .i64 0,.int .i64 0,.int .i64 0,.int .i64 0,.int .i64 0,.int .i64 0] rfl rfl 136 #[.int .i64 0,.int .i64 0,.int .i64 0,.int .i64 0,.int .i64 0,.int .i64 0,.int .i64 0,.int .i64 0] B13.out (zbK _ _ _ _ _ _ _ _) rfl (zeF _ _ _ _ _ _ _ _) ?_
 intro Wd hq hoth hbel
 refine hK.out _ _ ?_
 have E13:=hhd hq
 have HBd:=hhd (hbel _ _ L13 (zb HB_3.out hHeld))
 have E6:=hhd ((hoth _ NE6_13.out).trans (za B6_3.out hHeld))
 have E7:=hhd ((hoth _ NE7_13.out).trans (za B7_3.out hHeld))
 have E12:=hhd ((hoth _ NE12_13.out).trans (za B12_3.out hHeld))
 clear hK K hHeld hq hoth hbel
 refine zM (by kernel_rfl) ?_
 have e13:=E13.out
 rw [HA0.out,HA1.out] at e13
 have F13:=hhd e13
 clear e13 E13 B13 k6_0_3 k6_1_3 k6_2_3 k6_3_3 k6_4_3 k6_5_3 k6_6_3 k6_7_3 k7_0_3 k7_1_3 k7_2_3 k7_3_3 k7_4_3 k7_5_3 k7_6_3 k7_7_3 k12_0_3 k12_1_3 k12_2_3 k12_3_3 k12_4_3 k12_5_3 k12_6_3 k12_7_3 HB_3 B6_3 B7_3 B12_3
 go_wp2
 go_loopw [14] (fun s14 wr=>((s14=.int .i64 1∧wr.heap[g13]?=some (.cells #[.int .i64 (T 0).f0,.int .i64 (T 0).f1,.int .i64 0,.int .i64 0,.int .i64 0,.int .i64 0,.int .i64 0,.int .i64 0] 136 (0,0)))∨(s14=.int .i64 2∧wr.heap[g13]?=some (.cells #[.int .i64 (T 0).f0,.int .i64 (T 0).f1,.int .i64 (T 1).f0,.int .i64 (T 1).f1,.int .i64 0,.int .i64 0,.int .i64 0,.int .i64 0] 136 (0,0)))∨(s14=.int .i64 3∧wr.heap[g13]?=some (.cells #[.int .i64 (T 0).f0,.int .i64 (T 0).f1,.int .i64 (T 1).f0,.int .i64 (T 1).f1,.int .i64 (T 2).f0,.int .i64 (T 2).f1,.int .i64 0,.int .i64 0] 136 (0,0)))∨(s14=.int .i64 4∧wr.heap[g13]?=some (.cells #[.int .i64 (T 0).f0,.int .i64 (T 0).f1,.int .i64 (T 1).f0,.int .i64 (T 1).f1,.int .i64 (T 2).f0,.int .i64 (T 2).f1,.int .i64 (T 3).f0,.int .i64 (T 3).f1] 136 (0,0))))∧wr.heap[g6]?=some (.cells #[.int .i64 (a 0).f0,.int .i64 (a 0).f1,.int .i64 (a 1).f0,.int .i64 (a 1).f1,.int .i64 (a 2).f0,.int .i64 (a 2).f1,.int .i64 (a 3).f0,.int .i64 (a 3).f1] 136 (0,0))∧wr.heap[g7]?=some (.cells #[.int .i64 (w_ 0).f0,.int .i64 (w_ 0).f1,.int .i64 (w_ 1).f0,.int .i64 (w_ 1).f1,.int .i64 (w_ 2).f0,.int .i64 (w_ 2).f1,.int .i64 (w_ 3).f0,.int .i64 (w_ 3).f1] 136 (0,0))∧wr.heap[g12]?=some (.cells #[.int .i64 0,.int .i64 0,.int .i64 0,.int .i64 0,.int .i64 0,.int .i64 0,.int .i64 0,.int .i64 0] 136 (0,0))∧Below w.heap.size w wr) (fun i _=>4 - (intOf i).toNat)
 case atStart=>exact ⟨Or.inl ⟨rfl,F13.out⟩,E6.out,E7.out,E12.out,HBd.out⟩
 case round =>
  obtain ⟨hj,e6,e7,e12,hb⟩:=hrel
  have A6:=hhd e6
  have A7:=hhd e7
  have A12:=hhd e12
  have HBr:=hhd hb
  clear e6 e7 e12 hb E6 E7 E12 HBd F13
  rcases hj with ⟨rfl,e13⟩ | ⟨rfl,e13⟩ | ⟨rfl,e13⟩ | ⟨rfl,e13⟩ <;> have A13:=hhd e13 <;> clear e13
  ·have ka0:wr.cell? ⟨g6,2,none⟩=some (.int .i64 (a 1).f0):=(zc A6.out 2).trans rfl
   have ka1:wr.cell? ⟨g6,3,none⟩=some (.int .i64 (a 1).f1):=(zc A6.out 3).trans rfl
   have kw0:wr.cell? ⟨g7,2,none⟩=some (.int .i64 (w_ 1).f0):=(zc A7.out 2).trans rfl
   have kw1:wr.cell? ⟨g7,3,none⟩=some (.int .i64 (w_ 1).f1):=(zc A7.out 3).trans rfl
   go_wp2
   refine zae (S:=fun w'=>Below wr.heap.size wr w') (ds:=[12]) (fl 13 0) hmx rfl rfl (Below.refl _ _).drew (fun hHeld=>?_)
   refine px_ 0 (some 40) (fl 13 1) rfl rfl ?_
   refine px_ 1 (some 41) (fl 13 3) rfl rfl ?_
   refine px_ 2 (some 42) (fl 13 7) rfl rfl ?_
   refine px_ 4 (some 44) (fl 13 23) rfl rfl ?_
   refine px_ 5 (some 45) (fl 13 55) rfl rfl ?_
   refine tx_ 3 (some 43) (fl 13 63) rfl rfl hHeld (by rintro w' hs;obtain ⟨j_ka0,j_ka1,j_kw0,j_kw1⟩:=bg4 hs ka0 ka1 kw0 kw1;go_simp;with_reducible rfl) ?_
   refine tx_ 6 (some 46) (fl 13 127) rfl rfl hHeld (by rintro w' hs;obtain ⟨j_ka0,j_ka1,j_kw0,j_kw1⟩:=bg4 hs ka0 ka1 kw0 kw1;go_simp;with_reducible rfl) ?_
   refine zA (i:=7) (N:=some 47) (fl 13 255) rfl rfl (by kernel_rfl) (by decide) (fun K hK=>?_)
   refine zN Tryz.func104 (by kernel_rfl) rfl #[.agg #[.int .i64 (a 1).f0,.int .i64 (a 1).f1],.agg #[.int .i64 (w_ 1).f0,.int .i64 (w_ 1).f1]] (by rfl) rfl rfl (by go_simp) ?_
   refine (HT.out 1 (by decide) (by decide) _).mono ?_
   rintro e Wc ⟨rfl,hbl⟩
   refine ⟨_,rfl,?_⟩
   refine hK.out _ _ (zb hHeld hbl) (fun hHeld2=>?_)
   clear hK K hHeld hbl
   have hHeld:=hHeld2
   clear hHeld2
   refine nx_ (some 47) ?_
   refine px_ 8 (some 39) (fl 13 511) rfl rfl ?_
   refine px_ 9 (some 48) (fl 13 1023) rfl rfl ?_
   refine px_ 10 (some 49) (fl 13 2047) rfl rfl ?_
   refine px_ 11 (some 50) (fl 13 4095) rfl rfl ?_
   refine zaf (i:=12) (N:=none) (fl 13 8191) rfl rfl (by kernel_rfl) (by decide) (fun K hK=>?_)
   refine zeE rfl rfl 38 _ _ rfl g13 2 (.int .i64 (T 1).f0) (.int .i64 (T 1).f1) rfl rfl 136 _ (za A13.out hHeld) (show 2+2≤8 from by decide) zb0 rfl rfl #[.int .i64 (T 0).f0,.int .i64 (T 0).f1,.int .i64 (T 1).f0,.int .i64 (T 1).f1,.int .i64 0,.int .i64 0,.int .i64 0,.int .i64 0] rfl ?_
   intro Wd hq hoth hbel
   refine hK.out _ _ ?_
   have E13:=hhd hq
   have HBd:=hhd (hbel _ _ L13 (zb HBr.out hHeld))
   have E6:=hhd ((hoth _ NE6_13.out).trans (za A6.out hHeld))
   have E7:=hhd ((hoth _ NE7_13.out).trans (za A7.out hHeld))
   have E12:=hhd ((hoth _ NE12_13.out).trans (za A12.out hHeld))
   clear hK K hHeld hq hoth hbel
   refine zM (by kernel_rfl) ?_
   clear ka0 ka1 kw0 kw1
   go_wp2
   go_roundw
   case rel=>exact ⟨(Or.inr (Or.inl ⟨rfl,E13.out⟩)),E6.out,E7.out,E12.out,HBd.out⟩
   case measure=>simp [intOf]
  ·have ka0:wr.cell? ⟨g6,4,none⟩=some (.int .i64 (a 2).f0):=(zc A6.out 4).trans rfl
   have ka1:wr.cell? ⟨g6,5,none⟩=some (.int .i64 (a 2).f1):=(zc A6.out 5).trans rfl
   have kw0:wr.cell? ⟨g7,4,none⟩=some (.int .i64 (w_ 2).f0):=(zc A7.out 4).trans rfl
   have kw1:wr.cell? ⟨g7,5,none⟩=some (.int .i64 (w_ 2).f1):=(zc A7.out 5).trans rfl
   go_wp2
   refine zae (S:=fun w'=>Below wr.heap.size wr w') (ds:=[12]) (fl 13 0) hmx rfl rfl (Below.refl _ _).drew (fun hHeld=>?_)
   refine px_ 0 (some 40) (fl 13 1) rfl rfl ?_
   refine px_ 1 (some 41) (fl 13 3) rfl rfl ?_
   refine px_ 2 (some 42) (fl 13 7) rfl rfl ?_
   refine px_ 4 (some 44) (fl 13 23) rfl rfl ?_
   refine px_ 5 (some 45) (fl 13 55) rfl rfl ?_
   refine tx_ 3 (some 43) (fl 13 63) rfl rfl hHeld (by rintro w' hs;obtain ⟨j_ka0,j_ka1,j_kw0,j_kw1⟩:=bg4 hs ka0 ka1 kw0 kw1;go_simp;with_reducible rfl) ?_
   refine tx_ 6 (some 46) (fl 13 127) rfl rfl hHeld (by rintro w' hs;obtain ⟨j_ka0,j_ka1,j_kw0,j_kw1⟩:=bg4 hs ka0 ka1 kw0 kw1;go_simp;with_reducible rfl) ?_
   refine zA (i:=7) (N:=some 47) (fl 13 255) rfl rfl (by kernel_rfl) (by decide) (fun K hK=>?_)
   refine zN Tryz.func104 (by kernel_rfl) rfl #[.agg #[.int .i64 (a 2).f0,.int .i64 (a 2).f1],.agg #[.int .i64 (w_ 2).f0,.int .i64 (w_ 2).f1]] (by rfl) rfl rfl (by go_simp) ?_
   refine (HT.out 2 (by decide) (by decide) _).mono ?_
   rintro e Wc ⟨rfl,hbl⟩
   refine ⟨_,rfl,?_⟩
   refine hK.out _ _ (zb hHeld hbl) (fun hHeld2=>?_)
   clear hK K hHeld hbl
   have hHeld:=hHeld2
   clear hHeld2
   refine nx_ (some 47) ?_
   refine px_ 8 (some 39) (fl 13 511) rfl rfl ?_
   refine px_ 9 (some 48) (fl 13 1023) rfl rfl ?_
   refine px_ 10 (some 49) (fl 13 2047) rfl rfl ?_
   refine px_ 11 (some 50) (fl 13 4095) rfl rfl ?_
   refine zaf (i:=12) (N:=none) (fl 13 8191) rfl rfl (by kernel_rfl) (by decide) (fun K hK=>?_)
   refine zeE rfl rfl 38 _ _ rfl g13 4 (.int .i64 (T 2).f0) (.int .i64 (T 2).f1) rfl rfl 136 _ (za A13.out hHeld) (show 4+2≤8 from by decide) zb0 rfl rfl #[.int .i64 (T 0).f0,.int .i64 (T 0).f1,.int .i64 (T 1).f0,.int .i64 (T 1).f1,.int .i64 (T 2).f0,.int .i64 (T 2).f1,.int .i64 0,.int .i64 0] rfl ?_
   intro Wd hq hoth hbel
   refine hK.out _ _ ?_
   have E13:=hhd hq
   have HBd:=hhd (hbel _ _ L13 (zb HBr.out hHeld))
   have E6:=hhd ((hoth _ NE6_13.out).trans (za A6.out hHeld))
   have E7:=hhd ((hoth _ NE7_13.out).trans (za A7.out hHeld))
   have E12:=hhd ((hoth _ NE12_13.out).trans (za A12.out hHeld))
   clear hK K hHeld hq hoth hbel
   refine zM (by kernel_rfl) ?_
   clear ka0 ka1 kw0 kw1
   go_wp2
   go_roundw
   case rel=>exact ⟨(Or.inr (Or.inr (Or.inl ⟨rfl,E13.out⟩))),E6.out,E7.out,E12.out,HBd.out⟩
   case measure=>simp [intOf]
  ·have ka0:wr.cell? ⟨g6,6,none⟩=some (.int .i64 (a 3).f0):=(zc A6.out 6).trans rfl
   have ka1:wr.cell? ⟨g6,7,none⟩=some (.int .i64 (a 3).f1):=(zc A6.out 7).trans rfl
   have kw0:wr.cell? ⟨g7,6,none⟩=some (.int .i64 (w_ 3).f0):=(zc A7.out 6).trans rfl
   have kw1:wr.cell? ⟨g7,7,none⟩=some (.int .i64 (w_ 3).f1):=(zc A7.out 7).trans rfl
   go_wp2
   refine zae (S:=fun w'=>Below wr.heap.size wr w') (ds:=[12]) (fl 13 0) hmx rfl rfl (Below.refl _ _).drew (fun hHeld=>?_)
   refine px_ 0 (some 40) (fl 13 1) rfl rfl ?_
   refine px_ 1 (some 41) (fl 13 3) rfl rfl ?_
   refine px_ 2 (some 42) (fl 13 7) rfl rfl ?_
   refine px_ 4 (some 44) (fl 13 23) rfl rfl ?_
   refine px_ 5 (some 45) (fl 13 55) rfl rfl ?_
   refine tx_ 3 (some 43) (fl 13 63) rfl rfl hHeld (by rintro w' hs;obtain ⟨j_ka0,j_ka1,j_kw0,j_kw1⟩:=bg4 hs ka0 ka1 kw0 kw1;go_simp;with_reducible rfl) ?_
   refine tx_ 6 (some 46) (fl 13 127) rfl rfl hHeld (by rintro w' hs;obtain ⟨j_ka0,j_ka1,j_kw0,j_kw1⟩:=bg4 hs ka0 ka1 kw0 kw1;go_simp;with_reducible rfl) ?_
   refine zA (i:=7) (N:=some 47) (fl 13 255) rfl rfl (by kernel_rfl) (by decide) (fun K hK=>?_)
   refine zN Tryz.func104 (by kernel_rfl) rfl #[.agg #[.int .i64 (a 3).f0,.int .i64 (a 3).f1],.agg #[.int .i64 (w_ 3).f0,.int .i64 (w_ 3).f1]] (by rfl) rfl rfl (by go_simp) ?_
   refine (HT.out 3 (by decide) (by decide) _).mono ?_
   rintro e Wc ⟨rfl,hbl⟩
   refine ⟨_,rfl,?_⟩
   refine hK.out _ _ (zb hHeld hbl) (fun hHeld2=>?_)
   clear hK K hHeld hbl
   have hHeld:=hHeld2
   clear hHeld2
   refine nx_ (some 47) ?_
   refine px_ 8 (some 39) (fl 13 511) rfl rfl ?_
   refine px_ 9 (some 48) (fl 13 1023) rfl rfl ?_
   refine px_ 10 (some 49) (fl 13 2047) rfl rfl ?_
   refine px_ 11 (some 50) (fl 13 4095) rfl rfl ?_
   refine zaf (i:=12) (N:=none) (fl 13 8191) rfl rfl (by kernel_rfl) (by decide) (fun K hK=>?_)
   refine zeE rfl rfl 38 _ _ rfl g13 6 (.int .i64 (T 3).f0) (.int .i64 (T 3).f1) rfl rfl 136 _ (za A13.out hHeld) (show 6+2≤8 from by decide) zb0 rfl rfl #[.int .i64 (T 0).f0,.int .i64 (T 0).f1,.int .i64 (T 1).f0,.int .i64 (T 1).f1,.int .i64 (T 2).f0,.int .i64 (T 2).f1,.int .i64 (T 3).f0,.int .i64 (T 3).f1] rfl ?_
   intro Wd hq hoth hbel
   refine hK.out _ _ ?_
   have E13:=hhd hq
   have HBd:=hhd (hbel _ _ L13 (zb HBr.out hHeld))
   have E6:=hhd ((hoth _ NE6_13.out).trans (za A6.out hHeld))
   have E7:=hhd ((hoth _ NE7_13.out).trans (za A7.out hHeld))
   have E12:=hhd ((hoth _ NE12_13.out).trans (za A12.out hHeld))
   clear hK K hHeld hq hoth hbel
   refine zM (by kernel_rfl) ?_
   clear ka0 ka1 kw0 kw1
   go_wp2
   go_roundw
   case rel=>exact ⟨(Or.inr (Or.inr (Or.inr ⟨rfl,E13.out⟩))),E6.out,E7.out,E12.out,HBd.out⟩
   case measure=>simp [intOf]
  ·go_wp2_with (first
  | ((with_reducible refine zg (N:=15) rfl ?_);refine ba_ 15 #[.int .i64 0,.int .i64 0,.int .i64 0,.int .i64 0,.int .i64 0,.int .i64 0,.int .i64 0,.int .i64 0] 136 ?_;intro g15 hg W1 hbox hbl;have L15:=gf_ hg HBr.out;have B15_1:=hhd hbox;have HB_1:=hhd (zb HBr.out hbl);have B6_1:=hhd (za A6.out hbl);have B7_1:=hhd (za A7.out hbl);have B12_1:=hhd (za A12.out hbl);have B13_1:=hhd (za A13.out hbl);obtain ⟨k6_0_1,k6_1_1,k6_2_1,k6_3_1,k6_4_1,k6_5_1,k6_6_1,k6_7_1⟩:=bx8 (.int .i64 (a 0).f0) (.int .i64 (a 0).f1) (.int .i64 (a 1).f0) (.int .i64 (a 1).f1) (.int .i64 (a 2).f0) (.int .i64 (a 2).f1) (.int .i64 (a 3).f0) (.int .i64 (a 3).f1) B6_1.out;obtain ⟨k7_0_1,k7_1_1,k7_2_1,k7_3_1,k7_4_1,k7_5_1,k7_6_1,k7_7_1⟩:=bx8 (.int .i64 (w_ 0).f0) (.int .i64 (w_ 0).f1) (.int .i64 (w_ 1).f0) (.int .i64 (w_ 1).f1) (.int .i64 (w_ 2).f0) (.int .i64 (w_ 2).f1) (.int .i64 (w_ 3).f0) (.int .i64 (w_ 3).f1) B7_1.out;obtain ⟨k12_0_1,k12_1_1,k12_2_1,k12_3_1,k12_4_1,k12_5_1,k12_6_1,k12_7_1⟩:=bk8 B12_1.out;obtain ⟨k13_0_1,k13_1_1,k13_2_1,k13_3_1,k13_4_1,k13_5_1,k13_6_1,k13_7_1⟩:=bx8 (.int .i64 (T 0).f0) (.int .i64 (T 0).f1) (.int .i64 (T 1).f0) (.int .i64 (T 1).f1) (.int .i64 (T 2).f0) (.int .i64 (T 2).f1) (.int .i64 (T 3).f0) (.int .i64 (T 3).f1) B13_1.out;obtain ⟨k15_0_1,k15_1_1,k15_2_1,k15_3_1,k15_4_1,k15_5_1,k15_6_1,k15_7_1⟩:=bk8 B15_1.out;have NE12_15:=hhd (show g12≠g15 from fun e=>by have:=zf A12.out;omega);have NE15_12:=hhd (show g15≠g12 from fun e=>NE12_15.out e.symm);have NE13_15:=hhd (show g13≠g15 from fun e=>by have:=zf A13.out;omega);have NE15_13:=hhd (show g15≠g13 from fun e=>NE13_15.out e.symm);clear hbox hbl hg)
  | (go_at_call 113;(with_reducible refine (zj5 inv _).mono ?_);rintro e W2 ⟨rfl,hb⟩;have HB_2:=hhd (zb HB_1.out hb);have B6_2:=hhd (za B6_1.out hb);have B7_2:=hhd (za B7_1.out hb);have B12_2:=hhd (za B12_1.out hb);have B13_2:=hhd (za B13_1.out hb);have B15_2:=hhd (za B15_1.out hb);obtain ⟨k6_0_2,k6_1_2,k6_2_2,k6_3_2,k6_4_2,k6_5_2,k6_6_2,k6_7_2⟩:=bx8 (.int .i64 (a 0).f0) (.int .i64 (a 0).f1) (.int .i64 (a 1).f0) (.int .i64 (a 1).f1) (.int .i64 (a 2).f0) (.int .i64 (a 2).f1) (.int .i64 (a 3).f0) (.int .i64 (a 3).f1) B6_2.out;obtain ⟨k7_0_2,k7_1_2,k7_2_2,k7_3_2,k7_4_2,k7_5_2,k7_6_2,k7_7_2⟩:=bx8 (.int .i64 (w_ 0).f0) (.int .i64 (w_ 0).f1) (.int .i64 (w_ 1).f0) (.int .i64 (w_ 1).f1) (.int .i64 (w_ 2).f0) (.int .i64 (w_ 2).f1) (.int .i64 (w_ 3).f0) (.int .i64 (w_ 3).f1) B7_2.out;obtain ⟨k12_0_2,k12_1_2,k12_2_2,k12_3_2,k12_4_2,k12_5_2,k12_6_2,k12_7_2⟩:=bk8 B12_2.out;obtain ⟨k13_0_2,k13_1_2,k13_2_2,k13_3_2,k13_4_2,k13_5_2,k13_6_2,k13_7_2⟩:=bx8 (.int .i64 (T 0).f0) (.int .i64 (T 0).f1) (.int .i64 (T 1).f0) (.int .i64 (T 1).f1) (.int .i64 (T 2).f0) (.int .i64 (T 2).f1) (.int .i64 (T 3).f0) (.int .i64 (T 3).f1) B13_2.out;obtain ⟨k15_0_2,k15_1_2,k15_2_2,k15_3_2,k15_4_2,k15_5_2,k15_6_2,k15_7_2⟩:=bk8 B15_2.out;clear k6_0_1 k6_1_1 k6_2_1 k6_3_1 k6_4_1 k6_5_1 k6_6_1 k6_7_1 k7_0_1 k7_1_1 k7_2_1 k7_3_1 k7_4_1 k7_5_1 k7_6_1 k7_7_1 k12_0_1 k12_1_1 k12_2_1 k12_3_1 k12_4_1 k12_5_1 k12_6_1 k12_7_1 k13_0_1 k13_1_1 k13_2_1 k13_3_1 k13_4_1 k13_5_1 k13_6_1 k13_7_1 k15_0_1 k15_1_1 k15_2_1 k15_3_1 k15_4_1 k15_5_1 k15_6_1 k15_7_1;clear hb)
  | ((with_reducible refine zg (N:=16) rfl ?_);refine ba_ 16 #[.int .i64 0,.int .i64 0,.int .i64 0,.int .i64 0] 164 ?_;intro g16 hg W3 hbox hbl;have L16:=gf_ hg HB_2.out;have B16_3:=hhd hbox;have HB_3:=hhd (zb HB_2.out hbl);have B6_3:=hhd (za B6_2.out hbl);have B7_3:=hhd (za B7_2.out hbl);have B12_3:=hhd (za B12_2.out hbl);have B13_3:=hhd (za B13_2.out hbl);have B15_3:=hhd (za B15_2.out hbl);obtain ⟨k6_0_3,k6_1_3,k6_2_3,k6_3_3,k6_4_3,k6_5_3,k6_6_3,k6_7_3⟩:=bx8 (.int .i64 (a 0).f0) (.int .i64 (a 0).f1) (.int .i64 (a 1).f0) (.int .i64 (a 1).f1) (.int .i64 (a 2).f0) (.int .i64 (a 2).f1) (.int .i64 (a 3).f0) (.int .i64 (a 3).f1) B6_3.out;obtain ⟨k7_0_3,k7_1_3,k7_2_3,k7_3_3,k7_4_3,k7_5_3,k7_6_3,k7_7_3⟩:=bx8 (.int .i64 (w_ 0).f0) (.int .i64 (w_ 0).f1) (.int .i64 (w_ 1).f0) (.int .i64 (w_ 1).f1) (.int .i64 (w_ 2).f0) (.int .i64 (w_ 2).f1) (.int .i64 (w_ 3).f0) (.int .i64 (w_ 3).f1) B7_3.out;obtain ⟨k12_0_3,k12_1_3,k12_2_3,k12_3_3,k12_4_3,k12_5_3,k12_6_3,k12_7_3⟩:=bk8 B12_3.out;obtain ⟨k13_0_3,k13_1_3,k13_2_3,k13_3_3,k13_4_3,k13_5_3,k13_6_3,k13_7_3⟩:=bx8 (.int .i64 (T 0).f0) (.int .i64 (T 0).f1) (.int .i64 (T 1).f0) (.int .i64 (T 1).f1) (.int .i64 (T 2).f0) (.int .i64 (T 2).f1) (.int .i64 (T 3).f0) (.int .i64 (T 3).f1) B13_3.out;obtain ⟨k15_0_3,k15_1_3,k15_2_3,k15_3_3,k15_4_3,k15_5_3,k15_6_3,k15_7_3⟩:=bk8 B15_3.out;clear k6_0_2 k6_1_2 k6_2_2 k6_3_2 k6_4_2 k6_5_2 k6_6_2 k6_7_2 k7_0_2 k7_1_2 k7_2_2 k7_3_2 k7_4_2 k7_5_2 k7_6_2 k7_7_2 k12_0_2 k12_1_2 k12_2_2 k12_3_2 k12_4_2 k12_5_2 k12_6_2 k12_7_2 k13_0_2 k13_1_2 k13_2_2 k13_3_2 k13_4_2 k13_5_2 k13_6_2 k13_7_2 k15_0_2 k15_1_2 k15_2_2 k15_3_2 k15_4_2 k15_5_2 k15_6_2 k15_7_2;obtain ⟨k16_0_3,k16_1_3,k16_2_3,k16_3_3⟩:=bk4 B16_3.out;have NE6_16:=hhd (show g6≠g16 from fun e=>by have:=zf B6_2.out;omega);have NE16_6:=hhd (show g16≠g6 from fun e=>NE6_16.out e.symm);have NE7_16:=hhd (show g7≠g16 from fun e=>by have:=zf B7_2.out;omega);have NE16_7:=hhd (show g16≠g7 from fun e=>NE7_16.out e.symm);have NE12_16:=hhd (show g12≠g16 from fun e=>by have:=zf B12_2.out;omega);have NE16_12:=hhd (show g16≠g12 from fun e=>NE12_16.out e.symm);have NE13_16:=hhd (show g13≠g16 from fun e=>by have:=zf B13_2.out;omega);have NE16_13:=hhd (show g16≠g13 from fun e=>NE13_16.out e.symm);have NE15_16:=hhd (show g15≠g16 from fun e=>by have:=zf B15_2.out;omega);have NE16_15:=hhd (show g16≠g15 from fun e=>NE15_16.out e.symm);clear hbox hbl hg)
  | ((with_reducible refine zo (t:=164) (p:=16) rfl ?_);refine zv rfl 164 _ _ rfl g16 #[.int .i64 (byV inv 0),.int .i64 (byV inv 1),.int .i64 (byV inv 2),.int .i64 (byV inv 3)] rfl rfl 164 #[.int .i64 0,.int .i64 0,.int .i64 0,.int .i64 0] B16_3.out (zdW _ _ _ _) rfl (zhv _ _ _ _) ?_;intro W4 hq hoth hbel;have B16_4:=hhd hq;have HB_4:=hhd (hbel _ _ L16 HB_3.out);have B6_4:=hhd ((hoth _ NE6_16.out).trans B6_3.out);have B7_4:=hhd ((hoth _ NE7_16.out).trans B7_3.out);have B12_4:=hhd ((hoth _ NE12_16.out).trans B12_3.out);have B13_4:=hhd ((hoth _ NE13_16.out).trans B13_3.out);have B15_4:=hhd ((hoth _ NE15_16.out).trans B15_3.out);obtain ⟨k6_0_4,k6_1_4,k6_2_4,k6_3_4,k6_4_4,k6_5_4,k6_6_4,k6_7_4⟩:=bx8 (.int .i64 (a 0).f0) (.int .i64 (a 0).f1) (.int .i64 (a 1).f0) (.int .i64 (a 1).f1) (.int .i64 (a 2).f0) (.int .i64 (a 2).f1) (.int .i64 (a 3).f0) (.int .i64 (a 3).f1) B6_4.out;obtain ⟨k7_0_4,k7_1_4,k7_2_4,k7_3_4,k7_4_4,k7_5_4,k7_6_4,k7_7_4⟩:=bx8 (.int .i64 (w_ 0).f0) (.int .i64 (w_ 0).f1) (.int .i64 (w_ 1).f0) (.int .i64 (w_ 1).f1) (.int .i64 (w_ 2).f0) (.int .i64 (w_ 2).f1) (.int .i64 (w_ 3).f0) (.int .i64 (w_ 3).f1) B7_4.out;obtain ⟨k12_0_4,k12_1_4,k12_2_4,k12_3_4,k12_4_4,k12_5_4,k12_6_4,k12_7_4⟩:=bk8 B12_4.out;obtain ⟨k13_0_4,k13_1_4,k13_2_4,k13_3_4,k13_4_4,k13_5_4,k13_6_4,k13_7_4⟩:=bx8 (.int .i64 (T 0).f0) (.int .i64 (T 0).f1) (.int .i64 (T 1).f0) (.int .i64 (T 1).f1) (.int .i64 (T 2).f0) (.int .i64 (T 2).f1) (.int .i64 (T 3).f0) (.int .i64 (T 3).f1) B13_4.out;obtain ⟨k15_0_4,k15_1_4,k15_2_4,k15_3_4,k15_4_4,k15_5_4,k15_6_4,k15_7_4⟩:=bk8 B15_4.out;clear k6_0_3 k6_1_3 k6_2_3 k6_3_3 k6_4_3 k6_5_3 k6_6_3 k6_7_3 k7_0_3 k7_1_3 k7_2_3 k7_3_3 k7_4_3 k7_5_3 k7_6_3 k7_7_3 k12_0_3 k12_1_3 k12_2_3 k12_3_3 k12_4_3 k12_5_3 k12_6_3 k12_7_3 k13_0_3 k13_1_3 k13_2_3 k13_3_3 k13_4_3 k13_5_3 k13_6_3 k13_7_3 k15_0_3 k15_1_3 k15_2_3 k15_3_3 k15_4_3 k15_5_3 k15_6_3 k15_7_3 k16_0_3 k16_1_3 k16_2_3 k16_3_3;obtain ⟨k16_0_4,k16_1_4,k16_2_4,k16_3_4⟩:=bx4 (.int .i64 (byV inv 0)) (.int .i64 (byV inv 1)) (.int .i64 (byV inv 2)) (.int .i64 (byV inv 3)) B16_4.out;clear hq hoth hbel))
   clear k6_0_4 k6_1_4 k6_2_4 k6_3_4 k6_4_4 k6_5_4 k6_6_4 k6_7_4 k7_0_4 k7_1_4 k7_2_4 k7_3_4 k7_4_4 k7_5_4 k7_6_4 k7_7_4 k12_0_4 k12_1_4 k12_2_4 k12_3_4 k12_4_4 k12_5_4 k12_6_4 k12_7_4 k13_0_4 k13_1_4 k13_2_4 k13_3_4 k13_4_4 k13_5_4 k13_6_4 k13_7_4 k15_0_4 k15_1_4 k15_2_4 k15_3_4 k15_4_4 k15_5_4 k15_6_4 k15_7_4 k16_0_4 k16_1_4 k16_2_4 k16_3_4
   go_loopw [53] (fun s53 wr=>∃q:Nat,q≤4∧s53=.int .i64 q∧wr.heap[g15]?=some (.cells (zcY O q) 136 (0,0))∧wr.heap[g12]?=some (.cells #[.int .i64 0,.int .i64 0,.int .i64 0,.int .i64 0,.int .i64 0,.int .i64 0,.int .i64 0,.int .i64 0] 136 (0,0))∧wr.heap[g13]?=some (.cells #[.int .i64 (T 0).f0,.int .i64 (T 0).f1,.int .i64 (T 1).f0,.int .i64 (T 1).f1,.int .i64 (T 2).f0,.int .i64 (T 2).f1,.int .i64 (T 3).f0,.int .i64 (T 3).f1] 136 (0,0))∧wr.heap[g16]?=some (.cells #[.int .i64 (byV inv 0),.int .i64 (byV inv 1),.int .i64 (byV inv 2),.int .i64 (byV inv 3)] 164 (0,0))∧Below w.heap.size w wr) (fun i _=>4 - (intOf i).toNat)
   case atStart=>exact ⟨0,by decide,rfl,B15_4.out,B12_4.out,B13_4.out,B16_4.out,HB_4.out⟩
   case round =>
    obtain ⟨q,hq,rfl,p15,p12,p13,p16,pb⟩:=hrel
    have P12:=hhd p12
    have P13:=hhd p13
    have P15:=hhd p15
    have P16:=hhd p16
    have HBo:=hhd pb
    clear p12 p13 p15 p16 pb A6 A7 A12 A13 HBr B12_4 B13_4 B15_4 B16_4 HB_4
    by_cases hq4:q < 4
    ·go_wp2_with (first
  | ((with_reducible refine zg (N:=18) rfl ?_);refine ba_ 18 #[.int .i64 0,.int .i64 0] 38 ?_;intro g18 hg W1 hbox hbl;have L18:=gf_ hg HBo.out;have B18_1:=hhd hbox;have HB_1:=hhd (zb HBo.out hbl);have B12_1:=hhd (za P12.out hbl);have B13_1:=hhd (za P13.out hbl);have B15_1:=hhd (za P15.out hbl);have B16_1:=hhd (za P16.out hbl);obtain ⟨k12_0_1,k12_1_1,k12_2_1,k12_3_1,k12_4_1,k12_5_1,k12_6_1,k12_7_1⟩:=bk8 B12_1.out;obtain ⟨k13_0_1,k13_1_1,k13_2_1,k13_3_1,k13_4_1,k13_5_1,k13_6_1,k13_7_1⟩:=bx8 (.int .i64 (T 0).f0) (.int .i64 (T 0).f1) (.int .i64 (T 1).f0) (.int .i64 (T 1).f1) (.int .i64 (T 2).f0) (.int .i64 (T 2).f1) (.int .i64 (T 3).f0) (.int .i64 (T 3).f1) B13_1.out;obtain ⟨k16_0_1,k16_1_1,k16_2_1,k16_3_1⟩:=bx4 (.int .i64 (byV inv 0)) (.int .i64 (byV inv 1)) (.int .i64 (byV inv 2)) (.int .i64 (byV inv 3)) B16_1.out;obtain ⟨k18_0_1,k18_1_1⟩:=bk2 B18_1.out;have NE12_18:=hhd (show g12≠g18 from fun e=>by have:=zf P12.out;omega);have NE18_12:=hhd (show g18≠g12 from fun e=>NE12_18.out e.symm);have NE13_18:=hhd (show g13≠g18 from fun e=>by have:=zf P13.out;omega);have NE18_13:=hhd (show g18≠g13 from fun e=>NE13_18.out e.symm);have NE15_18:=hhd (show g15≠g18 from fun e=>by have:=zf P15.out;omega);have NE18_15:=hhd (show g18≠g15 from fun e=>NE15_18.out e.symm);have NE16_18:=hhd (show g16≠g18 from fun e=>by have:=zf P16.out;omega);have NE18_16:=hhd (show g18≠g16 from fun e=>NE16_18.out e.symm);clear hbox hbl hg)
  | ((with_reducible refine zg (N:=56) rfl ?_);refine wpList_load_row rfl 136 _ rfl g13 rfl 136 #[.int .i64 (T 0).f0,.int .i64 (T 0).f1,.int .i64 (T 1).f0,.int .i64 (T 1).f1,.int .i64 (T 2).f0,.int .i64 (T 2).f1,.int .i64 (T 3).f0,.int .i64 (T 3).f1] (0,0) _ B13_1.out Tryz.underlying136 rfl (zbK _ _ _ _ _ _ _ _) ?_))
     clear k12_0_1 k12_1_1 k12_2_1 k12_3_1 k12_4_1 k12_5_1 k12_6_1 k12_7_1 k13_0_1 k13_1_1 k13_2_1 k13_3_1 k13_4_1 k13_5_1 k13_6_1 k13_7_1 k16_0_1 k16_1_1 k16_2_1 k16_3_1 k18_0_1 k18_1_1
     go_loopw [57] (fun s57 wi=>∃k:Nat,k≤4∧((k=0∧s57=.int .i64 0)∨(k=1∧s57=.int .i64 1)∨(k=2∧s57=.int .i64 2)∨(k=3∧s57=.int .i64 3)∨(k=4∧s57=.int .i64 4))∧wi.heap[g15]?=some (.cells (zcY O q) 136 (0,0))∧wi.heap[g18]?=some (.cells #[.int .i64 (zah P q k).f0,.int .i64 (zah P q k).f1] 38 (0,0))∧wi.heap[g12]?=some (.cells #[.int .i64 0,.int .i64 0,.int .i64 0,.int .i64 0,.int .i64 0,.int .i64 0,.int .i64 0,.int .i64 0] 136 (0,0))∧wi.heap[g13]?=some (.cells #[.int .i64 (T 0).f0,.int .i64 (T 0).f1,.int .i64 (T 1).f0,.int .i64 (T 1).f1,.int .i64 (T 2).f0,.int .i64 (T 2).f1,.int .i64 (T 3).f0,.int .i64 (T 3).f1] 136 (0,0))∧wi.heap[g16]?=some (.cells #[.int .i64 (byV inv 0),.int .i64 (byV inv 1),.int .i64 (byV inv 2),.int .i64 (byV inv 3)] 164 (0,0))∧Below w.heap.size w wi) (fun i _=>4 - (intOf i).toNat)
     case atStart=>exact ⟨0,by decide,Or.inl ⟨rfl,rfl⟩,B15_1.out,B18_1.out,B12_1.out,B13_1.out,B16_1.out,HB_1.out⟩
     case round =>
      obtain ⟨k,hk,hkk,r15,r18,r12,r13,r16,rb⟩:=hrel
      have R12:=hhd r12
      have R13:=hhd r13
      have R15:=hhd r15
      have R16:=hhd r16
      have R18:=hhd r18
      have HBi:=hhd rb
      clear r12 r13 r15 r16 r18 rb P12 P13 P15 P16 HBo B18_1 B12_1 B13_1 B15_1 B16_1 HB_1
      rcases hkk with ⟨rfl,rfl⟩ | ⟨rfl,rfl⟩ | ⟨rfl,rfl⟩ | ⟨rfl,rfl⟩ | ⟨rfl,rfl⟩
      ·have hix:=zhx (.int .i64 (T 0).f0) (.int .i64 (T 0).f1) (.int .i64 (T 1).f0) (.int .i64 (T 1).f1) (.int .i64 (T 2).f0) (.int .i64 (T 2).f1) (.int .i64 (T 3).f0) (.int .i64 (T 3).f1)
       go_wp2_with (first
       | ((with_reducible refine zg (N:=20) rfl ?_);refine ba_ 20 #[.int .i64 0,.int .i64 0] 38 ?_;intro g20 hg W1 hbox hbl;have L20:=gf_ hg HBi.out;have B20_1:=hhd hbox;have HB_1:=hhd (zb HBi.out hbl);have B12_1:=hhd (za R12.out hbl);have B13_1:=hhd (za R13.out hbl);have B15_1:=hhd (za R15.out hbl);have B16_1:=hhd (za R16.out hbl);have B18_1:=hhd (za R18.out hbl);obtain ⟨k12_0_1,k12_1_1,k12_2_1,k12_3_1,k12_4_1,k12_5_1,k12_6_1,k12_7_1⟩:=bk8 B12_1.out;obtain ⟨k13_0_1,k13_1_1,k13_2_1,k13_3_1,k13_4_1,k13_5_1,k13_6_1,k13_7_1⟩:=bx8 (.int .i64 (T 0).f0) (.int .i64 (T 0).f1) (.int .i64 (T 1).f0) (.int .i64 (T 1).f1) (.int .i64 (T 2).f0) (.int .i64 (T 2).f1) (.int .i64 (T 3).f0) (.int .i64 (T 3).f1) B13_1.out;obtain ⟨k16_0_1,k16_1_1,k16_2_1,k16_3_1⟩:=bx4 (.int .i64 (byV inv 0)) (.int .i64 (byV inv 1)) (.int .i64 (byV inv 2)) (.int .i64 (byV inv 3)) B16_1.out;obtain ⟨k18_0_1,k18_1_1⟩:=bk2 B18_1.out;obtain ⟨k20_0_1,k20_1_1⟩:=bk2 B20_1.out;have NE12_20:=hhd (show g12≠g20 from fun e=>by have:=zf R12.out;omega);have NE20_12:=hhd (show g20≠g12 from fun e=>NE12_20.out e.symm);have NE13_20:=hhd (show g13≠g20 from fun e=>by have:=zf R13.out;omega);have NE20_13:=hhd (show g20≠g13 from fun e=>NE13_20.out e.symm);have NE15_20:=hhd (show g15≠g20 from fun e=>by have:=zf R15.out;omega);have NE20_15:=hhd (show g20≠g15 from fun e=>NE15_20.out e.symm);have NE16_20:=hhd (show g16≠g20 from fun e=>by have:=zf R16.out;omega);have NE20_16:=hhd (show g20≠g16 from fun e=>NE16_20.out e.symm);have NE18_20:=hhd (show g18≠g20 from fun e=>by have:=zf R18.out;omega);have NE20_18:=hhd (show g20≠g18 from fun e=>NE18_20.out e.symm);clear hbox hbl hg)
       | ((with_reducible refine zo (t:=38) (p:=20) rfl ?_);refine zv rfl 38 _ _ rfl g20 #[.int .i64 (T 0).f0,.int .i64 (T 0).f1] rfl rfl 38 #[.int .i64 0,.int .i64 0] B20_1.out (zu _ _) rfl (zG _ _) ?_;intro W2 hq hoth hbel;have B20_2:=hhd hq;have HB_2:=hhd (hbel _ _ L20 HB_1.out);have B12_2:=hhd ((hoth _ NE12_20.out).trans B12_1.out);have B13_2:=hhd ((hoth _ NE13_20.out).trans B13_1.out);have B15_2:=hhd ((hoth _ NE15_20.out).trans B15_1.out);have B16_2:=hhd ((hoth _ NE16_20.out).trans B16_1.out);have B18_2:=hhd ((hoth _ NE18_20.out).trans B18_1.out);obtain ⟨k12_0_2,k12_1_2,k12_2_2,k12_3_2,k12_4_2,k12_5_2,k12_6_2,k12_7_2⟩:=bk8 B12_2.out;obtain ⟨k13_0_2,k13_1_2,k13_2_2,k13_3_2,k13_4_2,k13_5_2,k13_6_2,k13_7_2⟩:=bx8 (.int .i64 (T 0).f0) (.int .i64 (T 0).f1) (.int .i64 (T 1).f0) (.int .i64 (T 1).f1) (.int .i64 (T 2).f0) (.int .i64 (T 2).f1) (.int .i64 (T 3).f0) (.int .i64 (T 3).f1) B13_2.out;obtain ⟨k16_0_2,k16_1_2,k16_2_2,k16_3_2⟩:=bx4 (.int .i64 (byV inv 0)) (.int .i64 (byV inv 1)) (.int .i64 (byV inv 2)) (.int .i64 (byV inv 3)) B16_2.out;obtain ⟨k18_0_2,k18_1_2⟩:=bk2 B18_2.out;clear k12_0_1 k12_1_1 k12_2_1 k12_3_1 k12_4_1 k12_5_1 k12_6_1 k12_7_1 k13_0_1 k13_1_1 k13_2_1 k13_3_1 k13_4_1 k13_5_1 k13_6_1 k13_7_1 k16_0_1 k16_1_1 k16_2_1 k16_3_1 k18_0_1 k18_1_1 k20_0_1 k20_1_1;obtain ⟨k20_0_2,k20_1_2⟩:=bx2 (.int .i64 (T 0).f0) (.int .i64 (T 0).f1) B20_2.out;clear hq hoth hbel))
       clear hix
       refine zae (S:=fun w'=>Below W2.heap.size W2 w') (ds:=[11]) (fl 13 0) hmx rfl rfl (Below.refl _ _).drew (fun hHeld=>?_)
       refine px_ 1 (some 63) (fl 13 2) rfl rfl ?_
       refine px_ 2 (some 64) (fl 13 6) rfl rfl ?_
       refine px_ 3 (some 65) (fl 13 14) rfl rfl ?_
       refine tx_ 0 (some 62) (fl 13 15) rfl rfl hHeld (by rintro w' hs;obtain ⟨j_k20_0_2,j_k20_1_2,j_k16_0_2⟩:=bg3 hs k20_0_2 k20_1_2 k16_0_2;go_simp;with_reducible rfl) ?_
       refine tx_ 4 (some 66) (fl 13 31) rfl rfl hHeld (by rintro w' hs;obtain ⟨j_k20_0_2,j_k20_1_2,j_k16_0_2⟩:=bg3 hs k20_0_2 k20_1_2 k16_0_2;go_simp;with_reducible rfl) ?_
       refine px_ 5 (some 67) (fl 13 63) rfl rfl ?_
       refine zaM (i:=6) (j:=10) (Ni:=some 68) (Nj:=some 21) (fl 13 127) (fl 13 1087) rfl rfl rfl rfl (by kernel_rfl) (by decide) (by decide) (fun K hK=>?e11_6) (fun K hK=>?e11_10)
       case' e11_6 =>
        refine zN Tryz.func96 (by kernel_rfl) rfl #[.agg #[.int .i64 (T 0).f0,.int .i64 (T 0).f1],.int .i64 (wrap64 (q*byV inv 0))] (by rfl) rfl rfl (by go_simp) ?_
        refine (HP.out q 0 hq4 (by decide) _).mono ?_
        rintro e Wc ⟨rfl,hbl⟩
        refine ⟨_,rfl,?_⟩
        refine hK.out _ _ (zb hHeld hbl) (fun hHeld2=>?_)
        clear hK K hHeld hbl
        have hHeld:=hHeld2
        clear hHeld2
        refine nx_ (some 68) ?_
        refine px_ 7 (some 61) (fl 13 255) rfl rfl ?_
        refine px_ 8 (some 69) (fl 13 511) rfl rfl ?_
        refine px_ 9 (some 70) (fl 13 1023) rfl rfl ?_
        refine zA (i:=10) (N:=some 21) (fl 13 2047) rfl rfl (by kernel_rfl) (by decide) (fun K hK=>?_)
        refine box_step rfl rfl (cs:=#[.int .i64 0,.int .i64 0]) (t:=38) (by first | (go_simp;done) | (go_simp;rfl)) ?_
        intro g21 hg Wc hbox hbl
        refine hK.out _ _ (zb hHeld hbl) (fun hHeld2=>?_)
        have L21:w.heap.size≤g21:=by rw [hg];exact zj (zb HB_2.out hHeld)
        have M21:W2.heap.size≤g21:=by rw [hg];exact hHeld.size
        have B21:=hhd hbox
        have NE12_21:=hhd (show g12≠g21 from fun e=>by have:=zf B12_2.out;omega)
        have NE13_21:=hhd (show g13≠g21 from fun e=>by have:=zf B13_2.out;omega)
        have NE15_21:=hhd (show g15≠g21 from fun e=>by have:=zf B15_2.out;omega)
        have NE16_21:=hhd (show g16≠g21 from fun e=>by have:=zf B16_2.out;omega)
        have NE18_21:=hhd (show g18≠g21 from fun e=>by have:=zf B18_2.out;omega)
        have NE20_21:=hhd (show g20≠g21 from fun e=>by have:=zf B20_2.out;omega)
        clear hK K hHeld hbl hbox hg
        have hHeld:=hHeld2
        clear hHeld2
        refine nx_ (some 21) ?_
        refine zaf (i:=11) (N:=none) (fl 13 4095) rfl rfl (by kernel_rfl) (by decide) (fun K hK=>?_)
        refine zC rfl rfl 38 _ _ rfl g21 #[.int .i64 (P q 0).f0,.int .i64 (P q 0).f1] rfl rfl 38 #[.int .i64 0,.int .i64 0] B21.out (zu _ _) rfl (zG _ _) ?_
        intro Wd hq_ hoth hbel
        refine hK.out _ _ ?_
        have E21:=hhd hq_
        have HBd:=hhd (hbel _ _ L21 (zb HB_2.out hHeld))
        have E12:=hhd ((hoth _ NE12_21.out).trans (za B12_2.out hHeld))
        have E13:=hhd ((hoth _ NE13_21.out).trans (za B13_2.out hHeld))
        have E15:=hhd ((hoth _ NE15_21.out).trans (za B15_2.out hHeld))
        have E16:=hhd ((hoth _ NE16_21.out).trans (za B16_2.out hHeld))
        have E18:=hhd ((hoth _ NE18_21.out).trans (za B18_2.out hHeld))
        have E20:=hhd ((hoth _ NE20_21.out).trans (za B20_2.out hHeld))
        clear hK K hHeld hq_ hoth hbel
        refine px_ 12 (some 22) (fl 13 8191) rfl rfl ?_
        refine zM (by kernel_rfl) ?_
       case' e11_10 =>
        refine box_step rfl rfl (cs:=#[.int .i64 0,.int .i64 0]) (t:=38) (by first | (go_simp;done) | (go_simp;rfl)) ?_
        intro g21 hg Wc hbox hbl
        refine hK.out _ _ (zb hHeld hbl) (fun hHeld2=>?_)
        have L21:w.heap.size≤g21:=by rw [hg];exact zj (zb HB_2.out hHeld)
        have M21:W2.heap.size≤g21:=by rw [hg];exact hHeld.size
        have B21:=hhd hbox
        have NE12_21:=hhd (show g12≠g21 from fun e=>by have:=zf B12_2.out;omega)
        have NE13_21:=hhd (show g13≠g21 from fun e=>by have:=zf B13_2.out;omega)
        have NE15_21:=hhd (show g15≠g21 from fun e=>by have:=zf B15_2.out;omega)
        have NE16_21:=hhd (show g16≠g21 from fun e=>by have:=zf B16_2.out;omega)
        have NE18_21:=hhd (show g18≠g21 from fun e=>by have:=zf B18_2.out;omega)
        have NE20_21:=hhd (show g20≠g21 from fun e=>by have:=zf B20_2.out;omega)
        clear hK K hHeld hbl hbox hg
        have hHeld:=hHeld2
        clear hHeld2
        refine nx_ (some 21) ?_
        refine zA (i:=6) (N:=some 68) (fl 13 1151) rfl rfl (by kernel_rfl) (by decide) (fun K hK=>?_)
        refine zN Tryz.func96 (by kernel_rfl) rfl #[.agg #[.int .i64 (T 0).f0,.int .i64 (T 0).f1],.int .i64 (wrap64 (q*byV inv 0))] (by rfl) rfl rfl (by go_simp) ?_
        refine (HP.out q 0 hq4 (by decide) _).mono ?_
        rintro e Wc ⟨rfl,hbl⟩
        refine ⟨_,rfl,?_⟩
        refine hK.out _ _ (zb hHeld hbl) (fun hHeld2=>?_)
        replace B21:=hhd (za B21.out hbl)
        clear hK K hHeld hbl
        have hHeld:=hHeld2
        clear hHeld2
        refine nx_ (some 68) ?_
        refine px_ 7 (some 61) (fl 13 1279) rfl rfl ?_
        refine px_ 8 (some 69) (fl 13 1535) rfl rfl ?_
        refine px_ 9 (some 70) (fl 13 2047) rfl rfl ?_
        refine zaf (i:=11) (N:=none) (fl 13 4095) rfl rfl (by kernel_rfl) (by decide) (fun K hK=>?_)
        refine zC rfl rfl 38 _ _ rfl g21 #[.int .i64 (P q 0).f0,.int .i64 (P q 0).f1] rfl rfl 38 #[.int .i64 0,.int .i64 0] B21.out (zu _ _) rfl (zG _ _) ?_
        intro Wd hq_ hoth hbel
        refine hK.out _ _ ?_
        have E21:=hhd hq_
        have HBd:=hhd (hbel _ _ L21 (zb HB_2.out hHeld))
        have E12:=hhd ((hoth _ NE12_21.out).trans (za B12_2.out hHeld))
        have E13:=hhd ((hoth _ NE13_21.out).trans (za B13_2.out hHeld))
        have E15:=hhd ((hoth _ NE15_21.out).trans (za B15_2.out hHeld))
        have E16:=hhd ((hoth _ NE16_21.out).trans (za B16_2.out hHeld))
        have E18:=hhd ((hoth _ NE18_21.out).trans (za B18_2.out hHeld))
        have E20:=hhd ((hoth _ NE20_21.out).trans (za B20_2.out hHeld))
        clear hK K hHeld hq_ hoth hbel
        refine px_ 12 (some 22) (fl 13 8191) rfl rfl ?_
        refine zM (by kernel_rfl) ?_
       all_goals
        clear B21 k12_0_2 k12_1_2 k12_2_2 k12_3_2 k12_4_2 k12_5_2 k12_6_2 k12_7_2 k13_0_2 k13_1_2 k13_2_2 k13_3_2 k13_4_2 k13_5_2 k13_6_2 k13_7_2 k16_0_2 k16_1_2 k16_2_2 k16_3_2 k18_0_2 k18_1_2 k20_0_2 k20_1_2
        go_wp2
        have kk:Wd.drew.cell? ⟨g18,0,none⟩=some (.int .i64 (zah P q 0).f0):=(zc E18.out 0).trans rfl
        have kc:Wd.drew.cell? ⟨g18,1,none⟩=some (.int .i64 (zah P q 0).f1):=(zc E18.out 1).trans rfl
        refine zae (S:=fun w'=>w'.heap[g21]?=some (.cells #[.int .i64 (P q 0).f0,.int .i64 (P q 0).f1] 38 (0,0))∧w'.cell? ⟨g18,1,none⟩=some (.int .i64 (zah P q 0).f1)) (ds:=[13]) (fl 14 0) hmx rfl rfl ⟨E21.out,kc⟩ (fun hHeld=>?_)
        refine px_ 0 (some 71) (fl 14 1) rfl rfl ?_
        refine px_ 2 (some 73) (fl 14 5) rfl rfl ?_
        refine px_ 5 (some 76) (fl 14 37) rfl rfl ?_
        refine px_ 7 (some 78) (fl 14 165) rfl rfl ?_
        refine tx_ 3 (some 74) (fl 14 173) rfl rfl hHeld (by rintro w' hs;have j0:w'.cell? ⟨g21,0,none⟩=some (.int .i64 (P q 0).f0):=(zc hs.1 0).trans rfl;have j1:w'.cell? ⟨g21,1,none⟩=some (.int .i64 (P q 0).f1):=(zc hs.1 1).trans rfl;have j2:=hs.2;go_simp;with_reducible rfl) ?_
        refine tx_ 6 (some 77) (fl 14 237) rfl rfl hHeld (by rintro w' hs;have j0:w'.cell? ⟨g21,0,none⟩=some (.int .i64 (P q 0).f0):=(zc hs.1 0).trans rfl;have j1:w'.cell? ⟨g21,1,none⟩=some (.int .i64 (P q 0).f1):=(zc hs.1 1).trans rfl;have j2:=hs.2;go_simp;with_reducible rfl) ?_
        refine tx_ 8 (some 79) (fl 14 493) rfl rfl hHeld (by rintro w' hs;have j0:w'.cell? ⟨g21,0,none⟩=some (.int .i64 (P q 0).f0):=(zc hs.1 0).trans rfl;have j1:w'.cell? ⟨g21,1,none⟩=some (.int .i64 (P q 0).f1):=(zc hs.1 1).trans rfl;have j2:=hs.2;go_simp;with_reducible rfl) ?_
        refine px_ 9 (some 80) (fl 14 1005) rfl rfl ?_
        refine zA (i:=1) (N:=some 72) (fl 14 1007) rfl rfl (by kernel_rfl) (by decide) (fun K hK=>?_)
        refine zdA rfl rfl _ rfl g18 0 (zah P q 0).f0 rfl kk ?_
        refine hK.out _ _ hHeld (fun _=>?_)
        clear hK K
        refine nx_ (some 72) ?_
        refine px_ 4 (some 75) (fl 14 1023) rfl rfl ?_
        refine px_ 10 (some 81) (fl 14 2047) rfl rfl ?_
        refine zA (i:=11) (N:=none) (fl 14 4095) rfl rfl (by kernel_rfl) (by decide) (fun K hK=>?_)
        refine zbn rfl rfl 3 _ _ rfl g18 0 (.int .i64 (wrap64 ((zah P q 0).f0+(P q 0).f0))) rfl rfl 38 _ E18.out (show (0:Nat) < 2 from by decide) zbY rfl rfl #[.int .i64 (wrap64 ((zah P q 0).f0+(P q 0).f0)),.int .i64 (zah P q 0).f1] rfl ?_
        intro We hq1 hoth1 hbel1
        refine hK.out _ _ ⟨(hoth1 _ NE18_21.out.symm).trans E21.out,(zc hq1 1).trans rfl⟩ (fun hHeld2=>?_)
        clear hK K hHeld kk kc
        have hHeld:=hHeld2
        clear hHeld2
        refine px_ 12 (some 82) (fl 14 8191) rfl rfl ?_
        refine zaf (i:=13) (N:=none) (fl 14 16383) rfl rfl (by kernel_rfl) (by decide) (fun K hK=>?_)
        refine zbn rfl rfl 3 _ _ rfl g18 1 (.int .i64 (wrap64 ((zah P q 0).f1+(P q 0).f1))) rfl rfl 38 _ hq1 (show (1:Nat) < 2 from by decide) zbY rfl rfl #[.int .i64 (wrap64 ((zah P q 0).f0+(P q 0).f0)),.int .i64 (wrap64 ((zah P q 0).f1+(P q 0).f1))] rfl ?_
        intro Wf hq2 hoth2 hbel2
        refine hK.out _ _ ?_
        have F18:=hhd hq2
        have F12:=hhd ((hoth2 _ NE12_18.out).trans ((hoth1 _ NE12_18.out).trans E12.out))
        have F13:=hhd ((hoth2 _ NE13_18.out).trans ((hoth1 _ NE13_18.out).trans E13.out))
        have F15:=hhd ((hoth2 _ NE15_18.out).trans ((hoth1 _ NE15_18.out).trans E15.out))
        have F16:=hhd ((hoth2 _ NE16_18.out).trans ((hoth1 _ NE16_18.out).trans E16.out))
        have HBf:=hhd (hbel2 _ _ L18 (hbel1 _ _ L18 HBd.out.drew))
        clear hK K hHeld hq1 hoth1 hbel1 hq2 hoth2 hbel2
        refine zM (by kernel_rfl) ?_
        go_wp2
        go_roundw
        case rel=>exact ⟨1,by decide,Or.inr (Or.inl ⟨rfl,rfl⟩),F15.out,F18.out,F12.out,F13.out,F16.out,HBf.out⟩
        case measure=>simp [intOf]
      ·have hix:=zhy (.int .i64 (T 0).f0) (.int .i64 (T 0).f1) (.int .i64 (T 1).f0) (.int .i64 (T 1).f1) (.int .i64 (T 2).f0) (.int .i64 (T 2).f1) (.int .i64 (T 3).f0) (.int .i64 (T 3).f1)
       go_wp2_with (first
       | ((with_reducible refine zg (N:=20) rfl ?_);refine ba_ 20 #[.int .i64 0,.int .i64 0] 38 ?_;intro g20 hg W1 hbox hbl;have L20:=gf_ hg HBi.out;have B20_1:=hhd hbox;have HB_1:=hhd (zb HBi.out hbl);have B12_1:=hhd (za R12.out hbl);have B13_1:=hhd (za R13.out hbl);have B15_1:=hhd (za R15.out hbl);have B16_1:=hhd (za R16.out hbl);have B18_1:=hhd (za R18.out hbl);obtain ⟨k12_0_1,k12_1_1,k12_2_1,k12_3_1,k12_4_1,k12_5_1,k12_6_1,k12_7_1⟩:=bk8 B12_1.out;obtain ⟨k13_0_1,k13_1_1,k13_2_1,k13_3_1,k13_4_1,k13_5_1,k13_6_1,k13_7_1⟩:=bx8 (.int .i64 (T 0).f0) (.int .i64 (T 0).f1) (.int .i64 (T 1).f0) (.int .i64 (T 1).f1) (.int .i64 (T 2).f0) (.int .i64 (T 2).f1) (.int .i64 (T 3).f0) (.int .i64 (T 3).f1) B13_1.out;obtain ⟨k16_0_1,k16_1_1,k16_2_1,k16_3_1⟩:=bx4 (.int .i64 (byV inv 0)) (.int .i64 (byV inv 1)) (.int .i64 (byV inv 2)) (.int .i64 (byV inv 3)) B16_1.out;obtain ⟨k18_0_1,k18_1_1⟩:=bk2 B18_1.out;obtain ⟨k20_0_1,k20_1_1⟩:=bk2 B20_1.out;have NE12_20:=hhd (show g12≠g20 from fun e=>by have:=zf R12.out;omega);have NE20_12:=hhd (show g20≠g12 from fun e=>NE12_20.out e.symm);have NE13_20:=hhd (show g13≠g20 from fun e=>by have:=zf R13.out;omega);have NE20_13:=hhd (show g20≠g13 from fun e=>NE13_20.out e.symm);have NE15_20:=hhd (show g15≠g20 from fun e=>by have:=zf R15.out;omega);have NE20_15:=hhd (show g20≠g15 from fun e=>NE15_20.out e.symm);have NE16_20:=hhd (show g16≠g20 from fun e=>by have:=zf R16.out;omega);have NE20_16:=hhd (show g20≠g16 from fun e=>NE16_20.out e.symm);have NE18_20:=hhd (show g18≠g20 from fun e=>by have:=zf R18.out;omega);have NE20_18:=hhd (show g20≠g18 from fun e=>NE18_20.out e.symm);clear hbox hbl hg)
       | ((with_reducible refine zo (t:=38) (p:=20) rfl ?_);refine zv rfl 38 _ _ rfl g20 #[.int .i64 (T 1).f0,.int .i64 (T 1).f1] rfl rfl 38 #[.int .i64 0,.int .i64 0] B20_1.out (zu _ _) rfl (zG _ _) ?_;intro W2 hq hoth hbel;have B20_2:=hhd hq;have HB_2:=hhd (hbel _ _ L20 HB_1.out);have B12_2:=hhd ((hoth _ NE12_20.out).trans B12_1.out);have B13_2:=hhd ((hoth _ NE13_20.out).trans B13_1.out);have B15_2:=hhd ((hoth _ NE15_20.out).trans B15_1.out);have B16_2:=hhd ((hoth _ NE16_20.out).trans B16_1.out);have B18_2:=hhd ((hoth _ NE18_20.out).trans B18_1.out);obtain ⟨k12_0_2,k12_1_2,k12_2_2,k12_3_2,k12_4_2,k12_5_2,k12_6_2,k12_7_2⟩:=bk8 B12_2.out;obtain ⟨k13_0_2,k13_1_2,k13_2_2,k13_3_2,k13_4_2,k13_5_2,k13_6_2,k13_7_2⟩:=bx8 (.int .i64 (T 0).f0) (.int .i64 (T 0).f1) (.int .i64 (T 1).f0) (.int .i64 (T 1).f1) (.int .i64 (T 2).f0) (.int .i64 (T 2).f1) (.int .i64 (T 3).f0) (.int .i64 (T 3).f1) B13_2.out;obtain ⟨k16_0_2,k16_1_2,k16_2_2,k16_3_2⟩:=bx4 (.int .i64 (byV inv 0)) (.int .i64 (byV inv 1)) (.int .i64 (byV inv 2)) (.int .i64 (byV inv 3)) B16_2.out;obtain ⟨k18_0_2,k18_1_2⟩:=bk2 B18_2.out;clear k12_0_1 k12_1_1 k12_2_1 k12_3_1 k12_4_1 k12_5_1 k12_6_1 k12_7_1 k13_0_1 k13_1_1 k13_2_1 k13_3_1 k13_4_1 k13_5_1 k13_6_1 k13_7_1 k16_0_1 k16_1_1 k16_2_1 k16_3_1 k18_0_1 k18_1_1 k20_0_1 k20_1_1;obtain ⟨k20_0_2,k20_1_2⟩:=bx2 (.int .i64 (T 1).f0) (.int .i64 (T 1).f1) B20_2.out;clear hq hoth hbel))
       clear hix
       refine zae (S:=fun w'=>Below W2.heap.size W2 w') (ds:=[11]) (fl 13 0) hmx rfl rfl (Below.refl _ _).drew (fun hHeld=>?_)
       refine px_ 1 (some 63) (fl 13 2) rfl rfl ?_
       refine px_ 2 (some 64) (fl 13 6) rfl rfl ?_
       refine px_ 3 (some 65) (fl 13 14) rfl rfl ?_
       refine tx_ 0 (some 62) (fl 13 15) rfl rfl hHeld (by rintro w' hs;obtain ⟨j_k20_0_2,j_k20_1_2,j_k16_1_2⟩:=bg3 hs k20_0_2 k20_1_2 k16_1_2;go_simp;with_reducible rfl) ?_
       refine tx_ 4 (some 66) (fl 13 31) rfl rfl hHeld (by rintro w' hs;obtain ⟨j_k20_0_2,j_k20_1_2,j_k16_1_2⟩:=bg3 hs k20_0_2 k20_1_2 k16_1_2;go_simp;with_reducible rfl) ?_
       refine px_ 5 (some 67) (fl 13 63) rfl rfl ?_
       refine zaM (i:=6) (j:=10) (Ni:=some 68) (Nj:=some 21) (fl 13 127) (fl 13 1087) rfl rfl rfl rfl (by kernel_rfl) (by decide) (by decide) (fun K hK=>?e21_6) (fun K hK=>?e21_10)
       case' e21_6 =>
        refine zN Tryz.func96 (by kernel_rfl) rfl #[.agg #[.int .i64 (T 1).f0,.int .i64 (T 1).f1],.int .i64 (wrap64 (q*byV inv 1))] (by rfl) rfl rfl (by go_simp) ?_
        refine (HP.out q 1 hq4 (by decide) _).mono ?_
        rintro e Wc ⟨rfl,hbl⟩
        refine ⟨_,rfl,?_⟩
        refine hK.out _ _ (zb hHeld hbl) (fun hHeld2=>?_)
        clear hK K hHeld hbl
        have hHeld:=hHeld2
        clear hHeld2
        refine nx_ (some 68) ?_
        refine px_ 7 (some 61) (fl 13 255) rfl rfl ?_
        refine px_ 8 (some 69) (fl 13 511) rfl rfl ?_
        refine px_ 9 (some 70) (fl 13 1023) rfl rfl ?_
        refine zA (i:=10) (N:=some 21) (fl 13 2047) rfl rfl (by kernel_rfl) (by decide) (fun K hK=>?_)
        refine box_step rfl rfl (cs:=#[.int .i64 0,.int .i64 0]) (t:=38) (by first | (go_simp;done) | (go_simp;rfl)) ?_
        intro g21 hg Wc hbox hbl
        refine hK.out _ _ (zb hHeld hbl) (fun hHeld2=>?_)
        have L21:w.heap.size≤g21:=by rw [hg];exact zj (zb HB_2.out hHeld)
        have M21:W2.heap.size≤g21:=by rw [hg];exact hHeld.size
        have B21:=hhd hbox
        have NE12_21:=hhd (show g12≠g21 from fun e=>by have:=zf B12_2.out;omega)
        have NE13_21:=hhd (show g13≠g21 from fun e=>by have:=zf B13_2.out;omega)
        have NE15_21:=hhd (show g15≠g21 from fun e=>by have:=zf B15_2.out;omega)
        have NE16_21:=hhd (show g16≠g21 from fun e=>by have:=zf B16_2.out;omega)
        have NE18_21:=hhd (show g18≠g21 from fun e=>by have:=zf B18_2.out;omega)
        have NE20_21:=hhd (show g20≠g21 from fun e=>by have:=zf B20_2.out;omega)
        clear hK K hHeld hbl hbox hg
        have hHeld:=hHeld2
        clear hHeld2
        refine nx_ (some 21) ?_
        refine zaf (i:=11) (N:=none) (fl 13 4095) rfl rfl (by kernel_rfl) (by decide) (fun K hK=>?_)
        refine zC rfl rfl 38 _ _ rfl g21 #[.int .i64 (P q 1).f0,.int .i64 (P q 1).f1] rfl rfl 38 #[.int .i64 0,.int .i64 0] B21.out (zu _ _) rfl (zG _ _) ?_
        intro Wd hq_ hoth hbel
        refine hK.out _ _ ?_
        have E21:=hhd hq_
        have HBd:=hhd (hbel _ _ L21 (zb HB_2.out hHeld))
        have E12:=hhd ((hoth _ NE12_21.out).trans (za B12_2.out hHeld))
        have E13:=hhd ((hoth _ NE13_21.out).trans (za B13_2.out hHeld))
        have E15:=hhd ((hoth _ NE15_21.out).trans (za B15_2.out hHeld))
        have E16:=hhd ((hoth _ NE16_21.out).trans (za B16_2.out hHeld))
        have E18:=hhd ((hoth _ NE18_21.out).trans (za B18_2.out hHeld))
        have E20:=hhd ((hoth _ NE20_21.out).trans (za B20_2.out hHeld))
        clear hK K hHeld hq_ hoth hbel
        refine px_ 12 (some 22) (fl 13 8191) rfl rfl ?_
        refine zM (by kernel_rfl) ?_
       case' e21_10 =>
        refine box_step rfl rfl (cs:=#[.int .i64 0,.int .i64 0]) (t:=38) (by first | (go_simp;done) | (go_simp;rfl)) ?_
        intro g21 hg Wc hbox hbl
        refine hK.out _ _ (zb hHeld hbl) (fun hHeld2=>?_)
        have L21:w.heap.size≤g21:=by rw [hg];exact zj (zb HB_2.out hHeld)
        have M21:W2.heap.size≤g21:=by rw [hg];exact hHeld.size
        have B21:=hhd hbox
        have NE12_21:=hhd (show g12≠g21 from fun e=>by have:=zf B12_2.out;omega)
        have NE13_21:=hhd (show g13≠g21 from fun e=>by have:=zf B13_2.out;omega)
        have NE15_21:=hhd (show g15≠g21 from fun e=>by have:=zf B15_2.out;omega)
        have NE16_21:=hhd (show g16≠g21 from fun e=>by have:=zf B16_2.out;omega)
        have NE18_21:=hhd (show g18≠g21 from fun e=>by have:=zf B18_2.out;omega)
        have NE20_21:=hhd (show g20≠g21 from fun e=>by have:=zf B20_2.out;omega)
        clear hK K hHeld hbl hbox hg
        have hHeld:=hHeld2
        clear hHeld2
        refine nx_ (some 21) ?_
        refine zA (i:=6) (N:=some 68) (fl 13 1151) rfl rfl (by kernel_rfl) (by decide) (fun K hK=>?_)
        refine zN Tryz.func96 (by kernel_rfl) rfl #[.agg #[.int .i64 (T 1).f0,.int .i64 (T 1).f1],.int .i64 (wrap64 (q*byV inv 1))] (by rfl) rfl rfl (by go_simp) ?_
        refine (HP.out q 1 hq4 (by decide) _).mono ?_
        rintro e Wc ⟨rfl,hbl⟩
        refine ⟨_,rfl,?_⟩
        refine hK.out _ _ (zb hHeld hbl) (fun hHeld2=>?_)
        replace B21:=hhd (za B21.out hbl)
        clear hK K hHeld hbl
        have hHeld:=hHeld2
        clear hHeld2
        refine nx_ (some 68) ?_
        refine px_ 7 (some 61) (fl 13 1279) rfl rfl ?_
        refine px_ 8 (some 69) (fl 13 1535) rfl rfl ?_
        refine px_ 9 (some 70) (fl 13 2047) rfl rfl ?_
        refine zaf (i:=11) (N:=none) (fl 13 4095) rfl rfl (by kernel_rfl) (by decide) (fun K hK=>?_)
        refine zC rfl rfl 38 _ _ rfl g21 #[.int .i64 (P q 1).f0,.int .i64 (P q 1).f1] rfl rfl 38 #[.int .i64 0,.int .i64 0] B21.out (zu _ _) rfl (zG _ _) ?_
        intro Wd hq_ hoth hbel
        refine hK.out _ _ ?_
        have E21:=hhd hq_
        have HBd:=hhd (hbel _ _ L21 (zb HB_2.out hHeld))
        have E12:=hhd ((hoth _ NE12_21.out).trans (za B12_2.out hHeld))
        have E13:=hhd ((hoth _ NE13_21.out).trans (za B13_2.out hHeld))
        have E15:=hhd ((hoth _ NE15_21.out).trans (za B15_2.out hHeld))
        have E16:=hhd ((hoth _ NE16_21.out).trans (za B16_2.out hHeld))
        have E18:=hhd ((hoth _ NE18_21.out).trans (za B18_2.out hHeld))
        have E20:=hhd ((hoth _ NE20_21.out).trans (za B20_2.out hHeld))
        clear hK K hHeld hq_ hoth hbel
        refine px_ 12 (some 22) (fl 13 8191) rfl rfl ?_
        refine zM (by kernel_rfl) ?_
       all_goals
        clear B21 k12_0_2 k12_1_2 k12_2_2 k12_3_2 k12_4_2 k12_5_2 k12_6_2 k12_7_2 k13_0_2 k13_1_2 k13_2_2 k13_3_2 k13_4_2 k13_5_2 k13_6_2 k13_7_2 k16_0_2 k16_1_2 k16_2_2 k16_3_2 k18_0_2 k18_1_2 k20_0_2 k20_1_2
        go_wp2
        have kk:Wd.drew.cell? ⟨g18,0,none⟩=some (.int .i64 (zah P q 1).f0):=(zc E18.out 0).trans rfl
        have kc:Wd.drew.cell? ⟨g18,1,none⟩=some (.int .i64 (zah P q 1).f1):=(zc E18.out 1).trans rfl
        refine zae (S:=fun w'=>w'.heap[g21]?=some (.cells #[.int .i64 (P q 1).f0,.int .i64 (P q 1).f1] 38 (0,0))∧w'.cell? ⟨g18,1,none⟩=some (.int .i64 (zah P q 1).f1)) (ds:=[13]) (fl 14 0) hmx rfl rfl ⟨E21.out,kc⟩ (fun hHeld=>?_)
        refine px_ 0 (some 71) (fl 14 1) rfl rfl ?_
        refine px_ 2 (some 73) (fl 14 5) rfl rfl ?_
        refine px_ 5 (some 76) (fl 14 37) rfl rfl ?_
        refine px_ 7 (some 78) (fl 14 165) rfl rfl ?_
        refine tx_ 3 (some 74) (fl 14 173) rfl rfl hHeld (by rintro w' hs;have j0:w'.cell? ⟨g21,0,none⟩=some (.int .i64 (P q 1).f0):=(zc hs.1 0).trans rfl;have j1:w'.cell? ⟨g21,1,none⟩=some (.int .i64 (P q 1).f1):=(zc hs.1 1).trans rfl;have j2:=hs.2;go_simp;with_reducible rfl) ?_
        refine tx_ 6 (some 77) (fl 14 237) rfl rfl hHeld (by rintro w' hs;have j0:w'.cell? ⟨g21,0,none⟩=some (.int .i64 (P q 1).f0):=(zc hs.1 0).trans rfl;have j1:w'.cell? ⟨g21,1,none⟩=some (.int .i64 (P q 1).f1):=(zc hs.1 1).trans rfl;have j2:=hs.2;go_simp;with_reducible rfl) ?_
        refine tx_ 8 (some 79) (fl 14 493) rfl rfl hHeld (by rintro w' hs;have j0:w'.cell? ⟨g21,0,none⟩=some (.int .i64 (P q 1).f0):=(zc hs.1 0).trans rfl;have j1:w'.cell? ⟨g21,1,none⟩=some (.int .i64 (P q 1).f1):=(zc hs.1 1).trans rfl;have j2:=hs.2;go_simp;with_reducible rfl) ?_
        refine px_ 9 (some 80) (fl 14 1005) rfl rfl ?_
        refine zA (i:=1) (N:=some 72) (fl 14 1007) rfl rfl (by kernel_rfl) (by decide) (fun K hK=>?_)
        refine zdA rfl rfl _ rfl g18 0 (zah P q 1).f0 rfl kk ?_
        refine hK.out _ _ hHeld (fun _=>?_)
        clear hK K
        refine nx_ (some 72) ?_
        refine px_ 4 (some 75) (fl 14 1023) rfl rfl ?_
        refine px_ 10 (some 81) (fl 14 2047) rfl rfl ?_
        refine zA (i:=11) (N:=none) (fl 14 4095) rfl rfl (by kernel_rfl) (by decide) (fun K hK=>?_)
        refine zbn rfl rfl 3 _ _ rfl g18 0 (.int .i64 (wrap64 ((zah P q 1).f0+(P q 1).f0))) rfl rfl 38 _ E18.out (show (0:Nat) < 2 from by decide) zbY rfl rfl #[.int .i64 (wrap64 ((zah P q 1).f0+(P q 1).f0)),.int .i64 (zah P q 1).f1] rfl ?_
        intro We hq1 hoth1 hbel1
        refine hK.out _ _ ⟨(hoth1 _ NE18_21.out.symm).trans E21.out,(zc hq1 1).trans rfl⟩ (fun hHeld2=>?_)
        clear hK K hHeld kk kc
        have hHeld:=hHeld2
        clear hHeld2
        refine px_ 12 (some 82) (fl 14 8191) rfl rfl ?_
        refine zaf (i:=13) (N:=none) (fl 14 16383) rfl rfl (by kernel_rfl) (by decide) (fun K hK=>?_)
        refine zbn rfl rfl 3 _ _ rfl g18 1 (.int .i64 (wrap64 ((zah P q 1).f1+(P q 1).f1))) rfl rfl 38 _ hq1 (show (1:Nat) < 2 from by decide) zbY rfl rfl #[.int .i64 (wrap64 ((zah P q 1).f0+(P q 1).f0)),.int .i64 (wrap64 ((zah P q 1).f1+(P q 1).f1))] rfl ?_
        intro Wf hq2 hoth2 hbel2
        refine hK.out _ _ ?_
        have F18:=hhd hq2
        have F12:=hhd ((hoth2 _ NE12_18.out).trans ((hoth1 _ NE12_18.out).trans E12.out))
        have F13:=hhd ((hoth2 _ NE13_18.out).trans ((hoth1 _ NE13_18.out).trans E13.out))
        have F15:=hhd ((hoth2 _ NE15_18.out).trans ((hoth1 _ NE15_18.out).trans E15.out))
        have F16:=hhd ((hoth2 _ NE16_18.out).trans ((hoth1 _ NE16_18.out).trans E16.out))
        have HBf:=hhd (hbel2 _ _ L18 (hbel1 _ _ L18 HBd.out.drew))
        clear hK K hHeld hq1 hoth1 hbel1 hq2 hoth2 hbel2
        refine zM (by kernel_rfl) ?_
        go_wp2
        go_roundw
        case rel=>exact ⟨2,by decide,Or.inr (Or.inr (Or.inl ⟨rfl,rfl⟩)),F15.out,F18.out,F12.out,F13.out,F16.out,HBf.out⟩
        case measure=>simp [intOf]
      ·have hix:=zhz (.int .i64 (T 0).f0) (.int .i64 (T 0).f1) (.int .i64 (T 1).f0) (.int .i64 (T 1).f1) (.int .i64 (T 2).f0) (.int .i64 (T 2).f1) (.int .i64 (T 3).f0) (.int .i64 (T 3).f1)
       go_wp2_with (first
       | ((with_reducible refine zg (N:=20) rfl ?_);refine ba_ 20 #[.int .i64 0,.int .i64 0] 38 ?_;intro g20 hg W1 hbox hbl;have L20:=gf_ hg HBi.out;have B20_1:=hhd hbox;have HB_1:=hhd (zb HBi.out hbl);have B12_1:=hhd (za R12.out hbl);have B13_1:=hhd (za R13.out hbl);have B15_1:=hhd (za R15.out hbl);have B16_1:=hhd (za R16.out hbl);have B18_1:=hhd (za R18.out hbl);obtain ⟨k12_0_1,k12_1_1,k12_2_1,k12_3_1,k12_4_1,k12_5_1,k12_6_1,k12_7_1⟩:=bk8 B12_1.out;obtain ⟨k13_0_1,k13_1_1,k13_2_1,k13_3_1,k13_4_1,k13_5_1,k13_6_1,k13_7_1⟩:=bx8 (.int .i64 (T 0).f0) (.int .i64 (T 0).f1) (.int .i64 (T 1).f0) (.int .i64 (T 1).f1) (.int .i64 (T 2).f0) (.int .i64 (T 2).f1) (.int .i64 (T 3).f0) (.int .i64 (T 3).f1) B13_1.out;obtain ⟨k16_0_1,k16_1_1,k16_2_1,k16_3_1⟩:=bx4 (.int .i64 (byV inv 0)) (.int .i64 (byV inv 1)) (.int .i64 (byV inv 2)) (.int .i64 (byV inv 3)) B16_1.out;obtain ⟨k18_0_1,k18_1_1⟩:=bk2 B18_1.out;obtain ⟨k20_0_1,k20_1_1⟩:=bk2 B20_1.out;have NE12_20:=hhd (show g12≠g20 from fun e=>by have:=zf R12.out;omega);have NE20_12:=hhd (show g20≠g12 from fun e=>NE12_20.out e.symm);have NE13_20:=hhd (show g13≠g20 from fun e=>by have:=zf R13.out;omega);have NE20_13:=hhd (show g20≠g13 from fun e=>NE13_20.out e.symm);have NE15_20:=hhd (show g15≠g20 from fun e=>by have:=zf R15.out;omega);have NE20_15:=hhd (show g20≠g15 from fun e=>NE15_20.out e.symm);have NE16_20:=hhd (show g16≠g20 from fun e=>by have:=zf R16.out;omega);have NE20_16:=hhd (show g20≠g16 from fun e=>NE16_20.out e.symm);have NE18_20:=hhd (show g18≠g20 from fun e=>by have:=zf R18.out;omega);have NE20_18:=hhd (show g20≠g18 from fun e=>NE18_20.out e.symm);clear hbox hbl hg)
       | ((with_reducible refine zo (t:=38) (p:=20) rfl ?_);refine zv rfl 38 _ _ rfl g20 #[.int .i64 (T 2).f0,.int .i64 (T 2).f1] rfl rfl 38 #[.int .i64 0,.int .i64 0] B20_1.out (zu _ _) rfl (zG _ _) ?_;intro W2 hq hoth hbel;have B20_2:=hhd hq;have HB_2:=hhd (hbel _ _ L20 HB_1.out);have B12_2:=hhd ((hoth _ NE12_20.out).trans B12_1.out);have B13_2:=hhd ((hoth _ NE13_20.out).trans B13_1.out);have B15_2:=hhd ((hoth _ NE15_20.out).trans B15_1.out);have B16_2:=hhd ((hoth _ NE16_20.out).trans B16_1.out);have B18_2:=hhd ((hoth _ NE18_20.out).trans B18_1.out);obtain ⟨k12_0_2,k12_1_2,k12_2_2,k12_3_2,k12_4_2,k12_5_2,k12_6_2,k12_7_2⟩:=bk8 B12_2.out;obtain ⟨k13_0_2,k13_1_2,k13_2_2,k13_3_2,k13_4_2,k13_5_2,k13_6_2,k13_7_2⟩:=bx8 (.int .i64 (T 0).f0) (.int .i64 (T 0).f1) (.int .i64 (T 1).f0) (.int .i64 (T 1).f1) (.int .i64 (T 2).f0) (.int .i64 (T 2).f1) (.int .i64 (T 3).f0) (.int .i64 (T 3).f1) B13_2.out;obtain ⟨k16_0_2,k16_1_2,k16_2_2,k16_3_2⟩:=bx4 (.int .i64 (byV inv 0)) (.int .i64 (byV inv 1)) (.int .i64 (byV inv 2)) (.int .i64 (byV inv 3)) B16_2.out;obtain ⟨k18_0_2,k18_1_2⟩:=bk2 B18_2.out;clear k12_0_1 k12_1_1 k12_2_1 k12_3_1 k12_4_1 k12_5_1 k12_6_1 k12_7_1 k13_0_1 k13_1_1 k13_2_1 k13_3_1 k13_4_1 k13_5_1 k13_6_1 k13_7_1 k16_0_1 k16_1_1 k16_2_1 k16_3_1 k18_0_1 k18_1_1 k20_0_1 k20_1_1;obtain ⟨k20_0_2,k20_1_2⟩:=bx2 (.int .i64 (T 2).f0) (.int .i64 (T 2).f1) B20_2.out;clear hq hoth hbel))
       clear hix
       refine zae (S:=fun w'=>Below W2.heap.size W2 w') (ds:=[11]) (fl 13 0) hmx rfl rfl (Below.refl _ _).drew (fun hHeld=>?_)
       refine px_ 1 (some 63) (fl 13 2) rfl rfl ?_
       refine px_ 2 (some 64) (fl 13 6) rfl rfl ?_
       refine px_ 3 (some 65) (fl 13 14) rfl rfl ?_
       refine tx_ 0 (some 62) (fl 13 15) rfl rfl hHeld (by rintro w' hs;obtain ⟨j_k20_0_2,j_k20_1_2,j_k16_2_2⟩:=bg3 hs k20_0_2 k20_1_2 k16_2_2;go_simp;with_reducible rfl) ?_
       refine tx_ 4 (some 66) (fl 13 31) rfl rfl hHeld (by rintro w' hs;obtain ⟨j_k20_0_2,j_k20_1_2,j_k16_2_2⟩:=bg3 hs k20_0_2 k20_1_2 k16_2_2;go_simp;with_reducible rfl) ?_
       refine px_ 5 (some 67) (fl 13 63) rfl rfl ?_
       refine zaM (i:=6) (j:=10) (Ni:=some 68) (Nj:=some 21) (fl 13 127) (fl 13 1087) rfl rfl rfl rfl (by kernel_rfl) (by decide) (by decide) (fun K hK=>?e31_6) (fun K hK=>?e31_10)
       case' e31_6 =>
        refine zN Tryz.func96 (by kernel_rfl) rfl #[.agg #[.int .i64 (T 2).f0,.int .i64 (T 2).f1],.int .i64 (wrap64 (q*byV inv 2))] (by rfl) rfl rfl (by go_simp) ?_
        refine (HP.out q 2 hq4 (by decide) _).mono ?_
        rintro e Wc ⟨rfl,hbl⟩
        refine ⟨_,rfl,?_⟩
        refine hK.out _ _ (zb hHeld hbl) (fun hHeld2=>?_)
        clear hK K hHeld hbl
        have hHeld:=hHeld2
        clear hHeld2
        refine nx_ (some 68) ?_
        refine px_ 7 (some 61) (fl 13 255) rfl rfl ?_
        refine px_ 8 (some 69) (fl 13 511) rfl rfl ?_
        refine px_ 9 (some 70) (fl 13 1023) rfl rfl ?_
        refine zA (i:=10) (N:=some 21) (fl 13 2047) rfl rfl (by kernel_rfl) (by decide) (fun K hK=>?_)
        refine box_step rfl rfl (cs:=#[.int .i64 0,.int .i64 0]) (t:=38) (by first | (go_simp;done) | (go_simp;rfl)) ?_
        intro g21 hg Wc hbox hbl
        refine hK.out _ _ (zb hHeld hbl) (fun hHeld2=>?_)
        have L21:w.heap.size≤g21:=by rw [hg];exact zj (zb HB_2.out hHeld)
        have M21:W2.heap.size≤g21:=by rw [hg];exact hHeld.size
        have B21:=hhd hbox
        have NE12_21:=hhd (show g12≠g21 from fun e=>by have:=zf B12_2.out;omega)
        have NE13_21:=hhd (show g13≠g21 from fun e=>by have:=zf B13_2.out;omega)
        have NE15_21:=hhd (show g15≠g21 from fun e=>by have:=zf B15_2.out;omega)
        have NE16_21:=hhd (show g16≠g21 from fun e=>by have:=zf B16_2.out;omega)
        have NE18_21:=hhd (show g18≠g21 from fun e=>by have:=zf B18_2.out;omega)
        have NE20_21:=hhd (show g20≠g21 from fun e=>by have:=zf B20_2.out;omega)
        clear hK K hHeld hbl hbox hg
        have hHeld:=hHeld2
        clear hHeld2
        refine nx_ (some 21) ?_
        refine zaf (i:=11) (N:=none) (fl 13 4095) rfl rfl (by kernel_rfl) (by decide) (fun K hK=>?_)
        refine zC rfl rfl 38 _ _ rfl g21 #[.int .i64 (P q 2).f0,.int .i64 (P q 2).f1] rfl rfl 38 #[.int .i64 0,.int .i64 0] B21.out (zu _ _) rfl (zG _ _) ?_
        intro Wd hq_ hoth hbel
        refine hK.out _ _ ?_
        have E21:=hhd hq_
        have HBd:=hhd (hbel _ _ L21 (zb HB_2.out hHeld))
        have E12:=hhd ((hoth _ NE12_21.out).trans (za B12_2.out hHeld))
        have E13:=hhd ((hoth _ NE13_21.out).trans (za B13_2.out hHeld))
        have E15:=hhd ((hoth _ NE15_21.out).trans (za B15_2.out hHeld))
        have E16:=hhd ((hoth _ NE16_21.out).trans (za B16_2.out hHeld))
        have E18:=hhd ((hoth _ NE18_21.out).trans (za B18_2.out hHeld))
        have E20:=hhd ((hoth _ NE20_21.out).trans (za B20_2.out hHeld))
        clear hK K hHeld hq_ hoth hbel
        refine px_ 12 (some 22) (fl 13 8191) rfl rfl ?_
        refine zM (by kernel_rfl) ?_
       case' e31_10 =>
        refine box_step rfl rfl (cs:=#[.int .i64 0,.int .i64 0]) (t:=38) (by first | (go_simp;done) | (go_simp;rfl)) ?_
        intro g21 hg Wc hbox hbl
        refine hK.out _ _ (zb hHeld hbl) (fun hHeld2=>?_)
        have L21:w.heap.size≤g21:=by rw [hg];exact zj (zb HB_2.out hHeld)
        have M21:W2.heap.size≤g21:=by rw [hg];exact hHeld.size
        have B21:=hhd hbox
        have NE12_21:=hhd (show g12≠g21 from fun e=>by have:=zf B12_2.out;omega)
        have NE13_21:=hhd (show g13≠g21 from fun e=>by have:=zf B13_2.out;omega)
        have NE15_21:=hhd (show g15≠g21 from fun e=>by have:=zf B15_2.out;omega)
        have NE16_21:=hhd (show g16≠g21 from fun e=>by have:=zf B16_2.out;omega)
        have NE18_21:=hhd (show g18≠g21 from fun e=>by have:=zf B18_2.out;omega)
        have NE20_21:=hhd (show g20≠g21 from fun e=>by have:=zf B20_2.out;omega)
        clear hK K hHeld hbl hbox hg
        have hHeld:=hHeld2
        clear hHeld2
        refine nx_ (some 21) ?_
        refine zA (i:=6) (N:=some 68) (fl 13 1151) rfl rfl (by kernel_rfl) (by decide) (fun K hK=>?_)
        refine zN Tryz.func96 (by kernel_rfl) rfl #[.agg #[.int .i64 (T 2).f0,.int .i64 (T 2).f1],.int .i64 (wrap64 (q*byV inv 2))] (by rfl) rfl rfl (by go_simp) ?_
        refine (HP.out q 2 hq4 (by decide) _).mono ?_
        rintro e Wc ⟨rfl,hbl⟩
        refine ⟨_,rfl,?_⟩
        refine hK.out _ _ (zb hHeld hbl) (fun hHeld2=>?_)
        replace B21:=hhd (za B21.out hbl)
        clear hK K hHeld hbl
        have hHeld:=hHeld2
        clear hHeld2
        refine nx_ (some 68) ?_
        refine px_ 7 (some 61) (fl 13 1279) rfl rfl ?_
        refine px_ 8 (some 69) (fl 13 1535) rfl rfl ?_
        refine px_ 9 (some 70) (fl 13 2047) rfl rfl ?_
        refine zaf (i:=11) (N:=none) (fl 13 4095) rfl rfl (by kernel_rfl) (by decide) (fun K hK=>?_)
        refine zC rfl rfl 38 _ _ rfl g21 #[.int .i64 (P q 2).f0,.int .i64 (P q 2).f1] rfl rfl 38 #[.int .i64 0,.int .i64 0] B21.out (zu _ _) rfl (zG _ _) ?_
        intro Wd hq_ hoth hbel
        refine hK.out _ _ ?_
        have E21:=hhd hq_
        have HBd:=hhd (hbel _ _ L21 (zb HB_2.out hHeld))
        have E12:=hhd ((hoth _ NE12_21.out).trans (za B12_2.out hHeld))
        have E13:=hhd ((hoth _ NE13_21.out).trans (za B13_2.out hHeld))
        have E15:=hhd ((hoth _ NE15_21.out).trans (za B15_2.out hHeld))
        have E16:=hhd ((hoth _ NE16_21.out).trans (za B16_2.out hHeld))
        have E18:=hhd ((hoth _ NE18_21.out).trans (za B18_2.out hHeld))
        have E20:=hhd ((hoth _ NE20_21.out).trans (za B20_2.out hHeld))
        clear hK K hHeld hq_ hoth hbel
        refine px_ 12 (some 22) (fl 13 8191) rfl rfl ?_
        refine zM (by kernel_rfl) ?_
       all_goals
        clear B21 k12_0_2 k12_1_2 k12_2_2 k12_3_2 k12_4_2 k12_5_2 k12_6_2 k12_7_2 k13_0_2 k13_1_2 k13_2_2 k13_3_2 k13_4_2 k13_5_2 k13_6_2 k13_7_2 k16_0_2 k16_1_2 k16_2_2 k16_3_2 k18_0_2 k18_1_2 k20_0_2 k20_1_2
        go_wp2
        have kk:Wd.drew.cell? ⟨g18,0,none⟩=some (.int .i64 (zah P q 2).f0):=(zc E18.out 0).trans rfl
        have kc:Wd.drew.cell? ⟨g18,1,none⟩=some (.int .i64 (zah P q 2).f1):=(zc E18.out 1).trans rfl
        refine zae (S:=fun w'=>w'.heap[g21]?=some (.cells #[.int .i64 (P q 2).f0,.int .i64 (P q 2).f1] 38 (0,0))∧w'.cell? ⟨g18,1,none⟩=some (.int .i64 (zah P q 2).f1)) (ds:=[13]) (fl 14 0) hmx rfl rfl ⟨E21.out,kc⟩ (fun hHeld=>?_)
        refine px_ 0 (some 71) (fl 14 1) rfl rfl ?_
        refine px_ 2 (some 73) (fl 14 5) rfl rfl ?_
        refine px_ 5 (some 76) (fl 14 37) rfl rfl ?_
        refine px_ 7 (some 78) (fl 14 165) rfl rfl ?_
        refine tx_ 3 (some 74) (fl 14 173) rfl rfl hHeld (by rintro w' hs;have j0:w'.cell? ⟨g21,0,none⟩=some (.int .i64 (P q 2).f0):=(zc hs.1 0).trans rfl;have j1:w'.cell? ⟨g21,1,none⟩=some (.int .i64 (P q 2).f1):=(zc hs.1 1).trans rfl;have j2:=hs.2;go_simp;with_reducible rfl) ?_
        refine tx_ 6 (some 77) (fl 14 237) rfl rfl hHeld (by rintro w' hs;have j0:w'.cell? ⟨g21,0,none⟩=some (.int .i64 (P q 2).f0):=(zc hs.1 0).trans rfl;have j1:w'.cell? ⟨g21,1,none⟩=some (.int .i64 (P q 2).f1):=(zc hs.1 1).trans rfl;have j2:=hs.2;go_simp;with_reducible rfl) ?_
        refine tx_ 8 (some 79) (fl 14 493) rfl rfl hHeld (by rintro w' hs;have j0:w'.cell? ⟨g21,0,none⟩=some (.int .i64 (P q 2).f0):=(zc hs.1 0).trans rfl;have j1:w'.cell? ⟨g21,1,none⟩=some (.int .i64 (P q 2).f1):=(zc hs.1 1).trans rfl;have j2:=hs.2;go_simp;with_reducible rfl) ?_
        refine px_ 9 (some 80) (fl 14 1005) rfl rfl ?_
        refine zA (i:=1) (N:=some 72) (fl 14 1007) rfl rfl (by kernel_rfl) (by decide) (fun K hK=>?_)
        refine zdA rfl rfl _ rfl g18 0 (zah P q 2).f0 rfl kk ?_
        refine hK.out _ _ hHeld (fun _=>?_)
        clear hK K
        refine nx_ (some 72) ?_
        refine px_ 4 (some 75) (fl 14 1023) rfl rfl ?_
        refine px_ 10 (some 81) (fl 14 2047) rfl rfl ?_
        refine zA (i:=11) (N:=none) (fl 14 4095) rfl rfl (by kernel_rfl) (by decide) (fun K hK=>?_)
        refine zbn rfl rfl 3 _ _ rfl g18 0 (.int .i64 (wrap64 ((zah P q 2).f0+(P q 2).f0))) rfl rfl 38 _ E18.out (show (0:Nat) < 2 from by decide) zbY rfl rfl #[.int .i64 (wrap64 ((zah P q 2).f0+(P q 2).f0)),.int .i64 (zah P q 2).f1] rfl ?_
        intro We hq1 hoth1 hbel1
        refine hK.out _ _ ⟨(hoth1 _ NE18_21.out.symm).trans E21.out,(zc hq1 1).trans rfl⟩ (fun hHeld2=>?_)
        clear hK K hHeld kk kc
        have hHeld:=hHeld2
        clear hHeld2
        refine px_ 12 (some 82) (fl 14 8191) rfl rfl ?_
        refine zaf (i:=13) (N:=none) (fl 14 16383) rfl rfl (by kernel_rfl) (by decide) (fun K hK=>?_)
        refine zbn rfl rfl 3 _ _ rfl g18 1 (.int .i64 (wrap64 ((zah P q 2).f1+(P q 2).f1))) rfl rfl 38 _ hq1 (show (1:Nat) < 2 from by decide) zbY rfl rfl #[.int .i64 (wrap64 ((zah P q 2).f0+(P q 2).f0)),.int .i64 (wrap64 ((zah P q 2).f1+(P q 2).f1))] rfl ?_
        intro Wf hq2 hoth2 hbel2
        refine hK.out _ _ ?_
        have F18:=hhd hq2
        have F12:=hhd ((hoth2 _ NE12_18.out).trans ((hoth1 _ NE12_18.out).trans E12.out))
        have F13:=hhd ((hoth2 _ NE13_18.out).trans ((hoth1 _ NE13_18.out).trans E13.out))
        have F15:=hhd ((hoth2 _ NE15_18.out).trans ((hoth1 _ NE15_18.out).trans E15.out))
        have F16:=hhd ((hoth2 _ NE16_18.out).trans ((hoth1 _ NE16_18.out).trans E16.out))
        have HBf:=hhd (hbel2 _ _ L18 (hbel1 _ _ L18 HBd.out.drew))
        clear hK K hHeld hq1 hoth1 hbel1 hq2 hoth2 hbel2
        refine zM (by kernel_rfl) ?_
        go_wp2
        go_roundw
        case rel=>exact ⟨3,by decide,Or.inr (Or.inr (Or.inr (Or.inl ⟨rfl,rfl⟩))),F15.out,F18.out,F12.out,F13.out,F16.out,HBf.out⟩
        case measure=>simp [intOf]
      ·have hix:=zhA (.int .i64 (T 0).f0) (.int .i64 (T 0).f1) (.int .i64 (T 1).f0) (.int .i64 (T 1).f1) (.int .i64 (T 2).f0) (.int .i64 (T 2).f1) (.int .i64 (T 3).f0) (.int .i64 (T 3).f1)
       go_wp2_with (first
       | ((with_reducible refine zg (N:=20) rfl ?_);refine ba_ 20 #[.int .i64 0,.int .i64 0] 38 ?_;intro g20 hg W1 hbox hbl;have L20:=gf_ hg HBi.out;have B20_1:=hhd hbox;have HB_1:=hhd (zb HBi.out hbl);have B12_1:=hhd (za R12.out hbl);have B13_1:=hhd (za R13.out hbl);have B15_1:=hhd (za R15.out hbl);have B16_1:=hhd (za R16.out hbl);have B18_1:=hhd (za R18.out hbl);obtain ⟨k12_0_1,k12_1_1,k12_2_1,k12_3_1,k12_4_1,k12_5_1,k12_6_1,k12_7_1⟩:=bk8 B12_1.out;obtain ⟨k13_0_1,k13_1_1,k13_2_1,k13_3_1,k13_4_1,k13_5_1,k13_6_1,k13_7_1⟩:=bx8 (.int .i64 (T 0).f0) (.int .i64 (T 0).f1) (.int .i64 (T 1).f0) (.int .i64 (T 1).f1) (.int .i64 (T 2).f0) (.int .i64 (T 2).f1) (.int .i64 (T 3).f0) (.int .i64 (T 3).f1) B13_1.out;obtain ⟨k16_0_1,k16_1_1,k16_2_1,k16_3_1⟩:=bx4 (.int .i64 (byV inv 0)) (.int .i64 (byV inv 1)) (.int .i64 (byV inv 2)) (.int .i64 (byV inv 3)) B16_1.out;obtain ⟨k18_0_1,k18_1_1⟩:=bk2 B18_1.out;obtain ⟨k20_0_1,k20_1_1⟩:=bk2 B20_1.out;have NE12_20:=hhd (show g12≠g20 from fun e=>by have:=zf R12.out;omega);have NE20_12:=hhd (show g20≠g12 from fun e=>NE12_20.out e.symm);have NE13_20:=hhd (show g13≠g20 from fun e=>by have:=zf R13.out;omega);have NE20_13:=hhd (show g20≠g13 from fun e=>NE13_20.out e.symm);have NE15_20:=hhd (show g15≠g20 from fun e=>by have:=zf R15.out;omega);have NE20_15:=hhd (show g20≠g15 from fun e=>NE15_20.out e.symm);have NE16_20:=hhd (show g16≠g20 from fun e=>by have:=zf R16.out;omega);have NE20_16:=hhd (show g20≠g16 from fun e=>NE16_20.out e.symm);have NE18_20:=hhd (show g18≠g20 from fun e=>by have:=zf R18.out;omega);have NE20_18:=hhd (show g20≠g18 from fun e=>NE18_20.out e.symm);clear hbox hbl hg)
       | ((with_reducible refine zo (t:=38) (p:=20) rfl ?_);refine zv rfl 38 _ _ rfl g20 #[.int .i64 (T 3).f0,.int .i64 (T 3).f1] rfl rfl 38 #[.int .i64 0,.int .i64 0] B20_1.out (zu _ _) rfl (zG _ _) ?_;intro W2 hq hoth hbel;have B20_2:=hhd hq;have HB_2:=hhd (hbel _ _ L20 HB_1.out);have B12_2:=hhd ((hoth _ NE12_20.out).trans B12_1.out);have B13_2:=hhd ((hoth _ NE13_20.out).trans B13_1.out);have B15_2:=hhd ((hoth _ NE15_20.out).trans B15_1.out);have B16_2:=hhd ((hoth _ NE16_20.out).trans B16_1.out);have B18_2:=hhd ((hoth _ NE18_20.out).trans B18_1.out);obtain ⟨k12_0_2,k12_1_2,k12_2_2,k12_3_2,k12_4_2,k12_5_2,k12_6_2,k12_7_2⟩:=bk8 B12_2.out;obtain ⟨k13_0_2,k13_1_2,k13_2_2,k13_3_2,k13_4_2,k13_5_2,k13_6_2,k13_7_2⟩:=bx8 (.int .i64 (T 0).f0) (.int .i64 (T 0).f1) (.int .i64 (T 1).f0) (.int .i64 (T 1).f1) (.int .i64 (T 2).f0) (.int .i64 (T 2).f1) (.int .i64 (T 3).f0) (.int .i64 (T 3).f1) B13_2.out;obtain ⟨k16_0_2,k16_1_2,k16_2_2,k16_3_2⟩:=bx4 (.int .i64 (byV inv 0)) (.int .i64 (byV inv 1)) (.int .i64 (byV inv 2)) (.int .i64 (byV inv 3)) B16_2.out;obtain ⟨k18_0_2,k18_1_2⟩:=bk2 B18_2.out;clear k12_0_1 k12_1_1 k12_2_1 k12_3_1 k12_4_1 k12_5_1 k12_6_1 k12_7_1 k13_0_1 k13_1_1 k13_2_1 k13_3_1 k13_4_1 k13_5_1 k13_6_1 k13_7_1 k16_0_1 k16_1_1 k16_2_1 k16_3_1 k18_0_1 k18_1_1 k20_0_1 k20_1_1;obtain ⟨k20_0_2,k20_1_2⟩:=bx2 (.int .i64 (T 3).f0) (.int .i64 (T 3).f1) B20_2.out;clear hq hoth hbel))
       clear hix
       refine zae (S:=fun w'=>Below W2.heap.size W2 w') (ds:=[11]) (fl 13 0) hmx rfl rfl (Below.refl _ _).drew (fun hHeld=>?_)
       refine px_ 1 (some 63) (fl 13 2) rfl rfl ?_
       refine px_ 2 (some 64) (fl 13 6) rfl rfl ?_
       refine px_ 3 (some 65) (fl 13 14) rfl rfl ?_
       refine tx_ 0 (some 62) (fl 13 15) rfl rfl hHeld (by rintro w' hs;obtain ⟨j_k20_0_2,j_k20_1_2,j_k16_3_2⟩:=bg3 hs k20_0_2 k20_1_2 k16_3_2;go_simp;with_reducible rfl) ?_
       refine tx_ 4 (some 66) (fl 13 31) rfl rfl hHeld (by rintro w' hs;obtain ⟨j_k20_0_2,j_k20_1_2,j_k16_3_2⟩:=bg3 hs k20_0_2 k20_1_2 k16_3_2;go_simp;with_reducible rfl) ?_
       refine px_ 5 (some 67) (fl 13 63) rfl rfl ?_
       refine zaM (i:=6) (j:=10) (Ni:=some 68) (Nj:=some 21) (fl 13 127) (fl 13 1087) rfl rfl rfl rfl (by kernel_rfl) (by decide) (by decide) (fun K hK=>?e41_6) (fun K hK=>?e41_10)
       case' e41_6 =>
        refine zN Tryz.func96 (by kernel_rfl) rfl #[.agg #[.int .i64 (T 3).f0,.int .i64 (T 3).f1],.int .i64 (wrap64 (q*byV inv 3))] (by rfl) rfl rfl (by go_simp) ?_
        refine (HP.out q 3 hq4 (by decide) _).mono ?_
        rintro e Wc ⟨rfl,hbl⟩
        refine ⟨_,rfl,?_⟩
        refine hK.out _ _ (zb hHeld hbl) (fun hHeld2=>?_)
        clear hK K hHeld hbl
        have hHeld:=hHeld2
        clear hHeld2
        refine nx_ (some 68) ?_
        refine px_ 7 (some 61) (fl 13 255) rfl rfl ?_
        refine px_ 8 (some 69) (fl 13 511) rfl rfl ?_
        refine px_ 9 (some 70) (fl 13 1023) rfl rfl ?_
        refine zA (i:=10) (N:=some 21) (fl 13 2047) rfl rfl (by kernel_rfl) (by decide) (fun K hK=>?_)
        refine box_step rfl rfl (cs:=#[.int .i64 0,.int .i64 0]) (t:=38) (by first | (go_simp;done) | (go_simp;rfl)) ?_
        intro g21 hg Wc hbox hbl
        refine hK.out _ _ (zb hHeld hbl) (fun hHeld2=>?_)
        have L21:w.heap.size≤g21:=by rw [hg];exact zj (zb HB_2.out hHeld)
        have M21:W2.heap.size≤g21:=by rw [hg];exact hHeld.size
        have B21:=hhd hbox
        have NE12_21:=hhd (show g12≠g21 from fun e=>by have:=zf B12_2.out;omega)
        have NE13_21:=hhd (show g13≠g21 from fun e=>by have:=zf B13_2.out;omega)
        have NE15_21:=hhd (show g15≠g21 from fun e=>by have:=zf B15_2.out;omega)
        have NE16_21:=hhd (show g16≠g21 from fun e=>by have:=zf B16_2.out;omega)
        have NE18_21:=hhd (show g18≠g21 from fun e=>by have:=zf B18_2.out;omega)
        have NE20_21:=hhd (show g20≠g21 from fun e=>by have:=zf B20_2.out;omega)
        clear hK K hHeld hbl hbox hg
        have hHeld:=hHeld2
        clear hHeld2
        refine nx_ (some 21) ?_
        refine zaf (i:=11) (N:=none) (fl 13 4095) rfl rfl (by kernel_rfl) (by decide) (fun K hK=>?_)
        refine zC rfl rfl 38 _ _ rfl g21 #[.int .i64 (P q 3).f0,.int .i64 (P q 3).f1] rfl rfl 38 #[.int .i64 0,.int .i64 0] B21.out (zu _ _) rfl (zG _ _) ?_
        intro Wd hq_ hoth hbel
        refine hK.out _ _ ?_
        have E21:=hhd hq_
        have HBd:=hhd (hbel _ _ L21 (zb HB_2.out hHeld))
        have E12:=hhd ((hoth _ NE12_21.out).trans (za B12_2.out hHeld))
        have E13:=hhd ((hoth _ NE13_21.out).trans (za B13_2.out hHeld))
        have E15:=hhd ((hoth _ NE15_21.out).trans (za B15_2.out hHeld))
        have E16:=hhd ((hoth _ NE16_21.out).trans (za B16_2.out hHeld))
        have E18:=hhd ((hoth _ NE18_21.out).trans (za B18_2.out hHeld))
        have E20:=hhd ((hoth _ NE20_21.out).trans (za B20_2.out hHeld))
        clear hK K hHeld hq_ hoth hbel
        refine px_ 12 (some 22) (fl 13 8191) rfl rfl ?_
        refine zM (by kernel_rfl) ?_
       case' e41_10 =>
        refine box_step rfl rfl (cs:=#[.int .i64 0,.int .i64 0]) (t:=38) (by first | (go_simp;done) | (go_simp;rfl)) ?_
        intro g21 hg Wc hbox hbl
        refine hK.out _ _ (zb hHeld hbl) (fun hHeld2=>?_)
        have L21:w.heap.size≤g21:=by rw [hg];exact zj (zb HB_2.out hHeld)
        have M21:W2.heap.size≤g21:=by rw [hg];exact hHeld.size
        have B21:=hhd hbox
        have NE12_21:=hhd (show g12≠g21 from fun e=>by have:=zf B12_2.out;omega)
        have NE13_21:=hhd (show g13≠g21 from fun e=>by have:=zf B13_2.out;omega)
        have NE15_21:=hhd (show g15≠g21 from fun e=>by have:=zf B15_2.out;omega)
        have NE16_21:=hhd (show g16≠g21 from fun e=>by have:=zf B16_2.out;omega)
        have NE18_21:=hhd (show g18≠g21 from fun e=>by have:=zf B18_2.out;omega)
        have NE20_21:=hhd (show g20≠g21 from fun e=>by have:=zf B20_2.out;omega)
        clear hK K hHeld hbl hbox hg
        have hHeld:=hHeld2
        clear hHeld2
        refine nx_ (some 21) ?_
        refine zA (i:=6) (N:=some 68) (fl 13 1151) rfl rfl (by kernel_rfl) (by decide) (fun K hK=>?_)
        refine zN Tryz.func96 (by kernel_rfl) rfl #[.agg #[.int .i64 (T 3).f0,.int .i64 (T 3).f1],.int .i64 (wrap64 (q*byV inv 3))] (by rfl) rfl rfl (by go_simp) ?_
        refine (HP.out q 3 hq4 (by decide) _).mono ?_
        rintro e Wc ⟨rfl,hbl⟩
        refine ⟨_,rfl,?_⟩
        refine hK.out _ _ (zb hHeld hbl) (fun hHeld2=>?_)
        replace B21:=hhd (za B21.out hbl)
        clear hK K hHeld hbl
        have hHeld:=hHeld2
        clear hHeld2
        refine nx_ (some 68) ?_
        refine px_ 7 (some 61) (fl 13 1279) rfl rfl ?_
        refine px_ 8 (some 69) (fl 13 1535) rfl rfl ?_
        refine px_ 9 (some 70) (fl 13 2047) rfl rfl ?_
        refine zaf (i:=11) (N:=none) (fl 13 4095) rfl rfl (by kernel_rfl) (by decide) (fun K hK=>?_)
        refine zC rfl rfl 38 _ _ rfl g21 #[.int .i64 (P q 3).f0,.int .i64 (P q 3).f1] rfl rfl 38 #[.int .i64 0,.int .i64 0] B21.out (zu _ _) rfl (zG _ _) ?_
        intro Wd hq_ hoth hbel
        refine hK.out _ _ ?_
        have E21:=hhd hq_
        have HBd:=hhd (hbel _ _ L21 (zb HB_2.out hHeld))
        have E12:=hhd ((hoth _ NE12_21.out).trans (za B12_2.out hHeld))
        have E13:=hhd ((hoth _ NE13_21.out).trans (za B13_2.out hHeld))
        have E15:=hhd ((hoth _ NE15_21.out).trans (za B15_2.out hHeld))
        have E16:=hhd ((hoth _ NE16_21.out).trans (za B16_2.out hHeld))
        have E18:=hhd ((hoth _ NE18_21.out).trans (za B18_2.out hHeld))
        have E20:=hhd ((hoth _ NE20_21.out).trans (za B20_2.out hHeld))
        clear hK K hHeld hq_ hoth hbel
        refine px_ 12 (some 22) (fl 13 8191) rfl rfl ?_
        refine zM (by kernel_rfl) ?_
       all_goals
        clear B21 k12_0_2 k12_1_2 k12_2_2 k12_3_2 k12_4_2 k12_5_2 k12_6_2 k12_7_2 k13_0_2 k13_1_2 k13_2_2 k13_3_2 k13_4_2 k13_5_2 k13_6_2 k13_7_2 k16_0_2 k16_1_2 k16_2_2 k16_3_2 k18_0_2 k18_1_2 k20_0_2 k20_1_2
        go_wp2
        have kk:Wd.drew.cell? ⟨g18,0,none⟩=some (.int .i64 (zah P q 3).f0):=(zc E18.out 0).trans rfl
        have kc:Wd.drew.cell? ⟨g18,1,none⟩=some (.int .i64 (zah P q 3).f1):=(zc E18.out 1).trans rfl
        refine zae (S:=fun w'=>w'.heap[g21]?=some (.cells #[.int .i64 (P q 3).f0,.int .i64 (P q 3).f1] 38 (0,0))∧w'.cell? ⟨g18,1,none⟩=some (.int .i64 (zah P q 3).f1)) (ds:=[13]) (fl 14 0) hmx rfl rfl ⟨E21.out,kc⟩ (fun hHeld=>?_)
        refine px_ 0 (some 71) (fl 14 1) rfl rfl ?_
        refine px_ 2 (some 73) (fl 14 5) rfl rfl ?_
        refine px_ 5 (some 76) (fl 14 37) rfl rfl ?_
        refine px_ 7 (some 78) (fl 14 165) rfl rfl ?_
        refine tx_ 3 (some 74) (fl 14 173) rfl rfl hHeld (by rintro w' hs;have j0:w'.cell? ⟨g21,0,none⟩=some (.int .i64 (P q 3).f0):=(zc hs.1 0).trans rfl;have j1:w'.cell? ⟨g21,1,none⟩=some (.int .i64 (P q 3).f1):=(zc hs.1 1).trans rfl;have j2:=hs.2;go_simp;with_reducible rfl) ?_
        refine tx_ 6 (some 77) (fl 14 237) rfl rfl hHeld (by rintro w' hs;have j0:w'.cell? ⟨g21,0,none⟩=some (.int .i64 (P q 3).f0):=(zc hs.1 0).trans rfl;have j1:w'.cell? ⟨g21,1,none⟩=some (.int .i64 (P q 3).f1):=(zc hs.1 1).trans rfl;have j2:=hs.2;go_simp;with_reducible rfl) ?_
        refine tx_ 8 (some 79) (fl 14 493) rfl rfl hHeld (by rintro w' hs;have j0:w'.cell? ⟨g21,0,none⟩=some (.int .i64 (P q 3).f0):=(zc hs.1 0).trans rfl;have j1:w'.cell? ⟨g21,1,none⟩=some (.int .i64 (P q 3).f1):=(zc hs.1 1).trans rfl;have j2:=hs.2;go_simp;with_reducible rfl) ?_
        refine px_ 9 (some 80) (fl 14 1005) rfl rfl ?_
        refine zA (i:=1) (N:=some 72) (fl 14 1007) rfl rfl (by kernel_rfl) (by decide) (fun K hK=>?_)
        refine zdA rfl rfl _ rfl g18 0 (zah P q 3).f0 rfl kk ?_
        refine hK.out _ _ hHeld (fun _=>?_)
        clear hK K
        refine nx_ (some 72) ?_
        refine px_ 4 (some 75) (fl 14 1023) rfl rfl ?_
        refine px_ 10 (some 81) (fl 14 2047) rfl rfl ?_
        refine zA (i:=11) (N:=none) (fl 14 4095) rfl rfl (by kernel_rfl) (by decide) (fun K hK=>?_)
        refine zbn rfl rfl 3 _ _ rfl g18 0 (.int .i64 (wrap64 ((zah P q 3).f0+(P q 3).f0))) rfl rfl 38 _ E18.out (show (0:Nat) < 2 from by decide) zbY rfl rfl #[.int .i64 (wrap64 ((zah P q 3).f0+(P q 3).f0)),.int .i64 (zah P q 3).f1] rfl ?_
        intro We hq1 hoth1 hbel1
        refine hK.out _ _ ⟨(hoth1 _ NE18_21.out.symm).trans E21.out,(zc hq1 1).trans rfl⟩ (fun hHeld2=>?_)
        clear hK K hHeld kk kc
        have hHeld:=hHeld2
        clear hHeld2
        refine px_ 12 (some 82) (fl 14 8191) rfl rfl ?_
        refine zaf (i:=13) (N:=none) (fl 14 16383) rfl rfl (by kernel_rfl) (by decide) (fun K hK=>?_)
        refine zbn rfl rfl 3 _ _ rfl g18 1 (.int .i64 (wrap64 ((zah P q 3).f1+(P q 3).f1))) rfl rfl 38 _ hq1 (show (1:Nat) < 2 from by decide) zbY rfl rfl #[.int .i64 (wrap64 ((zah P q 3).f0+(P q 3).f0)),.int .i64 (wrap64 ((zah P q 3).f1+(P q 3).f1))] rfl ?_
        intro Wf hq2 hoth2 hbel2
        refine hK.out _ _ ?_
        have F18:=hhd hq2
        have F12:=hhd ((hoth2 _ NE12_18.out).trans ((hoth1 _ NE12_18.out).trans E12.out))
        have F13:=hhd ((hoth2 _ NE13_18.out).trans ((hoth1 _ NE13_18.out).trans E13.out))
        have F15:=hhd ((hoth2 _ NE15_18.out).trans ((hoth1 _ NE15_18.out).trans E15.out))
        have F16:=hhd ((hoth2 _ NE16_18.out).trans ((hoth1 _ NE16_18.out).trans E16.out))
        have HBf:=hhd (hbel2 _ _ L18 (hbel1 _ _ L18 HBd.out.drew))
        clear hK K hHeld hq1 hoth1 hbel1 hq2 hoth2 hbel2
        refine zM (by kernel_rfl) ?_
        go_wp2
        go_roundw
        case rel=>exact ⟨4,by decide,Or.inr (Or.inr (Or.inr (Or.inr (⟨rfl,rfl⟩)))),F15.out,F18.out,F12.out,F13.out,F16.out,HBf.out⟩
        case measure=>simp [intOf]
      ·skip
       go_wp2_with (first
        | ((with_reducible refine zg (N:=86) rfl ?_);refine wpList_load_row rfl 38 _ rfl g18 rfl 38 #[.int .i64 (zah P q 4).f0,.int .i64 (zah P q 4).f1] (0,0) _ R18.out Tryz.underlying38 rfl (zu _ _) ?_)
        | (go_at_call 70;(with_reducible refine (HO.out q hq4 _).mono ?_);rintro e W1 ⟨rfl,hb⟩;have B15_1:=hhd (za R15.out hb);have HB_1:=hhd (zb HBi.out hb);have B12_1:=hhd (za R12.out hb);have B13_1:=hhd (za R13.out hb);have B16_1:=hhd (za R16.out hb);have B18_1:=hhd (za R18.out hb);obtain ⟨k12_0_1,k12_1_1,k12_2_1,k12_3_1,k12_4_1,k12_5_1,k12_6_1,k12_7_1⟩:=bk8 B12_1.out;obtain ⟨k13_0_1,k13_1_1,k13_2_1,k13_3_1,k13_4_1,k13_5_1,k13_6_1,k13_7_1⟩:=bx8 (.int .i64 (T 0).f0) (.int .i64 (T 0).f1) (.int .i64 (T 1).f0) (.int .i64 (T 1).f1) (.int .i64 (T 2).f0) (.int .i64 (T 2).f1) (.int .i64 (T 3).f0) (.int .i64 (T 3).f1) B13_1.out;obtain ⟨k16_0_1,k16_1_1,k16_2_1,k16_3_1⟩:=bx4 (.int .i64 (byV inv 0)) (.int .i64 (byV inv 1)) (.int .i64 (byV inv 2)) (.int .i64 (byV inv 3)) B16_1.out;obtain ⟨k18_0_1,k18_1_1⟩:=bk2 B18_1.out;clear hb)
        | ((with_reducible refine zo (t:=38) (p:=94) rfl ?_);refine zc6 rfl rfl 38 _ _ rfl g15 (q*2) (.int .i64 (O q).f0) (.int .i64 (O q).f1) rfl rfl 136 _ B15_1.out (by rw [zdB];omega) zb0 rfl rfl (zcY O (q+1)) (zhw O q hq4) ?_;intro Wd hq_ hoth hbel;have E15:=hhd hq_;have HBd:=hhd (hbel _ _ L15 HB_1.out);have E12:=hhd ((hoth _ NE12_15.out).trans B12_1.out);have E13:=hhd ((hoth _ NE13_15.out).trans B13_1.out);have E16:=hhd ((hoth _ NE15_16.out.symm).trans B16_1.out);clear hq_ hoth hbel))
       go_roundw
       case rel=>exact ⟨q+1,by omega,by go_num,E15.out,E12.out,E13.out,E16.out,HBd.out⟩
       case measure=>simp [intOf];omega
    ·obtain rfl:q=4:=by omega
     skip
     go_wp2_with (first
      | ((with_reducible refine zg (N:=96) rfl ?_);refine wpList_load_row rfl 136 _ rfl g15 rfl 136 #[.int .i64 (O 0).f0,.int .i64 (O 0).f1,.int .i64 (O 1).f0,.int .i64 (O 1).f1,.int .i64 (O 2).f0,.int .i64 (O 2).f1,.int .i64 (O 3).f0,.int .i64 (O 3).f1] (0,0) _ P15.out Tryz.underlying136 rfl (zbK _ _ _ _ _ _ _ _) ?_)
      | ((with_reducible refine zo (t:=136) (p:=12) rfl ?_);refine zv rfl 136 _ _ rfl g12 #[.int .i64 (O 0).f0,.int .i64 (O 0).f1,.int .i64 (O 1).f0,.int .i64 (O 1).f1,.int .i64 (O 2).f0,.int .i64 (O 2).f1,.int .i64 (O 3).f0,.int .i64 (O 3).f1] rfl rfl 136 #[.int .i64 0,.int .i64 0,.int .i64 0,.int .i64 0,.int .i64 0,.int .i64 0,.int .i64 0,.int .i64 0] P12.out (zbK _ _ _ _ _ _ _ _) rfl (zeF _ _ _ _ _ _ _ _) ?_;intro We hq_ hoth hbel;have E12:=hhd hq_;have HBe:=hhd (hbel _ _ L12 HBo.out);clear hq_ hoth hbel))
     refine bodyPost_ret (results_cell_row rfl _ _ g12 136 #[.int .i64 (O 0).f0,.int .i64 (O 0).f1,.int .i64 (O 1).f0,.int .i64 (O 1).f1,.int .i64 (O 2).f0,.int .i64 (O 2).f1,.int .i64 (O 3).f0,.int .i64 (O 3).f1] (0,0) _ rfl E12.out Tryz.underlying136 rfl (zbK _ _ _ _ _ _ _ _)) rfl ?_
     exact ⟨rfl,HBe.out⟩
def zaa:Nat→S38→S38
 | 0,x=>x
 | 1,x=>⟨-x.f1,x.f0⟩
 | 2,x=>⟨-x.f0,-x.f1⟩
 | _,x=>⟨x.f1,-x.f0⟩
def byN (inv:Bool):Nat→Nat
 | 0=>0
 | 1=>if inv then 1 else 3
 | 2=>2
 | _=>if inv then 3 else 1
def zaQ (a w:Nat→S38) (bits:Int):Nat→S38
 | 0=>upC bits (a 0)
 | k+1=>zT (a (k+1)) (w (k+1))
def zcu (a w:Nat→S38) (bits:Int) (inv:Bool) (q k:Nat):S38:=zaa (q*byN inv k % 4) (zaQ a w bits k)
def zeX (a w:Nat→S38) (bits:Int) (inv:Bool) (q:Nat):S38:=zak (zak (zak (zcu a w bits inv q 0) (zcu a w bits inv q 1)) (zcu a w bits inv q 2)) (zcu a w bits inv q 3)
def zaU (a w:Nat→S38) (bits s mode:Int) (inv:Bool) (q:Nat):S38:=shC (bits+s) mode (zeX a w bits inv q)
theorem zj7 (inv:Bool) (q k:Nat) (hq:q < 4) (hk:k < 4):za3 (wrap64 (q*byV inv k))=q*byN inv k % 4:=by
 have h1:q=0∨q=1∨q=2∨q=3:=by omega
 have h2:k=0∨k=1∨k=2∨k=3:=by omega
 rcases h1 with rfl | rfl | rfl | rfl <;> rcases h2 with rfl | rfl | rfl | rfl <;> cases inv <;> decide +kernel
theorem zhB (x:S38) (n:Nat) (hn:n < 4) (h0:x.f0≤2305843009213693952) (h1:x.f1≤2305843009213693952) (h2:-2305843009213693952≤x.f0) (h3:-2305843009213693952≤x.f1):(⟨(zai x.f0 x.f1 n).1,(zai x.f0 x.f1 n).2⟩:S38)=zaa n x:=by
 have e0:wrap64 (-x.f0)=-x.f0:=zw (by omega) (by omega)
 have e1:wrap64 (-x.f1)=-x.f1:=zw (by omega) (by omega)
 have e2:wrap64 (- -x.f0)=x.f0:=by rw [Int.neg_neg];exact zw (by omega) (by omega)
 have e3:wrap64 (- -x.f1)=x.f1:=by rw [Int.neg_neg];exact zw (by omega) (by omega)
 have h:n=0∨n=1∨n=2∨n=3:=by omega
 rcases h with rfl | rfl | rfl | rfl <;> simp only [zai,zaa,e0,e1,e2,e3]
theorem zj8 {x:S38} {m:Int} (n:Nat) (h0:x.f0≤m) (h1:x.f1≤m) (h2:-m≤x.f0) (h3:-m≤x.f1):(zaa n x).f0≤m∧(zaa n x).f1≤m∧-m≤(zaa n x).f0∧-m≤(zaa n x).f1:=by
 unfold zaa
 split <;> (try dsimp only) <;> omega
theorem zla (a w:Nat→S38) (bits:Int) (b0:0≤bits) (b1:bits≤29) (ha:∀k,k < 4→inB 2147483648 (a k)=true) (hw:∀k,1≤k→k < 4→inB 536870912 (w k)=true):∀k,k < 4→(zaQ a w bits k).f0≤(if k=0 then 1152921504606846976 else 2305843009213693952)∧(zaQ a w bits k).f1≤(if k=0 then 1152921504606846976 else 2305843009213693952)∧-(if k=0 then 1152921504606846976 else 2305843009213693952)≤(zaQ a w bits k).f0∧-(if k=0 then 1152921504606846976 else 2305843009213693952)≤(zaQ a w bits k).f1
 | 0,_=>by
  obtain ⟨p0,p1⟩:=zd8 b0 b1
  obtain ⟨a1,a2,a3,a4⟩:=zan (ha 0 (by decide))
  have n1:=zaL (by decide) a1 a3 p1 (by omega) (by decide)
  have n2:=zaL (by decide) a2 a4 p1 (by omega) (by decide)
  rw [if_pos rfl]
  show (upC bits (a 0)).f0≤_∧(upC bits (a 0)).f1≤_∧_≤(upC bits (a 0)).f0∧_≤(upC bits (a 0)).f1
  unfold upC
  dsimp only
  omega
 | k+1,hk=>by
  obtain ⟨a1,a2,a3,a4⟩:=zan (ha (k+1) hk)
  obtain ⟨w1,w2,w3,w4⟩:=zan (hw (k+1) (by omega) hk)
  have m1:=zaL (by decide) a1 a3 w1 w3 (by decide)
  have m2:=zaL (by decide) a2 a4 w2 w4 (by decide)
  have m3:=zaL (by decide) a1 a3 w2 w4 (by decide)
  have m4:=zaL (by decide) a2 a4 w1 w3 (by decide)
  rw [if_neg (by omega)]
  show (zT (a (k+1)) (w (k+1))).f0≤_∧(zT (a (k+1)) (w (k+1))).f1≤_∧_≤(zT (a (k+1)) (w (k+1))).f0∧_≤(zT (a (k+1)) (w (k+1))).f1
  unfold zT
  dsimp only
  omega
theorem zlb (a w_:Nat→S38) (bits s mode:Int) (inv:Bool) (b0:0≤bits) (b1:bits≤29) (s0:0≤s) (s1:s≤3) (m0:0≤mode) (m1:mode < 3) (ha:∀k,k < 4→inB 2147483648 (a k)=true) (hw:∀k,1≤k→k < 4→inB 536870912 (w_ k)=true) (w:World) :
  Calls Tryz.prog 107 #[.agg #[.int .i64 (a 0).f0,.int .i64 (a 0).f1,.int .i64 (a 1).f0,.int .i64 (a 1).f1,.int .i64 (a 2).f0,.int .i64 (a 2).f1,.int .i64 (a 3).f0,.int .i64 (a 3).f1],.agg #[.int .i64 (w_ 0).f0,.int .i64 (w_ 0).f1,.int .i64 (w_ 1).f0,.int .i64 (w_ 1).f1,.int .i64 (w_ 2).f0,.int .i64 (w_ 2).f1,.int .i64 (w_ 3).f0,.int .i64 (w_ 3).f1],.int .i64 bits,.int .i64 s,.int .i64 mode,.bool inv] w fun e w'=>e=.returned (.agg #[.int .i64 (zaU a w_ bits s mode inv 0).f0,.int .i64 (zaU a w_ bits s mode inv 0).f1,.int .i64 (zaU a w_ bits s mode inv 1).f0,.int .i64 (zaU a w_ bits s mode inv 1).f1,.int .i64 (zaU a w_ bits s mode inv 2).f0,.int .i64 (zaU a w_ bits s mode inv 2).f1,.int .i64 (zaU a w_ bits s mode inv 3).f0,.int .i64 (zaU a w_ bits s mode inv 3).f1])∧Below w.heap.size w w':=by
 have hT:=zla a w_ bits b0 b1 ha hw
 have hPle:∀q k,k < 4→_:=fun q k hk=>zj8 (q*byN inv k % 4) (hT k hk).1 (hT k hk).2.1 (hT k hk).2.2.1 (hT k hk).2.2.2
 have zbU:∀q,zah (zcu a w_ bits inv) q 4=zeX a w_ bits inv q:=by
  intro q
  have h0:=hPle q 0 (by decide)
  have h1:=hPle q 1 (by decide)
  have h2:=hPle q 2 (by decide)
  have h3:=hPle q 3 (by decide)
  simp only [if_pos,if_neg (show ¬(1:Nat)=0 by decide),if_neg (show ¬(2:Nat)=0 by decide),if_neg (show ¬(3:Nat)=0 by decide)] at h0 h1 h2 h3
  simp only [zah,zeX]
  change (zaa _ _).f0≤_∧_ at h0
  change (zaa _ _).f0≤_∧_ at h1
  change (zaa _ _).f0≤_∧_ at h2
  change (zaa _ _).f0≤_∧_ at h3
  unfold zcu zak
  dsimp only
  generalize zaa (q*byN inv 0 % 4) (zaQ a w_ bits 0)=r0 at *
  generalize zaa (q*byN inv 1 % 4) (zaQ a w_ bits 1)=r1 at *
  generalize zaa (q*byN inv 2 % 4) (zaQ a w_ bits 2)=r2 at *
  generalize zaa (q*byN inv 3 % 4) (zaQ a w_ bits 3)=r3 at *
  rw [zw (x:=0+r0.f0) (by omega) (by omega),zw (x:=0+r0.f1) (by omega) (by omega),Int.zero_add,Int.zero_add,zw (x:=r0.f0+r1.f0) (by omega) (by omega),zw (x:=r0.f1+r1.f1) (by omega) (by omega),
   zw (x:=r0.f0+r1.f0+r2.f0) (by omega) (by omega),zw (x:=r0.f1+r1.f1+r2.f1) (by omega) (by omega),zw (x:=r0.f0+r1.f0+r2.f0+r3.f0) (by omega) (by omega),zw (x:=r0.f1+r1.f1+r2.f1+r3.f1) (by omega) (by omega)]
 obtain ⟨p0,p1⟩:=zd8 b0 b1
 have hmin:min bits.toNat 64=bits.toNat:=by omega
 have q1:wrap64 ((a 0).f0*2^min bits.toNat 64)=(zaQ a w_ bits 0).f0:=by
  have:=hT 0 (by decide)
  rw [if_pos rfl] at this
  rw [hmin]
  show wrap64 (zaQ a w_ bits 0).f0=_
  exact zw (by omega) (by omega)
 have q2:wrap64 ((a 0).f1*2^min bits.toNat 64)=(zaQ a w_ bits 0).f1:=by
  have:=hT 0 (by decide)
  rw [if_pos rfl] at this
  rw [hmin]
  show wrap64 (zaQ a w_ bits 0).f1=_
  exact zw (by omega) (by omega)
 refine zj6 a w_ (zaQ a w_ bits) (zaU a w_ bits s mode inv) (zcu a w_ bits inv) bits s mode inv b0 q1 q2 ?_ ?_ ?_ w
 ·intro k h1 h4 W
  have hk1:=ha k h4
  have hk2:=hw k h1 h4
  have hk3:inB 1073741824 (w_ k)=true:=by obtain ⟨c0,c1,c2,c3⟩:=zan hk2;exact zbe (by omega)
  have e:=zf6 (a k) (w_ k) hk1 hk3
  have h:=zex (a k) (w_ k) hk1 hk3 W
  rw [show zbz (a k) (w_ k)=(zT (a k) (w_ k)).f0 from congrArg S38.f0 e,show zbA (a k) (w_ k)=(zT (a k) (w_ k)).f1 from congrArg S38.f1 e] at h
  obtain ⟨j,rfl⟩:∃j,k=j+1:=⟨k - 1,by omega⟩
  exact h
 ·intro q k hq hk W
  have h3:(zaQ a w_ bits k).f0≤2305843009213693952∧(zaQ a w_ bits k).f1≤2305843009213693952∧-2305843009213693952≤(zaQ a w_ bits k).f0∧-2305843009213693952≤(zaQ a w_ bits k).f1:=by
   have:=hT k hk
   split at this <;> omega
  have h:=zfd (zaQ a w_ bits k) (wrap64 (q*byV inv k)) (decide_eq_true h3) W
  rw [zj7 inv q k hq hk] at h
  have e:=zhB (zaQ a w_ bits k) (q*byN inv k % 4) (Nat.mod_lt _ (by decide)) h3.1 h3.2.1 h3.2.2.1 h3.2.2.2
  rw [show (zai (zaQ a w_ bits k).f0 (zaQ a w_ bits k).f1 (q*byN inv k % 4)).1=_ from congrArg S38.f0 e,show (zai (zaQ a w_ bits k).f0 (zaQ a w_ bits k).f1 (q*byN inv k % 4)).2=_ from congrArg S38.f1 e] at h
  exact h
 ·intro q hq W
  have e:wrap64 (bits+s)=bits+s:=zw (by omega) (by omega)
  rw [e,zbU q]
  exact cx_Shift.calls _ _ _ _ _ _ _ W (zbo (zeX a w_ bits inv q) (bits+s) mode (by omega) (by omega) m0 m1)
structure Own (g:Nat) (w0 w W:World):Prop where
 below:Below w0.heap.size w0 W
 size:w.heap.size≤W.heap.size
 block:∀k,k≠g→k < w.heap.size→W.heap[k]?=w.heap[k]?
theorem zhC {g:Nat} {w0 w:World} (h:Below w0.heap.size w0 w):Own g w0 w w:=⟨h,Nat.le_refl _,fun _ _ _=>rfl⟩
theorem zdp {g:Nat} {w0 w W:World} (h:Own g w0 w W):w.heap.size≤W.heap.size:=h.size
theorem zcd {g:Nat} {w0 w W W2:World} (h:Own g w0 w W) (hb:Below W.heap.size W W2):Own g w0 w W2 :=
 ⟨zb h.below hb,Nat.le_trans h.size hb.size,fun k hk hl=>(hb.block k (Nat.lt_of_lt_of_le hl h.size)).trans (h.block k hk hl)⟩
theorem own_put {g b:Nat} {w0 w W W2:World} (h:Own g w0 w W) (h0:w0.heap.size≤w.heap.size) (L:w.heap.size≤b) (hoth:∀k,k≠b→W2.heap[k]?=W.heap[k]?) (hbel:∀B w0,B≤b→Below B w0 W→Below B w0 W2):Own g w0 w W2 :=
 ⟨hbel _ _ (Nat.le_trans h0 L) h.below,Nat.le_trans h.size (hbel 0 W (Nat.zero_le _) (Below.refl _ _)).size,fun k hk hl=>(hoth k (by omega)).trans (h.block k hk hl)⟩
section
variable {P:Program} {ops:Array Oper} {rest:List Oper} {o:Oper} {a:Act} {Q:Exit→Act→World→Prop}
theorem own_store {w0 w W:World} (hN:o.dst=none) (hgd:o.guard=none) (p x:Operand) (ho:o.op=.store 38 p x) {g n cap:Nat} (i off:Nat) (hoff:off=i*2) (xs:List S38) (y:S38) (ok:Nat→Prop)
  (haddr:a.eval p=.pointer (some ⟨g,off,none⟩)) (hx:a.eval x=.agg #[.int .i64 y.f0,.int .i64 y.f1]) (ht:(P.info? 38).map (·.size)=some 2)
  (HO:Kd.R k38 38 W w0.heap.size ok (.slice (some ⟨g,0,none⟩) n cap) xs) (hi:i < n) (HB:Own g w0 w W)
  (h:∀w1,Kd.R k38 38 w1 w0.heap.size ok (.slice (some ⟨g,0,none⟩) n cap) (xs.set i y)→Own g w0 w w1→(∀k,k≠g→w1.heap[k]?=W.heap[k]?)→wpList P ops Q rest a w1):wpList P ops Q (o :: rest) a W:=by
 subst hoff
 obtain ⟨c,hcl,hM,hcc,hfr⟩:=Kd.R_elem HO z38 (i:Int) (by omega) (by omega)
 obtain rfl:=zbk hM
 obtain ⟨hrow,hg⟩:=Kd.R_seg HO (i:Int) (by omega) (by omega) (seg:=[.int .i64 y.f0,.int .i64 y.f1]) (j:=0) hcl hcc (Nat.le_refl 2) (x':=y) (okp:=fun _=>False) (zaF W _ _ y) (fun _ hk=>hk.elim)
 have hbg:w0.heap.size≤g:=Kd.R_base HO g (by simp [Value.ownBlock])
 rw [Int.toNat_natCast] at hrow hg
 have hrun:(Instr.storeAt 38 (.pointer (some ⟨g,i*2,none⟩)) (.agg #[.int .i64 y.f0,.int .i64 y.f1])).run P W=.ok () (W.setCells g (i*2) [.int .i64 y.f0,.int .i64 y.f1]):=by
  obtain ⟨_,inner,hown,hr⟩:=HO
  rcases hown.2 with ⟨hv,_⟩ | ⟨g',cap',cur,hv,hb,hh,hnc,hcm,hcs,_⟩
  ·cases hv
  injection hv with ha _ hc
  injection ha with ha
  injection ha with hg'
  subst hg';subst hc
  refine za8 38 _ _ hh rfl ht ?_ (by simp [Value.oneCell'])
  have h2:k38.sz=2:=rfl
  rw [h2] at hcs
  rw [hcs]
  simp only [List.length_cons,List.length_nil]
  omega
 refine wpList_plain hgd fun K hK=>?_
 unfold Oper.wp execOp
 simp only [ho,haddr,hx,Sem.run_bind,Sem.run_pure,Result.andThen_ok,hrun]
 show K (a.put o.dst undef) _
 rw [hN]
 have hb:Below w0.heap.size w0 _:=HB.below.grown hg (Nat.le_of_lt (Nat.lt_of_le_of_lt hbg (Kd.R_lt HO g (by simp [Value.ownBlock])))) (fun k e=>by cases e;exact hbg)
 exact hK _ _ (h _ hrow ⟨hb,Nat.le_trans HB.size hg.size,fun k hk hl=>(zbs _ _ k hk).trans (HB.block k hk hl)⟩ (fun k hk=>zbs _ _ k hk))
end
end Go.Proofs.YteieahbadclppaaGreat.P

namespace Go.Proofs.YteieahbadclppaaGreat.P
open Go.RowKit Go.Shelf Go.Proofs.YteieahbadclppaaGreatW.PrintWords Go.Proofs.YteieahbadclppaaGreatW.PrintLast Go.Proofs.YteieahbadclppaaGreatW.PrintMore
set_option linter.unusedVariables false
set_option linter.unusedSimpArgs false
def wOf (wl:List S38) (u:Int) (inv:Bool) (j:Int) (k:Nat):S38:=zH inv (zk wl (k*j*u))
def aOf (Y:List S38) (fr h j:Nat):Nat→S38
 | 0=>zk Y ((fr+j:Nat):Int)
 | 1=>zk Y ((fr+(2*h+j):Nat):Int)
 | 2=>zk Y ((fr+(h+j):Nat):Int)
 | _=>zk Y ((fr+(3*h+j):Nat):Int)
def zcZ (Y:List S38) (fr h j:Nat) (O:Nat→S38):Nat→List S38
 | 0=>Y
 | q+1=>(zcZ Y fr h j O q).set (fr+(q*h+j)) (O q)
def zba (Y wl:List S38) (fr h:Nat) (u bits s mode:Int) (inv:Bool):Nat→List S38
 | 0=>Y
 | j+1=>zcZ (zba Y wl fr h u bits s mode inv j) fr h j (zaU (aOf (zba Y wl fr h u bits s mode inv j) fr h j) (wOf wl u inv j) bits s mode inv) 4
theorem zfn (Y:List S38) (fr h j:Nat) (O:Nat→S38):∀q,(zcZ Y fr h j O q).length=Y.length
 | 0=>rfl
 | q+1=>by rw [zcZ,List.length_set,zfn Y fr h j O q]
theorem zgu (Y wl:List S38) (fr h:Nat) (u bits s mode:Int) (inv:Bool):∀j,(zba Y wl fr h u bits s mode inv j).length=Y.length
 | 0=>rfl
 | j+1=>by rw [zba,zfn,zgu Y wl fr h u bits s mode inv j]
theorem zdf {a b:Nat} (h:b < a):a - (intOf (.int .i64 ((b:Int)+1))).toNat < a - (intOf (.int .i64 b)).toNat:=by
 simp [intOf];omega
theorem zc0 {m:Int} {l:List S38} (h:∀x,x∈l→inB m x=true) {i:Int} (h0:0≤i) (h1:i < l.length):inB m (zk l i)=true:=by
 have:=zbl h i.toNat (by omega)
 rwa [Int.toNat_of_nonneg h0] at this
theorem zj9 (V:Nat→S38) (q:Nat) (hq:q < 4) (w:World):(Instr.index 136 (.agg #[.int .i64 (V 0).f0,.int .i64 (V 0).f1,.int .i64 (V 1).f0,.int .i64 (V 1).f1,.int .i64 (V 2).f0,.int .i64 (V 2).f1,.int .i64 (V 3).f0,.int .i64 (V 3).f1]) (.int .i64 q)).run Tryz.prog w=.ok (.agg #[.int .i64 (V q).f0,.int .i64 (V q).f1]) w:=by
 have h:q=0∨q=1∨q=2∨q=3:=by omega
 rcases h with rfl | rfl | rfl | rfl
 ·exact zhx _ _ _ _ _ _ _ _ w
 ·exact zhy _ _ _ _ _ _ _ _ w
 ·exact zhz _ _ _ _ _ _ _ _ w
 ·exact zhA _ _ _ _ _ _ _ _ w
def zf8 (V:Nat→S38) (k:Nat) (x:S38):Array Value:=((zcY V k).setIfInBounds (k*2) (.int .i64 x.f0)).setIfInBounds (k*2+1) (.int .i64 x.f1)
theorem zka (V:Nat→S38) (k:Nat) (x:S38):(zf8 V k x).size=8:=by simp [zf8,zdB]
theorem zlc (V:Nat→S38) (k:Nat) (x:S38) (hk:k < 4):((zf8 V k x).setIfInBounds (k*2) (.int .i64 (V k).f0)).setIfInBounds (k*2+1) (.int .i64 (V k).f1)=zcY V (k+1):=by
 have h:k=0∨k=1∨k=2∨k=3:=by omega
 rcases h with rfl | rfl | rfl | rfl <;> rfl
theorem zhD (V:Nat→S38) (k:Nat) (x:S38) (hk:k < 4):(zf8 V k x)[k*2]?=some (.int .i64 x.f0)∧(zf8 V k x)[k*2+1]?=some (.int .i64 x.f1):=by
 have h:k=0∨k=1∨k=2∨k=3:=by omega
 rcases h with rfl | rfl | rfl | rfl <;> exact ⟨rfl,rfl⟩
set_option maxRecDepth 100000 in
set_option maxHeartbeats 4000000 in
theorem zkb (g n cap fr hN:Nat) (Y wl:List S38) (Aw:Option Addr) (cw m:Nat) (h u bits s mode:Int) (inv:Bool) (w0 w:World)
  (HB:Below w0.heap.size w0 w) (HS:Kd.C k38 w0 Aw wl.length wl) (HR:Kd.R k38 38 w w0.heap.size (fun _=>True) (.slice (some ⟨g,0,none⟩) n cap) Y) (hm:m=4*hN) (hh:h=hN) (hn:fr+4*hN≤n) (hn64:n≤64) (hu0:0≤u) (hu:4*h*u≤wl.length) (hwl:wl.length≤64) (hwl0:0 < wl.length)
  (b0:0≤bits) (b1:bits≤29) (s0:0≤s) (s1:s≤3) (m0:0≤mode) (m1:mode < 3)
  (hin:∀j,j < hN→∀k,k < 4→inB 2147483648 (aOf (zba Y wl fr hN u bits s mode inv j) fr hN j k)=true) (hw:∀x,x∈wl→inB 536870912 x=true) :
  Calls Tryz.prog 86 #[.slice (some ⟨g,fr*2,none⟩) m m,.slice Aw wl.length cw,.int .i64 h,.int .i64 u,.int .i64 bits,.int .i64 s,.int .i64 mode,.bool inv] w fun e w'=>e=.returned (.tuple #[])∧Kd.R k38 38 w' w0.heap.size (fun _=>True) (.slice (some ⟨g,0,none⟩) n cap) (zba Y wl fr hN u bits s mode inv hN)∧Own g w0 w w':=by
 have hmx:Tryz.prog.follows .mixedOrders=true:=by kernel_rfl
 have H00:=HB.size
 have HBW:=hhd (zhC (g:=g) HB)
 have HSS:=hhd HS
 have HRR:=hhd HR
 have HM:=hhd hm
 have HH:=hhd hh
 have HN:=hhd hn
 have HN64:=hhd hn64
 have HU0:=hhd hu0
 have HU:=hhd hu
 have HWL:=hhd hwl
 have HW0:=hhd hwl0
 have HIN:=hhd hin
 have HWI:=hhd hw
 have HSET:=hhd (And.intro b0 (And.intro b1 (And.intro s0 (And.intro s1 (And.intro m0 m1)))))
 clear HB HS HR hm hh hn hn64 hu0 hu hwl hwl0 hin hw b0 b1 s0 s1 m0 m1
 go_enter Tryz.func86,Tryz.ntmps86
 go_wp2
 go_loopw [23] (fun s23 wr=>∃j:Nat,j≤hN∧s23=.int .i64 j∧Kd.R k38 38 wr w0.heap.size (fun _=>True) (.slice (some ⟨g,0,none⟩) n cap) (zba Y wl fr hN u bits s mode inv j)∧Own g w0 w wr) (fun i _=>hN - (intOf i).toNat)
 case atStart=>exact ⟨0,Nat.zero_le _,rfl,HRR.out,HBW.out⟩
 case round =>
  obtain ⟨j,hj,rfl,ro,hb⟩:=hrel
  have RO:=hhd ro
  have HBr:=hhd hb
  clear ro hb
  have hcmp:(↑j:Int) < h↔j < hN:=by rw [HH.out];omega
  by_cases hlt:j < hN
  ·have hjh:(↑j:Int) < h:=hcmp.2 hlt
   have HLJ:=hhd hlt
   have hwj:wrap64 (↑j+1)=(↑j:Int)+1:=zw (by omega) (by have:=HN.out;have:=HN64.out;omega)
   clear hcmp
   have HYL:=hhd (zgu Y wl fr hN u bits s mode inv j)
   have HA:=hhd (HIN.out j hlt)
   have HSTEP:=hhd (show zba Y wl fr hN u bits s mode inv (j+1)=zcZ (zba Y wl fr hN u bits s mode inv j) fr hN j (zaU (aOf (zba Y wl fr hN u bits s mode inv j) fr hN j) (wOf wl u inv j) bits s mode inv) 4 from rfl)
   have hYn:(zba Y wl fr hN u bits s mode inv j).length=n:=zlG RO.out
   generalize zba Y wl fr hN u bits s mode inv j=Yj at *
   have HIDX:=hhd (show ∀k:Nat,k < 4→0≤(k:Int)*j*u∧(k:Int)*j*u < wl.length from fun k hk=>by
    have e:=HH.out
    have e1:=HU.out
    have e2:=HU0.out
    have p1:(0:Int)≤(k:Int)*j:=Int.mul_nonneg (by omega) (by omega)
    have hu1:0≤u:=e2
    have p3:(k:Int)*j*u≤3*(h - 1)*u:=by
     refine Int.mul_le_mul_of_nonneg_right ?_ e2
     exact Int.mul_le_mul (by omega) (by omega) (by omega) (by omega)
    refine ⟨Int.mul_nonneg p1 e2,?_⟩
    by_cases hu2:u=0
    ·subst hu2;rw [Int.mul_zero];have:=HW0.out;omega
    ·have:3*(h - 1)*u < 4*h*u:=Int.mul_lt_mul_of_pos_right (by omega) (by omega)
     omega)
   have HWO:=hhd (show ∀k:Nat,wOf wl u inv j k=zH inv (zk wl (k*j*u)) from fun _=>rfl)
   generalize hwv:wOf wl u inv j=wv at *
   clear hwv
   go_wp2_with (first
    | ((with_reducible refine zg (N:=17) rfl ?_);refine ba_ 17 #[.int .i64 0,.int .i64 0,.int .i64 0,.int .i64 0,.int .i64 0,.int .i64 0,.int .i64 0,.int .i64 0] 136 ?_;intro g17 hg W1 hbox hbl;have L17:w.heap.size≤g17:=(by rw [hg];exact zdp HBr.out);have B17_1:=hhd hbox;have HB_1:=hhd (zcd HBr.out hbl);have Rout_1:=hhd (Kd.R_below RO.out hbl);obtain ⟨k17_0_1,k17_1_1,k17_2_1,k17_3_1,k17_4_1,k17_5_1,k17_6_1,k17_7_1⟩:=bk8 B17_1.out;have NR17:=hhd (show some g17≠_ from by rw [hg];exact Kd.R_ne_new RO.out 0);clear hbox hbl hg))
   clear HRR HBW
   go_loopw [26] (fun s26 wi=>∃k:Nat,k≤4∧s26=.int .i64 k∧wi.heap[g17]?=some (.cells (zcY wv k) 136 (0,0))∧Kd.R k38 38 wi w0.heap.size (fun _=>True) (.slice (some ⟨g,0,none⟩) n cap) Yj∧Own g w0 w wi) (fun i _=>4 - (intOf i).toNat)
   case atStart=>exact ⟨0,by decide,rfl,B17_1.out,Rout_1.out,HB_1.out⟩
   case round =>
    obtain ⟨k,hk,rfl,a17,qo,hb⟩:=hrel
    have A17:=hhd a17
    have QO:=hhd qo
    have HBi:=hhd hb
    clear a17 qo hb RO HBr B17_1 Rout_1 HB_1
    by_cases hk4:k < 4
    ·obtain ⟨w0_,w1_⟩:=HIDX.out k hk4
     have HWV:=hhd (HWO.out k)
     have ek1:wrap64 (↑k*↑j)=(↑k:Int)*↑j:=by
      have:(k:Int)*j≤4*64:=Int.mul_le_mul (by omega) (by have:=HH.out;have:=HN.out;have:=HN64.out;omega) (by omega) (by omega)
      have:(0:Int)≤(k:Int)*j:=Int.mul_nonneg (by omega) (by omega)
      exact zw (by omega) (by omega)
     have ek3:wrap64 (↑k*↑j*u)=(↑k:Int)*↑j*u:=zw (by omega) (by have:=HWL.out;omega)
     generalize hiw:(↑k:Int)*↑j*u=iw at w0_ w1_ HWV
     have ek2:wrap64 (↑k*↑j*u)=iw:=ek3.trans hiw
     clear hiw ek3
     obtain ⟨ad,rfl,z0,z1⟩:=zam (Kd.C_below HSS.out HBi.out.below) iw w0_ w1_
     have HWD:=hhd (show zbW (zk wl iw)=true from by
      obtain ⟨c0,c1,c2,c3⟩:=zan (zc0 HWI.out w0_ w1_)
      exact decide_eq_true (by omega))
     cases inv with
     | true =>
      go_wp2_with (first
       | ((with_reducible refine zo (t:=38) (p:=38) rfl ?_);refine zc6 rfl rfl 38 _ _ rfl g17 (k*2) (.int .i64 (zk wl iw).f0) (.int .i64 (zk wl iw).f1) rfl rfl 136 _ A17.out (by rw [zdB];omega) zb0 rfl rfl (zf8 wv k (zk wl iw)) (rfl) ?_;intro W1 hq hoth hbel;have B17_1:=hhd hq;have HB_1:=hhd (own_put HBi.out H00 L17 hoth hbel);have Rout_1:=hhd (zK QO.out hoth NR17.out);have kk0:W1.cell? ⟨g17,k*2,none⟩=some (.int .i64 (zk wl iw).f0):=(zc hq (k*2)).trans (by rw [(zhD wv k (zk wl iw) hk4).1]);have kk1:W1.cell? ⟨g17,k*2+1,none⟩=some (.int .i64 (zk wl iw).f1):=(zc hq (k*2+1)).trans (by rw [(zhD wv k (zk wl iw) hk4).2]);clear hq hoth hbel)
       | (go_at_call 58;(with_reducible refine (zfc (zk wl iw) HWD.out _).mono ?_);rintro e W2 ⟨rfl,hb⟩;have HB_2:=hhd (zcd HB_1.out hb);have B17_2:=hhd (za B17_1.out hb);have Rout_2:=hhd (Kd.R_below Rout_1.out hb);clear kk0 kk1;clear hb)
       | ((with_reducible refine zo (t:=38) (p:=48) rfl ?_);refine zc6 rfl rfl 38 _ _ rfl g17 (k*2) (.int .i64 (zk wl iw).f0) (.int .i64 (wrap64 (-(zk wl iw).f1))) rfl rfl 136 _ B17_2.out (by rw [zka];omega) zb0 rfl rfl (zcY wv (k+1)) (by have:=zlc wv k (zk wl iw) hk4;rw [HWV.out] at this;exact this) ?_;intro W3 hq hoth hbel;have B17_3:=hhd hq;have HB_3:=hhd (own_put HB_2.out H00 L17 hoth hbel);have Rout_3:=hhd (zK Rout_2.out hoth NR17.out);clear hq hoth hbel))
      go_roundw
      case rel=>exact ⟨k+1,by omega,by go_num,B17_3.out,Rout_3.out,HB_3.out⟩
      case measure=>exact zdf hk4
     | false =>
      go_wp2_with (first
       | ((with_reducible refine zo (t:=38) (p:=38) rfl ?_);refine zc6 rfl rfl 38 _ _ rfl g17 (k*2) (.int .i64 (zk wl iw).f0) (.int .i64 (zk wl iw).f1) rfl rfl 136 _ A17.out (by rw [zdB];omega) zb0 rfl rfl (zcY wv (k+1)) (by have:=zhw wv k hk4;rw [HWV.out] at this;exact this) ?_;intro W1 hq hoth hbel;have B17_1:=hhd hq;have HB_1:=hhd (own_put HBi.out H00 L17 hoth hbel);have Rout_1:=hhd (zK QO.out hoth NR17.out);clear hq hoth hbel))
      go_roundw
      case rel=>exact ⟨k+1,by omega,by go_num,B17_1.out,Rout_1.out,HB_1.out⟩
      case measure=>exact zdf hk4
    ·obtain rfl:k=4:=by omega
     have HWQ:=hhd (show ∀k:Nat,1≤k→k < 4→inB 536870912 (wv k)=true from fun k _ hk=>by
      obtain ⟨c0,c1⟩:=HIDX.out k hk
      obtain ⟨d0,d1,d2,d3⟩:=zan (zc0 HWI.out c0 c1)
      rw [HWO.out k]
      unfold zH
      split
      ·have e:wrap64 (-(zk wl (↑k*↑j*u)).f1)=-(zk wl (↑k*↑j*u)).f1:=zw (by omega) (by omega)
       exact zbe (by dsimp only;rw [e];omega)
      ·exact zbe (by omega))
     skip
     have k17:=A17.out
     have kw00:wr.cell? ⟨g17,0,none⟩=some (.int .i64 (wv 0).f0):=(zc A17.out 0).trans rfl
     have kw01:wr.cell? ⟨g17,1,none⟩=some (.int .i64 (wv 0).f1):=(zc A17.out 1).trans rfl
     have kw10:wr.cell? ⟨g17,2,none⟩=some (.int .i64 (wv 1).f0):=(zc A17.out 2).trans rfl
     have kw11:wr.cell? ⟨g17,3,none⟩=some (.int .i64 (wv 1).f1):=(zc A17.out 3).trans rfl
     have kw20:wr.cell? ⟨g17,4,none⟩=some (.int .i64 (wv 2).f0):=(zc A17.out 4).trans rfl
     have kw21:wr.cell? ⟨g17,5,none⟩=some (.int .i64 (wv 2).f1):=(zc A17.out 5).trans rfl
     have kw30:wr.cell? ⟨g17,6,none⟩=some (.int .i64 (wv 3).f0):=(zc A17.out 6).trans rfl
     have kw31:wr.cell? ⟨g17,7,none⟩=some (.int .i64 (wv 3).f1):=(zc A17.out 7).trans rfl
     clear k17
     have e1:=HH.out
     have e2:=HN.out
     have e3:=HM.out
     have e4:=HN64.out
     have v1:wrap64 (2*h)=2*h:=zw (by omega) (by omega)
     have v2:wrap64 (3*h)=3*h:=zw (by omega) (by omega)
     have lo0:0≤(↑j:Int):=by omega
     have hi0:(↑j:Int) < ↑m:=by omega
     have nt0:((↑j:Int)).toNat=j:=by omega
     obtain ⟨x00,x01⟩:=zbc QO.out (fr+(j)) (by omega)
     change _=some (Value.int .i64 (aOf Yj fr hN j 0).f0) at x00
     change _=some (Value.int .i64 (aOf Yj fr hN j 0).f1) at x01
     rw [Nat.add_mul] at x00 x01
     have vx1:wrap64 (2*h+↑j)=2*h+↑j:=zw (by omega) (by omega)
     have lo1:0≤2*h+↑j:=by omega
     have hi1:2*h+↑j < ↑m:=by omega
     have nt1:(2*h+↑j).toNat=2*hN+j:=by omega
     obtain ⟨x10,x11⟩:=zbc QO.out (fr+(2*hN+j)) (by omega)
     change _=some (Value.int .i64 (aOf Yj fr hN j 1).f0) at x10
     change _=some (Value.int .i64 (aOf Yj fr hN j 1).f1) at x11
     rw [Nat.add_mul] at x10 x11
     rw [← nt1] at x10 x11
     have vx2:wrap64 (h+↑j)=h+↑j:=zw (by omega) (by omega)
     have lo2:0≤h+↑j:=by omega
     have hi2:h+↑j < ↑m:=by omega
     have nt2:(h+↑j).toNat=hN+j:=by omega
     obtain ⟨x20,x21⟩:=zbc QO.out (fr+(hN+j)) (by omega)
     change _=some (Value.int .i64 (aOf Yj fr hN j 2).f0) at x20
     change _=some (Value.int .i64 (aOf Yj fr hN j 2).f1) at x21
     rw [Nat.add_mul] at x20 x21
     rw [← nt2] at x20 x21
     have vx3:wrap64 (3*h+↑j)=3*h+↑j:=zw (by omega) (by omega)
     have lo3:0≤3*h+↑j:=by omega
     have hi3:3*h+↑j < ↑m:=by omega
     have nt3:(3*h+↑j).toNat=3*hN+j:=by omega
     obtain ⟨x30,x31⟩:=zbc QO.out (fr+(3*hN+j)) (by omega)
     change _=some (Value.int .i64 (aOf Yj fr hN j 3).f0) at x30
     change _=some (Value.int .i64 (aOf Yj fr hN j 3).f1) at x31
     rw [Nat.add_mul] at x30 x31
     rw [← nt3] at x30 x31
     generalize hi_1:2*h+↑j=i1 at lo1 hi1 x10 x11
     have vv1:wrap64 (2*h+↑j)=i1:=vx1.trans hi_1
     clear vx1
     generalize hi_2:h+↑j=i2 at lo2 hi2 x20 x21
     have vv2:wrap64 (h+↑j)=i2:=vx2.trans hi_2
     clear vx2
     generalize hi_3:3*h+↑j=i3 at lo3 hi3 x30 x31
     have vv3:wrap64 (3*h+↑j)=i3:=vx3.trans hi_3
     clear vx3
     have HI1:=hhd hi_1
     have HI2:=hhd hi_2
     have HI3:=hhd hi_3
     clear e1 e2 e3 e4 nt0 nt1 nt2 nt3 hi_1 hi_2 hi_3
     generalize hav:aOf Yj fr hN j=av at *
     clear hav
     go_wp2
     generalize hov:zaU av wv bits s mode inv=ov at *
     have HQC:=hhd (show ∀W:World,Calls Tryz.prog 107 #[.agg #[.int .i64 (av 0).f0,.int .i64 (av 0).f1,.int .i64 (av 1).f0,.int .i64 (av 1).f1,.int .i64 (av 2).f0,.int .i64 (av 2).f1,.int .i64 (av 3).f0,.int .i64 (av 3).f1],.agg #[.int .i64 (wv 0).f0,.int .i64 (wv 0).f1,.int .i64 (wv 1).f0,.int .i64 (wv 1).f1,.int .i64 (wv 2).f0,.int .i64 (wv 2).f1,.int .i64 (wv 3).f0,.int .i64 (wv 3).f1],.int .i64 bits,.int .i64 s,.int .i64 mode,.bool inv] W fun e w'=>e=.returned (.agg #[.int .i64 (ov 0).f0,.int .i64 (ov 0).f1,.int .i64 (ov 1).f0,.int .i64 (ov 1).f1,.int .i64 (ov 2).f0,.int .i64 (ov 2).f1,.int .i64 (ov 3).f0,.int .i64 (ov 3).f1])∧Below W.heap.size W w' from fun W=>by
      have hq:=zlb av wv bits s mode inv HSET.out.1 HSET.out.2.1 HSET.out.2.2.1 HSET.out.2.2.2.1 HSET.out.2.2.2.2.1 HSET.out.2.2.2.2.2 HA.out HWQ.out W
      rw [hov] at hq
      exact hq)
     clear hov
     refine zae (S:=fun w'=>Below wr.heap.size wr w') (ds:=[32]) (fl 33 0) hmx rfl rfl (Below.refl _ _).drew (fun hHeld=>?_)
     refine px_ 0 (some 50) (fl 33 1) rfl rfl ?_
     refine px_ 1 (some 51) (fl 33 3) rfl rfl ?_
     refine px_ 2 (some 52) (fl 33 7) rfl rfl ?_
     refine px_ 4 (some 54) (fl 33 23) rfl rfl ?_
     refine px_ 5 (some 55) (fl 33 55) rfl rfl ?_
     refine px_ 6 (some 56) (fl 33 119) rfl rfl ?_
     refine px_ 7 (some 57) (fl 33 247) rfl rfl ?_
     refine px_ 8 (some 58) (fl 33 503) rfl rfl ?_
     refine px_ 9 (some 59) (fl 33 1015) rfl rfl ?_
     refine px_ 11 (some 61) (fl 33 3063) rfl rfl ?_
     refine px_ 12 (some 62) (fl 33 7159) rfl rfl ?_
     refine px_ 13 (some 63) (fl 33 15351) rfl rfl ?_
     refine px_ 14 (some 64) (fl 33 31735) rfl rfl ?_
     refine px_ 15 (some 65) (fl 33 64503) rfl rfl ?_
     refine px_ 17 (some 67) (fl 33 195575) rfl rfl ?_
     refine px_ 18 (some 68) (fl 33 457719) rfl rfl ?_
     refine px_ 19 (some 69) (fl 33 982007) rfl rfl ?_
     refine px_ 20 (some 70) (fl 33 2030583) rfl rfl ?_
     refine px_ 21 (some 71) (fl 33 4127735) rfl rfl ?_
     refine px_ 22 (some 72) (fl 33 8322039) rfl rfl ?_
     refine px_ 26 (some 76) (fl 33 75430903) rfl rfl ?_
     refine px_ 27 (some 77) (fl 33 209648631) rfl rfl ?_
     refine px_ 28 (some 78) (fl 33 478084087) rfl rfl ?_
     refine px_ 29 (some 79) (fl 33 1014954999) rfl rfl ?_
     refine tx_ 3 (some 53) (fl 33 1014955007) rfl rfl hHeld (by rintro w' hs;obtain ⟨j_kw00,j_kw01,j_kw10,j_kw11,j_kw20,j_kw21⟩:=bg6 hs kw00 kw01 kw10 kw11 kw20 kw21;obtain ⟨j_kw30,j_kw31,j_x00,j_x01,j_x10,j_x11⟩:=bg6 hs kw30 kw31 x00 x01 x10 x11;obtain ⟨j_x20,j_x21,j_x30,j_x31⟩:=bg4 hs x20 x21 x30 x31;go_simp;with_reducible rfl) ?_
     refine tx_ 10 (some 60) (fl 33 1014956031) rfl rfl hHeld (by rintro w' hs;obtain ⟨j_kw00,j_kw01,j_kw10,j_kw11,j_kw20,j_kw21⟩:=bg6 hs kw00 kw01 kw10 kw11 kw20 kw21;obtain ⟨j_kw30,j_kw31,j_x00,j_x01,j_x10,j_x11⟩:=bg6 hs kw30 kw31 x00 x01 x10 x11;obtain ⟨j_x20,j_x21,j_x30,j_x31⟩:=bg4 hs x20 x21 x30 x31;go_simp;with_reducible rfl) ?_
     refine tx_ 16 (some 66) (fl 33 1015021567) rfl rfl hHeld (by rintro w' hs;obtain ⟨j_kw00,j_kw01,j_kw10,j_kw11,j_kw20,j_kw21⟩:=bg6 hs kw00 kw01 kw10 kw11 kw20 kw21;obtain ⟨j_kw30,j_kw31,j_x00,j_x01,j_x10,j_x11⟩:=bg6 hs kw30 kw31 x00 x01 x10 x11;obtain ⟨j_x20,j_x21,j_x30,j_x31⟩:=bg4 hs x20 x21 x30 x31;go_simp;with_reducible rfl) ?_
     refine tx_ 23 (some 73) (fl 33 1023410175) rfl rfl hHeld (by rintro w' hs;obtain ⟨j_kw00,j_kw01,j_kw10,j_kw11,j_kw20,j_kw21⟩:=bg6 hs kw00 kw01 kw10 kw11 kw20 kw21;obtain ⟨j_kw30,j_kw31,j_x00,j_x01,j_x10,j_x11⟩:=bg6 hs kw30 kw31 x00 x01 x10 x11;obtain ⟨j_x20,j_x21,j_x30,j_x31⟩:=bg4 hs x20 x21 x30 x31;go_simp;with_reducible rfl) ?_
     refine px_ 24 (some 74) (fl 33 1040187391) rfl rfl ?_
     refine tx_ 25 (some 75) (fl 33 1073741823) rfl rfl hHeld (by rintro w' hs;obtain ⟨j_kw00,j_kw01,j_kw10,j_kw11,j_kw20,j_kw21⟩:=bg6 hs kw00 kw01 kw10 kw11 kw20 kw21;obtain ⟨j_kw30,j_kw31,j_x00,j_x01,j_x10,j_x11⟩:=bg6 hs kw30 kw31 x00 x01 x10 x11;obtain ⟨j_x20,j_x21,j_x30,j_x31⟩:=bg4 hs x20 x21 x30 x31;go_simp;with_reducible rfl) ?_
     refine zaM (i:=30) (j:=31) (Ni:=some 80) (Nj:=some 19) (fl 33 2147483647) (fl 33 3221225471) rfl rfl rfl rfl (by kernel_rfl) (by decide) (by decide) (fun K hK=>?e1_30) (fun K hK=>?e1_31)
     case' e1_30 =>
      refine zN Tryz.func107 (by kernel_rfl) rfl #[.agg #[.int .i64 (av 0).f0,.int .i64 (av 0).f1,.int .i64 (av 1).f0,.int .i64 (av 1).f1,.int .i64 (av 2).f0,.int .i64 (av 2).f1,.int .i64 (av 3).f0,.int .i64 (av 3).f1],.agg #[.int .i64 (wv 0).f0,.int .i64 (wv 0).f1,.int .i64 (wv 1).f0,.int .i64 (wv 1).f1,.int .i64 (wv 2).f0,.int .i64 (wv 2).f1,.int .i64 (wv 3).f0,.int .i64 (wv 3).f1],.int .i64 bits,.int .i64 s,.int .i64 mode,.bool inv] (by rfl) rfl rfl (by go_simp) ?_
      refine (HQC.out _).mono ?_
      rintro e Wc ⟨rfl,hbl⟩
      refine ⟨_,rfl,?_⟩
      refine hK.out _ _ (zb hHeld hbl) (fun hHeld2=>?_)
      clear hK K hHeld hbl
      have hHeld:=hHeld2
      clear hHeld2
      refine nx_ (some 80) ?_
      refine zA (i:=31) (N:=some 19) (fl 33 4294967295) rfl rfl (by kernel_rfl) (by decide) (fun K hK=>?_)
      refine box_step rfl rfl (cs:=#[.int .i64 0,.int .i64 0,.int .i64 0,.int .i64 0,.int .i64 0,.int .i64 0,.int .i64 0,.int .i64 0]) (t:=136) (by first | (go_simp;done) | (go_simp;rfl)) ?_
      intro g19 hg Wc hbox hbl
      refine hK.out _ _ (zb hHeld hbl) (fun hHeld2=>?_)
      have L19:w.heap.size≤g19:=by rw [hg];exact Nat.le_trans (zdp HBi.out) hHeld.size
      have B19:=hhd hbox
      have NR19:=hhd (show some g19≠_ from by rw [hg];exact Kd.R_ne_new (Kd.R_below QO.out hHeld) 0)
      clear hK K hHeld hbl hbox hg
      have hHeld:=hHeld2
      clear hHeld2
      refine nx_ (some 19) ?_
      refine zaf (i:=32) (N:=none) (fl 33 8589934591) rfl rfl (by kernel_rfl) (by decide) (fun K hK=>?_)
      refine zC rfl rfl 136 _ _ rfl g19 #[.int .i64 (ov 0).f0,.int .i64 (ov 0).f1,.int .i64 (ov 1).f0,.int .i64 (ov 1).f1,.int .i64 (ov 2).f0,.int .i64 (ov 2).f1,.int .i64 (ov 3).f0,.int .i64 (ov 3).f1] rfl rfl 136 #[.int .i64 0,.int .i64 0,.int .i64 0,.int .i64 0,.int .i64 0,.int .i64 0,.int .i64 0,.int .i64 0] B19.out (zbK _ _ _ _ _ _ _ _) rfl (zeF _ _ _ _ _ _ _ _) ?_
      intro Wd hq hoth hbel
      refine hK.out _ _ ?_
      have E19:=hhd hq
      have HBd:=hhd (own_put (zcd HBi.out hHeld) H00 L19 hoth hbel)
      have RD:=hhd (zK (Kd.R_below QO.out hHeld) hoth NR19.out)
      clear hK K hHeld hq hoth hbel
      refine zM (by kernel_rfl) ?_
     case' e1_31 =>
      refine box_step rfl rfl (cs:=#[.int .i64 0,.int .i64 0,.int .i64 0,.int .i64 0,.int .i64 0,.int .i64 0,.int .i64 0,.int .i64 0]) (t:=136) (by first | (go_simp;done) | (go_simp;rfl)) ?_
      intro g19 hg Wc hbox hbl
      refine hK.out _ _ (zb hHeld hbl) (fun hHeld2=>?_)
      have L19:w.heap.size≤g19:=by rw [hg];exact Nat.le_trans (zdp HBi.out) hHeld.size
      have B19:=hhd hbox
      have NR19:=hhd (show some g19≠_ from by rw [hg];exact Kd.R_ne_new (Kd.R_below QO.out hHeld) 0)
      clear hK K hHeld hbl hbox hg
      have hHeld:=hHeld2
      clear hHeld2
      refine nx_ (some 19) ?_
      refine zA (i:=30) (N:=some 80) (fl 33 4294967295) rfl rfl (by kernel_rfl) (by decide) (fun K hK=>?_)
      refine zN Tryz.func107 (by kernel_rfl) rfl #[.agg #[.int .i64 (av 0).f0,.int .i64 (av 0).f1,.int .i64 (av 1).f0,.int .i64 (av 1).f1,.int .i64 (av 2).f0,.int .i64 (av 2).f1,.int .i64 (av 3).f0,.int .i64 (av 3).f1],.agg #[.int .i64 (wv 0).f0,.int .i64 (wv 0).f1,.int .i64 (wv 1).f0,.int .i64 (wv 1).f1,.int .i64 (wv 2).f0,.int .i64 (wv 2).f1,.int .i64 (wv 3).f0,.int .i64 (wv 3).f1],.int .i64 bits,.int .i64 s,.int .i64 mode,.bool inv] (by rfl) rfl rfl (by go_simp) ?_
      refine (HQC.out _).mono ?_
      rintro e Wc ⟨rfl,hbl⟩
      refine ⟨_,rfl,?_⟩
      refine hK.out _ _ (zb hHeld hbl) (fun hHeld2=>?_)
      replace B19:=hhd (za B19.out hbl)
      clear hK K hHeld hbl
      have hHeld:=hHeld2
      clear hHeld2
      refine nx_ (some 80) ?_
      refine zaf (i:=32) (N:=none) (fl 33 8589934591) rfl rfl (by kernel_rfl) (by decide) (fun K hK=>?_)
      refine zC rfl rfl 136 _ _ rfl g19 #[.int .i64 (ov 0).f0,.int .i64 (ov 0).f1,.int .i64 (ov 1).f0,.int .i64 (ov 1).f1,.int .i64 (ov 2).f0,.int .i64 (ov 2).f1,.int .i64 (ov 3).f0,.int .i64 (ov 3).f1] rfl rfl 136 #[.int .i64 0,.int .i64 0,.int .i64 0,.int .i64 0,.int .i64 0,.int .i64 0,.int .i64 0,.int .i64 0] B19.out (zbK _ _ _ _ _ _ _ _) rfl (zeF _ _ _ _ _ _ _ _) ?_
      intro Wd hq hoth hbel
      refine hK.out _ _ ?_
      have E19:=hhd hq
      have HBd:=hhd (own_put (zcd HBi.out hHeld) H00 L19 hoth hbel)
      have RD:=hhd (zK (Kd.R_below QO.out hHeld) hoth NR19.out)
      clear hK K hHeld hq hoth hbel
      refine zM (by kernel_rfl) ?_
     all_goals
      clear B19 kw00 kw01 kw10 kw11 kw20 kw21 kw30 kw31 x00 x01 x10 x11 x20 x21 x30 x31
      go_wp2_with ((with_reducible refine zg (N:=81) rfl ?_);refine wpList_load_row rfl 136 _ rfl g19 rfl 136 #[.int .i64 (ov 0).f0,.int .i64 (ov 0).f1,.int .i64 (ov 1).f0,.int .i64 (ov 1).f1,.int .i64 (ov 2).f0,.int .i64 (ov 2).f1,.int .i64 (ov 3).f0,.int .i64 (ov 3).f1] (0,0) _ E19.out Tryz.underlying136 rfl (zbK _ _ _ _ _ _ _ _) ?_)
      go_loopw [82] (fun s82 wq=>∃q:Nat,q≤4∧s82=.int .i64 q∧Kd.R k38 38 wq w0.heap.size (fun _=>True) (.slice (some ⟨g,0,none⟩) n cap) (zcZ Yj fr hN j ov q)∧Own g w0 w wq) (fun i _=>4 - (intOf i).toNat)
      case atStart=>exact ⟨0,by decide,rfl,RD.out,HBd.out⟩
      case round =>
       obtain ⟨q,hq,rfl,ro,hb⟩:=hrel
       have RO:=hhd ro
       have HBr:=hhd hb
       clear ro hb RD HBd E19
       by_cases hq4:q < 4
       ·have hix:=zj9 ov q hq4
        have e1:=HH.out
        have e2:=HN.out
        have e3:=HM.out
        have e4:=HN64.out
        have qh:q*hN≤3*hN:=Nat.mul_le_mul_right _ (by omega)
        have qe:(↑q:Int)*h=((q*hN:Nat):Int):=by rw [e1,Int.natCast_mul]
        have z1:wrap64 (↑q*h)=↑q*h:=zw (by omega) (by omega)
        have zx:wrap64 (↑q*h+↑j)=↑q*h+↑j:=zw (by omega) (by omega)
        have z3:0≤↑q*h+↑j:=by omega
        have z4:↑q*h+↑j < ↑m:=by omega
        have z5:(↑q*h+↑j:Int).toNat=q*hN+j:=by omega
        have HLT:=hhd (show fr+(q*hN+j) < n by omega)
        generalize hiq:↑q*h+↑j=iq at z3 z4 z5
        have z2:wrap64 (↑q*h+↑j)=iq:=zx.trans hiq
        clear zx hiq
        have HOFF:=hhd (show fr*2+iq.toNat*2=(fr+(q*hN+j))*2 by rw [z5];omega)
        clear e1 e2 e3 e4 qh qe z5
        go_wp2_with (first
         | ((with_reducible refine zg (N:=21) rfl ?_);refine ba_ 21 #[.int .i64 0,.int .i64 0] 38 ?_;intro g21 hg W1 hbox hbl;have L21:w.heap.size≤g21:=(by rw [hg];exact zdp HBr.out);have B21_1:=hhd hbox;have HB_1:=hhd (zcd HBr.out hbl);have Rout_1:=hhd (Kd.R_below RO.out hbl);obtain ⟨k21_0_1,k21_1_1⟩:=bk2 B21_1.out;have NR21:=hhd (show some g21≠_ from by rw [hg];exact Kd.R_ne_new RO.out 0);clear hbox hbl hg)
         | ((with_reducible refine zo (t:=38) (p:=21) rfl ?_);refine zv rfl 38 _ _ rfl g21 #[.int .i64 (ov q).f0,.int .i64 (ov q).f1] rfl rfl 38 #[.int .i64 0,.int .i64 0] B21_1.out (zu _ _) rfl (zG _ _) ?_;intro W2 hq hoth hbel;have B21_2:=hhd hq;have HB_2:=hhd (own_put HB_1.out H00 L21 hoth hbel);have Rout_2:=hhd (zK Rout_1.out hoth NR21.out);clear k21_0_1 k21_1_1;obtain ⟨k21_0_2,k21_1_2⟩:=bx2 (.int .i64 (ov q).f0) (.int .i64 (ov q).f1) B21_2.out;clear hq hoth hbel)
         | ((with_reducible refine zg (N:=92) rfl ?_);refine wpList_load_row rfl 38 _ rfl g21 rfl 38 #[.int .i64 (ov q).f0,.int .i64 (ov q).f1] (0,0) _ B21_2.out Tryz.underlying38 rfl (zu _ _) ?_)
         | ((with_reducible refine zo (t:=38) (p:=93) rfl ?_);refine own_store rfl rfl _ _ rfl (fr+(q*hN+j)) _ HOFF.out _ (ov q) (fun _=>True) rfl rfl zb0 Rout_2.out HLT.out HB_2.out ?_;intro Wz hR hO hoth;have RZ:=hhd hR;have HBz:=hhd hO;clear hR hO hoth))
        go_roundw
        case rel=>exact ⟨q+1,by omega,by go_num,RZ.out,HBz.out⟩
        case measure=>exact zdf hq4
       ·obtain rfl:q=4:=by omega
        go_wp2
        go_roundw
        case rel=>exact ⟨j+1,HLJ.out,by go_num,by rw [HSTEP.out];exact RO.out,HBr.out⟩
        case measure=>rw [hwj];exact zdf HLJ.out
  ·obtain rfl:j=hN:=by omega
   have hjh:¬(↑j:Int) < h:=fun e=>hlt (hcmp.1 e)
   clear hcmp
   go_wp2
   go_end0
   exact ⟨rfl,RO.out,HBr.out⟩
end Go.Proofs.YteieahbadclppaaGreat.P

namespace Go.Proofs.YteieahbadclppaaGreat.P
open Go.RowKit Go.Proofs.YteieahbadclppaaGreatW.PrintWords Go.Proofs.YteieahbadclppaaGreatW.PrintLast Go.Proofs.YteieahbadclppaaGreatW.PrintMore
set_option linter.unusedVariables false
set_option linter.unusedSimpArgs false
theorem zfH {α:Type} (F:α→List (Nat×S38)):∀(ps:List α) (o:List S38),ps.foldl (fun o p=>zaT o (F p)) o=zaT o (ps.flatMap F)
 | [],_=>rfl
 | p :: ps,o=>by rw [List.foldl_cons,zfH F ps,List.flatMap_cons,zct]
def zfI (bits:Nat) (w:S38) (a b:Nat):Row:=[(⟨2^bits,0⟩,2^bits,a),(w,2^bits+1,b)]
def zfJ (bits:Nat) (w:S38) (a b:Nat):Row:=[(⟨2^bits,0⟩,2^bits,a),(⟨-w.f0,-w.f1⟩,2^bits+1,b)]
theorem zmW (x:List S38) (bits:Nat) (w:S38) (a b:Nat):dot x (zfI bits w a b)=zak (upC bits (x.getD a z38)) (zT (x.getD b z38) w):=by
 unfold zfI dot dot dot zaw zaS zak upC zT z38
 rw [Int.toNat_natCast]
 apply zaH <;> dsimp only <;> grind
theorem zmX (x:List S38) (bits:Nat) (w:S38) (a b:Nat):dot x (zfJ bits w a b)=zay (upC bits (x.getD a z38)) (zT (x.getD b z38) w):=by
 unfold zfJ dot dot dot zaw zaS zay upC zT z38
 rw [Int.toNat_natCast]
 apply zaH <;> dsimp only <;> grind
def zeG (wl:List S38) (bits:Nat) (inv:Bool) (h m:Int) (k:Nat):Row :=
 if Go.bits .and .i64 k h=0 then zfI bits (zH inv (zk wl (zcn h m k))) k (k+h.toNat) else zfJ bits (zH inv (zk wl (zcn h m ((k:Int) - h)))) (k - h.toNat) k
def zdC (wl:List S38) (bits:Nat) (inv:Bool) (h m:Int) (n:Nat):List Row:=(List.range n).map (zeG wl bits inv h m)
def zeH (h m:Int) (n:Nat):Bool :=
 decide (((zU h m n).flatMap fun p=>[p.1.toNat,(p.1+h).toNat]).Nodup) &&
 ((List.range n).all fun i=>((zU h m n).flatMap fun p=>[p.1.toNat,(p.1+h).toNat]).contains i) &&
 (zU h m n).all fun p=>decide (0≤p.1) && (decide (p.1+h < n) && (decide (Go.bits .and .i64 p.1 h=0) && (decide (Go.bits .and .i64 (p.1+h) h≠0) && (decide (p.2=zcn h m p.1) && (decide (0≤p.2) && decide (p.2 < n))))))
set_option maxRecDepth 100000 in
theorem zld:([2,3,4,5,6].all fun g=>(List.range g).all fun t=>zeH (2^t) (2^g / (2*2^t)) (2^g))=true:=by decide +kernel
theorem zkc (x wl:List S38) (h s mode m:Int) (bits n:Nat) (inv:Bool) (hx:x.length=n) (hh:0≤h) (hc:zeH h m n=true) (hB:∀z,z∈x→inB 2147483648 z=true) (hw:∀k:Int,0≤k→k < n→inB 1073741824 (zH inv (zk wl k))=true)
  (b1:bits≤29) (s0:0≤s) (s1:s≤3) (m0:0≤mode) (m1:mode < 3) (c:Nat) (hcs:(bits:Int)+s=c) :
  zdl x wl h bits s mode inv m n=zag c mode (zdC wl bits inv h m n) x:=by
 unfold zeH at hc
 rw [Bool.and_eq_true,Bool.and_eq_true,decide_eq_true_eq,List.all_eq_true,List.all_eq_true] at hc
 obtain ⟨⟨hn,hall⟩,hp⟩:=hc
 have e:zdl x wl h bits s mode inv m n=zaT x ((zU h m n).flatMap fun p=>[(p.1.toNat,(zao (zk x p.1) (zk x (p.1+h)) (zH inv (zk wl p.2)) bits s mode).1),((p.1+h).toNat,(zao (zk x p.1) (zk x (p.1+h)) (zH inv (zk wl p.2)) bits s mode).2)]) :=
  zfH (fun p:Int×Int=>[(p.1.toNat,(zao (zk x p.1) (zk x (p.1+h)) (zH inv (zk wl p.2)) bits s mode).1),((p.1+h).toNat,(zao (zk x p.1) (zk x (p.1+h)) (zH inv (zk wl p.2)) bits s mode).2)]) (zU h m n) x
 rw [e]
 have hget:∀k,k < n→(zag c mode (zdC wl bits inv h m n) x).getD k z38=shC c mode (dot x (zeG wl bits inv h m k)):=by
  intro k hk
  simp [zag,zdC,List.getD_eq_getElem?_getD,hk]
 refine zfk ?_ ?_ ?_ ?_ ?_
 ·rw [List.map_flatMap]
  exact hn
 ·intro q hq
  obtain ⟨p,hp1,hq⟩:=List.mem_flatMap.1 hq
  have h1:=hp p hp1
  simp only [Bool.and_eq_true,decide_eq_true_eq] at h1
  simp only [List.mem_cons,List.not_mem_nil,or_false] at hq
  rcases hq with rfl | rfl <;> (dsimp only;omega)
 ·simp [zag,zdC,hx]
 ·intro i hi
  have h1:=hall i (by rw [← hx];exact List.mem_range.2 hi)
  rw [List.contains_iff_mem] at h1
  obtain ⟨p,hp1,hq⟩:=List.mem_flatMap.1 h1
  simp only [List.mem_cons,List.not_mem_nil,or_false] at hq
  rcases hq with rfl | rfl
  ·exact ⟨_,List.mem_flatMap.2 ⟨p,hp1,List.mem_cons_self ..⟩,rfl⟩
  ·exact ⟨_,List.mem_flatMap.2 ⟨p,hp1,List.mem_cons_of_mem _ (List.mem_cons_self ..)⟩,rfl⟩
 ·intro q hq
  obtain ⟨p,hp1,hq⟩:=List.mem_flatMap.1 hq
  have h1:=hp p hp1
  simp only [Bool.and_eq_true,decide_eq_true_eq] at h1
  obtain ⟨q0,q1,q2,q3,q4,q5,q6⟩:=h1
  have k1:inB 2147483648 (zk x p.1)=true:=zc0 hB q0 (by omega)
  have k2:inB 2147483648 (zk x (p.1+h))=true:=zc0 hB (by omega) (by omega)
  have hpv:=zk2 (zk x p.1) (zk x (p.1+h)) (zH inv (zk wl p.2)) bits s mode k1 k2 (hw p.2 q5 q6) (by omega) (by omega) s0 s1 m0 m1
  rw [hpv] at hq
  have t1:((p.1.toNat:Nat):Int)=p.1:=Int.toNat_of_nonneg q0
  have t2:(((p.1+h).toNat:Nat):Int)=p.1+h:=Int.toNat_of_nonneg (by omega)
  simp only [List.mem_cons,List.not_mem_nil,or_false] at hq
  rcases hq with rfl | rfl
  ·rw [hget _ (by omega)]
   unfold zeG
   rw [t1,if_pos q2,zmW,hcs,← q4,show p.1.toNat+h.toNat=(p.1+h).toNat by omega]
   rfl
  ·rw [hget _ (by omega)]
   unfold zeG
   rw [t2,if_neg q3,zmX,hcs,show p.1+h - h=p.1 by omega,← q4,show (p.1+h).toNat - h.toNat=p.1.toNat by omega]
   rfl
end Go.Proofs.YteieahbadclppaaGreat.P

namespace Go.Proofs.YteieahbadclppaaGreat.P
open Go.RowKit Go.Shelf Go.Proofs.YteieahbadclppaaGreatW.PrintWords Go.Proofs.YteieahbadclppaaGreatW.PrintLast Go.Proofs.YteieahbadclppaaGreatW.PrintMore
set_option linter.unusedVariables false
set_option linter.unusedSimpArgs false
def zbI (Y wl:List S38) (hN:Nat) (u bits s mode:Int) (inv:Bool):Nat→List S38
 | 0=>Y
 | t+1=>zba (zbI Y wl hN u bits s mode inv t) wl (t*(4*hN)) hN u bits s mode inv hN
theorem zmb {n a b:Nat} (h:a < b) (hb:b≤n):n - (intOf (.int .i64 (b:Int))).toNat < n - (intOf (.int .i64 (a:Int))).toNat:=by
 simp [intOf];omega
set_option maxRecDepth 100000 in
set_option maxHeartbeats 8000000 in
theorem zhE (A A2:Option Addr) (c c2:Nat) (l wl:List S38) (hN T:Nat) (h bits s mode u mm lg:Int) (inv:Bool) (w:World)
  (hr:Kd.C k38 w A l.length l) (hc:l.length≤c) (hs:Kd.C k38 w A2 wl.length wl) (hc2:wl.length≤c2) (hlen:wl.length=l.length) (hn0:0 < l.length) (hn:l.length≤64)
  (hlog:flip_Log.f 10 l.length=some (lg,0)) (hh:h=hN) (h1:1≤hN) (hT:T*(4*hN)=l.length) (h2:h≤(l.length:Int) / 4) (hu:(l.length:Int).tdiv (4*h)=u) (hu2:0≤u∧4*h*u≤l.length∧u≤64) (hpow:Go.bits .and .i64 h (h - 1)=0) (hset:four_settings.f bits s mode=some true) (b0:0≤bits) (b1:bits≤40) (hmm:mm=2^bits.toNat)
  (b2:bits≤29) (s0:0≤s) (s1:s≤3) (mo0:0≤mode) (mo1:mode < 3)
  (hx:∀x,x∈l→inB 2147483648 x=true) (hw:∀x,x∈wl→inB mm x=true)
  (hin:∀t,t < T→∀j,j < hN→∀k,k < 4→inB 2147483648 (aOf (zba (zbI l wl hN u bits s mode inv t) wl (t*(4*hN)) hN u bits s mode inv j) (t*(4*hN)) hN j k)=true) :
  Calls Tryz.prog 50 #[.slice A l.length c,.slice A2 wl.length c2,.int .i64 h,.int .i64 bits,.int .i64 s,.int .i64 mode,.bool inv] w fun e w'=>∃v,e=.returned (.tuple #[v,.int .i64 0])∧Kd.R k38 38 w' w.heap.size (fun _=>True) v (zbI l wl hN u bits s mode inv T)∧Below w.heap.size w w':=by
 have hmx:Tryz.prog.follows .mixedOrders=true:=by kernel_rfl
 have HCL:=hhd (show api_Cx_79.f l=some l by unfold api_Cx_79.f api_Cx_79a.f;rw [Option.bind_some,if_pos (by simp;omega)];rfl)
 have HR:=hhd hr
 have HS:=hhd hs
 have HC:=hhd hc
 have HC2:=hhd hc2
 have HX:=hhd hx
 have HW:=hhd hw
 have HNE:=hhd hn0
 have HLOG:=hhd hlog
 have HSET:=hhd hset
 have HLN:=hhd hlen
 have HN:=hhd hn
 have HIN:=hhd hin
 have HH:=hhd hh
 have HTT:=hhd hT
 have HU2:=hhd hu2
 have H1:=hhd h1
 have HWI:=hhd (show ∀x,x∈wl→inB 536870912 x=true from fun x hx=>by
  obtain ⟨p0,p1⟩:=zd8 b0 b2
  obtain ⟨c0,c1,c2,c3⟩:=zan (hw x hx)
  exact zbe (by rw [hmm] at c0 c1 c2 c3;omega))
 have HQ:=hhd (And.intro b0 (And.intro b2 (And.intro s0 (And.intro s1 (And.intro mo0 mo1)))))
 have hle4:4*hN≤l.length:=by
  rcases Nat.eq_zero_or_pos T with e | e
  ·rw [e] at hT;omega
  ·have:=Nat.mul_le_mul_right (4*hN) e;omega
 have q1:(h < 1)=False:=eq_false (by omega)
 have q2:((l.length:Int) / 4 < h)=False:=eq_false (by omega)
 have q3:wrap64 (h - 1)=h - 1:=by unfold wrap64;omega
 have q4:(wl.length:Int)=(l.length:Int):=by omega
 have q5:wrap64 (4*h)=4*h:=by unfold wrap64;omega
 have q6:(4*h=0)=False:=eq_false (by omega)
 have q7:wrap64 u=u:=by unfold wrap64;omega
 have q1':decide (h < 1)=false:=decide_eq_false (by omega)
 have q2':decide ((l.length:Int) / 4 < h)=false:=decide_eq_false (by omega)
 have q8:wrap64 ((l.length:Int) / 4)=(l.length:Int) / 4:=by unfold wrap64;omega
 have HLE:=hhd hle4
 have HB0:=hhd (Below.refl w.heap.size w)
 clear hr hs hc hc2 hx hw hlog hset hlen hn hn0 hin hh hT hu2 h1 hle4
 go_enter Tryz.func50,Tryz.ntmps50
 go_wp2_with (first
  | ((with_reducible refine zg (N:=10) rfl ?_);refine ba_ 10 #[.int .i64 bits] 3 ?_;intro g10 hg W1 hbox hbl;have L10:=gf_ hg HB0.out;have B10_1:=hhd hbox;have HB_1:=hhd (zb HB0.out hbl);have Cx_1:=hhd (Kd.C_below HR.out HB_1.out);have Cy_1:=hhd (Kd.C_below HS.out HB_1.out);have k10_0_1:=bk1 B10_1.out;clear hbox hbl hg)
  | (go_at_call 40;(with_reducible refine (flip_Log.calls 10 _ _ _ _ HLOG.out).mono ?_);rintro e W2 ⟨rfl,hd⟩;have hb:=hd.below;clear hd;have HB_2:=hhd (zb HB_1.out hb);have B10_2:=hhd (za B10_1.out hb);have Cx_2:=hhd (Kd.C_below HR.out HB_2.out);have Cy_2:=hhd (Kd.C_below HS.out HB_2.out);have k10_0_2:=bk1 B10_2.out;clear k10_0_1;clear hb)
  | (go_at_call 85;(with_reducible refine (four_settings.calls bits s mode true _ HSET.out).mono ?_);rintro e W3 ⟨rfl,hb⟩;have HB_3:=hhd (zb HB_2.out hb);have B10_3:=hhd (za B10_2.out hb);have Cx_3:=hhd (Kd.C_below HR.out HB_3.out);have Cy_3:=hhd (Kd.C_below HS.out HB_3.out);have k10_0_3:=bk1 B10_3.out;clear k10_0_2;clear hb)
  | (go_at_call 43;(with_reducible refine (zg4 A c l _ Cx_3.out HC.out HX.out).mono ?_);rintro e W4 ⟨rfl,hb⟩;have HB_4:=hhd (zb HB_3.out hb);have B10_4:=hhd (za B10_3.out hb);have Cx_4:=hhd (Kd.C_below HR.out HB_4.out);have Cy_4:=hhd (Kd.C_below HS.out HB_4.out);have k10_0_4:=bk1 B10_4.out;clear k10_0_3;clear hb)
  | (go_at_call 43;(with_reducible refine (zg6 A2 c2 wl g10 bits mm b0 b1 hmm _ Cy_4.out HC2.out B10_4.out HW.out).mono ?_);rintro e W5 ⟨rfl,hb⟩;have HB_5:=hhd (zb HB_4.out hb);have B10_5:=hhd (za B10_4.out hb);have Cx_5:=hhd (Kd.C_below HR.out HB_5.out);have Cy_5:=hhd (Kd.C_below HS.out HB_5.out);have k10_0_5:=bk1 B10_5.out;clear k10_0_4;clear hb)
  | (go_at_call 79;(refine (api_Cx_79.calls A c l l _ Cx_5.out HC.out HCL.out).mono ?_);rintro e W6 ⟨v20,rfl,ho,hb⟩;obtain ⟨g,cap,hv,hg1,hg2,_⟩:=Kd.R_form ho HNE.out;subst hv;have Rout_6:=hhd (Kd.R_lower ho (zj HB_5.out));have NG:=hhd (show g10≠g from fun e=>by have:=zf B10_5.out;omega);have HB_6:=hhd (zb HB_5.out hb);have B10_6:=hhd (za B10_5.out hb);have Cx_6:=hhd (Kd.C_below HR.out HB_6.out);have Cy_6:=hhd (Kd.C_below HS.out HB_6.out);have k10_0_6:=bk1 B10_6.out;clear k10_0_5;clear hb ho hg1 hg2))
 clear k10_0_6
 go_loopw [21] (fun s21 wr=>∃t:Nat,t≤T∧s21=.int .i64 ((t*(4*hN):Nat):Int)∧Kd.R k38 38 wr w.heap.size (fun _=>True) (.slice (some ⟨g,0,none⟩) l.length cap) (zbI l wl hN u bits s mode inv t)∧wr.heap[g10]?=some (.cells #[.int .i64 bits] 3 (0,0))∧Below w.heap.size w wr) (fun i _=>l.length - (intOf i).toNat)
 case atStart=>exact ⟨0,Nat.zero_le _,by simp,Rout_6.out,B10_6.out,HB_6.out⟩
 case round =>
  obtain ⟨t,ht,rfl,ro,e10,hb⟩:=hrel
  have RO:=hhd ro
  have E10:=hhd e10
  have HBr:=hhd hb
  clear ro hb B10_6 HB_6 Rout_6
  by_cases hlt:t < T
  ·have HLT:=hhd hlt
   have HSTEP:=hhd (show zbI l wl hN u bits s mode inv (t+1)=zba (zbI l wl hN u bits s mode inv t) wl (t*(4*hN)) hN u bits s mode inv hN from rfl)
   have HA:=hhd (HIN.out t hlt)
   have e1:=HH.out
   have e2:=HTT.out
   have e3:=HN.out
   have HFR:=hhd (show t*(4*hN)+4*hN≤l.length from by rw [← e2,← Nat.succ_mul];exact Nat.mul_le_mul_right _ hlt)
   have e4:=HFR.out
   have kb:wr.cell? ⟨g10,0,none⟩=some (.int .i64 bits):=(zc e10 0).trans rfl
   generalize hfr:t*(4*hN)=fr at *
   have HFE:=hhd hfr
   clear hfr
   have c1:(↑fr:Int) < ↑l.length:=by have:=H1.out;omega
   have hx1:wrap64 (↑fr+4*h)=((fr+4*hN:Nat):Int):=by rw [zw (by omega) (by omega)];omega
   have HDR:=hhd (show Below wr.heap.size wr wr.drew from (Below.refl _ _).drew)
   generalize zbI l wl hN u bits s mode inv t=Yt at *
   clear e1 e2 e3 e4 e10
   have HCAP:=hhd (show l.length≤cap from by have:=(R_C RO.out).1;have h2:=zlG RO.out;omega)
   have c2_:((fr+4*hN:Nat):Int)≤↑cap:=by have:=HCAP.out;have:=HFR.out;omega
   have c3_:(↑fr:Int)≤((fr+4*hN:Nat):Int):=by omega
   generalize hto:fr+4*hN=fto at *
   have hne_:(fto=fr)=False:=eq_false (by have:=H1.out;omega)
   have HTO:=hhd hto
   have HFL:=hhd (show fr < fto from by have:=H1.out;omega)
   clear hto
   go_wp2
   refine zae (S:=fun w'=>Below wr.heap.size wr w') (ds:=[22]) (fl 23 0) hmx rfl rfl (Below.refl _ _).drew (fun hHeld=>?_)
   refine px_ 0 (some 82) (fl 23 1) rfl rfl ?_
   refine px_ 1 (some 83) (fl 23 3) rfl rfl ?_
   refine px_ 2 (some 84) (fl 23 7) rfl rfl ?_
   refine px_ 3 (some 85) (fl 23 15) rfl rfl ?_
   refine px_ 4 (some 86) (fl 23 31) rfl rfl ?_
   refine px_ 5 (some 87) (fl 23 63) rfl rfl ?_
   refine px_ 6 (some 88) (fl 23 127) rfl rfl ?_
   refine px_ 7 (some 89) (fl 23 255) rfl rfl ?_
   refine px_ 8 (some 90) (fl 23 511) rfl rfl ?_
   refine px_ 9 (some 91) (fl 23 1023) rfl rfl ?_
   refine px_ 10 (some 92) (fl 23 2047) rfl rfl ?_
   refine px_ 11 (some 93) (fl 23 4095) rfl rfl ?_
   refine px_ 12 (some 94) (fl 23 8191) rfl rfl ?_
   refine px_ 13 (some 95) (fl 23 16383) rfl rfl ?_
   refine px_ 14 (some 96) (fl 23 32767) rfl rfl ?_
   refine px_ 15 (some 97) (fl 23 65535) rfl rfl ?_
   refine px_ 16 (some 98) (fl 23 131071) rfl rfl ?_
   refine px_ 17 (some 99) (fl 23 262143) rfl rfl ?_
   refine px_ 19 (some 101) (fl 23 786431) rfl rfl ?_
   refine px_ 20 (some 102) (fl 23 1835007) rfl rfl ?_
   refine px_ 21 (some 103) (fl 23 3932159) rfl rfl ?_
   refine tx_ 18 (some 100) (fl 23 4194303) rfl rfl hHeld (by rintro w' hs;have j_kb:=bg hs kb;go_simp;with_reducible rfl) ?_
   refine zaf (i:=22) (N:=some 104) (fl 23 8388607) rfl rfl (by kernel_rfl) (by decide) (fun K hK=>?_)
   refine zN Tryz.func86 (by kernel_rfl) rfl #[.slice (some ⟨g,fr*2,none⟩) (fto - fr) (fto - fr),.slice A2 wl.length c2,.int .i64 h,.int .i64 u,.int .i64 bits,.int .i64 s,.int .i64 mode,.bool inv] (by rfl) rfl rfl (by go_simp) ?_
   refine (zkb g l.length cap fr hN Yt wl A2 c2 (fto - fr) h u bits s mode inv w _ (zb HBr.out hHeld) HS.out (Kd.R_below RO.out hHeld) (by have:=HTO.out;omega) HH.out (by have:=HTO.out;have:=HFR.out;omega) HN.out HU2.out.1 (by rw [HLN.out];exact HU2.out.2.1) (by rw [HLN.out];exact HN.out) (by rw [HLN.out];exact HNE.out) HQ.out.1 HQ.out.2.1 HQ.out.2.2.1 HQ.out.2.2.2.1 HQ.out.2.2.2.2.1 HQ.out.2.2.2.2.2 HA.out HWI.out).mono ?_
   rintro e Wc ⟨rfl,hR,hO⟩
   refine ⟨_,rfl,?_⟩
   refine hK.out _ _ ?_
   have RZ:=hhd hR
   have HBz:=hhd hO.below
   have EZ:=hhd ((hO.block g10 NG.out (zf (za E10.out hHeld))).trans (za E10.out hHeld))
   clear hK K hHeld hR hO kb
   refine nx_ (some 104) ?_
   refine zM (by kernel_rfl) ?_
   go_wp2
   go_roundw
   case rel=>exact ⟨t+1,HLT.out,by rw [hx1,show (t+1)*(4*hN)=fto from by rw [Nat.succ_mul,HFE.out,HTO.out]],by rw [HSTEP.out];exact RZ.out,EZ.out,HBz.out⟩
   case measure=>rw [hx1];exact zmb HFL.out HFR.out
  ·obtain rfl:t=T:=Nat.le_antisymm ht (Nat.le_of_not_lt hlt)
   have c1:¬(((t*(4*hN):Nat):Int) < ↑l.length):=by have:=HTT.out;omega
   go_wp2
   refine bodyPost_ret (zdM rfl _ _ _) rfl ?_
   exact ⟨_,rfl,RO.out,HBr.out⟩
end Go.Proofs.YteieahbadclppaaGreat.P

namespace Go.Proofs.YteieahbadclppaaGreat.P
open Go.RowKit Go.Proofs.YteieahbadclppaaGreatW.PrintWords Go.Proofs.YteieahbadclppaaGreatW.PrintLast Go.Proofs.YteieahbadclppaaGreatW.PrintMore
set_option linter.unusedVariables false
set_option linter.unusedSimpArgs false
def zbD (r:List S38):Nat→S38
 | 0=>r.getD 0 z38
 | 1=>r.getD 2 z38
 | 2=>r.getD 1 z38
 | _=>r.getD 3 z38
def zdN (wl:List S38) (h:Nat) (u bits s mode:Int) (inv:Bool) (fr j:Nat):Grp :=
 ⟨[fr+(0*h+j),fr+(1*h+j),fr+(2*h+j),fr+(3*h+j)],fun r=>[zaU (zbD r) (wOf wl u inv j) bits s mode inv 0,zaU (zbD r) (wOf wl u inv j) bits s mode inv 1,zaU (zbD r) (wOf wl u inv j) bits s mode inv 2,zaU (zbD r) (wOf wl u inv j) bits s mode inv 3]⟩
theorem zbv (Y:List S38) (k:Nat):zk Y (k:Int)=Y.getD k z38:=by unfold zk;rw [Int.toNat_natCast]
theorem zhF (Y:List S38) (fr h j:Nat):aOf Y fr h j=zbD [Y.getD (fr+(0*h+j)) z38,Y.getD (fr+(1*h+j)) z38,Y.getD (fr+(2*h+j)) z38,Y.getD (fr+(3*h+j)) z38]:=by
 funext k
 match k with
 | 0=>show zk Y ((fr+j:Nat):Int)=_;rw [zbv,show fr+j=fr+(0*h+j) by omega];rfl
 | 1=>show zk Y ((fr+(2*h+j):Nat):Int)=_;rw [zbv];rfl
 | 2=>show zk Y ((fr+(h+j):Nat):Int)=_;rw [zbv,show fr+(h+j)=fr+(1*h+j) by omega];rfl
 | k+3=>show zk Y ((fr+(3*h+j):Nat):Int)=_;rw [zbv];rfl
theorem zle (Y wl:List S38) (h:Nat) (u bits s mode:Int) (inv:Bool) (fr j:Nat):zcZ Y fr h j (zaU (aOf Y fr h j) (wOf wl u inv j) bits s mode inv) 4=zaT Y ((zdN wl h u bits s mode inv fr j).asg Y):=by
 rw [zhF]
 rfl
theorem zee (Y wl:List S38) (h:Nat) (u bits s mode:Int) (inv:Bool) (fr:Nat):∀j,zba Y wl fr h u bits s mode inv j=zdz Y ((List.range j).map (zdN wl h u bits s mode inv fr))
 | 0=>rfl
 | j+1=>by
  rw [zba,zle,zee Y wl h u bits s mode inv fr j,List.range_succ,List.map_append]
  unfold zdz
  rw [List.foldl_append]
  rfl
def zef (wl:List S38) (h:Nat) (u bits s mode:Int) (inv:Bool) (T:Nat):List Grp:=(List.range T).flatMap fun t=>(List.range h).map (zdN wl h u bits s mode inv (t*(4*h)))
theorem zdO (Y wl:List S38) (h:Nat) (u bits s mode:Int) (inv:Bool):∀t,zbI Y wl h u bits s mode inv t=zdz Y (zef wl h u bits s mode inv t)
 | 0=>rfl
 | t+1=>by
  rw [zbI,zee,zdO Y wl h u bits s mode inv t]
  unfold zef zdz
  rw [List.range_succ,List.flatMap_append,List.foldl_append,List.flatMap_cons,List.flatMap_nil,List.append_nil]
def zi8 (wl:List S38) (h:Nat) (u:Int) (bits:Nat) (inv:Bool) (fr j q:Nat):Row :=
 [(⟨2^bits,0⟩,2^bits,fr+(0*h+j)),(zaa (q*byN inv 1 % 4) (wOf wl u inv j 1),2^bits+1,fr+(2*h+j)),(zaa (q*byN inv 2 % 4) (wOf wl u inv j 2),2^bits+1,fr+(1*h+j)),(zaa (q*byN inv 3 % 4) (wOf wl u inv j 3),2^bits+1,fr+(3*h+j))]
theorem zcD (n:Nat) (a w:S38):zaa n (zT a w)=zaS (zaa n w) a:=by
 unfold zaa
 split <;> (unfold zT zaS;apply zaH <;> dsimp only <;> grind)
theorem zlf (x wl:List S38) (h:Nat) (u:Int) (bits:Nat) (inv:Bool) (fr j q:Nat):dot x (zi8 wl h u bits inv fr j q)=zeX (zbD [x.getD (fr+(0*h+j)) z38,x.getD (fr+(1*h+j)) z38,x.getD (fr+(2*h+j)) z38,x.getD (fr+(3*h+j)) z38]) (wOf wl u inv j) bits inv q:=by
 have e0:zcu (zbD [x.getD (fr+(0*h+j)) z38,x.getD (fr+(1*h+j)) z38,x.getD (fr+(2*h+j)) z38,x.getD (fr+(3*h+j)) z38]) (wOf wl u inv j) bits inv q 0=zaS ⟨2^bits,0⟩ (x.getD (fr+(0*h+j)) z38):=by
  show zaa (q*0 % 4) (upC bits (x.getD (fr+(0*h+j)) z38))=_
  rw [Nat.mul_zero]
  show upC bits (x.getD (fr+(0*h+j)) z38)=_
  unfold upC zaS
  rw [Int.toNat_natCast]
  apply zaH <;> dsimp only <;> grind
 have e1:zcu (zbD [x.getD (fr+(0*h+j)) z38,x.getD (fr+(1*h+j)) z38,x.getD (fr+(2*h+j)) z38,x.getD (fr+(3*h+j)) z38]) (wOf wl u inv j) bits inv q 1=zaS (zaa (q*byN inv 1 % 4) (wOf wl u inv j 1)) (x.getD (fr+(2*h+j)) z38):=zcD _ _ _
 have e2:zcu (zbD [x.getD (fr+(0*h+j)) z38,x.getD (fr+(1*h+j)) z38,x.getD (fr+(2*h+j)) z38,x.getD (fr+(3*h+j)) z38]) (wOf wl u inv j) bits inv q 2=zaS (zaa (q*byN inv 2 % 4) (wOf wl u inv j 2)) (x.getD (fr+(1*h+j)) z38):=zcD _ _ _
 have e3:zcu (zbD [x.getD (fr+(0*h+j)) z38,x.getD (fr+(1*h+j)) z38,x.getD (fr+(2*h+j)) z38,x.getD (fr+(3*h+j)) z38]) (wOf wl u inv j) bits inv q 3=zaS (zaa (q*byN inv 3 % 4) (wOf wl u inv j 3)) (x.getD (fr+(3*h+j)) z38):=zcD _ _ _
 unfold zeX
 rw [e0,e1,e2,e3]
 unfold zi8 dot dot dot dot dot zaw zak z38
 apply zaH <;> dsimp only <;> omega
def zi9 (wl:List S38) (h:Nat) (u:Int) (bits:Nat) (inv:Bool) (k:Nat):Row:=zi8 wl h u bits inv (k / (4*h)*(4*h)) (k % (4*h) % h) (k % (4*h) / h)
def zcL (wl:List S38) (h:Nat) (u:Int) (bits:Nat) (inv:Bool) (n:Nat):List Row:=(List.range n).map (zi9 wl h u bits inv)
def zdX (h T:Nat):List Nat:=(List.range T).flatMap fun t=>(List.range h).flatMap fun j=>[t*(4*h)+(0*h+j),t*(4*h)+(1*h+j),t*(4*h)+(2*h+j),t*(4*h)+(3*h+j)]
def zeI (h T n:Nat):Bool :=
 decide ((zdX h T).Nodup) && ((List.range n).all fun i=>(zdX h T).contains i) &&
 (List.range T).all fun t=>(List.range h).all fun j=>(List.range 4).all fun q=>(decide ((t*(4*h)+(q*h+j)) / (4*h)=t) && (decide ((t*(4*h)+(q*h+j)) % (4*h) % h=j) && (decide ((t*(4*h)+(q*h+j)) % (4*h) / h=q) && decide (t*(4*h)+(q*h+j) < n))))
set_option maxRecDepth 100000 in
theorem zlg:([2,3,4,5,6].all fun g=>(List.range (g - 1)).all fun t=>zeI (2^t) (2^g / (4*2^t)) (2^g))=true:=by decide +kernel
theorem zif (x wl:List S38) (h T n:Nat) (u s mode:Int) (bits c:Nat) (inv:Bool) (hx:x.length=n) (hc:zeI h T n=true) (hcs:(bits:Int)+s=c) :
  zbI x wl h u bits s mode inv T=zag c mode (zcL wl h u bits inv n) x:=by
 unfold zeI at hc
 rw [Bool.and_eq_true,Bool.and_eq_true,decide_eq_true_eq,List.all_eq_true,List.all_eq_true] at hc
 obtain ⟨⟨hn,hall⟩,hp⟩:=hc
 have hfl:((zef wl h u bits s mode inv T).flatMap (·.pl))=zdX h T:=by
  unfold zef zdX
  rw [List.flatMap_assoc]
  congr 1
  funext t
  rw [List.flatMap_map]
  rfl
 have hq:∀t,t < T→∀j,j < h→∀q,q < 4→(t*(4*h)+(q*h+j)) / (4*h)=t∧(t*(4*h)+(q*h+j)) % (4*h) % h=j∧(t*(4*h)+(q*h+j)) % (4*h) / h=q∧t*(4*h)+(q*h+j) < n:=by
  intro t ht j hj q hq
  have h1:=hp t (List.mem_range.2 ht)
  rw [List.all_eq_true] at h1
  have h2:=h1 j (List.mem_range.2 hj)
  rw [List.all_eq_true] at h2
  have h3:=h2 q (List.mem_range.2 hq)
  simpa only [Bool.and_eq_true,decide_eq_true_eq] using h3
 have hget:∀k,k < n→(zag c mode (zcL wl h u bits inv n) x).getD k z38=shC c mode (dot x (zi9 wl h u bits inv k)):=by
  intro k hk
  simp [zag,zcL,List.getD_eq_getElem?_getD,hk]
 rw [zdO,zhs _ _ (by rw [hfl];exact hn)]
 have hmap:∀g:Grp,g∈zef wl h u bits s mode inv T→(g.asg x).map (·.1)=g.pl:=by
  intro g hg
  obtain ⟨t,ht,hg⟩:=List.mem_flatMap.1 hg
  obtain ⟨j,hj,rfl⟩:=List.mem_map.1 hg
  rfl
 have hms:((zef wl h u bits s mode inv T).flatMap fun g=>g.asg x).map (·.1)=zdX h T:=by
  rw [← hfl,List.map_flatMap]
  rw [List.flatMap_def,List.flatMap_def]
  congr 1
  exact List.map_congr_left hmap
 have hval:∀p,p∈((zef wl h u bits s mode inv T).flatMap fun g=>g.asg x)→p.1 < n∧(zag c mode (zcL wl h u bits inv n) x).getD p.1 z38=p.2:=by
  intro p hp
  obtain ⟨g,hg,hp⟩:=List.mem_flatMap.1 hp
  obtain ⟨t,ht,hg⟩:=List.mem_flatMap.1 hg
  obtain ⟨j,hj,rfl⟩:=List.mem_map.1 hg
  have ht:=List.mem_range.1 ht
  have hj:=List.mem_range.1 hj
  have key:∀q,q < 4→t*(4*h)+(q*h+j) < n∧(zag c mode (zcL wl h u bits inv n) x).getD (t*(4*h)+(q*h+j)) z38=zaU (zbD ((zdN wl h u bits s mode inv (t*(4*h)) j).pl.map fun p=>x.getD p z38)) (wOf wl u inv j) bits s mode inv q:=by
   intro q hq4
   obtain ⟨a1,a2,a3,a4⟩:=hq t ht j hj q hq4
   refine ⟨a4,?_⟩
   rw [hget _ a4]
   unfold zi9
   rw [a1,a2,a3,zlf]
   unfold zaU
   rw [hcs]
   rfl
  have hp4:p∈[(t*(4*h)+(0*h+j),zaU (zbD ((zdN wl h u bits s mode inv (t*(4*h)) j).pl.map fun p=>x.getD p z38)) (wOf wl u inv j) bits s mode inv 0),(t*(4*h)+(1*h+j),zaU (zbD ((zdN wl h u bits s mode inv (t*(4*h)) j).pl.map fun p=>x.getD p z38)) (wOf wl u inv j) bits s mode inv 1),(t*(4*h)+(2*h+j),zaU (zbD ((zdN wl h u bits s mode inv (t*(4*h)) j).pl.map fun p=>x.getD p z38)) (wOf wl u inv j) bits s mode inv 2),(t*(4*h)+(3*h+j),zaU (zbD ((zdN wl h u bits s mode inv (t*(4*h)) j).pl.map fun p=>x.getD p z38)) (wOf wl u inv j) bits s mode inv 3)]:=hp
  simp only [List.mem_cons,List.not_mem_nil,or_false] at hp4
  rcases hp4 with rfl | rfl | rfl | rfl
  ·exact key 0 (by decide)
  ·exact key 1 (by decide)
  ·exact key 2 (by decide)
  ·exact key 3 (by decide)
 refine zfk (by rw [hms];exact hn) (fun p hp=>by rw [hx];exact (hval p hp).1) (by simp [zag,zcL,hx]) (fun i hi=>?_) (fun p hp=>(hval p hp).2)
 have h1:=hall i (by rw [← hx];exact List.mem_range.2 hi)
 rw [List.contains_iff_mem,← hms] at h1
 obtain ⟨p,hp1,rfl⟩:=List.mem_map.1 h1
 exact ⟨p,hp1,rfl⟩
end Go.Proofs.YteieahbadclppaaGreat.P

