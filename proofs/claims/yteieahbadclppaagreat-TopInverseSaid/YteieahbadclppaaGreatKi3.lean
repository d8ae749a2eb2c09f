/- Part 3 of 18 of the proof: the texts that it reaches, one behind the other. No condition. -/
import Derived.Test.YteieahbadclppaaGreatKi2
import Derived.Great.BuildSlice
import Derived.Laws.CopyOwn
import Derived.Deep.QuietTactic
import Derived.BigQuiet
import Derived.Outline
import Derived.Lib.Hide
import Derived.Deep.RegionHeld3
namespace Go.Proofs.YteieahbadclppaaGreat.P
open Go.RowKit Go.Proofs.YteieahbadclppaaGreatW.PrintWords Go.Proofs.YteieahbadclppaaGreatW.PrintLast Go.Proofs.YteieahbadclppaaGreatW.PrintMore
attribute [local go_sem] zI zJ zO zP
set_option linter.unusedVariables false
set_option linter.unusedSimpArgs false
section
variable {P:Program} {ops:Array Oper} {rest:List Oper} {o:Oper} {a:Act} {Q:Exit→Act→World→Prop}
theorem zv {W:World} (hgd:o.guard=none) (ty:TypeId) (x y:Operand) (ho:o.op=.store ty x y)
  (g:Nat) (cells:Array Value) (hx:a.eval x=.pointer (some ⟨g,0,none⟩)) (hy:a.eval y=.agg cells)
  (t:TypeId) (old:Array Value) (hg:W.heap[g]?=some (.cells old t (0,0))) (hi:(P.info? ty).map (·.size)=some cells.size)
  (hold:old.size=cells.size) (h1:cells.all (·.oneCell')=true)
  (h:∀w1,w1.heap[g]?=some (.cells cells t (0,0))→(∀k,k≠g→w1.heap[k]?=W.heap[k]?)→(∀B w0,B≤g→Below B w0 W→Below B w0 w1)→wpList P ops Q rest (a.put o.dst undef) w1):wpList P ops Q (o :: rest) a W :=
 wpList_store_row hgd ty x y ho g cells hx hy t old hg hi hold h1 (h _ (setRow_heap W g old cells t (0,0) hg) (fun k hk=>setRow_other W g k cells hk) (fun B w0 hB hb=>below_setRow hb hB cells))
end
theorem zu (a b:Value):(Tryz.prog.info? 38).map (·.size)=some (#[a,b]:Array Value).size:=by kernel_rfl
theorem zG (a b:Int):(#[.int .i64 a,.int .i64 b]:Array Value).all (·.oneCell')=true:=by simp [Value.oneCell']
theorem zeP {W:World} {B:Nat} {x:S38} (h:W.heap[B]?=some (.cells #[.int .i64 x.f0,.int .i64 x.f1] 38 (0,0))):Kd.C k38 W (some ⟨B,0,none⟩) [x].length [x]:=by
 refine ⟨rfl,(show 1≤9223372036854775807 by decide),fun _=>?_⟩
 refine ⟨⟨B,0,none⟩,rfl,fun j p hp=>?_⟩
 cases j with
 | zero =>
  obtain rfl:=Option.some.inj hp
  refine ⟨_,rfl,zjw W _,fun i u hu=>?_⟩
  have hc:=zc h i
  have e:(Addr.mk B 0 none).add (0*k38.sz+i)=⟨B,i,none⟩:=by rw [Nat.zero_mul,Nat.zero_add];unfold Addr.add;split <;> simp_all
  rw [e,hc,List.getElem?_toArray]
  exact hu
 | succ j=>simp at hp
def zbW (x:S38):Bool:=decide (x.f0≤2305843009213693952∧x.f1≤2305843009213693952∧-2305843009213693952≤x.f0∧-2305843009213693952≤x.f1)
theorem zcJ (x:S38):cx_within.f 3 2305843009213693952 [x]=some (zbW x):=by
 have e:zk [x] 0=x:=rfl
 have hm:wrap64 (-2305843009213693952)=-2305843009213693952:=by decide +kernel
 have h1:wrap64 (0+1)=1:=by decide +kernel
 unfold cx_within.f
 simp only [cx_within.l0]
 rw [if_pos (by simp),if_pos (by decide),if_pos (by simp),e,hm,h1]
 unfold mx mn zbW
 by_cases c1:(if x.f0 < x.f1 then x.f1 else x.f0) > 2305843009213693952
 ·rw [if_pos c1]
  refine congrArg some (decide_eq_false ?_).symm
  split at c1 <;> omega
 ·rw [if_neg c1]
  by_cases c2:(if x.f1 < x.f0 then x.f1 else x.f0) < -2305843009213693952
  ·rw [if_pos c2]
   refine congrArg some (decide_eq_false ?_).symm
   split at c2 <;> omega
  ·rw [if_neg c2,if_neg (by simp)]
   refine congrArg some (decide_eq_true ?_).symm
   split at c1 <;> split at c2 <;> omega
set_option maxRecDepth 100000 in
set_option maxHeartbeats 4000000 in
theorem zjx (B:Nat) (x:S38) (w:World) (hb:w.heap[B]?=some (.cells #[.int .i64 x.f0,.int .i64 x.f1] 38 (0,0))) :
  Calls Tryz.prog 95 #[.pointer (some ⟨B,0,none⟩)] w fun e w'=>e=.returned (.agg #[.int .i64 x.f0,.int .i64 (wrap64 (-x.f1))])∧Below w.heap.size w w':=by
 have HB:=hhd hb
 clear hb
 go_enter Tryz.func95,Tryz.ntmps95
 go_wp2_with (first
  | ((with_reducible refine zg (N:=1) rfl ?_);refine zV ?hg (N:=1) ?hd (cs:=#[.int .i64 0,.int .i64 0]) (t:=38) ?hr ?_;(case hd=>rfl);(case hg=>rfl);(case hr=>rfl);intro g1 hg W0 hbox hbl;have B0:=hhd hbox;have HB0:=hhd hbl;have L1:w.heap.size≤g1:=(by rw [hg];exact Nat.le_refl _);have k0:W0.cell? ⟨B,0,none⟩=some (.int .i64 x.f0):=(zc (za HB.out hbl) 0).trans rfl;have k1:W0.cell? ⟨B,1,none⟩=some (.int .i64 x.f1):=(zc (za HB.out hbl) 1).trans rfl;clear hbox hbl hg)
  | ((with_reducible refine zo (t:=38) (p:=1) rfl ?_);refine zv rfl 38 _ _ rfl g1 #[.int .i64 x.f0,.int .i64 (wrap64 (-x.f1))] rfl rfl 38 #[.int .i64 0,.int .i64 0] B0.out (zu _ _) rfl (zG _ _) ?_;intro W7 hq hoth hbel;have B7:=hhd hq;have HB7:=hhd hbel;clear hq hoth hbel))
 refine bodyPost_ret (results_cell_row rfl _ _ g1 38 #[.int .i64 x.f0,.int .i64 (wrap64 (-x.f1))] (0,0) _ rfl B7.out Tryz.underlying38 rfl (zu _ _)) rfl ?_
 exact ⟨rfl,HB7.out _ _ L1 HB0.out⟩
def zai (a b:Int):Nat→Int×Int
 | 0=>(a,b)
 | k+1=>(wrap64 (-(zai a b k).2),(zai a b k).1)
def za3 (n:Int):Nat:=(Go.bits .and .i64 n 3).toNat
theorem znP (n:Int):0≤Go.bits .and .i64 n 3∧Go.bits .and .i64 n 3≤3:=by
 have e:Go.bits .and .i64 n 3=IntKind.i64.wrap (((BitVec.ofInt 64 n).toNat &&& 3:Nat):Int):=rfl
 have h:=Nat.and_le_right (n:=(BitVec.ofInt 64 n).toNat) (m:=3)
 rw [e,zL]
 generalize (BitVec.ofInt 64 n).toNat &&& 3=q at *
 unfold wrap64
 omega
set_option maxRecDepth 100000 in
set_option maxHeartbeats 4000000 in
theorem zjy (Bn B:Nat) (n:Int) (x:S38) (w w0:World) (hn:w.heap[Bn]?=some (.cells #[.int .i64 n] 3 (0,0))) (hb:w.heap[B]?=some (.cells #[.int .i64 x.f0,.int .i64 x.f1] 38 (0,0))) (hB:w0.heap.size≤B) (hw:Below w0.heap.size w0 w) :
  Calls Tryz.prog 109 #[.pointer (some ⟨Bn,0,none⟩),.pointer (some ⟨B,0,none⟩)] w fun e w'=>e=.returned (.agg #[.int .i64 (zai x.f0 x.f1 (za3 n)).1,.int .i64 (zai x.f0 x.f1 (za3 n)).2])∧Below w0.heap.size w0 w'∧∀k,k < w.heap.size→k≠B→w'.heap[k]?=w.heap[k]?:=by
 have HN:=hhd hn
 have HX:=hhd hb
 have HW:=hhd hw
 clear hn hb hw
 have h3:=znP n
 have HT:=hhd (show (za3 n:Int)=Go.bits .and .i64 n 3 by unfold za3;omega)
 have hT3:za3 n≤3:=by unfold za3;omega
 go_enter Tryz.func109,Tryz.ntmps109
 go_wp2_with (first
  | ((with_reducible refine zg (N:=2) rfl ?_);refine zV ?hg (N:=2) ?hd (cs:=#[.int .i64 0,.int .i64 0]) (t:=38) ?hr ?_;(case hd=>rfl);(case hg=>rfl);(case hr=>rfl);intro g1 hg W0 hbox hbl;have B0:=hhd hbox;have HB0:=hhd hbl;have L1:w.heap.size≤g1:=(by rw [hg];exact Nat.le_refl _);have k0:W0.cell? ⟨Bn,0,none⟩=some (.int .i64 n):=(zc (za HN.out hbl) 0).trans rfl;have HX1:=hhd (za HX.out hbl);clear hbox hbl hg))
 generalize Go.bits .and .i64 n 3=q at *
 generalize hK:za3 n=K at *
 have hK4:(K:Int)≤3:=by omega
 have LB:w.heap.size≤w0.heap.size∨w0.heap.size≤w.heap.size:=Nat.le_total _ _
 have hsz:=HW.out.size
 have NB:g1≠B:=by have:=zf HX.out;omega
 go_loopw [5] (fun s5 wr=>∃k:Nat,k≤K∧s5=.int .i64 k∧wr.heap[B]?=some (.cells #[.int .i64 (zai x.f0 x.f1 k).1,.int .i64 (zai x.f0 x.f1 k).2] 38 (0,0))∧wr.heap[g1]?=some (.cells #[.int .i64 0,.int .i64 0] 38 (0,0))∧Below w0.heap.size w0 wr∧(∀j,j < w.heap.size→j≠B→wr.heap[j]?=w.heap[j]?)) (fun i _=>K - (intOf i).toNat)
 case atStart=>exact ⟨0,by omega,rfl,HX1.out,B0.out,HW.out.trans (HB0.out.mono hsz),fun j hj _=>HB0.out.block j hj⟩
 case round =>
  obtain ⟨k,hk,rfl,hBk,hgk,hbw,hkeep⟩:=hrel
  have c0:wr.cell? ⟨B,0,none⟩=some (.int .i64 (zai x.f0 x.f1 k).1):=(zc hBk 0).trans rfl
  have c1:wr.cell? ⟨B,1,none⟩=some (.int .i64 (zai x.f0 x.f1 k).2):=(zc hBk 1).trans rfl
  have f0:=zi hBk 0
  have f1:=zi hBk 1
  have HBK:=hhd hBk
  have HGK:=hhd hgk
  have HBW:=hhd hbw
  have HKP:=hhd hkeep
  clear hBk hgk hbw hkeep
  have HQ:=HT.out
  clear HT
  by_cases hlt:k < K
  ·have d1:decide ((k:Int) < q)=true:=decide_eq_true (by omega)
   have hTS:=hhd (show zai x.f0 x.f1 (k+1)=(wrap64 (-(zai x.f0 x.f1 k).2),(zai x.f0 x.f1 k).1) from rfl)
   clear HQ
   go_wp2
   go_roundw
   case rel=>exact ⟨k+1,by omega,by go_num,by rw [hTS.out];exact zS (zS HBK.out 0 _ rfl) 1 _ rfl,(Below.heap_setCell _ _ _ _ NB).trans ((Below.heap_setCell _ _ _ _ NB).trans HGK.out),(HBW.out.setCell (p:=⟨B,0,none⟩) hB _).setCell (p:=⟨B,1,none⟩) hB _,fun j hj hne=>(Below.heap_setCell _ _ _ _ hne).trans ((Below.heap_setCell _ _ _ _ hne).trans (HKP.out j hj hne))⟩
   case measure=>simp [intOf];omega
  ·obtain rfl:k=K:=by omega
   have d1:decide ((k:Int) < q)=false:=decide_eq_false (by omega)
   clear HQ
   go_wp2_with (first
    | ((with_reducible refine zg (N:=14) rfl ?_);refine wpList_load_row rfl 38 _ rfl B rfl 38 #[.int .i64 (zai x.f0 x.f1 k).1,.int .i64 (zai x.f0 x.f1 k).2] (0,0) _ HBK.out Tryz.underlying38 rfl (zu _ _) ?_)
    | ((with_reducible refine zo (t:=38) (p:=2) rfl ?_);refine zv rfl 38 _ _ rfl g1 #[.int .i64 (zai x.f0 x.f1 k).1,.int .i64 (zai x.f0 x.f1 k).2] rfl rfl 38 #[.int .i64 0,.int .i64 0] HGK.out (zu _ _) rfl (zG _ _) ?_;intro W7 hq hoth hbel;have B7:=hhd hq;have HO7:=hhd hoth;have HB7:=hhd hbel;clear hq hoth hbel))
   refine bodyPost_ret (results_cell_row rfl _ _ g1 38 #[.int .i64 (zai x.f0 x.f1 k).1,.int .i64 (zai x.f0 x.f1 k).2] (0,0) _ rfl B7.out Tryz.underlying38 rfl (zu _ _)) rfl ?_
   have HKK:=hK
   exact ⟨by rw [HKK],HB7.out _ _ (by omega) HBW.out,fun j hj hne=>(HO7.out j (by omega)).trans (HKP.out j hj hne)⟩
set_option maxRecDepth 100000 in
set_option maxHeartbeats 4000000 in
theorem zgW (F:Value) (w:World) :
  Calls Tryz.prog 93 #[.bool false,F] w fun e w'=>e=.returned (.tuple #[.agg #[.int .i64 0,.int .i64 0],.int .i64 2])∧Below w.heap.size w w':=by
 go_enter Tryz.func93,Tryz.ntmps93
 go_wp2_with (first
  | ((with_reducible refine zg (N:=4) rfl ?_);refine ba_ 4 #[.int .i64 0,.int .i64 0] 38 ?_;intro g4 hg W4 hbox hbl;have B4:=hhd hbox;have HB4:=hhd hbl;have L4:w.heap.size≤g4:=(by rw [hg];exact Nat.le_refl _);clear hbox hbl hg)
  | ((with_reducible refine zg (N:=6) rfl ?_);refine ba_ 6 #[.int .i64 0,.int .i64 0] 38 ?_;intro g6 hg W6 hbox hbl;have B6:=hhd hbox;have B46:=hhd (za B4.out hbl);have HB6:=hhd (zb HB4.out hbl);clear hbox hbl hg)
  | ((with_reducible refine zg (N:=9) rfl ?_);refine wpList_load_row rfl 38 _ rfl g6 rfl 38 #[.int .i64 0,.int .i64 0] (0,0) _ B6.out Tryz.underlying38 rfl (zu _ _) ?_)
  | ((with_reducible refine zo (t:=38) (p:=4) rfl ?_);refine zv rfl 38 _ _ rfl g4 #[.int .i64 0,.int .i64 0] rfl rfl 38 #[.int .i64 0,.int .i64 0] B46.out (zu _ _) rfl (zG _ _) ?_;intro W7 hq hoth hbel;have B7:=hhd hq;have HB7:=hhd hbel;clear hq hoth hbel))
 refine bodyPost_ret (zZ rfl _ _ g4 38 #[.int .i64 0,.int .i64 0] (0,0) _ rfl B7.out Tryz.underlying38 rfl (zu _ _)) rfl ?_
 exact ⟨rfl,HB7.out _ _ L4 HB6.out⟩
set_option maxRecDepth 100000 in
set_option maxHeartbeats 4000000 in
theorem ziR (B:Nat) (x:S38) (w:World) (hb:w.heap[B]?=some (.cells #[.int .i64 x.f0,.int .i64 x.f1] 38 (0,0))) :
  Calls Tryz.prog 93 #[.bool true,.func (.func 95) #[] #[.pointer (some ⟨B,0,none⟩)]] w fun e w'=>e=.returned (.tuple #[.agg #[.int .i64 x.f0,.int .i64 (wrap64 (-x.f1))],.int .i64 0])∧Below w.heap.size w w':=by
 have HX:=hhd hb
 clear hb
 go_enter Tryz.func93,Tryz.ntmps93
 go_wp2_with (first
  | ((with_reducible refine zg (N:=4) rfl ?_);refine ba_ 4 #[.int .i64 0,.int .i64 0] 38 ?_;intro g4 hg W4 hbox hbl;have B4:=hhd hbox;have HB4:=hhd hbl;have L4:w.heap.size≤g4:=(by rw [hg];exact Nat.le_refl _);clear hbox hbl hg)
  | (go_at_call 95;refine (zjx B x _ (za HX.out HB4.out)).mono ?_;rintro e W5 ⟨rfl,hb⟩;have B5:=hhd (za B4.out hb);have HB5:=hhd (zb HB4.out hb);clear hb)
  | ((with_reducible refine zo (t:=38) (p:=4) rfl ?_);refine zv rfl 38 _ _ rfl g4 #[.int .i64 x.f0,.int .i64 (wrap64 (-x.f1))] rfl rfl 38 #[.int .i64 0,.int .i64 0] B5.out (zu _ _) rfl (zG _ _) ?_;intro W7 hq hoth hbel;have B7:=hhd hq;have HB7:=hhd hbel;clear hq hoth hbel))
 refine bodyPost_ret (zZ rfl _ _ g4 38 #[.int .i64 x.f0,.int .i64 (wrap64 (-x.f1))] (0,0) _ rfl B7.out Tryz.underlying38 rfl (zu _ _)) rfl ?_
 exact ⟨rfl,HB7.out _ _ L4 HB5.out⟩
set_option maxRecDepth 100000 in
set_option maxHeartbeats 4000000 in
theorem ziS (Bn B:Nat) (n:Int) (x:S38) (w w0:World) (hn:w.heap[Bn]?=some (.cells #[.int .i64 n] 3 (0,0))) (hb:w.heap[B]?=some (.cells #[.int .i64 x.f0,.int .i64 x.f1] 38 (0,0))) (hB:w0.heap.size≤B) (hw:Below w0.heap.size w0 w) :
  Calls Tryz.prog 93 #[.bool true,.func (.func 109) #[] #[.pointer (some ⟨Bn,0,none⟩),.pointer (some ⟨B,0,none⟩)]] w fun e w'=>e=.returned (.tuple #[.agg #[.int .i64 (zai x.f0 x.f1 (za3 n)).1,.int .i64 (zai x.f0 x.f1 (za3 n)).2],.int .i64 0])∧Below w0.heap.size w0 w'∧∀k,k < w.heap.size→k≠B→w'.heap[k]?=w.heap[k]?:=by
 have HX:=hhd hb
 have HN:=hhd hn
 have HW:=hhd hw
 have hsz:=hw.size
 have hBl:=zf hb
 clear hb hn hw
 generalize hT:zai x.f0 x.f1 (za3 n)=T at *
 have HTT:=hhd hT
 clear hT
 go_enter Tryz.func93,Tryz.ntmps93
 go_wp2_with (first
  | ((with_reducible refine zg (N:=4) rfl ?_);refine ba_ 4 #[.int .i64 0,.int .i64 0] 38 ?_;intro g4 hg W4 hbox hbl;have B4:=hhd hbox;have HB4:=hhd hbl;have L4:w.heap.size≤g4:=(by rw [hg];exact Nat.le_refl _);clear hbox hbl hg)
  | (go_at_call 109;refine (zjy Bn B n x _ w0 (za HN.out HB4.out) (za HX.out HB4.out) hB (HW.out.trans (HB4.out.mono hsz))).mono ?_;rw [HTT.out];rintro e W5 ⟨rfl,hb,hk⟩;have B5:=hhd ((hk g4 (zf B4.out) (by omega)).trans B4.out);have HB5:=hhd hb;have HK5:=hhd (fun k hk1 hk2=>(hk k (Nat.lt_of_lt_of_le hk1 HB4.out.size) hk2).trans (HB4.out.block k hk1));clear hb hk)
  | ((with_reducible refine zo (t:=38) (p:=4) rfl ?_);refine zv rfl 38 _ _ rfl g4 #[.int .i64 T.1,.int .i64 T.2] rfl rfl 38 #[.int .i64 0,.int .i64 0] B5.out (zu _ _) rfl (zG _ _) ?_;intro W7 hq hoth hbel;have B7:=hhd hq;have HO7:=hhd hoth;have HB7:=hhd hbel;clear hq hoth hbel))
 refine bodyPost_ret (zZ rfl _ _ g4 38 #[.int .i64 T.1,.int .i64 T.2] (0,0) _ rfl B7.out Tryz.underlying38 rfl (zu _ _)) rfl ?_
 exact ⟨rfl,HB7.out _ _ (by omega) HB5.out,fun k hk1 hk2=>(HO7.out k (by omega)).trans (HK5.out k hk1 hk2)⟩
set_option maxRecDepth 100000 in
set_option maxHeartbeats 4000000 in
theorem zfc (x:S38) (hn:zbW x=true) (w:World) :
  Calls Tryz.prog 58 #[.agg #[.int .i64 x.f0,.int .i64 x.f1]] w fun e w'=>e=.returned (.tuple #[.agg #[.int .i64 x.f0,.int .i64 (wrap64 (-x.f1))],.int .i64 0])∧Below w.heap.size w w':=by
 have HW:=hhd (hn ▸ zcJ x)
 clear hn
 go_enter Tryz.func58,Tryz.ntmps58
 go_wp2_with (first
  | ((with_reducible refine zg (N:=1) rfl ?_);refine ba_ 1 #[.int .i64 x.f0,.int .i64 x.f1] 38 ?_;intro g1 hg W1 hbox hbl;have B1:=hhd hbox;have HB1:=hhd hbl;clear hbox hbl hg)
  | ((with_reducible refine zg (N:=2) rfl ?_);refine ba_ 2 #[.int .i64 0,.int .i64 0] 38 ?_;intro g2 hg W2 hbox hbl;have B2:=hhd hbox;have B21:=hhd (za B1.out hbl);have L2:w.heap.size≤g2:=(by rw [hg];exact HB1.out.size);have HB2:=hhd (zb HB1.out hbl);clear hbox hbl hg)
  | ((with_reducible refine zg (N:=4) rfl ?_);refine wpList_load_row rfl 38 _ rfl g1 rfl 38 #[.int .i64 x.f0,.int .i64 x.f1] (0,0) _ B21.out Tryz.underlying38 rfl (zu _ _) ?_)
  | (go_at_call 94;refine (cx_within.calls 3 2305843009213693952 (some ⟨W2.heap.size,0,none⟩) 1 [x] true _ (zeP (zbr W2 _)) (Nat.le_refl 1) HW.out).mono ?_;rintro e W3 ⟨rfl,hb⟩;have B31:=hhd (za (zm B21.out _) hb);have B32:=hhd (za (zm B2.out _) hb);have HB3:=hhd (zb (ze HB2.out _) hb);clear hb)
  | (go_at_call 93;refine (ziR g1 x _ B31.out).mono ?_;rintro e W4 ⟨rfl,hb⟩;have B42:=hhd (za B32.out hb);have HB4:=hhd (zb HB3.out hb);clear hb)
  | ((with_reducible refine zo (t:=38) (p:=2) rfl ?_);refine zv rfl 38 _ _ rfl g2 #[.int .i64 x.f0,.int .i64 (wrap64 (-x.f1))] rfl rfl 38 #[.int .i64 0,.int .i64 0] B42.out (zu _ _) rfl (zG _ _) ?_;intro W7 hq hoth hbel;have B7:=hhd hq;have HB7:=hhd hbel;clear hq hoth hbel))
 refine bodyPost_ret (zZ rfl _ _ g2 38 #[.int .i64 x.f0,.int .i64 (wrap64 (-x.f1))] (0,0) _ rfl B7.out Tryz.underlying38 rfl (zu _ _)) rfl ?_
 exact ⟨rfl,HB7.out _ _ L2 HB4.out⟩
set_option maxRecDepth 100000 in
set_option maxHeartbeats 4000000 in
theorem zlU (x:S38) (hn:zbW x=false) (w:World) :
  Calls Tryz.prog 58 #[.agg #[.int .i64 x.f0,.int .i64 x.f1]] w fun e w'=>e=.returned (.tuple #[.agg #[.int .i64 0,.int .i64 0],.int .i64 2])∧Below w.heap.size w w':=by
 have HW:=hhd (hn ▸ zcJ x)
 clear hn
 go_enter Tryz.func58,Tryz.ntmps58
 go_wp2_with (first
  | ((with_reducible refine zg (N:=1) rfl ?_);refine ba_ 1 #[.int .i64 x.f0,.int .i64 x.f1] 38 ?_;intro g1 hg W1 hbox hbl;have B1:=hhd hbox;have HB1:=hhd hbl;clear hbox hbl hg)
  | ((with_reducible refine zg (N:=2) rfl ?_);refine ba_ 2 #[.int .i64 0,.int .i64 0] 38 ?_;intro g2 hg W2 hbox hbl;have B2:=hhd hbox;have B21:=hhd (za B1.out hbl);have L2:w.heap.size≤g2:=(by rw [hg];exact HB1.out.size);have HB2:=hhd (zb HB1.out hbl);clear hbox hbl hg)
  | ((with_reducible refine zg (N:=4) rfl ?_);refine wpList_load_row rfl 38 _ rfl g1 rfl 38 #[.int .i64 x.f0,.int .i64 x.f1] (0,0) _ B21.out Tryz.underlying38 rfl (zu _ _) ?_)
  | (go_at_call 94;refine (cx_within.calls 3 2305843009213693952 (some ⟨W2.heap.size,0,none⟩) 1 [x] false _ (zeP (zbr W2 _)) (Nat.le_refl 1) HW.out).mono ?_;rintro e W3 ⟨rfl,hb⟩;have B31:=hhd (za (zm B21.out _) hb);have B32:=hhd (za (zm B2.out _) hb);have HB3:=hhd (zb (ze HB2.out _) hb);clear hb)
  | (go_at_call 93;refine (zgW _ _).mono ?_;rintro e W4 ⟨rfl,hb⟩;have B42:=hhd (za B32.out hb);have HB4:=hhd (zb HB3.out hb);clear hb)
  | ((with_reducible refine zo (t:=38) (p:=2) rfl ?_);refine zv rfl 38 _ _ rfl g2 #[.int .i64 0,.int .i64 0] rfl rfl 38 #[.int .i64 0,.int .i64 0] B42.out (zu _ _) rfl (zG _ _) ?_;intro W7 hq hoth hbel;have B7:=hhd hq;have HB7:=hhd hbel;clear hq hoth hbel))
 refine bodyPost_ret (zZ rfl _ _ g2 38 #[.int .i64 0,.int .i64 0] (0,0) _ rfl B7.out Tryz.underlying38 rfl (zu _ _)) rfl ?_
 exact ⟨rfl,HB7.out _ _ L2 HB4.out⟩
set_option maxRecDepth 100000 in
set_option maxHeartbeats 4000000 in
theorem zfd (x:S38) (n:Int) (hn:zbW x=true) (w:World) :
  Calls Tryz.prog 96 #[.agg #[.int .i64 x.f0,.int .i64 x.f1],.int .i64 n] w fun e w'=>e=.returned (.tuple #[.agg #[.int .i64 (zai x.f0 x.f1 (za3 n)).1,.int .i64 (zai x.f0 x.f1 (za3 n)).2],.int .i64 0])∧Below w.heap.size w w':=by
 have HW:=hhd (hn ▸ zcJ x)
 clear hn
 generalize hT:zai x.f0 x.f1 (za3 n)=T at *
 have HTT:=hhd hT
 clear hT
 go_enter Tryz.func96,Tryz.ntmps96
 go_wp2_with (first
  | ((with_reducible refine zg (N:=2) rfl ?_);refine ba_ 2 #[.int .i64 x.f0,.int .i64 x.f1] 38 ?_;intro g2 hg W1 hbox hbl;have B2:=hhd hbox;have HB1:=hhd hbl;have L2:w.heap.size≤g2:=(by rw [hg];exact Nat.le_refl _);clear hbox hbl hg)
  | ((with_reducible refine zg (N:=3) rfl ?_);refine ba_ 3 #[.int .i64 n] 3 ?_;intro g3 hg W2 hbox hbl;have B3:=hhd hbox;have B21:=hhd (za B2.out hbl);have HB2:=hhd (zb HB1.out hbl);clear hbox hbl hg)
  | ((with_reducible refine zg (N:=4) rfl ?_);refine ba_ 4 #[.int .i64 0,.int .i64 0] 38 ?_;intro g4 hg W3 hbox hbl;have B4:=hhd hbox;have B22:=hhd (za B21.out hbl);have B33:=hhd (za B3.out hbl);have N24:g4≠g2:=(by rw [hg];exact Nat.ne_of_gt (zf B21.out));have L4:w.heap.size≤g4:=(by rw [hg];exact HB2.out.size);have HB3:=hhd (zb HB2.out hbl);clear hbox hbl hg)
  | ((with_reducible refine zg (N:=6) rfl ?_);refine wpList_load_row rfl 38 _ rfl g2 rfl 38 #[.int .i64 x.f0,.int .i64 x.f1] (0,0) _ B22.out Tryz.underlying38 rfl (zu _ _) ?_)
  | (go_at_call 94;refine (cx_within.calls 3 2305843009213693952 (some ⟨W3.heap.size,0,none⟩) 1 [x] true _ (zeP (zbr W3 _)) (Nat.le_refl 1) HW.out).mono ?_;rintro e W5 ⟨rfl,hb⟩;have C2:=hhd (za (zm B22.out _) hb);have C3:=hhd (za (zm B33.out _) hb);have C4:=hhd (za (zm B4.out _) hb);have HB5:=hhd (zb (ze HB3.out _) hb);clear hb)
  | (go_at_call 93;refine (ziS g3 g2 n x _ w C3.out C2.out L2 HB5.out).mono ?_;rw [HTT.out];rintro e W6 ⟨rfl,hb,hk⟩;have D4:=hhd ((hk g4 (zf C4.out) N24).trans C4.out);have HB6:=hhd hb;clear hb hk)
  | ((with_reducible refine zo (t:=38) (p:=4) rfl ?_);refine zv rfl 38 _ _ rfl g4 #[.int .i64 T.1,.int .i64 T.2] rfl rfl 38 #[.int .i64 0,.int .i64 0] D4.out (zu _ _) rfl (zG _ _) ?_;intro W7 hq hoth hbel;have B7:=hhd hq;have HB7:=hhd hbel;clear hq hoth hbel))
 refine bodyPost_ret (zZ rfl _ _ g4 38 #[.int .i64 T.1,.int .i64 T.2] (0,0) _ rfl B7.out Tryz.underlying38 rfl (zu _ _)) rfl ?_
 exact ⟨rfl,HB7.out _ _ L4 HB6.out⟩
set_option maxRecDepth 100000 in
set_option maxHeartbeats 4000000 in
theorem zlV (x:S38) (n:Int) (hn:zbW x=false) (w:World) :
  Calls Tryz.prog 96 #[.agg #[.int .i64 x.f0,.int .i64 x.f1],.int .i64 n] w fun e w'=>e=.returned (.tuple #[.agg #[.int .i64 0,.int .i64 0],.int .i64 2])∧Below w.heap.size w w':=by
 have HW:=hhd (hn ▸ zcJ x)
 clear hn
 go_enter Tryz.func96,Tryz.ntmps96
 go_wp2_with (first
  | ((with_reducible refine zg (N:=2) rfl ?_);refine ba_ 2 #[.int .i64 x.f0,.int .i64 x.f1] 38 ?_;intro g2 hg W1 hbox hbl;have B2:=hhd hbox;have HB1:=hhd hbl;have L2:w.heap.size≤g2:=(by rw [hg];exact Nat.le_refl _);clear hbox hbl hg)
  | ((with_reducible refine zg (N:=3) rfl ?_);refine ba_ 3 #[.int .i64 n] 3 ?_;intro g3 hg W2 hbox hbl;have B3:=hhd hbox;have B21:=hhd (za B2.out hbl);have HB2:=hhd (zb HB1.out hbl);clear hbox hbl hg)
  | ((with_reducible refine zg (N:=4) rfl ?_);refine ba_ 4 #[.int .i64 0,.int .i64 0] 38 ?_;intro g4 hg W3 hbox hbl;have B4:=hhd hbox;have B22:=hhd (za B21.out hbl);have B33:=hhd (za B3.out hbl);have N24:g4≠g2:=(by rw [hg];exact Nat.ne_of_gt (zf B21.out));have L4:w.heap.size≤g4:=(by rw [hg];exact HB2.out.size);have HB3:=hhd (zb HB2.out hbl);clear hbox hbl hg)
  | ((with_reducible refine zg (N:=6) rfl ?_);refine wpList_load_row rfl 38 _ rfl g2 rfl 38 #[.int .i64 x.f0,.int .i64 x.f1] (0,0) _ B22.out Tryz.underlying38 rfl (zu _ _) ?_)
  | (go_at_call 94;refine (cx_within.calls 3 2305843009213693952 (some ⟨W3.heap.size,0,none⟩) 1 [x] false _ (zeP (zbr W3 _)) (Nat.le_refl 1) HW.out).mono ?_;rintro e W5 ⟨rfl,hb⟩;have C2:=hhd (za (zm B22.out _) hb);have C3:=hhd (za (zm B33.out _) hb);have C4:=hhd (za (zm B4.out _) hb);have HB5:=hhd (zb (ze HB3.out _) hb);clear hb)
  | (go_at_call 93;refine (zgW _ _).mono ?_;rintro e W6 ⟨rfl,hb⟩;have D4:=hhd (za C4.out hb);have HB6:=hhd (zb HB5.out hb);clear hb)
  | ((with_reducible refine zo (t:=38) (p:=4) rfl ?_);refine zv rfl 38 _ _ rfl g4 #[.int .i64 0,.int .i64 0] rfl rfl 38 #[.int .i64 0,.int .i64 0] D4.out (zu _ _) rfl (zG _ _) ?_;intro W7 hq hoth hbel;have B7:=hhd hq;have HB7:=hhd hbel;clear hq hoth hbel))
 refine bodyPost_ret (zZ rfl _ _ g4 38 #[.int .i64 0,.int .i64 0] (0,0) _ rfl B7.out Tryz.underlying38 rfl (zu _ _)) rfl ?_
 exact ⟨rfl,HB7.out _ _ L4 HB6.out⟩

end Go.Proofs.YteieahbadclppaaGreat.P

namespace Go.Proofs.YteieahbadclppaaGreat.P
open Go.RowKit Go.Proofs.YteieahbadclppaaGreatW.PrintWords Go.Proofs.YteieahbadclppaaGreatW.PrintLast Go.Proofs.YteieahbadclppaaGreatW.PrintMore
attribute [local go_sem] zI zJ zO zP
set_option linter.unusedVariables false
set_option linter.unusedSimpArgs false
def inB (m:Int) (x:S38):Bool:=decide (x.f0≤m∧x.f1≤m∧-m≤x.f0∧-m≤x.f1)
theorem zgn (m:Int) (hm0:0≤m) (hm1:m≤2305843009213693952) (x:S38):cx_within.f 3 m [x]=some (inB m x):=by
 have e:zk [x] 0=x:=rfl
 have hm:wrap64 (-m)=-m:=by unfold wrap64;omega
 have h1:wrap64 (0+1)=1:=by decide +kernel
 unfold cx_within.f
 simp only [cx_within.l0]
 rw [if_pos (by simp),if_pos (by decide),if_pos (by simp),e,hm,h1]
 unfold mx mn inB
 by_cases c1:(if x.f0 < x.f1 then x.f1 else x.f0) > m
 ·rw [if_pos c1]
  refine congrArg some (decide_eq_false ?_).symm
  split at c1 <;> omega
 ·rw [if_neg c1]
  by_cases c2:(if x.f1 < x.f0 then x.f1 else x.f0) < -m
  ·rw [if_pos c2]
   refine congrArg some (decide_eq_false ?_).symm
   split at c2 <;> omega
  ·rw [if_neg c2,if_neg (by simp)]
   refine congrArg some (decide_eq_true ?_).symm
   split at c1 <;> split at c2 <;> omega
def zbz (x y:S38):Int:=wrap64 (wrap64 (x.f0*y.f0) - wrap64 (x.f1*y.f1))
def zbA (x y:S38):Int:=wrap64 (wrap64 (x.f0*y.f1)+wrap64 (x.f1*y.f0))
set_option maxRecDepth 100000 in
set_option maxHeartbeats 4000000 in
theorem ziT (Bx By:Nat) (x y:S38) (w:World) (hx:w.heap[Bx]?=some (.cells #[.int .i64 x.f0,.int .i64 x.f1] 38 (0,0))) (hy:w.heap[By]?=some (.cells #[.int .i64 y.f0,.int .i64 y.f1] 38 (0,0))) :
  Calls Tryz.prog 112 #[.pointer (some ⟨Bx,0,none⟩),.pointer (some ⟨By,0,none⟩)] w fun e w'=>e=.returned (.agg #[.int .i64 (zbz x y),.int .i64 (zbA x y)])∧Below w.heap.size w w':=by
 have HX:=hhd hx
 have HY:=hhd hy
 clear hx hy
 have HV:=hhd (show (zbz x y=wrap64 (wrap64 (x.f0*y.f0) - wrap64 (x.f1*y.f1)))∧(zbA x y=wrap64 (wrap64 (x.f0*y.f1)+wrap64 (x.f1*y.f0))) from ⟨rfl,rfl⟩)
 go_enter Tryz.func112,Tryz.ntmps112
 go_wp2_with (first
  | ((with_reducible refine zg (N:=2) rfl ?_);refine zV ?hg (N:=2) ?hd (cs:=#[.int .i64 0,.int .i64 0]) (t:=38) ?hr ?_;(case hd=>rfl);(case hg=>rfl);(case hr=>rfl);intro g2 hg W0 hbox hbl;have B0:=hhd hbox;have HB0:=hhd hbl;have L2:w.heap.size≤g2:=(by rw [hg];exact Nat.le_refl _);have k0:W0.cell? ⟨Bx,0,none⟩=some (.int .i64 x.f0):=(zc (za HX.out hbl) 0).trans rfl;have k1:W0.cell? ⟨Bx,1,none⟩=some (.int .i64 x.f1):=(zc (za HX.out hbl) 1).trans rfl;have k2:W0.cell? ⟨By,0,none⟩=some (.int .i64 y.f0):=(zc (za HY.out hbl) 0).trans rfl;have k3:W0.cell? ⟨By,1,none⟩=some (.int .i64 y.f1):=(zc (za HY.out hbl) 1).trans rfl;clear hbox hbl hg)
  | ((with_reducible refine zo (t:=38) (p:=2) rfl ?_);refine zv rfl 38 _ _ rfl g2 #[.int .i64 (wrap64 (wrap64 (x.f0*y.f0) - wrap64 (x.f1*y.f1))),.int .i64 (wrap64 (wrap64 (x.f0*y.f1)+wrap64 (x.f1*y.f0)))] rfl rfl 38 #[.int .i64 0,.int .i64 0] B0.out (zu _ _) rfl (zG _ _) ?_;intro W7 hq hoth hbel;have B7:=hhd hq;have HB7:=hhd hbel;clear hq hoth hbel))
 refine bodyPost_ret (results_cell_row rfl _ _ g2 38 #[.int .i64 (wrap64 (wrap64 (x.f0*y.f0) - wrap64 (x.f1*y.f1))),.int .i64 (wrap64 (wrap64 (x.f0*y.f1)+wrap64 (x.f1*y.f0)))] (0,0) _ rfl B7.out Tryz.underlying38 rfl (zu _ _)) rfl ?_
 exact ⟨rfl,HB7.out _ _ L2 HB0.out⟩
set_option maxRecDepth 100000 in
set_option maxHeartbeats 4000000 in
theorem zh3 (Bx By:Nat) (x y:S38) (w:World) (hx:w.heap[Bx]?=some (.cells #[.int .i64 x.f0,.int .i64 x.f1] 38 (0,0))) (hy:w.heap[By]?=some (.cells #[.int .i64 y.f0,.int .i64 y.f1] 38 (0,0))) :
  Calls Tryz.prog 93 #[.bool true,.func (.func 112) #[] #[.pointer (some ⟨Bx,0,none⟩),.pointer (some ⟨By,0,none⟩)]] w fun e w'=>e=.returned (.tuple #[.agg #[.int .i64 (zbz x y),.int .i64 (zbA x y)],.int .i64 0])∧Below w.heap.size w w':=by
 have HX:=hhd hx
 have HY:=hhd hy
 clear hx hy
 go_enter Tryz.func93,Tryz.ntmps93
 go_wp2_with (first
  | ((with_reducible refine zg (N:=4) rfl ?_);refine ba_ 4 #[.int .i64 0,.int .i64 0] 38 ?_;intro g4 hg W4 hbox hbl;have B4:=hhd hbox;have HB4:=hhd hbl;have L4:w.heap.size≤g4:=(by rw [hg];exact Nat.le_refl _);clear hbox hbl hg)
  | (go_at_call 112;refine (ziT Bx By x y _ (za HX.out HB4.out) (za HY.out HB4.out)).mono ?_;rintro e W5 ⟨rfl,hb⟩;have B5:=hhd (za B4.out hb);have HB5:=hhd (zb HB4.out hb);clear hb)
  | ((with_reducible refine zo (t:=38) (p:=4) rfl ?_);refine zv rfl 38 _ _ rfl g4 #[.int .i64 (zbz x y),.int .i64 (zbA x y)] rfl rfl 38 #[.int .i64 0,.int .i64 0] B5.out (zu _ _) rfl (zG _ _) ?_;intro W7 hq hoth hbel;have B7:=hhd hq;have HB7:=hhd hbel;clear hq hoth hbel))
 refine bodyPost_ret (zZ rfl _ _ g4 38 #[.int .i64 (zbz x y),.int .i64 (zbA x y)] (0,0) _ rfl B7.out Tryz.underlying38 rfl (zu _ _)) rfl ?_
 exact ⟨rfl,HB7.out _ _ L4 HB5.out⟩
set_option maxRecDepth 100000 in
set_option maxHeartbeats 8000000 in
theorem zex (x y:S38) (hx:inB 2147483648 x=true) (hy:inB 1073741824 y=true) (w:World) :
  Calls Tryz.prog 104 #[.agg #[.int .i64 x.f0,.int .i64 x.f1],.agg #[.int .i64 y.f0,.int .i64 y.f1]] w fun e w'=>e=.returned (.tuple #[.agg #[.int .i64 (zbz x y),.int .i64 (zbA x y)],.int .i64 0])∧Below w.heap.size w w':=by
 have HX:=hhd (show cx_within.f 3 2147483648 [x]=some true from hx ▸ zgn 2147483648 (by decide) (by decide) x)
 have HY:=hhd (show cx_within.f 3 1073741824 [y]=some true from hy ▸ zgn 1073741824 (by decide) (by decide) y)
 clear hx hy
 go_enter Tryz.func104,Tryz.ntmps104
 go_wp2_with (first
  | ((with_reducible refine zg (N:=2) rfl ?_);refine ba_ 2 #[.int .i64 x.f0,.int .i64 x.f1] 38 ?_;intro g2 hg W1 hbox hbl;have B2:=hhd hbox;have HB1:=hhd hbl;clear hbox hbl hg)
  | ((with_reducible refine zg (N:=3) rfl ?_);refine ba_ 3 #[.int .i64 y.f0,.int .i64 y.f1] 38 ?_;intro g3 hg W2 hbox hbl;have B3:=hhd hbox;have B21:=hhd (za B2.out hbl);have HB2:=hhd (zb HB1.out hbl);clear hbox hbl hg)
  | ((with_reducible refine zg (N:=4) rfl ?_);refine ba_ 4 #[.int .i64 0,.int .i64 0] 38 ?_;intro g4 hg W3 hbox hbl;have B4:=hhd hbox;have B22:=hhd (za B21.out hbl);have B32:=hhd (za B3.out hbl);have L4:w.heap.size≤g4:=(by rw [hg];exact HB2.out.size);have HB3:=hhd (zb HB2.out hbl);clear hbox hbl hg)
  | ((with_reducible refine zg (N:=7) rfl ?_);refine wpList_load_row rfl 38 _ rfl g2 rfl 38 #[.int .i64 x.f0,.int .i64 x.f1] (0,0) _ B22.out Tryz.underlying38 rfl (zu _ _) ?_)
  | (go_at_call 94;first
   | (refine (cx_within.calls 3 1073741824 (some ⟨W5.heap.size,0,none⟩) 1 [y] true _ (zeP (zbr W5 _)) (Nat.le_refl 1) HY.out).mono ?_;rintro e W6 ⟨rfl,hb⟩;have D2:=hhd (za (zm C2.out _) hb);have D3:=hhd (za (zm C3.out _) hb);have D4:=hhd (za (zm C4.out _) hb);have HB6:=hhd (zb (ze HB5.out _) hb);clear hb)
   | (refine (cx_within.calls 3 2147483648 (some ⟨W3.heap.size,0,none⟩) 1 [x] true _ (zeP (zbr W3 _)) (Nat.le_refl 1) HX.out).mono ?_;rintro e W5 ⟨rfl,hb⟩;have C2:=hhd (za (zm B22.out _) hb);have C3:=hhd (za (zm B32.out _) hb);have C4:=hhd (za (zm B4.out _) hb);have HB5:=hhd (zb (ze HB3.out _) hb);have k0:W5.cell? ⟨g3,0,none⟩=some (.int .i64 y.f0):=(zc C3.out 0).trans rfl;have k1:W5.cell? ⟨g3,1,none⟩=some (.int .i64 y.f1):=(zc C3.out 1).trans rfl;clear hb))
  | (go_at_call 93;refine (zh3 g2 g3 x y _ D2.out D3.out).mono ?_;rintro e W7 ⟨rfl,hb⟩;have E4:=hhd (za D4.out hb);have HB7:=hhd (zb HB6.out hb);clear hb)
  | ((with_reducible refine zo (t:=38) (p:=4) rfl ?_);refine zv rfl 38 _ _ rfl g4 #[.int .i64 (zbz x y),.int .i64 (zbA x y)] rfl rfl 38 #[.int .i64 0,.int .i64 0] E4.out (zu _ _) rfl (zG _ _) ?_;intro W8 hq hoth hbel;have B8:=hhd hq;have HB8:=hhd hbel;clear hq hoth hbel))
 refine bodyPost_ret (zZ rfl _ _ g4 38 #[.int .i64 (zbz x y),.int .i64 (zbA x y)] (0,0) _ rfl B8.out Tryz.underlying38 rfl (zu _ _)) rfl ?_
 exact ⟨rfl,HB8.out _ _ L4 HB7.out⟩
theorem zan {m:Int} {x:S38} (h:inB m x=true):x.f0≤m∧x.f1≤m∧-m≤x.f0∧-m≤x.f1:=of_decide_eq_true h
theorem zau {a b:Nat} (h:a≤b):(2:Int)^a≤2^b:=by
 have:=Nat.pow_le_pow_right (n:=2) (by decide) h
 exact_mod_cast this
theorem zbe {m:Int} {x:S38} (h:x.f0≤m∧x.f1≤m∧-m≤x.f0∧-m≤x.f1):inB m x=true:=decide_eq_true h
set_option maxRecDepth 100000 in
set_option maxHeartbeats 4000000 in
theorem zgX (x:S38) (m:Int) (hm0:0≤m) (hm1:m≤4611686018427387904) (h:inB m x=true) (w:World) :
  Calls Tryz.prog 76 #[.agg #[.int .i64 x.f0,.int .i64 x.f1],.int .i64 m] w fun e w'=>e=.returned (.bool true)∧Below w.heap.size w w':=by
 obtain ⟨q0,q1,q2,q3⟩:=zan h
 have hn:wrap64 (-m)=-m:=by unfold wrap64;omega
 have d0:decide (x.f0≤m)=true:=decide_eq_true q0
 have d1:decide (x.f1≤m)=true:=decide_eq_true q1
 have d2:decide (-m≤x.f0)=true:=decide_eq_true q2
 have d3:decide (-m≤x.f1)=true:=decide_eq_true q3
 clear h hm0 hm1 q0 q1 q2 q3
 by_cases c:x.f0 < x.f1
 ·have c1:(x.f0 < x.f1)=True:=eq_true c
  have c2:(x.f1 < x.f0)=False:=eq_false (by omega)
  clear c
  go_enter Tryz.func76,Tryz.ntmps76
  go_wp2_with ((with_reducible refine zg (N:=2) rfl ?_);refine ba_ 2 #[.int .i64 x.f0,.int .i64 x.f1] 38 ?_;intro g2 hg W0 hbox hbl;have B2:=hhd hbox;have HB0:=hhd hbl;have k0:W0.cell? ⟨g2,0,none⟩=some (.int .i64 x.f0):=(zc hbox 0).trans rfl;have k1:W0.cell? ⟨g2,1,none⟩=some (.int .i64 x.f1):=(zc hbox 1).trans rfl;clear hbox hbl hg)
  go_ret
  exact ⟨rfl,HB0.out⟩
 ·have c1:(x.f0 < x.f1)=False:=eq_false c
  by_cases c':x.f1 < x.f0
  ·have c2:(x.f1 < x.f0)=True:=eq_true c'
   clear c c'
   go_enter Tryz.func76,Tryz.ntmps76
   go_wp2_with ((with_reducible refine zg (N:=2) rfl ?_);refine ba_ 2 #[.int .i64 x.f0,.int .i64 x.f1] 38 ?_;intro g2 hg W0 hbox hbl;have B2:=hhd hbox;have HB0:=hhd hbl;have k0:W0.cell? ⟨g2,0,none⟩=some (.int .i64 x.f0):=(zc hbox 0).trans rfl;have k1:W0.cell? ⟨g2,1,none⟩=some (.int .i64 x.f1):=(zc hbox 1).trans rfl;clear hbox hbl hg)
   go_ret
   exact ⟨rfl,HB0.out⟩
  ·have c2:(x.f1 < x.f0)=False:=eq_false c'
   clear c c'
   go_enter Tryz.func76,Tryz.ntmps76
   go_wp2_with ((with_reducible refine zg (N:=2) rfl ?_);refine ba_ 2 #[.int .i64 x.f0,.int .i64 x.f1] 38 ?_;intro g2 hg W0 hbox hbl;have B2:=hhd hbox;have HB0:=hhd hbl;have k0:W0.cell? ⟨g2,0,none⟩=some (.int .i64 x.f0):=(zc hbox 0).trans rfl;have k1:W0.cell? ⟨g2,1,none⟩=some (.int .i64 x.f1):=(zc hbox 1).trans rfl;clear hbox hbl hg)
   go_ret
   exact ⟨rfl,HB0.out⟩
set_option maxRecDepth 100000 in
set_option maxHeartbeats 4000000 in
theorem zgY (x:S38) (m:Int) (hm0:0≤m) (hm1:m≤4611686018427387904) (h:inB m x=true) (w:World) :
  Calls Tryz.prog 83 #[.agg #[.int .i64 x.f0,.int .i64 x.f1],.int .i64 m] w fun e w'=>e=.returned (.bool true)∧Below w.heap.size w w':=by
 obtain ⟨q0,q1,q2,q3⟩:=zan h
 have hn:wrap64 (-m)=-m:=by unfold wrap64;omega
 have d0:decide (x.f0≤m)=true:=decide_eq_true q0
 have d1:decide (x.f1≤m)=true:=decide_eq_true q1
 have d2:decide (-m≤x.f0)=true:=decide_eq_true q2
 have d3:decide (-m≤x.f1)=true:=decide_eq_true q3
 clear h hm0 hm1 q0 q1 q2 q3
 by_cases c:x.f0 < x.f1
 ·have c1:(x.f0 < x.f1)=True:=eq_true c
  have c2:(x.f1 < x.f0)=False:=eq_false (by omega)
  clear c
  go_enter Tryz.func83,Tryz.ntmps83
  go_wp2_with ((with_reducible refine zg (N:=2) rfl ?_);refine ba_ 2 #[.int .i64 x.f0,.int .i64 x.f1] 38 ?_;intro g2 hg W0 hbox hbl;have B2:=hhd hbox;have HB0:=hhd hbl;have k0:W0.cell? ⟨g2,0,none⟩=some (.int .i64 x.f0):=(zc hbox 0).trans rfl;have k1:W0.cell? ⟨g2,1,none⟩=some (.int .i64 x.f1):=(zc hbox 1).trans rfl;clear hbox hbl hg)
  go_ret
  exact ⟨rfl,HB0.out⟩
 ·have c1:(x.f0 < x.f1)=False:=eq_false c
  by_cases c':x.f1 < x.f0
  ·have c2:(x.f1 < x.f0)=True:=eq_true c'
   clear c c'
   go_enter Tryz.func83,Tryz.ntmps83
   go_wp2_with ((with_reducible refine zg (N:=2) rfl ?_);refine ba_ 2 #[.int .i64 x.f0,.int .i64 x.f1] 38 ?_;intro g2 hg W0 hbox hbl;have B2:=hhd hbox;have HB0:=hhd hbl;have k0:W0.cell? ⟨g2,0,none⟩=some (.int .i64 x.f0):=(zc hbox 0).trans rfl;have k1:W0.cell? ⟨g2,1,none⟩=some (.int .i64 x.f1):=(zc hbox 1).trans rfl;clear hbox hbl hg)
   go_ret
   exact ⟨rfl,HB0.out⟩
  ·have c2:(x.f1 < x.f0)=False:=eq_false c'
   clear c c'
   go_enter Tryz.func83,Tryz.ntmps83
   go_wp2_with ((with_reducible refine zg (N:=2) rfl ?_);refine ba_ 2 #[.int .i64 x.f0,.int .i64 x.f1] 38 ?_;intro g2 hg W0 hbox hbl;have B2:=hhd hbox;have HB0:=hhd hbl;have k0:W0.cell? ⟨g2,0,none⟩=some (.int .i64 x.f0):=(zc hbox 0).trans rfl;have k1:W0.cell? ⟨g2,1,none⟩=some (.int .i64 x.f1):=(zc hbox 1).trans rfl;clear hbox hbl hg)
   go_ret
   exact ⟨rfl,HB0.out⟩
set_option maxRecDepth 100000 in
set_option maxHeartbeats 4000000 in
theorem zkG (x:S38) (m:Int) (hm0:0≤m) (hm1:m≤4611686018427387904) (h:inB m x=true) (w:World) :
  Calls Tryz.prog 45 #[.agg #[.int .i64 x.f0,.int .i64 x.f1],.int .i64 m] w fun e w'=>e=.returned (.bool true)∧Below w.heap.size w w':=by
 obtain ⟨q0,q1,q2,q3⟩:=zan h
 have hn:wrap64 (-m)=-m:=by unfold wrap64;omega
 have d0:decide (x.f0≤m)=true:=decide_eq_true q0
 have d1:decide (x.f1≤m)=true:=decide_eq_true q1
 have d2:decide (-m≤x.f0)=true:=decide_eq_true q2
 have d3:decide (-m≤x.f1)=true:=decide_eq_true q3
 clear h hm0 hm1 q0 q1 q2 q3
 by_cases c:x.f0 < x.f1
 ·have c1:(x.f0 < x.f1)=True:=eq_true c
  have c2:(x.f1 < x.f0)=False:=eq_false (by omega)
  clear c
  go_enter Tryz.func45,Tryz.ntmps45
  go_wp2_with ((with_reducible refine zg (N:=2) rfl ?_);refine ba_ 2 #[.int .i64 x.f0,.int .i64 x.f1] 38 ?_;intro g2 hg W0 hbox hbl;have B2:=hhd hbox;have HB0:=hhd hbl;have k0:W0.cell? ⟨g2,0,none⟩=some (.int .i64 x.f0):=(zc hbox 0).trans rfl;have k1:W0.cell? ⟨g2,1,none⟩=some (.int .i64 x.f1):=(zc hbox 1).trans rfl;clear hbox hbl hg)
  go_ret
  exact ⟨rfl,HB0.out⟩
 ·have c1:(x.f0 < x.f1)=False:=eq_false c
  by_cases c':x.f1 < x.f0
  ·have c2:(x.f1 < x.f0)=True:=eq_true c'
   clear c c'
   go_enter Tryz.func45,Tryz.ntmps45
   go_wp2_with ((with_reducible refine zg (N:=2) rfl ?_);refine ba_ 2 #[.int .i64 x.f0,.int .i64 x.f1] 38 ?_;intro g2 hg W0 hbox hbl;have B2:=hhd hbox;have HB0:=hhd hbl;have k0:W0.cell? ⟨g2,0,none⟩=some (.int .i64 x.f0):=(zc hbox 0).trans rfl;have k1:W0.cell? ⟨g2,1,none⟩=some (.int .i64 x.f1):=(zc hbox 1).trans rfl;clear hbox hbl hg)
   go_ret
   exact ⟨rfl,HB0.out⟩
  ·have c2:(x.f1 < x.f0)=False:=eq_false c'
   clear c c'
   go_enter Tryz.func45,Tryz.ntmps45
   go_wp2_with ((with_reducible refine zg (N:=2) rfl ?_);refine ba_ 2 #[.int .i64 x.f0,.int .i64 x.f1] 38 ?_;intro g2 hg W0 hbox hbl;have B2:=hhd hbox;have HB0:=hhd hbl;have k0:W0.cell? ⟨g2,0,none⟩=some (.int .i64 x.f0):=(zc hbox 0).trans rfl;have k1:W0.cell? ⟨g2,1,none⟩=some (.int .i64 x.f1):=(zc hbox 1).trans rfl;clear hbox hbl hg)
   go_ret
   exact ⟨rfl,HB0.out⟩
set_option maxRecDepth 100000 in
set_option maxHeartbeats 4000000 in
theorem znk (x:S38) (h:inB 2147483648 x=true) (w:World) :
  Calls Tryz.prog 75 #[.agg #[.int .i64 x.f0,.int .i64 x.f1]] w fun e w'=>e=.returned (.bool false)∧Below w.heap.size w w':=by
 have H:=hhd h
 clear h
 go_enter Tryz.func75,Tryz.ntmps75
 go_wp2_with (first
  | ((with_reducible refine zg (N:=1) rfl ?_);refine ba_ 1 #[.int .i64 x.f0,.int .i64 x.f1] 38 ?_;intro g2 hg W0 hbox hbl;have B2:=hhd hbox;have HB0:=hhd hbl;have k0:W0.cell? ⟨g2,0,none⟩=some (.int .i64 x.f0):=(zc hbox 0).trans rfl;have k1:W0.cell? ⟨g2,1,none⟩=some (.int .i64 x.f1):=(zc hbox 1).trans rfl;clear hbox hbl hg)
  | ((with_reducible refine zg (N:=3) rfl ?_);refine wpList_load_row rfl 38 _ rfl g2 rfl 38 #[.int .i64 x.f0,.int .i64 x.f1] (0,0) _ B2.out Tryz.underlying38 rfl (zu _ _) ?_)
  | (go_at_call 76;(with_reducible refine (zgX x 2147483648 (by decide) (by decide) H.out _).mono ?_);rintro e W1 ⟨rfl,hb⟩;have HB1:=hhd (zb HB0.out hb);clear hb))
 go_ret
 exact ⟨rfl,HB1.out⟩
set_option maxRecDepth 100000 in
set_option maxHeartbeats 4000000 in
theorem znl (x:S38) (h:inB 2147483648 x=true) (w:World) :
  Calls Tryz.prog 82 #[.agg #[.int .i64 x.f0,.int .i64 x.f1]] w fun e w'=>e=.returned (.bool false)∧Below w.heap.size w w':=by
 have H:=hhd h
 clear h
 go_enter Tryz.func82,Tryz.ntmps82
 go_wp2_with (first
  | ((with_reducible refine zg (N:=1) rfl ?_);refine ba_ 1 #[.int .i64 x.f0,.int .i64 x.f1] 38 ?_;intro g2 hg W0 hbox hbl;have B2:=hhd hbox;have HB0:=hhd hbl;have k0:W0.cell? ⟨g2,0,none⟩=some (.int .i64 x.f0):=(zc hbox 0).trans rfl;have k1:W0.cell? ⟨g2,1,none⟩=some (.int .i64 x.f1):=(zc hbox 1).trans rfl;clear hbox hbl hg)
  | ((with_reducible refine zg (N:=3) rfl ?_);refine wpList_load_row rfl 38 _ rfl g2 rfl 38 #[.int .i64 x.f0,.int .i64 x.f1] (0,0) _ B2.out Tryz.underlying38 rfl (zu _ _) ?_)
  | (go_at_call 83;(with_reducible refine (zgY x 2147483648 (by decide) (by decide) H.out _).mono ?_);rintro e W1 ⟨rfl,hb⟩;have HB1:=hhd (zb HB0.out hb);clear hb))
 go_ret
 exact ⟨rfl,HB1.out⟩
set_option maxRecDepth 100000 in
set_option maxHeartbeats 4000000 in
theorem zlW (x:S38) (Bb:Nat) (bits m:Int) (h0:0≤bits) (h1:bits≤40) (hm:m=2^bits.toNat) (h:inB m x=true) (w:World) (hb:w.heap[Bb]?=some (.cells #[.int .i64 bits] 3 (0,0))) :
  Calls Tryz.prog 77 #[.agg #[.int .i64 x.f0,.int .i64 x.f1],.pointer (some ⟨Bb,0,none⟩)] w fun e w'=>e=.returned (.bool false)∧Below w.heap.size w w':=by
 have H:=hhd h
 have HBb:=hhd hb
 have hm2:0≤m∧m≤4611686018427387904:=by
  have hp:(2:Int)^(bits).toNat≤2^40:=zau (by omega)
  have hq:(0:Int)≤2^(bits).toNat:=Int.pow_nonneg (by decide)
  rw [hm]
  omega
 obtain ⟨hm0,hm1⟩:=hm2
 have hw:IntKind.i64.wrap (2^bits.toNat)=m:=by rw [← hm,zL];unfold wrap64;omega
 have hw2:wrap64 (2^bits.toNat)=m:=(zL _).symm.trans hw
 clear h hb hm
 go_enter Tryz.func77,Tryz.ntmps77
 go_wp2_with ((with_reducible refine zg (N:=2) rfl ?_);refine ba_ 2 #[.int .i64 x.f0,.int .i64 x.f1] 38 ?_;intro g2 hg W0 hbox hbl;have B2:=hhd hbox;have HB0:=hhd hbl;have k0:W0.cell? ⟨g2,0,none⟩=some (.int .i64 x.f0):=(zc hbox 0).trans rfl;have k1:W0.cell? ⟨g2,1,none⟩=some (.int .i64 x.f1):=(zc hbox 1).trans rfl;have B20:=hhd (za HBb.out hbl);have kb:W0.cell? ⟨Bb,0,none⟩=some (.int .i64 bits):=(zc (za HBb.out hbl) 0).trans rfl;clear hbox hbl hg)
 go_region_held3 (fun w'=>w'.cell? ⟨g2,0,none⟩=some (.int .i64 x.f0)∧w'.cell? ⟨g2,1,none⟩=some (.int .i64 x.f1)∧w'.cell? ⟨Bb,0,none⟩=some (.int .i64 bits)∧Below w.heap.size w w')
  (first
   | exact ⟨k0,k1,kb,zbj HB0.out⟩
   | go_keep
   | exact ⟨(zc (za (zn B2.out 1) hb) 0).trans rfl,(zc (za (zn B2.out 1) hb) 1).trans rfl,(zc (za (zn B20.out 1) hb) 0).trans rfl,zb (zd HB0.out 1) hb⟩)
  ((go_at_call 76;refine (zgX x m hm0 hm1 H.out _).mono ?_;rintro e W1 ⟨rfl,hb⟩))
 case _ hH =>
  go_wp2
  go_ret
  exact ⟨rfl,hH.2.2.2⟩
set_option maxRecDepth 100000 in
set_option maxHeartbeats 4000000 in
theorem zlX (x:S38) (Bb:Nat) (bits m:Int) (h0:0≤bits) (h1:bits≤40) (hm:m=2^bits.toNat) (h:inB m x=true) (w:World) (hb:w.heap[Bb]?=some (.cells #[.int .i64 bits] 3 (0,0))) :
  Calls Tryz.prog 84 #[.agg #[.int .i64 x.f0,.int .i64 x.f1],.pointer (some ⟨Bb,0,none⟩)] w fun e w'=>e=.returned (.bool false)∧Below w.heap.size w w':=by
 have H:=hhd h
 have HBb:=hhd hb
 have hm2:0≤m∧m≤4611686018427387904:=by
  have hp:(2:Int)^(bits).toNat≤2^40:=zau (by omega)
  have hq:(0:Int)≤2^(bits).toNat:=Int.pow_nonneg (by decide)
  rw [hm]
  omega
 obtain ⟨hm0,hm1⟩:=hm2
 have hw:IntKind.i64.wrap (2^bits.toNat)=m:=by rw [← hm,zL];unfold wrap64;omega
 have hw2:wrap64 (2^bits.toNat)=m:=(zL _).symm.trans hw
 clear h hb hm
 go_enter Tryz.func84,Tryz.ntmps84
 go_wp2_with ((with_reducible refine zg (N:=2) rfl ?_);refine ba_ 2 #[.int .i64 x.f0,.int .i64 x.f1] 38 ?_;intro g2 hg W0 hbox hbl;have B2:=hhd hbox;have HB0:=hhd hbl;have k0:W0.cell? ⟨g2,0,none⟩=some (.int .i64 x.f0):=(zc hbox 0).trans rfl;have k1:W0.cell? ⟨g2,1,none⟩=some (.int .i64 x.f1):=(zc hbox 1).trans rfl;have B20:=hhd (za HBb.out hbl);have kb:W0.cell? ⟨Bb,0,none⟩=some (.int .i64 bits):=(zc (za HBb.out hbl) 0).trans rfl;clear hbox hbl hg)
 go_region_held3 (fun w'=>w'.cell? ⟨g2,0,none⟩=some (.int .i64 x.f0)∧w'.cell? ⟨g2,1,none⟩=some (.int .i64 x.f1)∧w'.cell? ⟨Bb,0,none⟩=some (.int .i64 bits)∧Below w.heap.size w w')
  (first
   | exact ⟨k0,k1,kb,zbj HB0.out⟩
   | go_keep
   | exact ⟨(zc (za (zn B2.out 1) hb) 0).trans rfl,(zc (za (zn B2.out 1) hb) 1).trans rfl,(zc (za (zn B20.out 1) hb) 0).trans rfl,zb (zd HB0.out 1) hb⟩)
  ((go_at_call 83;refine (zgY x m hm0 hm1 H.out _).mono ?_;rintro e W1 ⟨rfl,hb⟩))
 case _ hH =>
  go_wp2
  go_ret
  exact ⟨rfl,hH.2.2.2⟩
set_option maxRecDepth 100000 in
set_option maxHeartbeats 4000000 in
theorem zlY (x:S38) (Bb:Nat) (bits b1 m:Int) (h0:0≤b1) (h1:b1≤40) (hb1:wrap64 (bits - 1)=b1) (hm:m=2^b1.toNat) (h:inB m x=true) (w:World) (hb:w.heap[Bb]?=some (.cells #[.int .i64 bits] 3 (0,0))) :
  Calls Tryz.prog 44 #[.agg #[.int .i64 x.f0,.int .i64 x.f1],.pointer (some ⟨Bb,0,none⟩)] w fun e w'=>e=.returned (.bool false)∧Below w.heap.size w w':=by
 have H:=hhd h
 have HBb:=hhd hb
 have hb2:IntKind.i64.wrap (bits - 1)=b1:=(zL _).trans hb1
 have hm2:0≤m∧m≤4611686018427387904:=by
  have hp:(2:Int)^(b1).toNat≤2^40:=zau (by omega)
  have hq:(0:Int)≤2^(b1).toNat:=Int.pow_nonneg (by decide)
  rw [hm]
  omega
 obtain ⟨hm0,hm1⟩:=hm2
 have hw:IntKind.i64.wrap (2^b1.toNat)=m:=by rw [← hm,zL];unfold wrap64;omega
 have hw2:wrap64 (2^b1.toNat)=m:=(zL _).symm.trans hw
 clear h hb hm
 go_enter Tryz.func44,Tryz.ntmps44
 go_wp2_with ((with_reducible refine zg (N:=2) rfl ?_);refine ba_ 2 #[.int .i64 x.f0,.int .i64 x.f1] 38 ?_;intro g2 hg W0 hbox hbl;have B2:=hhd hbox;have HB0:=hhd hbl;have k0:W0.cell? ⟨g2,0,none⟩=some (.int .i64 x.f0):=(zc hbox 0).trans rfl;have k1:W0.cell? ⟨g2,1,none⟩=some (.int .i64 x.f1):=(zc hbox 1).trans rfl;have B20:=hhd (za HBb.out hbl);have kb:W0.cell? ⟨Bb,0,none⟩=some (.int .i64 bits):=(zc (za HBb.out hbl) 0).trans rfl;clear hbox hbl hg)
 go_region_held3 (fun w'=>w'.cell? ⟨g2,0,none⟩=some (.int .i64 x.f0)∧w'.cell? ⟨g2,1,none⟩=some (.int .i64 x.f1)∧w'.cell? ⟨Bb,0,none⟩=some (.int .i64 bits)∧Below w.heap.size w w')
  (first
   | exact ⟨k0,k1,kb,zbj HB0.out⟩
   | go_keep
   | exact ⟨(zc (za (zn B2.out 1) hb) 0).trans rfl,(zc (za (zn B2.out 1) hb) 1).trans rfl,(zc (za (zn B20.out 1) hb) 0).trans rfl,zb (zd HB0.out 1) hb⟩)
  ((go_at_call 45;refine (zkG x m hm0 hm1 H.out _).mono ?_;rintro e W1 ⟨rfl,hb⟩))
 case _ hH =>
  go_wp2
  go_ret
  exact ⟨rfl,hH.2.2.2⟩
end Go.Proofs.YteieahbadclppaaGreat.P

namespace Go.Proofs.YteieahbadclppaaGreat.P
open Go.RowKit Go.Proofs.YteieahbadclppaaGreatW.PrintWords Go.Proofs.YteieahbadclppaaGreatW.PrintLast Go.Proofs.YteieahbadclppaaGreatW.PrintMore
set_option linter.unusedVariables false
set_option linter.unusedSimpArgs false
@[reducible] def zmJ:Array Value:=#[.func (.func 99) #[] #[],.func (.func 100) #[] #[],.func (.func 101) #[] #[]]
set_option maxRecDepth 100000 in
set_option maxHeartbeats 4000000 in
theorem za4 (w:World):Calls Tryz.prog 68 #[] w fun e w'=>e=.returned (.slice (some ⟨w.heap.size,0,none⟩) 3 3)∧w'=w.alloc (.cells zmJ 129 (0,0)):=by
 go_enter Tryz.func68,Tryz.ntmps68
 go_wp2
 go_ret
 exact ⟨rfl,rfl⟩
set_option maxRecDepth 100000 in
set_option maxHeartbeats 4000000 in
theorem zlZ (l h:Int) (o:Bool) (w:World):Calls Tryz.prog 99 #[.int .i64 l,.int .i64 h,.bool o] w fun e w'=>e=.returned (.bool false)∧w'=w:=by
 go_enter Tryz.func99,Tryz.ntmps99
 go_wp2
 go_ret
 exact ⟨rfl,rfl⟩
def zfZ (l h:Int):Bool:=decide (h≤l)
def zd5 (l h:Int) (o:Bool):Bool:=decide (h < l) || (decide (l=h) && o)
set_option maxRecDepth 100000 in
set_option maxHeartbeats 4000000 in
theorem zin (l h:Int) (o:Bool) (w:World):Calls Tryz.prog 100 #[.int .i64 l,.int .i64 h,.bool o] w fun e w'=>e=.returned (.bool (zfZ l h))∧w'=w:=by
 go_enter Tryz.func100,Tryz.ntmps100
 go_wp2
 go_ret
 exact ⟨rfl,rfl⟩
set_option maxRecDepth 100000 in
set_option maxHeartbeats 4000000 in
theorem zio (l h:Int) (o:Bool) (w:World):Calls Tryz.prog 101 #[.int .i64 l,.int .i64 h,.bool o] w fun e w'=>e=.returned (.bool (zd5 l h o))∧w'=w:=by
 by_cases h1:h < l
 ·have d1:decide (h < l)=true:=decide_eq_true h1
  clear h1
  go_enter Tryz.func101,Tryz.ntmps101
  go_wp2
  go_ret
  exact ⟨by unfold zd5;rw [d1];rfl,rfl⟩
 ·have d1:decide (h < l)=false:=decide_eq_false h1
  by_cases h2:l=h
  ·subst h2
   clear h1
   go_enter Tryz.func101,Tryz.ntmps101
   go_wp2
   go_ret
   exact ⟨by unfold zd5;rw [d1];simp,rfl⟩
  ·have d2:(l == h)=false:=by simpa using h2
   clear h1
   go_enter Tryz.func101,Tryz.ntmps101
   go_wp2
   go_ret
   exact ⟨by unfold zd5;rw [d1,decide_eq_false h2];rfl,rfl⟩
set_option maxRecDepth 100000 in
set_option maxHeartbeats 4000000 in
theorem zjz (x s how:Int) (h:s < 0∨s > 62∨how < 0∨how≥3) (w:World):Calls Tryz.prog 42 #[.int .i64 x,.int .i64 s,.int .i64 how] w fun e w'=>e=.returned (.tuple #[.int .i64 0,.int .i64 1])∧Below w.heap.size w w':=by
 have hM:=fun w=>za4 w
 by_cases h1:s < 0
 ·have d1:decide (s < 0)=true:=decide_eq_true h1
  clear h h1
  go_enter Tryz.func42,Tryz.ntmps42
  go_wp2_with (go_at_call 68;(with_reducible refine (za4 _).mono ?_);rintro e W1 ⟨rfl,rfl⟩)
  go_ret2
  exact ⟨rfl,ze (Below.refl _ _) _⟩
 ·by_cases h2:s > 62
  ·have d1:decide (s < 0)=false:=decide_eq_false h1
   have d2:decide (62 < s)=true:=decide_eq_true h2
   clear h h1 h2
   go_enter Tryz.func42,Tryz.ntmps42
   go_wp2_with (go_at_call 68;(with_reducible refine (za4 _).mono ?_);rintro e W1 ⟨rfl,rfl⟩)
   go_ret2
   exact ⟨rfl,ze (Below.refl _ _) _⟩
  ·by_cases h3:how < 0
   ·have d1:decide (s < 0)=false:=decide_eq_false h1
    have d2:decide (62 < s)=false:=decide_eq_false h2
    have d3:decide (how < 0)=true:=decide_eq_true h3
    clear h h1 h2 h3
    go_enter Tryz.func42,Tryz.ntmps42
    go_wp2_with (go_at_call 68;(with_reducible refine (za4 _).mono ?_);rintro e W1 ⟨rfl,rfl⟩)
    go_ret2
    exact ⟨rfl,ze (Below.refl _ _) _⟩
   ·have d1:decide (s < 0)=false:=decide_eq_false h1
    have d2:decide (62 < s)=false:=decide_eq_false h2
    have d3:decide (how < 0)=false:=decide_eq_false h3
    have d4:decide (3≤how)=true:=decide_eq_true (by omega)
    clear h h1 h2 h3
    go_enter Tryz.func42,Tryz.ntmps42
    go_wp2_with (go_at_call 68;(with_reducible refine (za4 _).mono ?_);rintro e W1 ⟨rfl,rfl⟩)
    go_ret2
    exact ⟨rfl,ze (Below.refl _ _) _⟩
set_option maxRecDepth 100000 in
set_option maxHeartbeats 4000000 in
theorem ziU (x how:Int) (h0:0≤how) (h3:how < 3) (w:World):Calls Tryz.prog 42 #[.int .i64 x,.int .i64 0,.int .i64 how] w fun e w'=>e=.returned (.tuple #[.int .i64 x,.int .i64 0])∧Below w.heap.size w w':=by
 have d3:decide (how < 0)=false:=decide_eq_false (by omega)
 have d4:decide (3≤how)=false:=decide_eq_false (by omega)
 clear h0 h3
 go_enter Tryz.func42,Tryz.ntmps42
 go_wp2_with (go_at_call 68;(with_reducible refine (za4 _).mono ?_);rintro e W1 ⟨rfl,rfl⟩)
 go_ret2
 exact ⟨rfl,ze (Below.refl _ _) _⟩
set_option maxRecDepth 100000 in
set_option maxHeartbeats 4000000 in
theorem zl0 (x s:Int) (h0:1≤s) (h3:s≤62) (w:World):Calls Tryz.prog 42 #[.int .i64 x,.int .i64 s,.int .i64 0] w fun e w'=>e=.returned (.tuple #[.int .i64 (x / 2^s.toNat),.int .i64 0])∧Below w.heap.size w w':=by
 have d1:decide (s < 0)=false:=decide_eq_false (by omega)
 have d2:decide (62 < s)=false:=decide_eq_false (by omega)
 have d3:(s == 0)=false:=by simp;omega
 go_enter Tryz.func42,Tryz.ntmps42
 go_wp2_with (go_at_call 68;(with_reducible refine (za4 _).mono ?_);rintro e W1 ⟨rfl,rfl⟩)
 go_quiet ((go_at_call 99;exact Calls.quiet_of_same (zlZ _ _ _ _)))
 go_wp2
 go_ret2
 exact ⟨rfl,zd (ze (Below.refl _ _) _) _⟩
set_option maxRecDepth 100000 in
set_option maxHeartbeats 4000000 in
theorem zgZ (x s:Int) (h0:1≤s) (h3:s≤62) (hU:zfZ (bits .and .i64 x (wrap64 (wrap64 (2^s.toNat) - 1))) (wrap64 (2^(s.toNat - 1)))=true) (w:World):Calls Tryz.prog 42 #[.int .i64 x,.int .i64 s,.int .i64 1] w fun e w'=>e=.returned (.tuple #[.int .i64 (wrap64 (x / 2^s.toNat+1)),.int .i64 0])∧Below w.heap.size w w':=by
 have d1:decide (s < 0)=false:=decide_eq_false (by omega)
 have d2:decide (62 < s)=false:=decide_eq_false (by omega)
 have d3:(s == 0)=false:=by simp;omega
 go_enter Tryz.func42,Tryz.ntmps42
 go_wp2_with (go_at_call 68;(with_reducible refine (za4 _).mono ?_);rintro e W1 ⟨rfl,rfl⟩)
 go_quiet ((go_at_call 100;exact Calls.quiet_of_same (zin _ _ _ _)))
 go_wp2
 all_goals first
  | exact absurd (hU.symm.trans ‹zfZ _ _=false›) (by decide)
  | (go_ret2;exact ⟨rfl,zd (ze (Below.refl _ _) _) _⟩)
set_option maxRecDepth 100000 in
set_option maxHeartbeats 4000000 in
theorem zgD (x s:Int) (h0:1≤s) (h3:s≤62) (hU:zfZ (bits .and .i64 x (wrap64 (wrap64 (2^s.toNat) - 1))) (wrap64 (2^(s.toNat - 1)))=false) (w:World):Calls Tryz.prog 42 #[.int .i64 x,.int .i64 s,.int .i64 1] w fun e w'=>e=.returned (.tuple #[.int .i64 (x / 2^s.toNat),.int .i64 0])∧Below w.heap.size w w':=by
 have d1:decide (s < 0)=false:=decide_eq_false (by omega)
 have d2:decide (62 < s)=false:=decide_eq_false (by omega)
 have d3:(s == 0)=false:=by simp;omega
 go_enter Tryz.func42,Tryz.ntmps42
 go_wp2_with (go_at_call 68;(with_reducible refine (za4 _).mono ?_);rintro e W1 ⟨rfl,rfl⟩)
 go_quiet ((go_at_call 100;exact Calls.quiet_of_same (zin _ _ _ _)))
 go_wp2
 all_goals first
  | exact absurd (hU.symm.trans ‹zfZ _ _=true›) (by decide)
  | (go_ret2;exact ⟨rfl,zd (ze (Below.refl _ _) _) _⟩)
set_option maxRecDepth 100000 in
set_option maxHeartbeats 4000000 in
theorem zg0 (x s:Int) (h0:1≤s) (h3:s≤62) (hU:zd5 (bits .and .i64 x (wrap64 (wrap64 (2^s.toNat) - 1))) (wrap64 (2^(s.toNat - 1))) (bits .and .i64 (x / 2^s.toNat) 1 == 1)=true) (w:World):Calls Tryz.prog 42 #[.int .i64 x,.int .i64 s,.int .i64 2] w fun e w'=>e=.returned (.tuple #[.int .i64 (wrap64 (x / 2^s.toNat+1)),.int .i64 0])∧Below w.heap.size w w':=by
 have d1:decide (s < 0)=false:=decide_eq_false (by omega)
 have d2:decide (62 < s)=false:=decide_eq_false (by omega)
 have d3:(s == 0)=false:=by simp;omega
 go_enter Tryz.func42,Tryz.ntmps42
 go_wp2_with (go_at_call 68;(with_reducible refine (za4 _).mono ?_);rintro e W1 ⟨rfl,rfl⟩)
 go_quiet ((go_at_call 101;exact Calls.quiet_of_same (zio _ _ _ _)))
 go_wp2
 all_goals first
  | exact absurd (hU.symm.trans ‹zd5 _ _ _=false›) (by decide)
  | (go_ret2;exact ⟨rfl,zd (ze (Below.refl _ _) _) _⟩)
set_option maxRecDepth 100000 in
set_option maxHeartbeats 4000000 in
theorem zgE (x s:Int) (h0:1≤s) (h3:s≤62) (hU:zd5 (bits .and .i64 x (wrap64 (wrap64 (2^s.toNat) - 1))) (wrap64 (2^(s.toNat - 1))) (bits .and .i64 (x / 2^s.toNat) 1 == 1)=false) (w:World):Calls Tryz.prog 42 #[.int .i64 x,.int .i64 s,.int .i64 2] w fun e w'=>e=.returned (.tuple #[.int .i64 (x / 2^s.toNat),.int .i64 0])∧Below w.heap.size w w':=by
 have d1:decide (s < 0)=false:=decide_eq_false (by omega)
 have d2:decide (62 < s)=false:=decide_eq_false (by omega)
 have d3:(s == 0)=false:=by simp;omega
 go_enter Tryz.func42,Tryz.ntmps42
 go_wp2_with (go_at_call 68;(with_reducible refine (za4 _).mono ?_);rintro e W1 ⟨rfl,rfl⟩)
 go_quiet ((go_at_call 101;exact Calls.quiet_of_same (zio _ _ _ _)))
 go_wp2
 all_goals first
  | exact absurd (hU.symm.trans ‹zd5 _ _ _=true›) (by decide)
  | (go_ret2;exact ⟨rfl,zd (ze (Below.refl _ _) _) _⟩)
end Go.Proofs.YteieahbadclppaaGreat.P

namespace Go.Proofs.YteieahbadclppaaGreat.P
open Go.RowKit Go.Proofs.YteieahbadclppaaGreatW.PrintWords Go.Proofs.YteieahbadclppaaGreatW.PrintLast Go.Proofs.YteieahbadclppaaGreatW.PrintMore
attribute [local go_sem] zI zJ zO zP zX zY z8 z9
set_option linter.unusedVariables false
set_option linter.unusedSimpArgs false
def upV (x s how:Int):Bool:=if how=1 then zfZ (bits .and .i64 x (wrap64 (wrap64 (2^s.toNat) - 1))) (wrap64 (2^(s.toNat - 1))) else if how=2 then zd5 (bits .and .i64 x (wrap64 (wrap64 (2^s.toNat) - 1))) (wrap64 (2^(s.toNat - 1))) (bits .and .i64 (x / 2^s.toNat) 1 == 1) else false
def shV (x s how:Int):Int:=if s=0 then x else if upV x s how=true then wrap64 (x / 2^s.toNat+1) else x / 2^s.toNat
def round_Shift.f (a0 a1 a2:Int):Option (Int×Int):=if a1 < 0∨a1 > 62∨a2 < 0∨a2≥3 then some (0,1) else some (shV a0 a1 a2,0)
theorem round_Shift.calls (a0:Int) (a1:Int) (a2:Int) (r1:Int) (r2:Int) (w:World) (h:round_Shift.f a0 a1 a2=some (r1,r2)) :
  Calls Tryz.prog 42 #[.int .i64 a0,.int .i64 a1,.int .i64 a2] w fun e w'=>e=.returned (.tuple #[.int .i64 r1,.int .i64 r2])∧Below w.heap.size w w':=by
 unfold round_Shift.f at h
 by_cases hb:a1 < 0∨a1 > 62∨a2 < 0∨a2≥3
 ·rw [if_pos hb] at h
  simp only [Option.some.injEq,Prod.mk.injEq] at h
  obtain ⟨rfl,rfl⟩:=h
  exact zjz a0 a1 a2 hb w
 ·rw [if_neg hb] at h
  simp only [Option.some.injEq,Prod.mk.injEq] at h
  obtain ⟨rfl,rfl⟩:=h
  unfold shV
  by_cases hz:a1=0
  ·subst hz
   rw [if_pos rfl]
   exact ziU a0 a2 (by omega) (by omega) w
  ·rw [if_neg hz]
   have h3:a2=0∨a2=1∨a2=2:=by omega
   rcases h3 with rfl | rfl | rfl
   ·have e:upV a0 a1 0=false:=rfl
    rw [e,if_neg (by decide)]
    exact zl0 a0 a1 (by omega) (by omega) w
   ·cases e:upV a0 a1 1 with
    | true=>rw [if_pos rfl];exact zgZ a0 a1 (by omega) (by omega) e w
    | false=>rw [if_neg (by decide)];exact zgD a0 a1 (by omega) (by omega) e w
   ·cases e:upV a0 a1 2 with
    | true=>rw [if_pos rfl];exact zg0 a0 a1 (by omega) (by omega) e w
    | false=>rw [if_neg (by decide)];exact zgE a0 a1 (by omega) (by omega) e w

def plan_in.f (a0:Int) (a1:Int) (a2:Int):Option (Bool):=if a0≥a1 then (some (decide (a0≤a2))) else (some false)
set_option maxHeartbeats 8000000 in
set_option maxRecDepth 100000 in
theorem plan_in.calls (a0:Int) (a1:Int) (a2:Int) (r:Bool) (w:World) (h:plan_in.f a0 a1 a2=some r) :
  Calls Tryz.prog 64 #[.int .i64 a0,.int .i64 a1,.int .i64 a2] w fun e w'=>e=.returned (.bool r)∧Drawn0 w w':=by
 have H:(if a0≥a1 then (some (decide (a0≤a2))) else (some false))=some r:=h
 clear h
 by_cases c4:a0≥a1
 ·rw [if_pos c4] at H
  have c4b0:decide (a1≤a0)=true:=decide_eq_true c4
  clear c4
  obtain rfl:=Option.some.inj H
  go_enter Tryz.func64,Tryz.ntmps64
  go_wp2
  go_ret
  exact ⟨by first | rfl | (simp;done) | (simp [*];done),by repeat (first | exact Drawn0.refl _ | apply Drawn0.step)⟩
 ·rw [if_neg c4] at H
  have c4b0:decide (a1≤a0)=false:=decide_eq_false c4
  clear c4
  obtain rfl:=Option.some.inj H
  go_enter Tryz.func64,Tryz.ntmps64
  go_wp2
  go_ret
  exact ⟨by first | rfl | (simp;done) | (simp [*];done),by repeat (first | exact Drawn0.refl _ | apply Drawn0.step)⟩

def flip_Log.l0:Nat→Int→Int→Option (Int×Int)
 | 0,_,_=>none
 | k+1,x0,x4=>if x4≤6 then (if 0≤x4 then (if x0=(shl .i64 1 x4) then (some (x4,0)) else (flip_Log.l0 k x0 (wrap64 (x4+1)))) else (none)) else (some (0,3))
def flip_Log.f (k:Nat) (a0:Int):Option (Int×Int):=flip_Log.l0 k a0 2
set_option maxHeartbeats 8000000 in
set_option maxRecDepth 100000 in
theorem flip_Log.calls (k:Nat) (a0:Int) (r1:Int) (r2:Int) (w:World) (h:flip_Log.f k a0=some (r1,r2)) :
  Calls Tryz.prog 40 #[.int .i64 a0] w fun e w'=>e=.returned (.tuple #[.int .i64 r1,.int .i64 r2])∧Drawn0 w w':=by
 have H:(flip_Log.l0 k a0 2)=some (r1,r2):=h
 clear h
 have H':=Aside0.mk H
 clear H
 go_enter Tryz.func40,Tryz.ntmps40
 go_wp2
 go_loopg [4] k (fun kq v4 w'=>∃(x4_1:Int),v4=.int .i64 x4_1∧Aside0 (flip_Log.l0 kq a0 x4_1=some (r1,r2))∧Aside0 (kq≤k)∧Drawn0 w w')
 case atStart=>exact ⟨(2),(by first | rfl | (simp;done) | (simp [*];done)),H',⟨Nat.le_refl _⟩,by repeat (first | exact Drawn0.refl _ | apply Drawn0.step)⟩
 case round =>
  clear H'
  obtain ⟨x4_1,rfl,HA,HK1,⟨m1,rfl⟩⟩:=hrel
  cases gk with
  | zero=>exact absurd HA.out (by simp [flip_Log.l0])
  | succ k1 =>
   have H:=HA.out
   clear HA
   simp only [flip_Log.l0] at H
   by_cases c2:x4_1≤6
   ·rw [if_pos c2] at H
    have c2b0:decide (x4_1≤6)=true:=decide_eq_true c2
    clear c2
    by_cases c3:0≤x4_1
    ·rw [if_pos c3] at H
     have c3b0:=eq_true c3
     have c3b1:decide (0≤x4_1)=true:=decide_eq_true c3
     clear c3
     obtain ⟨ji4,hji4⟩:∃j_:Int,(shl .i64 1 x4_1)=j_:=⟨_,rfl⟩
     replace H:(if a0=(ji4) then (some (x4_1,0)) else (flip_Log.l0 k1 a0 (wrap64 (x4_1+1))))=some (r1,r2):=by first | (rw [hji4] at H;exact H) | (simp only [hji4] at H ⊢;exact H)
     have hji4_:(IntKind.i64.wrap (1*2^min x4_1.toNat 64))=ji4:=hji4
     have hji4z:x4_1≤64→(IntKind.i64.wrap (1*2^x4_1.toNat))=ji4:=zcj hji4
     have hji4u:(IntKind.i64.wrap (2^min x4_1.toNat 64))=ji4:=by have h_:=hji4_;rw [Int.one_mul] at h_;exact h_
     have hji4v:x4_1≤64→(IntKind.i64.wrap (2^x4_1.toNat))=ji4:=fun hle_=>by have h_:=hji4z hle_;rw [Int.one_mul] at h_;exact h_
     have hji4y:(wrap64 (1*2^min x4_1.toNat 64))=ji4:=(zL _).symm.trans hji4_
     have hji4x:x4_1≤64→(wrap64 (1*2^x4_1.toNat))=ji4:=fun h_=>(zL _).symm.trans (hji4z h_)
     by_cases c5:a0=(ji4)
     ·rw [if_pos c5] at H
      have c5b0:(a0 == (ji4))=true:=beq_iff_eq.mpr c5
      have c5b1:(a0 != (ji4))=false:=bne_eq_false_iff_eq.mpr c5
      clear c5
      simp only [Option.some.injEq,Prod.mk.injEq] at H
      obtain ⟨rfl,rfl⟩:=H
      go_wp2
      go_ret2
      exact ⟨by first | rfl | (simp;done) | (simp only [← hji4] <;> (first | rfl | simp)) | (simp [*];done),by repeat (first | exact Drawn0.refl _ | apply Drawn0.step)⟩
     ·rw [if_neg c5] at H
      have c5b0:(a0 == (ji4))=false:=beq_eq_false_iff_ne.mpr c5
      have c5b1:(a0 != (ji4))=true:=bne_iff_ne.mpr c5
      have H':=Aside0.mk H
      clear H
      go_wp2
      go_roundg k1
      case measure=>have:=HK1.out;omega
      case rel=>exact ⟨(wrap64 (x4_1+1)),(by first | rfl | (simp;done) | (simp [*];done)),H',⟨by have:=HK1.out;omega⟩,by repeat (first | exact Drawn0.refl _ | apply Drawn0.step)⟩
    ·rw [if_neg c3] at H
     exact absurd H (by simp)
   ·rw [if_neg c2] at H
    have c2b0:decide (x4_1≤6)=false:=decide_eq_false c2
    clear c2
    simp only [Option.some.injEq,Prod.mk.injEq] at H
    obtain ⟨rfl,rfl⟩:=H
    go_wp2
    go_ret2
    exact ⟨by first | rfl | (simp;done) | (simp [*];done),by repeat (first | exact Drawn0.refl _ | apply Drawn0.step)⟩

def flip_may.f (a0:Int):Option (Bool):=if a0≥2 then (some (decide (a0≤6))) else (some false)
set_option maxHeartbeats 8000000 in
set_option maxRecDepth 100000 in
theorem flip_may.calls (a0:Int) (r:Bool) (w:World) (h:flip_may.f a0=some r) :
  Calls Tryz.prog 110 #[.int .i64 a0] w fun e w'=>e=.returned (.bool r)∧Drawn0 w w':=by
 have H:(if a0≥2 then (some (decide (a0≤6))) else (some false))=some r:=h
 clear h
 by_cases c2:a0≥2
 ·rw [if_pos c2] at H
  have c2b0:decide (2≤a0)=true:=decide_eq_true c2
  clear c2
  obtain rfl:=Option.some.inj H
  go_enter Tryz.func110,Tryz.ntmps110
  go_wp2
  go_ret
  exact ⟨by first | rfl | (simp;done) | (simp [*];done),by repeat (first | exact Drawn0.refl _ | apply Drawn0.step)⟩
 ·rw [if_neg c2] at H
  have c2b0:decide (2≤a0)=false:=decide_eq_false c2
  clear c2
  obtain rfl:=Option.some.inj H
  go_enter Tryz.func110,Tryz.ntmps110
  go_wp2
  go_ret
  exact ⟨by first | rfl | (simp;done) | (simp [*];done),by repeat (first | exact Drawn0.refl _ | apply Drawn0.step)⟩

def round_Up.j0:Nat→Int→Int→Bool→Option (Int×Int)
 | 0,_,_,_=>none
 | k+1,x0,x1,x12=>if x12=true then (some (0,1)) else (if 0≤(wrap64 (62 - x1)) then (if x0 < (wrap64 (-(shl .i64 1 (wrap64 (62 - x1))))) then (some (0,2)) else (if x0 > (shl .i64 1 (wrap64 (62 - x1))) then (some (0,2)) else (if 0≤x1 then (some (shl .i64 x0 x1,0)) else (none)))) else (none))
def split_turns.f (a0:Bool):Option (Int):=if a0=true then (some 1) else (some (-1))
set_option maxHeartbeats 8000000 in
set_option maxRecDepth 100000 in
theorem split_turns.calls (a0:Bool) (r:Int) (w:World) (h:split_turns.f a0=some r) :
  Calls Tryz.prog 47 #[.bool a0] w fun e w'=>e=.returned (.int .i64 r)∧Drawn0 w w':=by
 have H:(if a0=true then (some 1) else (some (-1)))=some r:=h
 clear h
 by_cases c2:a0=true
 ·subst c2
  have H1:(some 1)=some r:=by rw [if_pos rfl] at H;exact H
  clear H
  have H:=H1
  clear H1
  obtain rfl:=Option.some.inj H
  go_enter Tryz.func47,Tryz.ntmps47
  go_wp2
  go_ret
  exact ⟨by first | rfl | (simp;done) | (simp [*];done),by repeat (first | exact Drawn0.refl _ | apply Drawn0.step)⟩
 ·replace c2:=Bool.eq_false_iff.mpr c2
  subst c2
  have H1:(some (-1))=some r:=by rw [if_neg (show ¬(false=true) by decide)] at H;exact H
  clear H
  have H:=H1
  clear H1
  obtain rfl:=Option.some.inj H
  go_enter Tryz.func47,Tryz.ntmps47
  go_wp2
  go_ret
  exact ⟨by first | rfl | (simp;done) | (simp [*];done),by repeat (first | exact Drawn0.refl _ | apply Drawn0.step)⟩

def budget_greatest.f (a0_0:Int) (a0_1:Int) (a0_2:Int) (a0_3:Int) (a0_4:Int) (a0_5:Bool) (a1:Int):Option (Int×Bool):=if a0_3=0 then (some (wrap64 (Int.tdiv a1 2),true)) else (if a0_3=2 then (some (0,true)) else (some (wrap64 (1+(wrap64 (Int.tdiv a1 2))),false)))
set_option maxHeartbeats 8000000 in
set_option maxRecDepth 100000 in
theorem budget_greatest.calls (a0_0:Int) (a0_1:Int) (a0_2:Int) (a0_3:Int) (a0_4:Int) (a0_5:Bool) (a1:Int) (r1:Int) (r2:Bool) (w:World) (h:budget_greatest.f a0_0 a0_1 a0_2 a0_3 a0_4 a0_5 a1=some (r1,r2)) :
  Calls Tryz.prog 21 #[.agg #[.int .i64 a0_0,.int .i64 a0_1,.int .i64 a0_2,.int .i64 a0_3,.int .i64 a0_4,.bool a0_5],.int .i64 a1] w fun e w'=>e=.returned (.tuple #[.int .i64 r1,.bool r2])∧Below w.heap.size w w':=by
 have hu24:=Tryz.underlying24
 have HB:=Aside0.mk (Below.refl w.heap.size w)
 have H:(if a0_3=0 then (some (wrap64 (Int.tdiv a1 2),true)) else (if a0_3=2 then (some (0,true)) else (some (wrap64 (1+(wrap64 (Int.tdiv a1 2))),false))))=some (r1,r2):=h
 clear h
 by_cases c3:a0_3=0
 ·rw [if_pos c3] at H
  have c3b0:(a0_3 == 0)=true:=beq_iff_eq.mpr c3
  have c3b1:(a0_3 != 0)=false:=bne_eq_false_iff_eq.mpr c3
  clear c3
  simp only [Option.some.injEq,Prod.mk.injEq] at H
  obtain ⟨rfl,rfl⟩:=H
  go_enter Tryz.func21,Tryz.ntmps21
  go_wp2_with (first | ((with_reducible refine zg (N:=2) rfl ?_);refine ba_ 2 #[.int .i64 a0_0,.int .i64 a0_1,.int .i64 a0_2,.int .i64 a0_3,.int .i64 a0_4,.bool a0_5] 24 ?_;intro gb255 hg w4 hbox hb;have n0_:=Aside0.mk (zb (by repeat (first | (with_reducible first | exact HB.out | apply ze | apply zd | apply zh) | exact HB.out)) hb);have n1_:=Aside0.mk (hbox);have n2_:=Aside0.mk ((by rw [hg];exact (zj (by repeat (first | (with_reducible first | exact HB.out | apply ze | apply zd | apply zh) | exact HB.out))):w.heap.size≤gb255));have n3_:=Aside0.mk ((by rw [hg];exact (zj (by repeat (first | (with_reducible first | exact HB.out | apply ze | apply zd | apply zh) | exact HB.out))):w.heap.size≤gb255));clear HB;have HB:=n0_;have BK255:=n1_;have GW255:=n2_;have GE255:=n3_;clear n0_ n1_ n2_ n3_;clear hb hbox hg;have hcz5_0:w4.cell? ⟨gb255,0,none⟩=some (.int .i64 a0_0):=(zc BK255.out 0).trans rfl;have hcz5_1:w4.cell? ⟨gb255,1,none⟩=some (.int .i64 a0_1):=(zc BK255.out 1).trans rfl;have hcz5_2:w4.cell? ⟨gb255,2,none⟩=some (.int .i64 a0_2):=(zc BK255.out 2).trans rfl;have hcz5_3:w4.cell? ⟨gb255,3,none⟩=some (.int .i64 a0_3):=(zc BK255.out 3).trans rfl;have hcz5_4:w4.cell? ⟨gb255,4,none⟩=some (.int .i64 a0_4):=(zc BK255.out 4).trans rfl;have hcz5_5:w4.cell? ⟨gb255,5,none⟩=some (.bool a0_5):=(zc BK255.out 5).trans rfl;have hfz5_0:=zi BK255.out 0;have hfz5_1:=zi BK255.out 1;have hfz5_2:=zi BK255.out 2;have hfz5_3:=zi BK255.out 3;have hfz5_4:=zi BK255.out 4;have hfz5_5:=zi BK255.out 5))
  go_ret2
  exact ⟨by first | rfl | (simp [zr,zt] <;> rfl) | (simp [*,zr,zt] <;> rfl),by repeat (first | (with_reducible first | exact HB.out | apply ze | apply zd | apply zh | refine zp ?_ GE255.out) | exact HB.out)⟩
 ·rw [if_neg c3] at H
  have c3b0:(a0_3 == 0)=false:=beq_eq_false_iff_ne.mpr c3
  have c3b1:(a0_3 != 0)=true:=bne_iff_ne.mpr c3
  by_cases c6:a0_3=2
  ·rw [if_pos c6] at H
   have c6b0:(a0_3 == 2)=true:=beq_iff_eq.mpr c6
   have c6b1:(a0_3 != 2)=false:=bne_eq_false_iff_eq.mpr c6
   clear c6
   simp only [Option.some.injEq,Prod.mk.injEq] at H
   obtain ⟨rfl,rfl⟩:=H
   go_enter Tryz.func21,Tryz.ntmps21
   go_wp2_with (first | ((with_reducible refine zg (N:=2) rfl ?_);refine ba_ 2 #[.int .i64 a0_0,.int .i64 a0_1,.int .i64 a0_2,.int .i64 a0_3,.int .i64 a0_4,.bool a0_5] 24 ?_;intro gb255 hg w7 hbox hb;have n0_:=Aside0.mk (zb (by repeat (first | (with_reducible first | exact HB.out | apply ze | apply zd | apply zh) | exact HB.out)) hb);have n1_:=Aside0.mk (hbox);have n2_:=Aside0.mk ((by rw [hg];exact (zj (by repeat (first | (with_reducible first | exact HB.out | apply ze | apply zd | apply zh) | exact HB.out))):w.heap.size≤gb255));have n3_:=Aside0.mk ((by rw [hg];exact (zj (by repeat (first | (with_reducible first | exact HB.out | apply ze | apply zd | apply zh) | exact HB.out))):w.heap.size≤gb255));clear HB;have HB:=n0_;have BK255:=n1_;have GW255:=n2_;have GE255:=n3_;clear n0_ n1_ n2_ n3_;clear hb hbox hg;have hcz8_0:w7.cell? ⟨gb255,0,none⟩=some (.int .i64 a0_0):=(zc BK255.out 0).trans rfl;have hcz8_1:w7.cell? ⟨gb255,1,none⟩=some (.int .i64 a0_1):=(zc BK255.out 1).trans rfl;have hcz8_2:w7.cell? ⟨gb255,2,none⟩=some (.int .i64 a0_2):=(zc BK255.out 2).trans rfl;have hcz8_3:w7.cell? ⟨gb255,3,none⟩=some (.int .i64 a0_3):=(zc BK255.out 3).trans rfl;have hcz8_4:w7.cell? ⟨gb255,4,none⟩=some (.int .i64 a0_4):=(zc BK255.out 4).trans rfl;have hcz8_5:w7.cell? ⟨gb255,5,none⟩=some (.bool a0_5):=(zc BK255.out 5).trans rfl;have hfz8_0:=zi BK255.out 0;have hfz8_1:=zi BK255.out 1;have hfz8_2:=zi BK255.out 2;have hfz8_3:=zi BK255.out 3;have hfz8_4:=zi BK255.out 4;have hfz8_5:=zi BK255.out 5))
   go_ret2
   exact ⟨by first | rfl | (simp [zr,zt] <;> rfl) | (simp [*,zr,zt] <;> rfl),by repeat (first | (with_reducible first | exact HB.out | apply ze | apply zd | apply zh | refine zp ?_ GE255.out) | exact HB.out)⟩
  ·rw [if_neg c6] at H
   have c6b0:(a0_3 == 2)=false:=beq_eq_false_iff_ne.mpr c6
   have c6b1:(a0_3 != 2)=true:=bne_iff_ne.mpr c6
   simp only [Option.some.injEq,Prod.mk.injEq] at H
   obtain ⟨rfl,rfl⟩:=H
   go_enter Tryz.func21,Tryz.ntmps21
   go_wp2_with (first | ((with_reducible refine zg (N:=2) rfl ?_);refine ba_ 2 #[.int .i64 a0_0,.int .i64 a0_1,.int .i64 a0_2,.int .i64 a0_3,.int .i64 a0_4,.bool a0_5] 24 ?_;intro gb255 hg w9 hbox hb;have n0_:=Aside0.mk (zb (by repeat (first | (with_reducible first | exact HB.out | apply ze | apply zd | apply zh) | exact HB.out)) hb);have n1_:=Aside0.mk (hbox);have n2_:=Aside0.mk ((by rw [hg];exact (zj (by repeat (first | (with_reducible first | exact HB.out | apply ze | apply zd | apply zh) | exact HB.out))):w.heap.size≤gb255));have n3_:=Aside0.mk ((by rw [hg];exact (zj (by repeat (first | (with_reducible first | exact HB.out | apply ze | apply zd | apply zh) | exact HB.out))):w.heap.size≤gb255));clear HB;have HB:=n0_;have BK255:=n1_;have GW255:=n2_;have GE255:=n3_;clear n0_ n1_ n2_ n3_;clear hb hbox hg;have hcz10_0:w9.cell? ⟨gb255,0,none⟩=some (.int .i64 a0_0):=(zc BK255.out 0).trans rfl;have hcz10_1:w9.cell? ⟨gb255,1,none⟩=some (.int .i64 a0_1):=(zc BK255.out 1).trans rfl;have hcz10_2:w9.cell? ⟨gb255,2,none⟩=some (.int .i64 a0_2):=(zc BK255.out 2).trans rfl;have hcz10_3:w9.cell? ⟨gb255,3,none⟩=some (.int .i64 a0_3):=(zc BK255.out 3).trans rfl;have hcz10_4:w9.cell? ⟨gb255,4,none⟩=some (.int .i64 a0_4):=(zc BK255.out 4).trans rfl;have hcz10_5:w9.cell? ⟨gb255,5,none⟩=some (.bool a0_5):=(zc BK255.out 5).trans rfl;have hfz10_0:=zi BK255.out 0;have hfz10_1:=zi BK255.out 1;have hfz10_2:=zi BK255.out 2;have hfz10_3:=zi BK255.out 3;have hfz10_4:=zi BK255.out 4;have hfz10_5:=zi BK255.out 5))
   go_ret2
   exact ⟨by first | rfl | (simp [zr,zt] <;> rfl) | (simp [*,zr,zt] <;> rfl),by repeat (first | (with_reducible first | exact HB.out | apply ze | apply zd | apply zh | refine zp ?_ GE255.out) | exact HB.out)⟩

def zbh (w0 W:World) (g:Nat) (f0:Int) (f1:Int):Prop:=W.heap[g]?=some (.cells #[.int .i64 f0,.int .i64 f1] 70 (0,0))∧w0.heap.size≤g
theorem zbh.grown {w0 W:World} {g:Nat} {f0:Int} {f1:Int} {W1:World} {row:Option Nat} (h:zbh w0 W g f0 f1) (hw:W.grownBy W1 row) (hne:some g≠row):zbh w0 W1 g f0 f1:=by
 obtain ⟨hb,hg⟩:=h
 exact ⟨zcO hb hw hne,hg⟩
theorem zbh.kept {w0 W:World} {g:Nat} {f0:Int} {f1:Int} {W1:World} {S:Nat→Prop} (h:zbh w0 W g f0 f1) (hk:zbR W W1 S) (hne:¬S g):zbh w0 W1 g f0 f1:=by
 obtain ⟨hb,hg⟩:=h
 exact ⟨zkC hb hk hne,hg⟩
theorem zbh.below {w0 W:World} {g:Nat} {f0:Int} {f1:Int} {W1:World} (h:zbh w0 W g f0 f1) (hw:Below W.heap.size W W1):zbh w0 W1 g f0 f1:=h.grown (zaZ hw none) (by simp)
theorem zbh.alloc {w0 W:World} {g:Nat} {f0:Int} {f1:Int} (h:zbh w0 W g f0 f1) (o:Obj):zbh w0 (W.alloc o) g f0 f1:=h.below (ze (Below.refl _ _) o)
theorem zbh.drewN {w0 W:World} {g:Nat} {f0:Int} {f1:Int} (h:zbh w0 W g f0 f1) (m:Nat):zbh w0 (W.drewN m) g f0 f1:=h
theorem zbh.drew {w0 W:World} {g:Nat} {f0:Int} {f1:Int} (h:zbh w0 W g f0 f1):zbh w0 W.drew g f0 f1:=h
theorem zbh.at_ {w0 W:World} {g:Nat} {f0:Int} {f1:Int} {w':World} {m:Nat} (hq:W.drewN m=w') (h:zbh w0 W g f0 f1):zbh w0 w' g f0 f1:=by subst hq;exact zbh.drewN h m
theorem zbh.apart {w0 W:World} {g:Nat} {f0:Int} {f1:Int} {α:Type} {d:Kd α} {e:Nat} {base:Nat} {ok:Nat→Prop} {v:Value} {xs:List α} (h:zbh w0 W g f0 f1) (ho:d.R e W base ok v xs) (ht:∀q,q∈e :: d.E→q≠70):d.R e W base (fun k=>ok k∧k≠g) v xs:=by
 obtain ⟨hb,hg⟩:=h
 exact Kd.R_types ho hb ht
theorem zbh.own_ne {w0 W:World} {g:Nat} {f0:Int} {f1:Int} {α:Type} {d:Kd α} {e:Nat} {base:Nat} {ok:Nat→Prop} {v:Value} {xs:List α} (h:zbh w0 W g f0 f1) (ho:d.R e W base ok v xs) (ht:e≠70):some g≠v.ownBlock:=by
 obtain ⟨hb,hg⟩:=h
 exact Kd.R_ne ho hb ht
theorem zbh.lt {w0 W:World} {g:Nat} {f0:Int} {f1:Int} (h:zbh w0 W g f0 f1):g < W.heap.size:=by
 obtain ⟨hb,hg⟩:=h
 exact zf hb
theorem zbh.new (w0 W:World) (f0:Int) (f1:Int) (hB:Below w0.heap.size w0 W):zbh w0 (W.alloc (.cells #[.int .i64 f0,.int .i64 f1] 70)) W.heap.size f0 f1:=⟨by simpa using heap_alloc_new W _,hB.size⟩

def roots_may.f (a0:Int) (a1:Int):Option (Bool):=(round_Shift.f 0 a1 1).bind fun bt104=>(if a0≥2 then (if a0≤6 then (if bt104.2=0 then (some (decide (a1≤40))) else (some false)) else (some false)) else (some false))
set_option maxHeartbeats 8000000 in
set_option maxRecDepth 100000 in
theorem roots_may.calls (a0:Int) (a1:Int) (r:Bool) (w:World) (h:roots_may.f a0 a1=some r) :
  Calls Tryz.prog 89 #[.int .i64 a0,.int .i64 a1] w fun e w'=>e=.returned (.bool r)∧Below w.heap.size w w':=by
 have HB:=Aside0.mk (Below.refl w.heap.size w)
 have H:((round_Shift.f 0 a1 1).bind fun bt104=>(if a0≥2 then (if a0≤6 then (if bt104.2=0 then (some (decide (a1≤40))) else (some false)) else (some false)) else (some false)))=some r:=h
 clear h
 replace H:=Option.bind_eq_some_iff.mp H
 obtain ⟨⟨t104,t105⟩,A30,H⟩:=H
 replace H:(if a0≥2 then (if a0≤6 then (if t105=0 then (some (decide (a1≤40))) else (some false)) else (some false)) else (some false))=some r:=H
 have A3:=Aside0.mk A30
 clear A30
 by_cases c4:a0≥2
 ·rw [if_pos c4] at H
  have c4b0:decide (2≤a0)=true:=decide_eq_true c4
  clear c4
  by_cases c5:a0≤6
  ·rw [if_pos c5] at H
   have c5b0:decide (a0≤6)=true:=decide_eq_true c5
   clear c5
   by_cases c6:t105=0
   ·rw [if_pos c6] at H
    have c6b0:(t105 == 0)=true:=beq_iff_eq.mpr c6
    have c6b1:(t105 != 0)=false:=bne_eq_false_iff_eq.mpr c6
    clear c6
    obtain rfl:=Option.some.inj H
    go_enter Tryz.func89,Tryz.ntmps89
    go_wp2_with (first | ((with_reducible refine zy (f:=42) rfl ?_);refine zQ (some 9) rfl rfl Tryz.func42 (by kernel_rfl) rfl #[.int .i64 0,.int .i64 a1,.int .i64 1] rfl (by (try simp only [List.map_toArray,List.map_cons,List.map_nil]);first | done | rfl | (simp only [List.length_drop,List.length_take];rfl)) ?_;(with_reducible refine (round_Shift.calls 0 a1 1 t104 t105 _ A3.out).mono ?_);rintro e w7 ⟨rfl,hb⟩;refine ⟨_,rfl,?_⟩;have n0_:=Aside0.mk (zb (by repeat (first | (with_reducible first | exact HB.out | apply ze | apply zd | apply zh) | exact HB.out)) hb);clear HB;have HB:=n0_;clear n0_;(try clear hb);(try clear hb2);(try clear hk);(try clear hi)))
    go_ret
    exact ⟨by first | rfl | (simp [zr,zt] <;> rfl) | (simp [*,zr,zt] <;> rfl),by repeat (first | (with_reducible first | exact HB.out | apply ze | apply zd | apply zh) | exact HB.out)⟩
   ·rw [if_neg c6] at H
    have c6b0:(t105 == 0)=false:=beq_eq_false_iff_ne.mpr c6
    have c6b1:(t105 != 0)=true:=bne_iff_ne.mpr c6
    obtain rfl:=Option.some.inj H
    go_enter Tryz.func89,Tryz.ntmps89
    go_wp2_with (first | ((with_reducible refine zy (f:=42) rfl ?_);refine zQ (some 9) rfl rfl Tryz.func42 (by kernel_rfl) rfl #[.int .i64 0,.int .i64 a1,.int .i64 1] rfl (by (try simp only [List.map_toArray,List.map_cons,List.map_nil]);first | done | rfl | (simp only [List.length_drop,List.length_take];rfl)) ?_;(with_reducible refine (round_Shift.calls 0 a1 1 t104 t105 _ A3.out).mono ?_);rintro e w8 ⟨rfl,hb⟩;refine ⟨_,rfl,?_⟩;have n0_:=Aside0.mk (zb (by repeat (first | (with_reducible first | exact HB.out | apply ze | apply zd | apply zh) | exact HB.out)) hb);clear HB;have HB:=n0_;clear n0_;(try clear hb);(try clear hb2);(try clear hk);(try clear hi)))
    go_ret
    exact ⟨by first | rfl | (simp [zr,zt] <;> rfl) | (simp [*,zr,zt] <;> rfl),by repeat (first | (with_reducible first | exact HB.out | apply ze | apply zd | apply zh) | exact HB.out)⟩
  ·rw [if_neg c5] at H
   have c5b0:decide (a0≤6)=false:=decide_eq_false c5
   clear c5
   obtain rfl:=Option.some.inj H
   go_enter Tryz.func89,Tryz.ntmps89
   go_wp2_with (first | ((with_reducible refine zy (f:=42) rfl ?_);refine zQ (some 9) rfl rfl Tryz.func42 (by kernel_rfl) rfl #[.int .i64 0,.int .i64 a1,.int .i64 1] rfl (by (try simp only [List.map_toArray,List.map_cons,List.map_nil]);first | done | rfl | (simp only [List.length_drop,List.length_take];rfl)) ?_;(with_reducible refine (round_Shift.calls 0 a1 1 t104 t105 _ A3.out).mono ?_);rintro e w9 ⟨rfl,hb⟩;refine ⟨_,rfl,?_⟩;have n0_:=Aside0.mk (zb (by repeat (first | (with_reducible first | exact HB.out | apply ze | apply zd | apply zh) | exact HB.out)) hb);clear HB;have HB:=n0_;clear n0_;(try clear hb);(try clear hb2);(try clear hk);(try clear hi)))
   go_ret
   exact ⟨by first | rfl | (simp [zr,zt] <;> rfl) | (simp [*,zr,zt] <;> rfl),by repeat (first | (with_reducible first | exact HB.out | apply ze | apply zd | apply zh) | exact HB.out)⟩
 ·rw [if_neg c4] at H
  have c4b0:decide (2≤a0)=false:=decide_eq_false c4
  clear c4
  obtain rfl:=Option.some.inj H
  go_enter Tryz.func89,Tryz.ntmps89
  go_wp2_with (first | ((with_reducible refine zy (f:=42) rfl ?_);refine zQ (some 9) rfl rfl Tryz.func42 (by kernel_rfl) rfl #[.int .i64 0,.int .i64 a1,.int .i64 1] rfl (by (try simp only [List.map_toArray,List.map_cons,List.map_nil]);first | done | rfl | (simp only [List.length_drop,List.length_take];rfl)) ?_;(with_reducible refine (round_Shift.calls 0 a1 1 t104 t105 _ A3.out).mono ?_);rintro e w10 ⟨rfl,hb⟩;refine ⟨_,rfl,?_⟩;have n0_:=Aside0.mk (zb (by repeat (first | (with_reducible first | exact HB.out | apply ze | apply zd | apply zh) | exact HB.out)) hb);clear HB;have HB:=n0_;clear n0_;(try clear hb);(try clear hb2);(try clear hk);(try clear hi)))
  go_ret
  exact ⟨by first | rfl | (simp [zr,zt] <;> rfl) | (simp [*,zr,zt] <;> rfl),by repeat (first | (with_reducible first | exact HB.out | apply ze | apply zd | apply zh) | exact HB.out)⟩

def cx_Shift.f (a0_0:Int) (a0_1:Int) (a1:Int) (a2:Int):Option (Int×Int×Int):=(round_Shift.f a0_0 a1 a2).bind fun bt110=>(if bt110.2=0 then ((round_Shift.f a0_1 a1 a2).bind fun bt112=>(some (bt110.1,bt112.1,0))) else (some (0,0,bt110.2)))
set_option maxHeartbeats 8000000 in
set_option maxRecDepth 100000 in
theorem cx_Shift.calls (a0_0:Int) (a0_1:Int) (a1:Int) (a2:Int) (r1:Int) (r2:Int) (r3:Int) (w:World) (h:cx_Shift.f a0_0 a0_1 a1 a2=some (r1,r2,r3)) :
  Calls Tryz.prog 70 #[.agg #[.int .i64 a0_0,.int .i64 a0_1],.int .i64 a1,.int .i64 a2] w fun e w'=>e=.returned (.tuple #[.agg #[.int .i64 r1,.int .i64 r2],.int .i64 r3])∧Below w.heap.size w w':=by
 have hu38:=Tryz.underlying38
 have HB:=Aside0.mk (Below.refl w.heap.size w)
 have H:((round_Shift.f a0_0 a1 a2).bind fun bt110=>(if bt110.2=0 then ((round_Shift.f a0_1 a1 a2).bind fun bt112=>(some (bt110.1,bt112.1,0))) else (some (0,0,bt110.2))))=some (r1,r2,r3):=h
 clear h
 replace H:=Option.bind_eq_some_iff.mp H
 obtain ⟨⟨t110,t111⟩,A40,H⟩:=H
 replace H:(if t111=0 then ((round_Shift.f a0_1 a1 a2).bind fun bt112=>(some (t110,bt112.1,0))) else (some (0,0,t111)))=some (r1,r2,r3):=H
 have A4:=Aside0.mk A40
 clear A40
 by_cases c5:t111=0
 ·rw [if_pos c5] at H
  have c5b0:(t111 == 0)=true:=beq_iff_eq.mpr c5
  have c5b1:(t111 != 0)=false:=bne_eq_false_iff_eq.mpr c5
  clear c5
  replace H:=Option.bind_eq_some_iff.mp H
  obtain ⟨⟨t112,t113⟩,A60,H⟩:=H
  replace H:(some (t110,t112,0))=some (r1,r2,r3):=H
  have A6:=Aside0.mk A60
  clear A60
  simp only [Option.some.injEq,Prod.mk.injEq] at H
  obtain ⟨rfl,rfl,rfl⟩:=H
  go_enter Tryz.func70,Tryz.ntmps70
  go_wp2_with (first | ((with_reducible refine zg (N:=3) rfl ?_);refine ba_ 3 #[.int .i64 a0_0,.int .i64 a0_1] 38 ?_;intro gb108 hg w7 hbox hb;have n0_:=Aside0.mk (zb (by repeat (first | (with_reducible first | exact HB.out | apply ze | apply zd | apply zh) | exact HB.out)) hb);have n1_:=Aside0.mk (hbox);have n2_:=Aside0.mk ((by rw [hg];exact (zj (by repeat (first | (with_reducible first | exact HB.out | apply ze | apply zd | apply zh) | exact HB.out))):w.heap.size≤gb108));have n3_:=Aside0.mk ((by rw [hg];exact (zj (by repeat (first | (with_reducible first | exact HB.out | apply ze | apply zd | apply zh) | exact HB.out))):w.heap.size≤gb108));clear HB;have HB:=n0_;have BK108:=n1_;have GW108:=n2_;have GE108:=n3_;clear n0_ n1_ n2_ n3_;clear hb hbox hg) | ((with_reducible refine zg (N:=6) rfl ?_);refine ba_ 6 #[.int .i64 0,.int .i64 0] 38 ?_;intro gb109 hg w8 hbox hb;have n0_:=Aside0.mk (za (g:=gb108) (o:=.cells #[.int .i64 a0_0,.int .i64 a0_1] 38 (0,0)) (by (with_reducible repeat (first | refine zn ?_ _ | refine zq ?_ | refine zm ?_ _));exact BK108.out) hb);have n1_:=Aside0.mk (zb (by repeat (first | (with_reducible first | exact HB.out | apply ze | apply zd | apply zh | refine zp ?_ GE108.out) | exact HB.out)) hb);have n2_:=Aside0.mk (hbox);have n3_:=Aside0.mk ((by rw [hg];exact (zj (by repeat (first | (with_reducible first | exact HB.out | apply ze | apply zd | apply zh | refine zp ?_ GE108.out) | exact HB.out))):w.heap.size≤gb109));have n4_:=Aside0.mk ((by rw [hg];exact (zj (by repeat (first | (with_reducible first | exact HB.out | apply ze | apply zd | apply zh | refine zp ?_ GE108.out) | exact HB.out))):w.heap.size≤gb109));have n5_:=Aside0.mk ((by rw [hg];exact Nat.ne_of_lt (zf (g:=gb108) (o:=.cells #[.int .i64 a0_0,.int .i64 a0_1] 38 (0,0)) (by (with_reducible repeat (first | refine zn ?_ _ | refine zq ?_ | refine zm ?_ _));exact BK108.out)):gb108≠gb109));have n6_:=Aside0.mk ((by rw [hg];exact Nat.ne_of_gt (zf (g:=gb108) (o:=.cells #[.int .i64 a0_0,.int .i64 a0_1] 38 (0,0)) (by (with_reducible repeat (first | refine zn ?_ _ | refine zq ?_ | refine zm ?_ _));exact BK108.out)):gb109≠gb108));clear BK108;clear HB;have BK108:=n0_;have HB:=n1_;have BK109:=n2_;have GW109:=n3_;have GE109:=n4_;have NB108_109:=n5_;have NB109_108:=n6_;clear n0_ n1_ n2_ n3_ n4_ n5_ n6_;clear hb hbox hg;have hnb9:=NB108_109.out;have hnc9:=NB109_108.out;have hcz10_0:w8.cell? ⟨gb108,0,none⟩=some (.int .i64 a0_0):=(zc BK108.out 0).trans rfl;have hcz10_1:w8.cell? ⟨gb108,1,none⟩=some (.int .i64 a0_1):=(zc BK108.out 1).trans rfl;have hfz10_0:=zi BK108.out 0;have hfz10_1:=zi BK108.out 1) | ((with_reducible refine zy (f:=42) rfl ?_);refine zQ (some 17) rfl rfl Tryz.func42 (by kernel_rfl) rfl #[.int .i64 a0_0,.int .i64 a1,.int .i64 a2] rfl (by (try simp only [List.map_toArray,List.map_cons,List.map_nil]);first | done | rfl | (simp only [List.length_drop,List.length_take];rfl)) ?_;(with_reducible refine (round_Shift.calls a0_0 a1 a2 t110 t111 _ A4.out).mono ?_);rintro e w11 ⟨rfl,hb⟩;refine ⟨_,rfl,?_⟩;have n0_:=Aside0.mk (za (g:=gb108) (o:=.cells #[.int .i64 a0_0,.int .i64 a0_1] 38 (0,0)) (by (with_reducible repeat (first | refine zn ?_ _ | refine zq ?_ | refine zm ?_ _));exact BK108.out) hb);have n1_:=Aside0.mk (za (g:=gb109) (o:=.cells #[.int .i64 0,.int .i64 0] 38 (0,0)) (by (with_reducible repeat (first | refine zn ?_ _ | refine zq ?_ | refine zm ?_ _));exact BK109.out) hb);have n2_:=Aside0.mk (zb (by repeat (first | (with_reducible first | exact HB.out | apply ze | apply zd | apply zh | refine zp ?_ GE108.out | refine zp ?_ GE109.out) | exact HB.out)) hb);clear BK108;clear BK109;clear HB;have BK108:=n0_;have BK109:=n1_;have HB:=n2_;clear n0_ n1_ n2_;(try clear hb);(try clear hb2);(try clear hk);(try clear hi);have hcz12_0:w11.cell? ⟨gb108,0,none⟩=some (.int .i64 a0_0):=(zc BK108.out 0).trans rfl;have hcz12_1:w11.cell? ⟨gb108,1,none⟩=some (.int .i64 a0_1):=(zc BK108.out 1).trans rfl;have hfz12_0:=zi BK108.out 0;have hfz12_1:=zi BK108.out 1) | ((with_reducible refine zy (f:=42) rfl ?_);refine zQ (some 29) rfl rfl Tryz.func42 (by kernel_rfl) rfl #[.int .i64 a0_1,.int .i64 a1,.int .i64 a2] rfl (by (try simp only [List.map_toArray,List.map_cons,List.map_nil]);first | done | rfl | (simp only [List.length_drop,List.length_take];rfl)) ?_;(with_reducible refine (round_Shift.calls a0_1 a1 a2 t112 t113 _ A6.out).mono ?_);rintro e w13 ⟨rfl,hb⟩;refine ⟨_,rfl,?_⟩;have n0_:=Aside0.mk (za (g:=gb108) (o:=.cells #[.int .i64 a0_0,.int .i64 a0_1] 38 (0,0)) (by (with_reducible repeat (first | refine zn ?_ _ | refine zq ?_ | refine zm ?_ _));exact BK108.out) hb);have n1_:=Aside0.mk (za (g:=gb109) (o:=.cells #[.int .i64 0,.int .i64 0] 38 (0,0)) (by (with_reducible repeat (first | refine zn ?_ _ | refine zq ?_ | refine zm ?_ _));exact BK109.out) hb);have n2_:=Aside0.mk (zb (by repeat (first | (with_reducible first | exact HB.out | apply ze | apply zd | apply zh | refine zp ?_ GE108.out | refine zp ?_ GE109.out) | exact HB.out)) hb);clear BK108;clear BK109;clear HB;have BK108:=n0_;have BK109:=n1_;have HB:=n2_;clear n0_ n1_ n2_;(try clear hb);(try clear hb2);(try clear hk);(try clear hi);have hcz14_0:w13.cell? ⟨gb109,0,none⟩=some (.int .i64 0):=(zc BK109.out 0).trans rfl;have hcz14_1:w13.cell? ⟨gb109,1,none⟩=some (.int .i64 0):=(zc BK109.out 1).trans rfl;have hfz14_0:=zi BK109.out 0;have hfz14_1:=zi BK109.out 1))
  refine bodyPost_ret (zZ rfl _ _ gb109 38 #[.int .i64 t110,.int .i64 t112] (0,0) _ rfl (by (with_reducible repeat (first | refine zn ?_ _ | refine zq ?_ | refine zm ?_ _));refine zS (cs:=#[.int .i64 t110,.int .i64 0]) ?_ 1 _ rfl;(with_reducible repeat (first | refine zn ?_ _ | refine zq ?_ | refine zm ?_ _));refine zS (cs:=#[.int .i64 0,.int .i64 0]) ?_ 0 _ rfl;(with_reducible repeat (first | refine zn ?_ _ | refine zq ?_ | refine zm ?_ _));exact BK109.out) Tryz.underlying38 rfl (by kernel_rfl)) rfl ?_
  exact ⟨by first | rfl | (simp [zr,zt] <;> rfl) | (simp [*,zr,zt] <;> rfl),by repeat (first | (with_reducible first | exact HB.out | apply ze | apply zd | apply zh | refine zp ?_ GE108.out | refine zp ?_ GE109.out) | exact HB.out)⟩
 ·rw [if_neg c5] at H
  have c5b0:(t111 == 0)=false:=beq_eq_false_iff_ne.mpr c5
  have c5b1:(t111 != 0)=true:=bne_iff_ne.mpr c5
  simp only [Option.some.injEq,Prod.mk.injEq] at H
  obtain ⟨rfl,rfl,rfl⟩:=H
  go_enter Tryz.func70,Tryz.ntmps70
  go_wp2_with (first | ((with_reducible refine zg (N:=3) rfl ?_);refine ba_ 3 #[.int .i64 a0_0,.int .i64 a0_1] 38 ?_;intro gb108 hg w15 hbox hb;have n0_:=Aside0.mk (zb (by repeat (first | (with_reducible first | exact HB.out | apply ze | apply zd | apply zh) | exact HB.out)) hb);have n1_:=Aside0.mk (hbox);have n2_:=Aside0.mk ((by rw [hg];exact (zj (by repeat (first | (with_reducible first | exact HB.out | apply ze | apply zd | apply zh) | exact HB.out))):w.heap.size≤gb108));have n3_:=Aside0.mk ((by rw [hg];exact (zj (by repeat (first | (with_reducible first | exact HB.out | apply ze | apply zd | apply zh) | exact HB.out))):w.heap.size≤gb108));clear HB;have HB:=n0_;have BK108:=n1_;have GW108:=n2_;have GE108:=n3_;clear n0_ n1_ n2_ n3_;clear hb hbox hg) | ((with_reducible refine zg (N:=6) rfl ?_);refine ba_ 6 #[.int .i64 0,.int .i64 0] 38 ?_;intro gb109 hg w16 hbox hb;have n0_:=Aside0.mk (za (g:=gb108) (o:=.cells #[.int .i64 a0_0,.int .i64 a0_1] 38 (0,0)) (by (with_reducible repeat (first | refine zn ?_ _ | refine zq ?_ | refine zm ?_ _));exact BK108.out) hb);have n1_:=Aside0.mk (zb (by repeat (first | (with_reducible first | exact HB.out | apply ze | apply zd | apply zh | refine zp ?_ GE108.out) | exact HB.out)) hb);have n2_:=Aside0.mk (hbox);have n3_:=Aside0.mk ((by rw [hg];exact (zj (by repeat (first | (with_reducible first | exact HB.out | apply ze | apply zd | apply zh | refine zp ?_ GE108.out) | exact HB.out))):w.heap.size≤gb109));have n4_:=Aside0.mk ((by rw [hg];exact (zj (by repeat (first | (with_reducible first | exact HB.out | apply ze | apply zd | apply zh | refine zp ?_ GE108.out) | exact HB.out))):w.heap.size≤gb109));have n5_:=Aside0.mk ((by rw [hg];exact Nat.ne_of_lt (zf (g:=gb108) (o:=.cells #[.int .i64 a0_0,.int .i64 a0_1] 38 (0,0)) (by (with_reducible repeat (first | refine zn ?_ _ | refine zq ?_ | refine zm ?_ _));exact BK108.out)):gb108≠gb109));have n6_:=Aside0.mk ((by rw [hg];exact Nat.ne_of_gt (zf (g:=gb108) (o:=.cells #[.int .i64 a0_0,.int .i64 a0_1] 38 (0,0)) (by (with_reducible repeat (first | refine zn ?_ _ | refine zq ?_ | refine zm ?_ _));exact BK108.out)):gb109≠gb108));clear BK108;clear HB;have BK108:=n0_;have HB:=n1_;have BK109:=n2_;have GW109:=n3_;have GE109:=n4_;have NB108_109:=n5_;have NB109_108:=n6_;clear n0_ n1_ n2_ n3_ n4_ n5_ n6_;clear hb hbox hg;have hnb17:=NB108_109.out;have hnc17:=NB109_108.out;have hcz18_0:w16.cell? ⟨gb108,0,none⟩=some (.int .i64 a0_0):=(zc BK108.out 0).trans rfl;have hcz18_1:w16.cell? ⟨gb108,1,none⟩=some (.int .i64 a0_1):=(zc BK108.out 1).trans rfl;have hfz18_0:=zi BK108.out 0;have hfz18_1:=zi BK108.out 1) | ((with_reducible refine zy (f:=42) rfl ?_);refine zQ (some 17) rfl rfl Tryz.func42 (by kernel_rfl) rfl #[.int .i64 a0_0,.int .i64 a1,.int .i64 a2] rfl (by (try simp only [List.map_toArray,List.map_cons,List.map_nil]);first | done | rfl | (simp only [List.length_drop,List.length_take];rfl)) ?_;(with_reducible refine (round_Shift.calls a0_0 a1 a2 t110 t111 _ A4.out).mono ?_);rintro e w19 ⟨rfl,hb⟩;refine ⟨_,rfl,?_⟩;have n0_:=Aside0.mk (za (g:=gb108) (o:=.cells #[.int .i64 a0_0,.int .i64 a0_1] 38 (0,0)) (by (with_reducible repeat (first | refine zn ?_ _ | refine zq ?_ | refine zm ?_ _));exact BK108.out) hb);have n1_:=Aside0.mk (za (g:=gb109) (o:=.cells #[.int .i64 0,.int .i64 0] 38 (0,0)) (by (with_reducible repeat (first | refine zn ?_ _ | refine zq ?_ | refine zm ?_ _));exact BK109.out) hb);have n2_:=Aside0.mk (zb (by repeat (first | (with_reducible first | exact HB.out | apply ze | apply zd | apply zh | refine zp ?_ GE108.out | refine zp ?_ GE109.out) | exact HB.out)) hb);clear BK108;clear BK109;clear HB;have BK108:=n0_;have BK109:=n1_;have HB:=n2_;clear n0_ n1_ n2_;(try clear hb);(try clear hb2);(try clear hk);(try clear hi);have hcz20_0:w19.cell? ⟨gb109,0,none⟩=some (.int .i64 0):=(zc BK109.out 0).trans rfl;have hcz20_1:w19.cell? ⟨gb109,1,none⟩=some (.int .i64 0):=(zc BK109.out 1).trans rfl;have hfz20_0:=zi BK109.out 0;have hfz20_1:=zi BK109.out 1))
  refine bodyPost_ret (zZ rfl _ _ gb109 38 #[.int .i64 0,.int .i64 0] (0,0) _ rfl (by (with_reducible repeat (first | refine zn ?_ _ | refine zq ?_ | refine zm ?_ _));refine zS (cs:=#[.int .i64 0,.int .i64 0]) ?_ 1 _ rfl;(with_reducible repeat (first | refine zn ?_ _ | refine zq ?_ | refine zm ?_ _));refine zS (cs:=#[.int .i64 0,.int .i64 0]) ?_ 0 _ rfl;(with_reducible repeat (first | refine zn ?_ _ | refine zq ?_ | refine zm ?_ _));exact BK109.out) Tryz.underlying38 rfl (by kernel_rfl)) rfl ?_
  exact ⟨by first | rfl | (simp [zr,zt] <;> rfl) | (simp [*,zr,zt] <;> rfl),by repeat (first | (with_reducible first | exact HB.out | apply ze | apply zd | apply zh | refine zp ?_ GE108.out | refine zp ?_ GE109.out) | exact HB.out)⟩

mutual
def flip_Bits.j0:Nat→Int→Int→Bool→Option (Int×Int)
 | 0,_,_,_=>none
 | k+1,x0,x1,x19=>if x19=true then (some (0,1)) else (flip_Bits.l0 k x0 0 x1 0)
def flip_Bits.l0:Nat→Int→Int→Int→Int→Option (Int×Int)
 | 0,_,_,_,_=>none
 | k+1,x0,x6,x20,x21=>if x21 < x20 then (flip_Bits.l0 k (x0 / 2) (Go.bits .or .i64 (wrap64 (x6*2)) (Go.bits .and .i64 x0 1)) x20 (wrap64 (x21+1))) else (some (x6,0))
end
def flip_Bits.f (k:Nat) (a0:Int) (a1:Int):Option (Int×Int):=(flip_may.f a1).bind fun t156=>(if t156=true then (if a0 < 0 then (flip_Bits.j0 k a0 a1 true) else (if 0≤a1 then (flip_Bits.j0 k a0 a1 (decide (a0≥(shl .i64 1 a1)))) else (none))) else (flip_Bits.j0 k a0 a1 true))
set_option maxHeartbeats 8000000 in
set_option maxRecDepth 100000 in
theorem flip_Bits.calls (k:Nat) (a0:Int) (a1:Int) (r1:Int) (r2:Int) (w:World) (h:flip_Bits.f k a0 a1=some (r1,r2)) :
  Calls Tryz.prog 111 #[.int .i64 a0,.int .i64 a1] w fun e w'=>e=.returned (.tuple #[.int .i64 r1,.int .i64 r2])∧Drawn0 w w':=by
 have H:((flip_may.f a1).bind fun t156=>(if t156=true then (if a0 < 0 then (flip_Bits.j0 k a0 a1 true) else (if 0≤a1 then (flip_Bits.j0 k a0 a1 (decide (a0≥(shl .i64 1 a1)))) else (none))) else (flip_Bits.j0 k a0 a1 true)))=some (r1,r2):=h
 clear h
 have HC3:=Aside0.mk H
 clear H
 go_enter Tryz.func111,Tryz.ntmps111
 go_upto_region 1 with (fail)
 go_cut [19] (fun v19 wc=>∃(kq:Nat) (x19_2:Bool),v19=.bool x19_2∧Aside0 (flip_Bits.j0 kq a0 a1 x19_2=some (r1,r2))∧Aside0 (kq≤k)∧Drawn0 w wc)
 case first =>
  have H:=HC3.out
  clear HC3
  replace H:=Option.bind_eq_some_iff.mp H
  obtain ⟨t156,A40,H⟩:=H
  replace H:(if t156=true then (if a0 < 0 then (flip_Bits.j0 k a0 a1 true) else (if 0≤a1 then (flip_Bits.j0 k a0 a1 (decide (a0≥(shl .i64 1 a1)))) else (none))) else (flip_Bits.j0 k a0 a1 true))=some (r1,r2):=H
  have A4:=Aside0.mk A40
  clear A40
  by_cases c5:t156=true
  ·subst c5
   have H1:(if a0 < 0 then (flip_Bits.j0 k a0 a1 true) else (if 0≤a1 then (flip_Bits.j0 k a0 a1 (decide (a0≥(shl .i64 1 a1)))) else (none)))=some (r1,r2):=by rw [if_pos rfl] at H;exact H
   clear H
   have H:=H1
   clear H1
   by_cases c6:a0 < 0
   ·rw [if_pos c6] at H
    have c6b0:decide (a0 < 0)=true:=decide_eq_true c6
    clear c6
    (first | rw [c6b0] | (simp only [zL,zac];rw [c6b0]) | skip)
    have H':=Aside0.mk H
    clear H
    go_wp2_with (first | ((with_reducible refine zy (f:=110) rfl ?_);refine zQ (some 8) rfl rfl Tryz.func110 (by kernel_rfl) rfl #[.int .i64 a1] rfl (by (try simp only [List.map_toArray,List.map_cons,List.map_nil]);first | done | rfl | (simp only [List.length_drop,List.length_take];rfl)) ?_;(with_reducible refine (flip_may.calls a1 true _ A4.out).mono ?_);rintro e w' ⟨rfl,⟨nd,rfl⟩⟩;refine ⟨_,rfl,?_⟩))
    go_meet
    case rel=>exact ⟨_,(true),(by first | rfl | (simp;done) | (simp [*];done)),H',⟨by first | omega | exact Nat.le_refl _⟩,by repeat (first | exact Drawn0.refl _ | apply Drawn0.step)⟩
   ·rw [if_neg c6] at H
    have c6b0:decide (a0 < 0)=false:=decide_eq_false c6
    clear c6
    (first | rw [c6b0] | (simp only [zL,zac];rw [c6b0]) | skip)
    by_cases c7:0≤a1
    ·rw [if_pos c7] at H
     have c7b0:=eq_true c7
     have c7b1:decide (0≤a1)=true:=decide_eq_true c7
     clear c7
     obtain ⟨ji8,hji8⟩:∃j_:Int,(shl .i64 1 a1)=j_:=⟨_,rfl⟩
     replace H:(flip_Bits.j0 k a0 a1 (decide (a0≥(ji8))))=some (r1,r2):=by first | (rw [hji8] at H;exact H) | (simp only [hji8] at H ⊢;exact H)
     (try rw [hji8] at A4)
     have hji8_:(IntKind.i64.wrap (1*2^min a1.toNat 64))=ji8:=hji8
     have hji8z:a1≤64→(IntKind.i64.wrap (1*2^a1.toNat))=ji8:=zcj hji8
     have hji8u:(IntKind.i64.wrap (2^min a1.toNat 64))=ji8:=by have h_:=hji8_;rw [Int.one_mul] at h_;exact h_
     have hji8v:a1≤64→(IntKind.i64.wrap (2^a1.toNat))=ji8:=fun hle_=>by have h_:=hji8z hle_;rw [Int.one_mul] at h_;exact h_
     have hji8y:(wrap64 (1*2^min a1.toNat 64))=ji8:=(zL _).symm.trans hji8_
     have hji8x:a1≤64→(wrap64 (1*2^a1.toNat))=ji8:=fun h_=>(zL _).symm.trans (hji8z h_)
     have H':=Aside0.mk H
     clear H
     go_wp2_with (first | ((with_reducible refine zy (f:=110) rfl ?_);refine zQ (some 8) rfl rfl Tryz.func110 (by kernel_rfl) rfl #[.int .i64 a1] rfl (by (try simp only [List.map_toArray,List.map_cons,List.map_nil]);first | done | rfl | (simp only [List.length_drop,List.length_take];rfl)) ?_;(with_reducible refine (flip_may.calls a1 true _ A4.out).mono ?_);rintro e w' ⟨rfl,⟨nd,rfl⟩⟩;refine ⟨_,rfl,?_⟩))
     go_meet
     case rel=>exact ⟨_,(decide (a0≥(ji8))),(by first | rfl | (simp;done) | (simp only [← hji8] <;> (first | rfl | simp)) | (simp [*];done)),H',⟨by first | omega | exact Nat.le_refl _⟩,by repeat (first | exact Drawn0.refl _ | apply Drawn0.step)⟩
    ·rw [if_neg c7] at H
     exact absurd H (by simp)
  ·replace c5:=Bool.eq_false_iff.mpr c5
   subst c5
   have H1:(flip_Bits.j0 k a0 a1 true)=some (r1,r2):=by rw [if_neg (show ¬(false=true) by decide)] at H;exact H
   clear H
   have H:=H1
   clear H1
   have H':=Aside0.mk H
   clear H
   go_wp2_with (first | ((with_reducible refine zy (f:=110) rfl ?_);refine zQ (some 8) rfl rfl Tryz.func110 (by kernel_rfl) rfl #[.int .i64 a1] rfl (by (try simp only [List.map_toArray,List.map_cons,List.map_nil]);first | done | rfl | (simp only [List.length_drop,List.length_take];rfl)) ?_;(with_reducible refine (flip_may.calls a1 false _ A4.out).mono ?_);rintro e w' ⟨rfl,⟨nd,rfl⟩⟩;refine ⟨_,rfl,?_⟩))
   go_meet
   case rel=>exact ⟨_,(true),(by first | rfl | (simp;done) | (simp [*];done)),H',⟨by first | omega | exact Nat.le_refl _⟩,by repeat (first | exact Drawn0.refl _ | apply Drawn0.step)⟩
 case rest =>
  clear HC3
  try clear c1
  try clear p2
  try clear c5
  try clear c6
  try clear c6b0
  try clear p6
  try clear c7
  try clear c7b0
  try clear c7b1
  obtain ⟨kq,x19_2,rfl,HA,HJ2,⟨mc2,rfl⟩⟩:=hcut
  cases kq with
  | zero=>exact absurd HA.out (by simp [flip_Bits.j0])
  | succ kj2 =>
   have H:=HA.out
   clear HA
   simp only [flip_Bits.j0] at H
   by_cases c9:x19_2=true
   ·subst c9
    have H1:(some (0,1))=some (r1,r2):=by rw [if_pos rfl] at H;exact H
    clear H
    have H:=H1
    clear H1
    simp only [Option.some.injEq,Prod.mk.injEq] at H
    obtain ⟨rfl,rfl⟩:=H
    go_wp2
    go_ret2
    exact ⟨by first | rfl | (simp;done) | (simp [*];done),by repeat (first | exact Drawn0.refl _ | apply Drawn0.step)⟩
   ·replace c9:=Bool.eq_false_iff.mpr c9
    subst c9
    have H1:(flip_Bits.l0 kj2 a0 0 a1 0)=some (r1,r2):=by rw [if_neg (show ¬(false=true) by decide)] at H;exact H
    clear H
    have H:=H1
    clear H1
    have H':=Aside0.mk H
    clear H
    go_wp2
    go_loopg [0,6,21] kj2 (fun kq v0 v6 v21 w'=>∃(x0_2:Int) (x6_2:Int) (x21_2:Int),v0=.int .i64 x0_2∧v6=.int .i64 x6_2∧v21=.int .i64 x21_2∧Aside0 (flip_Bits.l0 kq x0_2 x6_2 a1 x21_2=some (r1,r2))∧Aside0 (kq≤kj2)∧Drawn0 w w')
    case atStart=>exact ⟨(a0),(0),(0),(by first | rfl | (simp;done) | (simp [*];done)),(by first | rfl | (simp;done) | (simp [*];done)),(by first | rfl | (simp;done) | (simp [*];done)),H',⟨Nat.le_refl _⟩,by repeat (first | exact Drawn0.refl _ | apply Drawn0.step)⟩
    case round =>
     clear H'
     try clear c1
     try clear c2
     try clear p2
     try clear c5
     try clear c6
     try clear c6b0
     try clear p6
     try clear c7
     try clear c7b0
     try clear c7b1
     try clear c9
     try clear p2
     try clear p6
     obtain ⟨x0_2,x6_2,x21_2,rfl,rfl,rfl,HA,HK2,⟨m2,rfl⟩⟩:=hrel
     cases gk with
     | zero=>exact absurd HA.out (by simp [flip_Bits.l0])
     | succ k2 =>
      have H:=HA.out
      clear HA
      simp only [flip_Bits.l0] at H
      by_cases c10:x21_2 < a1
      ·rw [if_pos c10] at H
       have c10b0:decide (x21_2 < a1)=true:=decide_eq_true c10
       clear c10
       have H':=Aside0.mk H
       clear H
       go_wp2
       go_roundg k2
       case measure=>have:=HJ2.out;have:=HK2.out;omega
       case rel=>exact ⟨(x0_2 / 2),(Go.bits .or .i64 (wrap64 (x6_2*2)) (Go.bits .and .i64 x0_2 1)),(wrap64 (x21_2+1)),(by first | rfl | (simp;done) | (simp [*];done)),(by first | rfl | (simp;done) | (simp [*];done)),(by first | rfl | (simp;done) | (simp [*];done)),H',⟨by have:=HJ2.out;have:=HK2.out;omega⟩,by repeat (first | exact Drawn0.refl _ | apply Drawn0.step)⟩
      ·rw [if_neg c10] at H
       have c10b0:decide (x21_2 < a1)=false:=decide_eq_false c10
       clear c10
       simp only [Option.some.injEq,Prod.mk.injEq] at H
       obtain ⟨rfl,rfl⟩:=H
       go_wp2
       go_ret2
       exact ⟨by first | rfl | (simp;done) | (simp [*];done),by repeat (first | exact Drawn0.refl _ | apply Drawn0.step)⟩

def two_settings.f (a0:Int) (a1:Int) (a2:Int):Option (Bool):=(round_Shift.f 0 0 a2).bind fun bt229=>(if a0≥0 then (if a0≤29 then (if a1≥0 then (if a1≤3 then (some (bt229.2 == 0)) else (some false)) else (some false)) else (some false)) else (some false))
set_option maxHeartbeats 8000000 in
set_option maxRecDepth 100000 in
theorem two_settings.calls (a0:Int) (a1:Int) (a2:Int) (r:Bool) (w:World) (h:two_settings.f a0 a1 a2=some r) :
  Calls Tryz.prog 78 #[.int .i64 a0,.int .i64 a1,.int .i64 a2] w fun e w'=>e=.returned (.bool r)∧Below w.heap.size w w':=by
 have HB:=Aside0.mk (Below.refl w.heap.size w)
 have H:((round_Shift.f 0 0 a2).bind fun bt229=>(if a0≥0 then (if a0≤29 then (if a1≥0 then (if a1≤3 then (some (bt229.2 == 0)) else (some false)) else (some false)) else (some false)) else (some false)))=some r:=h
 clear h
 replace H:=Option.bind_eq_some_iff.mp H
 obtain ⟨⟨t229,t230⟩,A40,H⟩:=H
 replace H:(if a0≥0 then (if a0≤29 then (if a1≥0 then (if a1≤3 then (some (t230 == 0)) else (some false)) else (some false)) else (some false)) else (some false))=some r:=H
 have A4:=Aside0.mk A40
 clear A40
 by_cases c5:a0≥0
 ·rw [if_pos c5] at H
  have c5b0:decide (0≤a0)=true:=decide_eq_true c5
  clear c5
  by_cases c6:a0≤29
  ·rw [if_pos c6] at H
   have c6b0:decide (a0≤29)=true:=decide_eq_true c6
   clear c6
   by_cases c7:a1≥0
   ·rw [if_pos c7] at H
    have c7b0:decide (0≤a1)=true:=decide_eq_true c7
    clear c7
    by_cases c8:a1≤3
    ·rw [if_pos c8] at H
     have c8b0:decide (a1≤3)=true:=decide_eq_true c8
     clear c8
     obtain rfl:=Option.some.inj H
     go_enter Tryz.func78,Tryz.ntmps78
     go_wp2_with (first | ((with_reducible refine zy (f:=42) rfl ?_);refine zQ (some 11) rfl rfl Tryz.func42 (by kernel_rfl) rfl #[.int .i64 0,.int .i64 0,.int .i64 a2] rfl (by (try simp only [List.map_toArray,List.map_cons,List.map_nil]);first | done | rfl | (simp only [List.length_drop,List.length_take];rfl)) ?_;(with_reducible refine (round_Shift.calls 0 0 a2 t229 t230 _ A4.out).mono ?_);rintro e w9 ⟨rfl,hb⟩;refine ⟨_,rfl,?_⟩;have n0_:=Aside0.mk (zb (by repeat (first | (with_reducible first | exact HB.out | apply ze | apply zd | apply zh) | exact HB.out)) hb);clear HB;have HB:=n0_;clear n0_;(try clear hb);(try clear hb2);(try clear hk);(try clear hi)))
     go_ret
     exact ⟨by first | rfl | (simp [zr,zt] <;> rfl) | (simp [*,zr,zt] <;> rfl),by repeat (first | (with_reducible first | exact HB.out | apply ze | apply zd | apply zh) | exact HB.out)⟩
    ·rw [if_neg c8] at H
     have c8b0:decide (a1≤3)=false:=decide_eq_false c8
     clear c8
     obtain rfl:=Option.some.inj H
     go_enter Tryz.func78,Tryz.ntmps78
     go_wp2_with (first | ((with_reducible refine zy (f:=42) rfl ?_);refine zQ (some 11) rfl rfl Tryz.func42 (by kernel_rfl) rfl #[.int .i64 0,.int .i64 0,.int .i64 a2] rfl (by (try simp only [List.map_toArray,List.map_cons,List.map_nil]);first | done | rfl | (simp only [List.length_drop,List.length_take];rfl)) ?_;(with_reducible refine (round_Shift.calls 0 0 a2 t229 t230 _ A4.out).mono ?_);rintro e w10 ⟨rfl,hb⟩;refine ⟨_,rfl,?_⟩;have n0_:=Aside0.mk (zb (by repeat (first | (with_reducible first | exact HB.out | apply ze | apply zd | apply zh) | exact HB.out)) hb);clear HB;have HB:=n0_;clear n0_;(try clear hb);(try clear hb2);(try clear hk);(try clear hi)))
     go_ret
     exact ⟨by first | rfl | (simp [zr,zt] <;> rfl) | (simp [*,zr,zt] <;> rfl),by repeat (first | (with_reducible first | exact HB.out | apply ze | apply zd | apply zh) | exact HB.out)⟩
   ·rw [if_neg c7] at H
    have c7b0:decide (0≤a1)=false:=decide_eq_false c7
    clear c7
    obtain rfl:=Option.some.inj H
    go_enter Tryz.func78,Tryz.ntmps78
    go_wp2_with (first | ((with_reducible refine zy (f:=42) rfl ?_);refine zQ (some 11) rfl rfl Tryz.func42 (by kernel_rfl) rfl #[.int .i64 0,.int .i64 0,.int .i64 a2] rfl (by (try simp only [List.map_toArray,List.map_cons,List.map_nil]);first | done | rfl | (simp only [List.length_drop,List.length_take];rfl)) ?_;(with_reducible refine (round_Shift.calls 0 0 a2 t229 t230 _ A4.out).mono ?_);rintro e w11 ⟨rfl,hb⟩;refine ⟨_,rfl,?_⟩;have n0_:=Aside0.mk (zb (by repeat (first | (with_reducible first | exact HB.out | apply ze | apply zd | apply zh) | exact HB.out)) hb);clear HB;have HB:=n0_;clear n0_;(try clear hb);(try clear hb2);(try clear hk);(try clear hi)))
    go_ret
    exact ⟨by first | rfl | (simp [zr,zt] <;> rfl) | (simp [*,zr,zt] <;> rfl),by repeat (first | (with_reducible first | exact HB.out | apply ze | apply zd | apply zh) | exact HB.out)⟩
  ·rw [if_neg c6] at H
   have c6b0:decide (a0≤29)=false:=decide_eq_false c6
   clear c6
   obtain rfl:=Option.some.inj H
   go_enter Tryz.func78,Tryz.ntmps78
   go_wp2_with (first | ((with_reducible refine zy (f:=42) rfl ?_);refine zQ (some 11) rfl rfl Tryz.func42 (by kernel_rfl) rfl #[.int .i64 0,.int .i64 0,.int .i64 a2] rfl (by (try simp only [List.map_toArray,List.map_cons,List.map_nil]);first | done | rfl | (simp only [List.length_drop,List.length_take];rfl)) ?_;(with_reducible refine (round_Shift.calls 0 0 a2 t229 t230 _ A4.out).mono ?_);rintro e w12 ⟨rfl,hb⟩;refine ⟨_,rfl,?_⟩;have n0_:=Aside0.mk (zb (by repeat (first | (with_reducible first | exact HB.out | apply ze | apply zd | apply zh) | exact HB.out)) hb);clear HB;have HB:=n0_;clear n0_;(try clear hb);(try clear hb2);(try clear hk);(try clear hi)))
   go_ret
   exact ⟨by first | rfl | (simp [zr,zt] <;> rfl) | (simp [*,zr,zt] <;> rfl),by repeat (first | (with_reducible first | exact HB.out | apply ze | apply zd | apply zh) | exact HB.out)⟩
 ·rw [if_neg c5] at H
  have c5b0:decide (0≤a0)=false:=decide_eq_false c5
  clear c5
  obtain rfl:=Option.some.inj H
  go_enter Tryz.func78,Tryz.ntmps78
  go_wp2_with (first | ((with_reducible refine zy (f:=42) rfl ?_);refine zQ (some 11) rfl rfl Tryz.func42 (by kernel_rfl) rfl #[.int .i64 0,.int .i64 0,.int .i64 a2] rfl (by (try simp only [List.map_toArray,List.map_cons,List.map_nil]);first | done | rfl | (simp only [List.length_drop,List.length_take];rfl)) ?_;(with_reducible refine (round_Shift.calls 0 0 a2 t229 t230 _ A4.out).mono ?_);rintro e w13 ⟨rfl,hb⟩;refine ⟨_,rfl,?_⟩;have n0_:=Aside0.mk (zb (by repeat (first | (with_reducible first | exact HB.out | apply ze | apply zd | apply zh) | exact HB.out)) hb);clear HB;have HB:=n0_;clear n0_;(try clear hb);(try clear hb2);(try clear hk);(try clear hi)))
  go_ret
  exact ⟨by first | rfl | (simp [zr,zt] <;> rfl) | (simp [*,zr,zt] <;> rfl),by repeat (first | (with_reducible first | exact HB.out | apply ze | apply zd | apply zh) | exact HB.out)⟩

def four_settings.f (a0:Int) (a1:Int) (a2:Int):Option (Bool):=(round_Shift.f 0 0 a2).bind fun bt248=>(if a0≥0 then (if a0≤29 then (if a1≥0 then (if a1≤3 then (some (bt248.2 == 0)) else (some false)) else (some false)) else (some false)) else (some false))
set_option maxHeartbeats 8000000 in
set_option maxRecDepth 100000 in
theorem four_settings.calls (a0:Int) (a1:Int) (a2:Int) (r:Bool) (w:World) (h:four_settings.f a0 a1 a2=some r) :
  Calls Tryz.prog 85 #[.int .i64 a0,.int .i64 a1,.int .i64 a2] w fun e w'=>e=.returned (.bool r)∧Below w.heap.size w w':=by
 have HB:=Aside0.mk (Below.refl w.heap.size w)
 have H:((round_Shift.f 0 0 a2).bind fun bt248=>(if a0≥0 then (if a0≤29 then (if a1≥0 then (if a1≤3 then (some (bt248.2 == 0)) else (some false)) else (some false)) else (some false)) else (some false)))=some r:=h
 clear h
 replace H:=Option.bind_eq_some_iff.mp H
 obtain ⟨⟨t248,t249⟩,A40,H⟩:=H
 replace H:(if a0≥0 then (if a0≤29 then (if a1≥0 then (if a1≤3 then (some (t249 == 0)) else (some false)) else (some false)) else (some false)) else (some false))=some r:=H
 have A4:=Aside0.mk A40
 clear A40
 by_cases c5:a0≥0
 ·rw [if_pos c5] at H
  have c5b0:decide (0≤a0)=true:=decide_eq_true c5
  clear c5
  by_cases c6:a0≤29
  ·rw [if_pos c6] at H
   have c6b0:decide (a0≤29)=true:=decide_eq_true c6
   clear c6
   by_cases c7:a1≥0
   ·rw [if_pos c7] at H
    have c7b0:decide (0≤a1)=true:=decide_eq_true c7
    clear c7
    by_cases c8:a1≤3
    ·rw [if_pos c8] at H
     have c8b0:decide (a1≤3)=true:=decide_eq_true c8
     clear c8
     obtain rfl:=Option.some.inj H
     go_enter Tryz.func85,Tryz.ntmps85
     go_wp2_with (first | ((with_reducible refine zy (f:=42) rfl ?_);refine zQ (some 11) rfl rfl Tryz.func42 (by kernel_rfl) rfl #[.int .i64 0,.int .i64 0,.int .i64 a2] rfl (by (try simp only [List.map_toArray,List.map_cons,List.map_nil]);first | done | rfl | (simp only [List.length_drop,List.length_take];rfl)) ?_;(with_reducible refine (round_Shift.calls 0 0 a2 t248 t249 _ A4.out).mono ?_);rintro e w9 ⟨rfl,hb⟩;refine ⟨_,rfl,?_⟩;have n0_:=Aside0.mk (zb (by repeat (first | (with_reducible first | exact HB.out | apply ze | apply zd | apply zh) | exact HB.out)) hb);clear HB;have HB:=n0_;clear n0_;(try clear hb);(try clear hb2);(try clear hk);(try clear hi)))
     go_ret
     exact ⟨by first | rfl | (simp [zr,zt] <;> rfl) | (simp [*,zr,zt] <;> rfl),by repeat (first | (with_reducible first | exact HB.out | apply ze | apply zd | apply zh) | exact HB.out)⟩
    ·rw [if_neg c8] at H
     have c8b0:decide (a1≤3)=false:=decide_eq_false c8
     clear c8
     obtain rfl:=Option.some.inj H
     go_enter Tryz.func85,Tryz.ntmps85
     go_wp2_with (first | ((with_reducible refine zy (f:=42) rfl ?_);refine zQ (some 11) rfl rfl Tryz.func42 (by kernel_rfl) rfl #[.int .i64 0,.int .i64 0,.int .i64 a2] rfl (by (try simp only [List.map_toArray,List.map_cons,List.map_nil]);first | done | rfl | (simp only [List.length_drop,List.length_take];rfl)) ?_;(with_reducible refine (round_Shift.calls 0 0 a2 t248 t249 _ A4.out).mono ?_);rintro e w10 ⟨rfl,hb⟩;refine ⟨_,rfl,?_⟩;have n0_:=Aside0.mk (zb (by repeat (first | (with_reducible first | exact HB.out | apply ze | apply zd | apply zh) | exact HB.out)) hb);clear HB;have HB:=n0_;clear n0_;(try clear hb);(try clear hb2);(try clear hk);(try clear hi)))
     go_ret
     exact ⟨by first | rfl | (simp [zr,zt] <;> rfl) | (simp [*,zr,zt] <;> rfl),by repeat (first | (with_reducible first | exact HB.out | apply ze | apply zd | apply zh) | exact HB.out)⟩
   ·rw [if_neg c7] at H
    have c7b0:decide (0≤a1)=false:=decide_eq_false c7
    clear c7
    obtain rfl:=Option.some.inj H
    go_enter Tryz.func85,Tryz.ntmps85
    go_wp2_with (first | ((with_reducible refine zy (f:=42) rfl ?_);refine zQ (some 11) rfl rfl Tryz.func42 (by kernel_rfl) rfl #[.int .i64 0,.int .i64 0,.int .i64 a2] rfl (by (try simp only [List.map_toArray,List.map_cons,List.map_nil]);first | done | rfl | (simp only [List.length_drop,List.length_take];rfl)) ?_;(with_reducible refine (round_Shift.calls 0 0 a2 t248 t249 _ A4.out).mono ?_);rintro e w11 ⟨rfl,hb⟩;refine ⟨_,rfl,?_⟩;have n0_:=Aside0.mk (zb (by repeat (first | (with_reducible first | exact HB.out | apply ze | apply zd | apply zh) | exact HB.out)) hb);clear HB;have HB:=n0_;clear n0_;(try clear hb);(try clear hb2);(try clear hk);(try clear hi)))
    go_ret
    exact ⟨by first | rfl | (simp [zr,zt] <;> rfl) | (simp [*,zr,zt] <;> rfl),by repeat (first | (with_reducible first | exact HB.out | apply ze | apply zd | apply zh) | exact HB.out)⟩
  ·rw [if_neg c6] at H
   have c6b0:decide (a0≤29)=false:=decide_eq_false c6
   clear c6
   obtain rfl:=Option.some.inj H
   go_enter Tryz.func85,Tryz.ntmps85
   go_wp2_with (first | ((with_reducible refine zy (f:=42) rfl ?_);refine zQ (some 11) rfl rfl Tryz.func42 (by kernel_rfl) rfl #[.int .i64 0,.int .i64 0,.int .i64 a2] rfl (by (try simp only [List.map_toArray,List.map_cons,List.map_nil]);first | done | rfl | (simp only [List.length_drop,List.length_take];rfl)) ?_;(with_reducible refine (round_Shift.calls 0 0 a2 t248 t249 _ A4.out).mono ?_);rintro e w12 ⟨rfl,hb⟩;refine ⟨_,rfl,?_⟩;have n0_:=Aside0.mk (zb (by repeat (first | (with_reducible first | exact HB.out | apply ze | apply zd | apply zh) | exact HB.out)) hb);clear HB;have HB:=n0_;clear n0_;(try clear hb);(try clear hb2);(try clear hk);(try clear hi)))
   go_ret
   exact ⟨by first | rfl | (simp [zr,zt] <;> rfl) | (simp [*,zr,zt] <;> rfl),by repeat (first | (with_reducible first | exact HB.out | apply ze | apply zd | apply zh) | exact HB.out)⟩
 ·rw [if_neg c5] at H
  have c5b0:decide (0≤a0)=false:=decide_eq_false c5
  clear c5
  obtain rfl:=Option.some.inj H
  go_enter Tryz.func85,Tryz.ntmps85
  go_wp2_with (first | ((with_reducible refine zy (f:=42) rfl ?_);refine zQ (some 11) rfl rfl Tryz.func42 (by kernel_rfl) rfl #[.int .i64 0,.int .i64 0,.int .i64 a2] rfl (by (try simp only [List.map_toArray,List.map_cons,List.map_nil]);first | done | rfl | (simp only [List.length_drop,List.length_take];rfl)) ?_;(with_reducible refine (round_Shift.calls 0 0 a2 t248 t249 _ A4.out).mono ?_);rintro e w13 ⟨rfl,hb⟩;refine ⟨_,rfl,?_⟩;have n0_:=Aside0.mk (zb (by repeat (first | (with_reducible first | exact HB.out | apply ze | apply zd | apply zh) | exact HB.out)) hb);clear HB;have HB:=n0_;clear n0_;(try clear hb);(try clear hb2);(try clear hk);(try clear hi)))
  go_ret
  exact ⟨by first | rfl | (simp [zr,zt] <;> rfl) | (simp [*,zr,zt] <;> rfl),by repeat (first | (with_reducible first | exact HB.out | apply ze | apply zd | apply zh) | exact HB.out)⟩

end Go.Proofs.YteieahbadclppaaGreat.P

namespace Go.Proofs.YteieahbadclppaaGreat.P
open Go.RowKit Go.Proofs.YteieahbadclppaaGreatW.PrintWords Go.Proofs.YteieahbadclppaaGreatW.PrintLast Go.Proofs.YteieahbadclppaaGreatW.PrintMore
attribute [local go_sem] zI zJ zO zP
set_option linter.unusedVariables false
set_option linter.unusedSimpArgs false
def shC (s mode:Int) (x:S38):S38:=⟨shV x.f0 s mode,shV x.f1 s mode⟩
theorem zbo (x:S38) (s mode:Int) (h0:0≤s) (h1:s≤62) (h2:0≤mode) (h3:mode < 3):cx_Shift.f x.f0 x.f1 s mode=some ((shC s mode x).f0,(shC s mode x).f1,0):=by
 unfold cx_Shift.f round_Shift.f
 rw [if_neg (by omega),if_neg (by omega)]
 rfl
theorem zK {base:Nat} {ok:Nat→Prop} {W w1:World} {v:Value} {xs:List S38} {g:Nat} (h:Kd.R k38 38 W base ok v xs) (hw:∀k,k≠g→w1.heap[k]?=W.heap[k]?) (hne:some g≠v.ownBlock):Kd.R k38 38 w1 base ok v xs :=
 Kd.R_mono (Kd.R_step (Kd.R_tight rfl h) (fun k hk _=>hw k (fun e_=>hne (by rw [← e_];exact hk.symm ▸ rfl)))) (fun k hk=>h.1 k hk.symm)
section
variable {ops:Array Oper} {rest:List Oper} {o:Oper} {a:Act} {Q:Exit→Act→World→Prop}
theorem zg1 {w0 W:World} (base:Nat) (hgd:o.guard=none) (x y:Operand) (ho:o.op=.makeSlice 22 x y) (m:Nat) (hx:a.eval x=.int .i64 0) (hy:a.eval y=.int .i64 m) (hm:m≤1000000) (HB:Below base w0 W) (hbase:base≤W.heap.size)
  (h:∀v1 w1,Kd.R k38 38 w1 base (fun _=>True) v1 []→Below base w0 w1→wpList Tryz.prog ops Q rest (a.put o.dst v1) w1):wpList Tryz.prog ops Q (o :: rest) a W:=by
 obtain ⟨i,hi,hz⟩:=Option.map_eq_some_iff.1 (zb3:(Tryz.prog.info? 38).map (fun i=>(i.zero,i.size,i.bytes))=some (some (.agg #[(.int .i64 0),(.int .i64 0)]),2,16))
 simp only [Prod.mk.injEq] at hz
 obtain ⟨z0,z1,z2⟩:=hz
 obtain ⟨w1,hr,hown,hg⟩:=run_make_own (P:=Tryz.prog) W base 22 38 i _ 2 Tryz.underlying22 hi z0 z1 .i64 .i64 m (by rw [z2];omega) (by unfold maxLen;omega) hbase
 refine Kd.event_run hgd (v:=.slice (some ⟨W.heap.size,0,none⟩) 0 m) (w1:=w1) ?_ (h _ _ ⟨fun _ _=>trivial,[],hown,zas.none _ _⟩ ?_)
 ·simp only [execOp,ho,hx,hy]
  simp [hr]
 ·exact HB.grown hg hbase (by simp)
end
set_option maxRecDepth 100000 in
set_option maxHeartbeats 4000000 in
theorem zkH (mode:Int) (h0:0≤mode) (h1:mode < 3) (A:Option Addr) (c:Nat) (l:List S38) (w:World) (hr:Kd.C k38 w A l.length l) (hc:l.length≤c) (hl:l.length≤1000) :
  Calls Tryz.prog 67 #[.slice A l.length c,.int .i64 0,.int .i64 mode] w fun e w'=>∃v,e=.returned (.tuple #[v,.int .i64 0])∧Kd.R k38 38 w' w.heap.size (fun _=>True) v (l.map (shC 0 mode))∧Below w.heap.size w w':=by
 have HR:=hhd hr
 clear hr
 have HS:=hhd (show round_Shift.f 0 0 mode=some (shV 0 0 mode,0) by unfold round_Shift.f;rw [if_neg (by omega)])
 have HC:=hhd (fun x:S38=>zbo x 0 mode (by omega) (by omega) h0 h1)
 have HBr:=hhd (Below.refl w.heap.size w)
 clear h0 h1
 generalize shV 0 0 mode=z0 at *
 go_enter Tryz.func67,Tryz.ntmps67
 go_wp2_with (first
  | (go_at_call 42;(with_reducible refine (round_Shift.calls 0 0 mode _ _ _ HS.out).mono ?_);rintro e W0 ⟨rfl,hb⟩;have HB0:=hhd (zb HBr.out hb);clear hb HBr)
  | ((with_reducible refine zg (N:=31) rfl ?_);refine zg1 (w0:=w) w.heap.size rfl _ _ rfl l.length rfl rfl (by omega) HB0.out (zj HB0.out) ?_;intro v31 W1 ho hb;have HO1:=hhd ho;have HB1:=hhd hb;clear ho hb))
 go_loopw [10,34] (fun s10 s34 wr=>∃k:Nat,k≤l.length∧s34=.int .i64 k∧Kd.R k38 38 wr w.heap.size (fun _=>True) s10 ((l.take k).map (shC 0 mode))∧Below w.heap.size w wr) (fun _ i _=>l.length - (intOf i).toNat)
 case atStart=>exact ⟨0,by omega,rfl,by simpa using HO1.out,HB1.out⟩
 case round =>
  obtain ⟨k,hk,rfl,ho,hb⟩:=hrel
  have HOr:=hhd ho
  have HBr:=hhd hb
  clear ho hb HO1 HB1 HB0
  by_cases hlt:k < l.length
  ·obtain ⟨ad,rfl,h0,h1⟩:=zam HR.out (k:Int) (by omega) (by omega)
   have HT:=hhd (show (l.take (k+1)).map (shC 0 mode)=(l.take k).map (shC 0 mode)++[shC 0 mode (zk l k)] by
    rw [List.take_succ_eq_append_getElem hlt,List.map_append]
    unfold zk
    rw [Int.toNat_natCast,List.getD_eq_getElem?_getD,List.getElem?_eq_getElem hlt]
    rfl)
   have hlen:((l.take k).map (shC 0 mode)).length≤1000:=by simp;omega
   have HL:=hhd hlen
   rw [Int.toNat_natCast] at h0 h1
   replace h0:=(HBr.out.cell (World.block_lt_of_cell? w _ h0)).trans h0
   replace h1:=(HBr.out.cell (World.block_lt_of_cell? w _ h1)).trans h1
   have HX:=hhd (HC.out (zk l k))
   clear hlen
   generalize zk l k=x at *
   generalize (l.take k).map (shC 0 mode)=Y at *
   generalize shC 0 mode x=y at *
   go_wp2_with (first
    | ((with_reducible refine zg (N:=12) rfl ?_);refine ba_ 12 #[.int .i64 0,.int .i64 0] 38 ?_;intro g12 hg W12 hbox hbl;have B12:=hhd hbox;have HB12:=hhd (zb HBr.out hbl);have L12:=gf_ hg HBr.out;have HO12:=hhd (Kd.R_below HOr.out hbl);have N12:=hhd (show some g12≠_ from by rw [hg];exact Kd.R_ne_new HOr.out 0);clear hbox hbl hg)
    | ((with_reducible refine zo (t:=38) (p:=12) rfl ?_);refine zv rfl 38 _ _ rfl g12 #[.int .i64 x.f0,.int .i64 x.f1] rfl rfl 38 #[.int .i64 0,.int .i64 0] B12.out (zu _ _) rfl (zG _ _) ?_;intro W13 hq hoth hbel;have B13:=hhd hq;have HB13:=hhd (hbel _ _ L12 HB12.out);clear hbel;have HO13:=hhd (zK HO12.out hoth N12.out);clear hq hoth)
    | ((with_reducible refine zg (N:=41) rfl ?_);refine wpList_load_row rfl 38 _ rfl g12 rfl 38 #[.int .i64 x.f0,.int .i64 x.f1] (0,0) _ B13.out Tryz.underlying38 rfl (zu _ _) ?_)
    | (go_at_call 70;(with_reducible refine (cx_Shift.calls x.f0 x.f1 0 mode y.f0 y.f1 0 _ HX.out).mono ?_);rintro e W14 ⟨rfl,hb⟩;have B14:=hhd (za B13.out hb);have HB14:=hhd (zb HB13.out hb);have HO14:=hhd (Kd.R_below HO13.out hb);clear hb)
    | ((with_reducible refine zo (t:=38) (p:=12) rfl ?_);refine zv rfl 38 _ _ rfl g12 #[.int .i64 y.f0,.int .i64 y.f1] rfl rfl 38 #[.int .i64 x.f0,.int .i64 x.f1] B14.out (zu _ _) rfl (zG _ _) ?_;intro W15 hq hoth hbel;have B15:=hhd hq;have HB15:=hhd (hbel _ _ L12 HB14.out);clear hbel;have HO15:=hhd (zK HO14.out hoth N12.out);clear hq hoth)
    | ((with_reducible refine zg (N:=48) rfl ?_);refine wpList_load_row rfl 38 _ rfl g12 rfl 38 #[.int .i64 y.f0,.int .i64 y.f1] (0,0) _ B15.out Tryz.underlying38 rfl (zu _ _) ?_)
    | ((with_reducible refine zaC (b:=.append) (xs:=#[.tmp 47,.tmp 49]) rfl ?_);at_builtin;refine Kd.R_append k38 (w0:=w) w.heap.size rfl (.tmp 47) (.tmp 49) 22 38 (.agg #[(.int .i64 0),(.int .i64 0)]) 16 rfl Tryz.underlying22 zb3 rfl (by decide) (by omega) _ Y y [.int .i64 y.f0,.int .i64 y.f1] (fun _=>True) (fun _=>False) rfl rfl ?aP (fun _ hk=>hk.elim) ?aF ?aO ?aB ?aS ?aL ?_;(case aP=>exact zaF _ _ _ y);(case aB=>exact HB15.out);(case aF=>exact (fun _ _=>trivial));(case aO=>exact HO15.out);(case aS=>exact zj HB15.out);(case aL=>have:=HL.out;omega);intro v50 W16 ho hb hg hat;have HO16:=hhd ho;have HB16:=hhd hb;clear ho hb hg hat))
   go_roundw
   case rel=>exact ⟨k+1,by omega,by go_num,by rw [HT.out];exact HO16.out,HB16.out⟩
   case measure=>simp [intOf];omega
  ·obtain rfl:k=l.length:=by omega
   go_wp2
   go_ret2
   exact ⟨_,rfl,by have h:=HOr.out;rw [List.take_length] at h;exact h,HBr.out⟩
set_option maxRecDepth 100000 in
set_option maxHeartbeats 4000000 in
theorem zg2 (mode:Int) (h0:0≤mode) (h1:mode < 3) (A:Option Addr) (c:Nat) (l:List S38) (w:World) (hr:Kd.C k38 w A l.length l) (hc:l.length≤c) (hl:l.length≤1000) :
  Calls Tryz.prog 67 #[.slice A l.length c,.int .i64 1,.int .i64 mode] w fun e w'=>∃v,e=.returned (.tuple #[v,.int .i64 0])∧Kd.R k38 38 w' w.heap.size (fun _=>True) v (l.map (shC 1 mode))∧Below w.heap.size w w':=by
 have HR:=hhd hr
 clear hr
 have HS:=hhd (show round_Shift.f 0 1 mode=some (shV 0 1 mode,0) by unfold round_Shift.f;rw [if_neg (by omega)])
 have HC:=hhd (fun x:S38=>zbo x 1 mode (by omega) (by omega) h0 h1)
 have HBr:=hhd (Below.refl w.heap.size w)
 clear h0 h1
 generalize shV 0 1 mode=z0 at *
 go_enter Tryz.func67,Tryz.ntmps67
 go_wp2_with (first
  | (go_at_call 42;(with_reducible refine (round_Shift.calls 0 1 mode _ _ _ HS.out).mono ?_);rintro e W0 ⟨rfl,hb⟩;have HB0:=hhd (zb HBr.out hb);clear hb HBr)
  | ((with_reducible refine zg (N:=31) rfl ?_);refine zg1 (w0:=w) w.heap.size rfl _ _ rfl l.length rfl rfl (by omega) HB0.out (zj HB0.out) ?_;intro v31 W1 ho hb;have HO1:=hhd ho;have HB1:=hhd hb;clear ho hb))
 go_loopw [10,34] (fun s10 s34 wr=>∃k:Nat,k≤l.length∧s34=.int .i64 k∧Kd.R k38 38 wr w.heap.size (fun _=>True) s10 ((l.take k).map (shC 1 mode))∧Below w.heap.size w wr) (fun _ i _=>l.length - (intOf i).toNat)
 case atStart=>exact ⟨0,by omega,rfl,by simpa using HO1.out,HB1.out⟩
 case round =>
  obtain ⟨k,hk,rfl,ho,hb⟩:=hrel
  have HOr:=hhd ho
  have HBr:=hhd hb
  clear ho hb HO1 HB1 HB0
  by_cases hlt:k < l.length
  ·obtain ⟨ad,rfl,h0,h1⟩:=zam HR.out (k:Int) (by omega) (by omega)
   have HT:=hhd (show (l.take (k+1)).map (shC 1 mode)=(l.take k).map (shC 1 mode)++[shC 1 mode (zk l k)] by
    rw [List.take_succ_eq_append_getElem hlt,List.map_append]
    unfold zk
    rw [Int.toNat_natCast,List.getD_eq_getElem?_getD,List.getElem?_eq_getElem hlt]
    rfl)
   have hlen:((l.take k).map (shC 1 mode)).length≤1000:=by simp;omega
   have HL:=hhd hlen
   rw [Int.toNat_natCast] at h0 h1
   replace h0:=(HBr.out.cell (World.block_lt_of_cell? w _ h0)).trans h0
   replace h1:=(HBr.out.cell (World.block_lt_of_cell? w _ h1)).trans h1
   have HX:=hhd (HC.out (zk l k))
   clear hlen
   generalize zk l k=x at *
   generalize (l.take k).map (shC 1 mode)=Y at *
   generalize shC 1 mode x=y at *
   go_wp2_with (first
    | ((with_reducible refine zg (N:=12) rfl ?_);refine ba_ 12 #[.int .i64 0,.int .i64 0] 38 ?_;intro g12 hg W12 hbox hbl;have B12:=hhd hbox;have HB12:=hhd (zb HBr.out hbl);have L12:=gf_ hg HBr.out;have HO12:=hhd (Kd.R_below HOr.out hbl);have N12:=hhd (show some g12≠_ from by rw [hg];exact Kd.R_ne_new HOr.out 0);clear hbox hbl hg)
    | ((with_reducible refine zo (t:=38) (p:=12) rfl ?_);refine zv rfl 38 _ _ rfl g12 #[.int .i64 x.f0,.int .i64 x.f1] rfl rfl 38 #[.int .i64 0,.int .i64 0] B12.out (zu _ _) rfl (zG _ _) ?_;intro W13 hq hoth hbel;have B13:=hhd hq;have HB13:=hhd (hbel _ _ L12 HB12.out);clear hbel;have HO13:=hhd (zK HO12.out hoth N12.out);clear hq hoth)
    | ((with_reducible refine zg (N:=41) rfl ?_);refine wpList_load_row rfl 38 _ rfl g12 rfl 38 #[.int .i64 x.f0,.int .i64 x.f1] (0,0) _ B13.out Tryz.underlying38 rfl (zu _ _) ?_)
    | (go_at_call 70;(with_reducible refine (cx_Shift.calls x.f0 x.f1 1 mode y.f0 y.f1 0 _ HX.out).mono ?_);rintro e W14 ⟨rfl,hb⟩;have B14:=hhd (za B13.out hb);have HB14:=hhd (zb HB13.out hb);have HO14:=hhd (Kd.R_below HO13.out hb);clear hb)
    | ((with_reducible refine zo (t:=38) (p:=12) rfl ?_);refine zv rfl 38 _ _ rfl g12 #[.int .i64 y.f0,.int .i64 y.f1] rfl rfl 38 #[.int .i64 x.f0,.int .i64 x.f1] B14.out (zu _ _) rfl (zG _ _) ?_;intro W15 hq hoth hbel;have B15:=hhd hq;have HB15:=hhd (hbel _ _ L12 HB14.out);clear hbel;have HO15:=hhd (zK HO14.out hoth N12.out);clear hq hoth)
    | ((with_reducible refine zg (N:=48) rfl ?_);refine wpList_load_row rfl 38 _ rfl g12 rfl 38 #[.int .i64 y.f0,.int .i64 y.f1] (0,0) _ B15.out Tryz.underlying38 rfl (zu _ _) ?_)
    | ((with_reducible refine zaC (b:=.append) (xs:=#[.tmp 47,.tmp 49]) rfl ?_);at_builtin;refine Kd.R_append k38 (w0:=w) w.heap.size rfl (.tmp 47) (.tmp 49) 22 38 (.agg #[(.int .i64 0),(.int .i64 0)]) 16 rfl Tryz.underlying22 zb3 rfl (by decide) (by omega) _ Y y [.int .i64 y.f0,.int .i64 y.f1] (fun _=>True) (fun _=>False) rfl rfl ?aP (fun _ hk=>hk.elim) ?aF ?aO ?aB ?aS ?aL ?_;(case aP=>exact zaF _ _ _ y);(case aB=>exact HB15.out);(case aF=>exact (fun _ _=>trivial));(case aO=>exact HO15.out);(case aS=>exact zj HB15.out);(case aL=>have:=HL.out;omega);intro v50 W16 ho hb hg hat;have HO16:=hhd ho;have HB16:=hhd hb;clear ho hb hg hat))
   go_roundw
   case rel=>exact ⟨k+1,by omega,by go_num,by rw [HT.out];exact HO16.out,HB16.out⟩
   case measure=>simp [intOf];omega
  ·obtain rfl:k=l.length:=by omega
   go_wp2
   go_ret2
   exact ⟨_,rfl,by have h:=HOr.out;rw [List.take_length] at h;exact h,HBr.out⟩
end Go.Proofs.YteieahbadclppaaGreat.P

namespace Go.Proofs.YteieahbadclppaaGreat.P
open Go.RowKit Go.Proofs.YteieahbadclppaaGreatW.PrintWords Go.Proofs.YteieahbadclppaaGreatW.PrintLast Go.Proofs.YteieahbadclppaaGreatW.PrintMore
attribute [local go_sem] zI zJ zO zP
set_option linter.unusedVariables false
set_option linter.unusedSimpArgs false
theorem zbl {l:List S38} {p:S38→Bool} (h:∀x,x∈l→p x=true) (k:Nat) (hk:k < l.length):p (zk l k)=true:=by
 unfold zk
 rw [Int.toNat_natCast,List.getD_eq_getElem?_getD,List.getElem?_eq_getElem hk]
 exact h _ (List.getElem_mem hk)
def zdj {α:Type} (p:α→Bool):List α→Nat→Int
 | [],_=>-1
 | x :: l,i=>if p x=true then i else zdj p l (i+1)
theorem zjA {α:Type} (p:α→Bool):∀(l:List α) (i:Nat),decide (0≤zdj p l i)=l.any p:=by
 intro l
 induction l with
 | nil=>intro i;rfl
 | cons x l ih =>
  intro i
  unfold zdj
  cases hx:p x with
  | true=>simp [hx]
  | false=>simp [hx,ih]
set_option maxRecDepth 100000 in
set_option maxHeartbeats 4000000 in
theorem zjB (A:Option Addr) (c:Nat) (l:List S38) (w:World) (hr:Kd.C k38 w A l.length l) (hc:l.length≤c) (hl:∀x,x∈l→inB 2147483648 x=true) :
  Calls Tryz.prog 69 #[.slice A l.length c,.func (.func 75) #[] #[]] w fun e w'=>e=.returned (.int .i64 (-1))∧Below w.heap.size w w':=by
 have hmax:=hr.2.1
 unfold maxLen at hmax
 have HR:=hhd hr
 have HL:=hhd hl
 clear hr hl
 have HB:=hhd (Below.refl w.heap.size w)
 go_enter Tryz.func69,Tryz.ntmps69
 go_wp2
 go_loopw [8] (fun s8 wr=>∃k:Nat,k≤l.length∧s8=.int .i64 k∧Below w.heap.size w wr) (fun i _=>l.length - (intOf i).toNat)
 case atStart=>exact ⟨0,by omega,rfl,HB.out⟩
 case round =>
  obtain ⟨k,hk,rfl,hb⟩:=hrel
  have HBR:=hhd hb
  clear hb HB
  by_cases hlt:k < l.length
  ·obtain ⟨ad,rfl,h0,h1⟩:=zam HR.out (k:Int) (by omega) (by omega)
   have HX:=hhd (zbl HL.out k hlt)
   rw [Int.toNat_natCast] at h0 h1
   replace h0:=(HBR.out.cell (World.block_lt_of_cell? w _ h0)).trans h0
   replace h1:=(HBR.out.cell (World.block_lt_of_cell? w _ h1)).trans h1
   generalize zk l k=x at *
   go_wp2_with (go_at_call 75;refine (znk x HX.out _).mono ?_;rintro e w1 ⟨rfl,hb⟩;have HB1:=hhd (zb HBR.out hb);clear hb)
   go_roundw
   case rel=>exact ⟨k+1,by omega,by go_num,HB1.out⟩
   case measure=>simp [intOf];omega
  ·obtain rfl:k=l.length:=by omega
   go_wp2
   go_ret
   exact ⟨rfl,HBR.out⟩
set_option maxRecDepth 100000 in
set_option maxHeartbeats 4000000 in
theorem zg3 (A:Option Addr) (c:Nat) (l:List S38) (w:World) (hr:Kd.C k38 w A l.length l) (hc:l.length≤c) (hl:∀x,x∈l→inB 2147483648 x=true) :
  Calls Tryz.prog 43 #[.slice A l.length c,.func (.func 75) #[] #[]] w fun e w'=>e=.returned (.bool false)∧Below w.heap.size w w':=by
 have HI:=hhd (zjB A c l w hr hc hl)
 clear hr hl
 go_enter Tryz.func43,Tryz.ntmps43
 go_wp2_with (go_at_call 69;refine HI.out.mono ?_;rintro e w1 ⟨rfl,hb⟩)
 go_ret
 exact ⟨rfl,hb⟩
set_option maxRecDepth 100000 in
set_option maxHeartbeats 4000000 in
theorem zjC (A:Option Addr) (c:Nat) (l:List S38) (w:World) (hr:Kd.C k38 w A l.length l) (hc:l.length≤c) (hl:∀x,x∈l→inB 2147483648 x=true) :
  Calls Tryz.prog 69 #[.slice A l.length c,.func (.func 82) #[] #[]] w fun e w'=>e=.returned (.int .i64 (-1))∧Below w.heap.size w w':=by
 have hmax:=hr.2.1
 unfold maxLen at hmax
 have HR:=hhd hr
 have HL:=hhd hl
 clear hr hl
 have HB:=hhd (Below.refl w.heap.size w)
 go_enter Tryz.func69,Tryz.ntmps69
 go_wp2
 go_loopw [8] (fun s8 wr=>∃k:Nat,k≤l.length∧s8=.int .i64 k∧Below w.heap.size w wr) (fun i _=>l.length - (intOf i).toNat)
 case atStart=>exact ⟨0,by omega,rfl,HB.out⟩
 case round =>
  obtain ⟨k,hk,rfl,hb⟩:=hrel
  have HBR:=hhd hb
  clear hb HB
  by_cases hlt:k < l.length
  ·obtain ⟨ad,rfl,h0,h1⟩:=zam HR.out (k:Int) (by omega) (by omega)
   have HX:=hhd (zbl HL.out k hlt)
   rw [Int.toNat_natCast] at h0 h1
   replace h0:=(HBR.out.cell (World.block_lt_of_cell? w _ h0)).trans h0
   replace h1:=(HBR.out.cell (World.block_lt_of_cell? w _ h1)).trans h1
   generalize zk l k=x at *
   go_wp2_with (go_at_call 82;refine (znl x HX.out _).mono ?_;rintro e w1 ⟨rfl,hb⟩;have HB1:=hhd (zb HBR.out hb);clear hb)
   go_roundw
   case rel=>exact ⟨k+1,by omega,by go_num,HB1.out⟩
   case measure=>simp [intOf];omega
  ·obtain rfl:k=l.length:=by omega
   go_wp2
   go_ret
   exact ⟨rfl,HBR.out⟩
set_option maxRecDepth 100000 in
set_option maxHeartbeats 4000000 in
theorem zg4 (A:Option Addr) (c:Nat) (l:List S38) (w:World) (hr:Kd.C k38 w A l.length l) (hc:l.length≤c) (hl:∀x,x∈l→inB 2147483648 x=true) :
  Calls Tryz.prog 43 #[.slice A l.length c,.func (.func 82) #[] #[]] w fun e w'=>e=.returned (.bool false)∧Below w.heap.size w w':=by
 have HI:=hhd (zjC A c l w hr hc hl)
 clear hr hl
 go_enter Tryz.func43,Tryz.ntmps43
 go_wp2_with (go_at_call 69;refine HI.out.mono ?_;rintro e w1 ⟨rfl,hb⟩)
 go_ret
 exact ⟨rfl,hb⟩
set_option maxRecDepth 100000 in
set_option maxHeartbeats 4000000 in
theorem zjD (A:Option Addr) (c:Nat) (l:List S38) (Bb:Nat) (bits m:Int) (g0:0≤bits) (g1:bits≤40) (hm:m=2^bits.toNat) (w:World) (hr:Kd.C k38 w A l.length l) (hc:l.length≤c) (hBb:w.heap[Bb]?=some (.cells #[.int .i64 bits] 3 (0,0))) (hl:∀x,x∈l→inB m x=true) :
  Calls Tryz.prog 69 #[.slice A l.length c,.func (.func 77) #[] #[.pointer (some ⟨Bb,0,none⟩)]] w fun e w'=>e=.returned (.int .i64 (-1))∧Below w.heap.size w w':=by
 have hmax:=hr.2.1
 unfold maxLen at hmax
 have HR:=hhd hr
 have HL:=hhd hl
 clear hr hl
 have CBb:=hhd hBb
 clear hBb
 have HB:=hhd (Below.refl w.heap.size w)
 go_enter Tryz.func69,Tryz.ntmps69
 go_wp2
 go_loopw [8] (fun s8 wr=>∃k:Nat,k≤l.length∧s8=.int .i64 k∧Below w.heap.size w wr) (fun i _=>l.length - (intOf i).toNat)
 case atStart=>exact ⟨0,by omega,rfl,HB.out⟩
 case round =>
  obtain ⟨k,hk,rfl,hb⟩:=hrel
  have HBR:=hhd hb
  have DBb:=hhd (za CBb.out hb);clear hb HB
  by_cases hlt:k < l.length
  ·obtain ⟨ad,rfl,h0,h1⟩:=zam HR.out (k:Int) (by omega) (by omega)
   have HX:=hhd (zbl HL.out k hlt)
   rw [Int.toNat_natCast] at h0 h1
   replace h0:=(HBR.out.cell (World.block_lt_of_cell? w _ h0)).trans h0
   replace h1:=(HBR.out.cell (World.block_lt_of_cell? w _ h1)).trans h1
   generalize zk l k=x at *
   go_wp2_with (go_at_call 77;refine (zlW x Bb bits m g0 g1 hm HX.out _ DBb.out).mono ?_;rintro e w1 ⟨rfl,hb⟩;have HB1:=hhd (zb HBR.out hb);clear hb)
   go_roundw
   case rel=>exact ⟨k+1,by omega,by go_num,HB1.out⟩
   case measure=>simp [intOf];omega
  ·obtain rfl:k=l.length:=by omega
   go_wp2
   go_ret
   exact ⟨rfl,HBR.out⟩
set_option maxRecDepth 100000 in
set_option maxHeartbeats 4000000 in
theorem zg5 (A:Option Addr) (c:Nat) (l:List S38) (Bb:Nat) (bits m:Int) (g0:0≤bits) (g1:bits≤40) (hm:m=2^bits.toNat) (w:World) (hr:Kd.C k38 w A l.length l) (hc:l.length≤c) (hBb:w.heap[Bb]?=some (.cells #[.int .i64 bits] 3 (0,0))) (hl:∀x,x∈l→inB m x=true) :
  Calls Tryz.prog 43 #[.slice A l.length c,.func (.func 77) #[] #[.pointer (some ⟨Bb,0,none⟩)]] w fun e w'=>e=.returned (.bool false)∧Below w.heap.size w w':=by
 have HI:=hhd (zjD A c l Bb bits m g0 g1 hm w hr hc hBb hl)
 clear hr hl hBb
 go_enter Tryz.func43,Tryz.ntmps43
 go_wp2_with (go_at_call 69;refine HI.out.mono ?_;rintro e w1 ⟨rfl,hb⟩)
 go_ret
 exact ⟨rfl,hb⟩
set_option maxRecDepth 100000 in
set_option maxHeartbeats 4000000 in
theorem zjE (A:Option Addr) (c:Nat) (l:List S38) (Bb:Nat) (bits m:Int) (g0:0≤bits) (g1:bits≤40) (hm:m=2^bits.toNat) (w:World) (hr:Kd.C k38 w A l.length l) (hc:l.length≤c) (hBb:w.heap[Bb]?=some (.cells #[.int .i64 bits] 3 (0,0))) (hl:∀x,x∈l→inB m x=true) :
  Calls Tryz.prog 69 #[.slice A l.length c,.func (.func 84) #[] #[.pointer (some ⟨Bb,0,none⟩)]] w fun e w'=>e=.returned (.int .i64 (-1))∧Below w.heap.size w w':=by
 have hmax:=hr.2.1
 unfold maxLen at hmax
 have HR:=hhd hr
 have HL:=hhd hl
 clear hr hl
 have CBb:=hhd hBb
 clear hBb
 have HB:=hhd (Below.refl w.heap.size w)
 go_enter Tryz.func69,Tryz.ntmps69
 go_wp2
 go_loopw [8] (fun s8 wr=>∃k:Nat,k≤l.length∧s8=.int .i64 k∧Below w.heap.size w wr) (fun i _=>l.length - (intOf i).toNat)
 case atStart=>exact ⟨0,by omega,rfl,HB.out⟩
 case round =>
  obtain ⟨k,hk,rfl,hb⟩:=hrel
  have HBR:=hhd hb
  have DBb:=hhd (za CBb.out hb);clear hb HB
  by_cases hlt:k < l.length
  ·obtain ⟨ad,rfl,h0,h1⟩:=zam HR.out (k:Int) (by omega) (by omega)
   have HX:=hhd (zbl HL.out k hlt)
   rw [Int.toNat_natCast] at h0 h1
   replace h0:=(HBR.out.cell (World.block_lt_of_cell? w _ h0)).trans h0
   replace h1:=(HBR.out.cell (World.block_lt_of_cell? w _ h1)).trans h1
   generalize zk l k=x at *
   go_wp2_with (go_at_call 84;refine (zlX x Bb bits m g0 g1 hm HX.out _ DBb.out).mono ?_;rintro e w1 ⟨rfl,hb⟩;have HB1:=hhd (zb HBR.out hb);clear hb)
   go_roundw
   case rel=>exact ⟨k+1,by omega,by go_num,HB1.out⟩
   case measure=>simp [intOf];omega
  ·obtain rfl:k=l.length:=by omega
   go_wp2
   go_ret
   exact ⟨rfl,HBR.out⟩
set_option maxRecDepth 100000 in
set_option maxHeartbeats 4000000 in
theorem zg6 (A:Option Addr) (c:Nat) (l:List S38) (Bb:Nat) (bits m:Int) (g0:0≤bits) (g1:bits≤40) (hm:m=2^bits.toNat) (w:World) (hr:Kd.C k38 w A l.length l) (hc:l.length≤c) (hBb:w.heap[Bb]?=some (.cells #[.int .i64 bits] 3 (0,0))) (hl:∀x,x∈l→inB m x=true) :
  Calls Tryz.prog 43 #[.slice A l.length c,.func (.func 84) #[] #[.pointer (some ⟨Bb,0,none⟩)]] w fun e w'=>e=.returned (.bool false)∧Below w.heap.size w w':=by
 have HI:=hhd (zjE A c l Bb bits m g0 g1 hm w hr hc hBb hl)
 clear hr hl hBb
 go_enter Tryz.func43,Tryz.ntmps43
 go_wp2_with (go_at_call 69;refine HI.out.mono ?_;rintro e w1 ⟨rfl,hb⟩)
 go_ret
 exact ⟨rfl,hb⟩
set_option maxRecDepth 100000 in
set_option maxHeartbeats 4000000 in
theorem zjF (A:Option Addr) (c:Nat) (l:List S38) (Bb:Nat) (bits b1 m:Int) (g0:0≤b1) (g1:b1≤40) (hb1:wrap64 (bits - 1)=b1) (hm:m=2^b1.toNat) (w:World) (hr:Kd.C k38 w A l.length l) (hc:l.length≤c) (hBb:w.heap[Bb]?=some (.cells #[.int .i64 bits] 3 (0,0))) (hl:∀x,x∈l→inB m x=true) :
  Calls Tryz.prog 69 #[.slice A l.length c,.func (.func 44) #[] #[.pointer (some ⟨Bb,0,none⟩)]] w fun e w'=>e=.returned (.int .i64 (-1))∧Below w.heap.size w w':=by
 have hmax:=hr.2.1
 unfold maxLen at hmax
 have HR:=hhd hr
 have HL:=hhd hl
 clear hr hl
 have CBb:=hhd hBb
 clear hBb
 have HB:=hhd (Below.refl w.heap.size w)
 go_enter Tryz.func69,Tryz.ntmps69
 go_wp2
 go_loopw [8] (fun s8 wr=>∃k:Nat,k≤l.length∧s8=.int .i64 k∧Below w.heap.size w wr) (fun i _=>l.length - (intOf i).toNat)
 case atStart=>exact ⟨0,by omega,rfl,HB.out⟩
 case round =>
  obtain ⟨k,hk,rfl,hb⟩:=hrel
  have HBR:=hhd hb
  have DBb:=hhd (za CBb.out hb);clear hb HB
  by_cases hlt:k < l.length
  ·obtain ⟨ad,rfl,h0,h1⟩:=zam HR.out (k:Int) (by omega) (by omega)
   have HX:=hhd (zbl HL.out k hlt)
   rw [Int.toNat_natCast] at h0 h1
   replace h0:=(HBR.out.cell (World.block_lt_of_cell? w _ h0)).trans h0
   replace h1:=(HBR.out.cell (World.block_lt_of_cell? w _ h1)).trans h1
   generalize zk l k=x at *
   go_wp2_with (go_at_call 44;refine (zlY x Bb bits b1 m g0 g1 hb1 hm HX.out _ DBb.out).mono ?_;rintro e w1 ⟨rfl,hb⟩;have HB1:=hhd (zb HBR.out hb);clear hb)
   go_roundw
   case rel=>exact ⟨k+1,by omega,by go_num,HB1.out⟩
   case measure=>simp [intOf];omega
  ·obtain rfl:k=l.length:=by omega
   go_wp2
   go_ret
   exact ⟨rfl,HBR.out⟩
set_option maxRecDepth 100000 in
set_option maxHeartbeats 4000000 in
theorem zg7 (A:Option Addr) (c:Nat) (l:List S38) (Bb:Nat) (bits b1 m:Int) (g0:0≤b1) (g1:b1≤40) (hb1:wrap64 (bits - 1)=b1) (hm:m=2^b1.toNat) (w:World) (hr:Kd.C k38 w A l.length l) (hc:l.length≤c) (hBb:w.heap[Bb]?=some (.cells #[.int .i64 bits] 3 (0,0))) (hl:∀x,x∈l→inB m x=true) :
  Calls Tryz.prog 43 #[.slice A l.length c,.func (.func 44) #[] #[.pointer (some ⟨Bb,0,none⟩)]] w fun e w'=>e=.returned (.bool false)∧Below w.heap.size w w':=by
 have HI:=hhd (zjF A c l Bb bits b1 m g0 g1 hb1 hm w hr hc hBb hl)
 clear hr hl hBb
 go_enter Tryz.func43,Tryz.ntmps43
 go_wp2_with (go_at_call 69;refine HI.out.mono ?_;rintro e w1 ⟨rfl,hb⟩)
 go_ret
 exact ⟨rfl,hb⟩
def zaG (a b:Int) (x:S38):Bool:=decide (x.f0 < a∨x.f1 < a∨b < x.f0∨b < x.f1)
set_option maxRecDepth 100000 in
set_option maxHeartbeats 4000000 in
theorem zlE (Ba Bb:Nat) (a b:Int) (x:S38) (w:World) (ha:w.heap[Ba]?=some (.cells #[.int .i64 a] 3 (0,0))) (hb:w.heap[Bb]?=some (.cells #[.int .i64 b] 3 (0,0))) :
  Calls Tryz.prog 65 #[.agg #[.int .i64 x.f0,.int .i64 x.f1],.pointer (some ⟨Ba,0,none⟩),.pointer (some ⟨Bb,0,none⟩)] w fun e w'=>e=.returned (.bool (zaG a b x))∧Below w.heap.size w w':=by
 have HA:=hhd ha
 have HBb:=hhd hb
 clear ha hb
 by_cases c:x.f0 < x.f1
 ·have c1:(x.f0 < x.f1)=True:=eq_true c
  have c2:(x.f1 < x.f0)=False:=eq_false (by omega)
  by_cases e:x.f0 < a
  ·have HO:=hhd (show zaG a b x=true from decide_eq_true (by omega))
   have e1:(x.f0 < a)=True:=eq_true e
   have e2:decide (x.f0 < a)=true:=decide_eq_true e
   clear e
   try clear c
   go_enter Tryz.func65,Tryz.ntmps65
   go_wp2_with ((with_reducible refine zg (N:=3) rfl ?_);refine ba_ 3 #[.int .i64 x.f0,.int .i64 x.f1] 38 ?_;intro g2 hg W0 hbox hbl;have B2:=hhd hbox;have HB0:=hhd hbl;have k0:W0.cell? ⟨g2,0,none⟩=some (.int .i64 x.f0):=(zc hbox 0).trans rfl;have k1:W0.cell? ⟨g2,1,none⟩=some (.int .i64 x.f1):=(zc hbox 1).trans rfl;have ka:W0.cell? ⟨Ba,0,none⟩=some (.int .i64 a):=(zc (za HA.out hbl) 0).trans rfl;have kb:W0.cell? ⟨Bb,0,none⟩=some (.int .i64 b):=(zc (za HBb.out hbl) 0).trans rfl;clear hbox hbl hg)
   go_ret
   exact ⟨by rw [HO.out];rfl,HB0.out⟩
  ·have e1:(x.f0 < a)=False:=eq_false e
   have e2:decide (x.f0 < a)=false:=decide_eq_false e
   by_cases f:b < x.f1
   ·have HO:=hhd (show zaG a b x=true from decide_eq_true (by omega))
    have f1:(b < x.f1)=True:=eq_true f
    have f2:decide (b < x.f1)=true:=decide_eq_true f
    clear e f
    try clear c
    go_enter Tryz.func65,Tryz.ntmps65
    go_wp2_with ((with_reducible refine zg (N:=3) rfl ?_);refine ba_ 3 #[.int .i64 x.f0,.int .i64 x.f1] 38 ?_;intro g2 hg W0 hbox hbl;have B2:=hhd hbox;have HB0:=hhd hbl;have k0:W0.cell? ⟨g2,0,none⟩=some (.int .i64 x.f0):=(zc hbox 0).trans rfl;have k1:W0.cell? ⟨g2,1,none⟩=some (.int .i64 x.f1):=(zc hbox 1).trans rfl;have ka:W0.cell? ⟨Ba,0,none⟩=some (.int .i64 a):=(zc (za HA.out hbl) 0).trans rfl;have kb:W0.cell? ⟨Bb,0,none⟩=some (.int .i64 b):=(zc (za HBb.out hbl) 0).trans rfl;clear hbox hbl hg)
    go_ret
    exact ⟨by rw [HO.out];rfl,HB0.out⟩
   ·have HO:=hhd (show zaG a b x=false from decide_eq_false (by omega))
    have f1:(b < x.f1)=False:=eq_false f
    have f2:decide (b < x.f1)=false:=decide_eq_false f
    clear e f
    try clear c
    go_enter Tryz.func65,Tryz.ntmps65
    go_wp2_with ((with_reducible refine zg (N:=3) rfl ?_);refine ba_ 3 #[.int .i64 x.f0,.int .i64 x.f1] 38 ?_;intro g2 hg W0 hbox hbl;have B2:=hhd hbox;have HB0:=hhd hbl;have k0:W0.cell? ⟨g2,0,none⟩=some (.int .i64 x.f0):=(zc hbox 0).trans rfl;have k1:W0.cell? ⟨g2,1,none⟩=some (.int .i64 x.f1):=(zc hbox 1).trans rfl;have ka:W0.cell? ⟨Ba,0,none⟩=some (.int .i64 a):=(zc (za HA.out hbl) 0).trans rfl;have kb:W0.cell? ⟨Bb,0,none⟩=some (.int .i64 b):=(zc (za HBb.out hbl) 0).trans rfl;clear hbox hbl hg)
    go_ret
    exact ⟨by rw [HO.out];rfl,HB0.out⟩
 ·have c1:(x.f0 < x.f1)=False:=eq_false c
  by_cases c':x.f1 < x.f0
  ·have c2:(x.f1 < x.f0)=True:=eq_true c'
   by_cases e:x.f1 < a
   ·have HO:=hhd (show zaG a b x=true from decide_eq_true (by omega))
    have e1:(x.f1 < a)=True:=eq_true e
    have e2:decide (x.f1 < a)=true:=decide_eq_true e
    clear e
    try clear c c'
    go_enter Tryz.func65,Tryz.ntmps65
    go_wp2_with ((with_reducible refine zg (N:=3) rfl ?_);refine ba_ 3 #[.int .i64 x.f0,.int .i64 x.f1] 38 ?_;intro g2 hg W0 hbox hbl;have B2:=hhd hbox;have HB0:=hhd hbl;have k0:W0.cell? ⟨g2,0,none⟩=some (.int .i64 x.f0):=(zc hbox 0).trans rfl;have k1:W0.cell? ⟨g2,1,none⟩=some (.int .i64 x.f1):=(zc hbox 1).trans rfl;have ka:W0.cell? ⟨Ba,0,none⟩=some (.int .i64 a):=(zc (za HA.out hbl) 0).trans rfl;have kb:W0.cell? ⟨Bb,0,none⟩=some (.int .i64 b):=(zc (za HBb.out hbl) 0).trans rfl;clear hbox hbl hg)
    go_ret
    exact ⟨by rw [HO.out];rfl,HB0.out⟩
   ·have e1:(x.f1 < a)=False:=eq_false e
    have e2:decide (x.f1 < a)=false:=decide_eq_false e
    by_cases f:b < x.f0
    ·have HO:=hhd (show zaG a b x=true from decide_eq_true (by omega))
     have f1:(b < x.f0)=True:=eq_true f
     have f2:decide (b < x.f0)=true:=decide_eq_true f
     clear e f
     try clear c c'
     go_enter Tryz.func65,Tryz.ntmps65
     go_wp2_with ((with_reducible refine zg (N:=3) rfl ?_);refine ba_ 3 #[.int .i64 x.f0,.int .i64 x.f1] 38 ?_;intro g2 hg W0 hbox hbl;have B2:=hhd hbox;have HB0:=hhd hbl;have k0:W0.cell? ⟨g2,0,none⟩=some (.int .i64 x.f0):=(zc hbox 0).trans rfl;have k1:W0.cell? ⟨g2,1,none⟩=some (.int .i64 x.f1):=(zc hbox 1).trans rfl;have ka:W0.cell? ⟨Ba,0,none⟩=some (.int .i64 a):=(zc (za HA.out hbl) 0).trans rfl;have kb:W0.cell? ⟨Bb,0,none⟩=some (.int .i64 b):=(zc (za HBb.out hbl) 0).trans rfl;clear hbox hbl hg)
     go_ret
     exact ⟨by rw [HO.out];rfl,HB0.out⟩
    ·have HO:=hhd (show zaG a b x=false from decide_eq_false (by omega))
     have f1:(b < x.f0)=False:=eq_false f
     have f2:decide (b < x.f0)=false:=decide_eq_false f
     clear e f
     try clear c c'
     go_enter Tryz.func65,Tryz.ntmps65
     go_wp2_with ((with_reducible refine zg (N:=3) rfl ?_);refine ba_ 3 #[.int .i64 x.f0,.int .i64 x.f1] 38 ?_;intro g2 hg W0 hbox hbl;have B2:=hhd hbox;have HB0:=hhd hbl;have k0:W0.cell? ⟨g2,0,none⟩=some (.int .i64 x.f0):=(zc hbox 0).trans rfl;have k1:W0.cell? ⟨g2,1,none⟩=some (.int .i64 x.f1):=(zc hbox 1).trans rfl;have ka:W0.cell? ⟨Ba,0,none⟩=some (.int .i64 a):=(zc (za HA.out hbl) 0).trans rfl;have kb:W0.cell? ⟨Bb,0,none⟩=some (.int .i64 b):=(zc (za HBb.out hbl) 0).trans rfl;clear hbox hbl hg)
     go_ret
     exact ⟨by rw [HO.out];rfl,HB0.out⟩
  ·have c2:(x.f1 < x.f0)=False:=eq_false c'
   have hx:x.f1=x.f0:=by omega
   by_cases e:x.f0 < a
   ·have HO:=hhd (show zaG a b x=true from decide_eq_true (by omega))
    have e1:(x.f0 < a)=True:=eq_true e
    have e2:decide (x.f0 < a)=true:=decide_eq_true e
    clear e
    try clear c c'
    go_enter Tryz.func65,Tryz.ntmps65
    go_wp2_with ((with_reducible refine zg (N:=3) rfl ?_);refine ba_ 3 #[.int .i64 x.f0,.int .i64 x.f1] 38 ?_;intro g2 hg W0 hbox hbl;have B2:=hhd hbox;have HB0:=hhd hbl;have k0:W0.cell? ⟨g2,0,none⟩=some (.int .i64 x.f0):=(zc hbox 0).trans rfl;have k1:W0.cell? ⟨g2,1,none⟩=some (.int .i64 x.f1):=(zc hbox 1).trans rfl;have ka:W0.cell? ⟨Ba,0,none⟩=some (.int .i64 a):=(zc (za HA.out hbl) 0).trans rfl;have kb:W0.cell? ⟨Bb,0,none⟩=some (.int .i64 b):=(zc (za HBb.out hbl) 0).trans rfl;clear hbox hbl hg)
    go_ret
    exact ⟨by rw [HO.out];rfl,HB0.out⟩
   ·have e1:(x.f0 < a)=False:=eq_false e
    have e2:decide (x.f0 < a)=false:=decide_eq_false e
    by_cases f:b < x.f0
    ·have HO:=hhd (show zaG a b x=true from decide_eq_true (by omega))
     have f1:(b < x.f0)=True:=eq_true f
     have f2:decide (b < x.f0)=true:=decide_eq_true f
     clear e f
     try clear c c'
     go_enter Tryz.func65,Tryz.ntmps65
     go_wp2_with ((with_reducible refine zg (N:=3) rfl ?_);refine ba_ 3 #[.int .i64 x.f0,.int .i64 x.f1] 38 ?_;intro g2 hg W0 hbox hbl;have B2:=hhd hbox;have HB0:=hhd hbl;have k0:W0.cell? ⟨g2,0,none⟩=some (.int .i64 x.f0):=(zc hbox 0).trans rfl;have k1:W0.cell? ⟨g2,1,none⟩=some (.int .i64 x.f1):=(zc hbox 1).trans rfl;have ka:W0.cell? ⟨Ba,0,none⟩=some (.int .i64 a):=(zc (za HA.out hbl) 0).trans rfl;have kb:W0.cell? ⟨Bb,0,none⟩=some (.int .i64 b):=(zc (za HBb.out hbl) 0).trans rfl;clear hbox hbl hg)
     go_ret
     exact ⟨by rw [HO.out];rfl,HB0.out⟩
    ·have HO:=hhd (show zaG a b x=false from decide_eq_false (by omega))
     have f1:(b < x.f0)=False:=eq_false f
     have f2:decide (b < x.f0)=false:=decide_eq_false f
     clear e f
     try clear c c'
     go_enter Tryz.func65,Tryz.ntmps65
     go_wp2_with ((with_reducible refine zg (N:=3) rfl ?_);refine ba_ 3 #[.int .i64 x.f0,.int .i64 x.f1] 38 ?_;intro g2 hg W0 hbox hbl;have B2:=hhd hbox;have HB0:=hhd hbl;have k0:W0.cell? ⟨g2,0,none⟩=some (.int .i64 x.f0):=(zc hbox 0).trans rfl;have k1:W0.cell? ⟨g2,1,none⟩=some (.int .i64 x.f1):=(zc hbox 1).trans rfl;have ka:W0.cell? ⟨Ba,0,none⟩=some (.int .i64 a):=(zc (za HA.out hbl) 0).trans rfl;have kb:W0.cell? ⟨Bb,0,none⟩=some (.int .i64 b):=(zc (za HBb.out hbl) 0).trans rfl;clear hbox hbl hg)
     go_ret
     exact ⟨by rw [HO.out];rfl,HB0.out⟩
set_option maxRecDepth 100000 in
set_option maxHeartbeats 4000000 in
theorem zkI (Ba Bb:Nat) (a b:Int) (A:Option Addr) (c:Nat) (l:List S38) (w:World) (hr:Kd.C k38 w A l.length l) (hc:l.length≤c) (ha:w.heap[Ba]?=some (.cells #[.int .i64 a] 3 (0,0))) (hb:w.heap[Bb]?=some (.cells #[.int .i64 b] 3 (0,0))) :
  Calls Tryz.prog 69 #[.slice A l.length c,.func (.func 65) #[] #[.pointer (some ⟨Ba,0,none⟩),.pointer (some ⟨Bb,0,none⟩)]] w fun e w'=>e=.returned (.int .i64 (zdj (zaG a b) l 0))∧Below w.heap.size w w':=by
 have hmax:=hr.2.1
 unfold maxLen at hmax
 have HR:=hhd hr
 have CA:=hhd ha
 have CB:=hhd hb
 clear hr ha hb
 have HB:=hhd (Below.refl w.heap.size w)
 go_enter Tryz.func69,Tryz.ntmps69
 go_wp2
 go_loopw [8] (fun s8 wr=>∃k:Nat,k≤l.length∧s8=.int .i64 k∧zdj (zaG a b) l 0=zdj (zaG a b) (l.drop k) k∧Below w.heap.size w wr) (fun i _=>l.length - (intOf i).toNat)
 case atStart=>exact ⟨0,by omega,rfl,rfl,HB.out⟩
 case round =>
  obtain ⟨k,hk,rfl,hf,hb⟩:=hrel
  have HF:=hhd hf
  have HBR:=hhd hb
  have DA:=hhd (za CA.out hb)
  have DB:=hhd (za CB.out hb)
  clear hf hb HB
  by_cases hlt:k < l.length
  ·obtain ⟨ad,rfl,h0,h1⟩:=zam HR.out (k:Int) (by omega) (by omega)
   rw [Int.toNat_natCast] at h0 h1
   replace h0:=(HBR.out.cell (World.block_lt_of_cell? w _ h0)).trans h0
   replace h1:=(HBR.out.cell (World.block_lt_of_cell? w _ h1)).trans h1
   have hd:l.drop k=zk l k :: l.drop (k+1):=by
    rw [List.drop_eq_getElem_cons hlt]
    unfold zk
    rw [Int.toNat_natCast,List.getD_eq_getElem?_getD,List.getElem?_eq_getElem hlt]
    rfl
   have HD:=hhd hd
   clear hd
   generalize zk l k=x at *
   cases hn:zaG a b x with
   | false =>
    have HN:=hhd hn
    have HX:=hhd (show zdj (zaG a b) l 0=zdj (zaG a b) (l.drop (k+1)) (k+1) by rw [HF.out,HD.out,zdj,hn];rfl)
    clear hn
    go_wp2_with (go_at_call 65;refine (zlE Ba Bb a b x _ DA.out DB.out).mono ?_;rw [HN.out];rintro e w1 ⟨rfl,hb⟩;have HB1:=hhd (zb HBR.out hb);clear hb)
    go_roundw
    case rel=>exact ⟨k+1,by omega,by go_num,HX.out,HB1.out⟩
    case measure=>simp [intOf];omega
   | true =>
    have HN:=hhd hn
    have HX:=hhd (show zdj (zaG a b) l 0=k by rw [HF.out,HD.out,zdj,hn];rfl)
    clear hn
    go_wp2_with (go_at_call 65;refine (zlE Ba Bb a b x _ DA.out DB.out).mono ?_;rw [HN.out];rintro e w1 ⟨rfl,hb⟩;have HB1:=hhd (zb HBR.out hb);clear hb)
    go_ret
    exact ⟨by rw [HX.out];rfl,HB1.out⟩
  ·obtain rfl:k=l.length:=by omega
   go_wp2
   go_ret
   exact ⟨by rw [HF.out,List.drop_length];rfl,HBR.out⟩
set_option maxRecDepth 100000 in
set_option maxHeartbeats 4000000 in
theorem ze2 (Ba Bb:Nat) (a b:Int) (A:Option Addr) (c:Nat) (l:List S38) (w:World) (hr:Kd.C k38 w A l.length l) (hc:l.length≤c) (ha:w.heap[Ba]?=some (.cells #[.int .i64 a] 3 (0,0))) (hb:w.heap[Bb]?=some (.cells #[.int .i64 b] 3 (0,0))) :
  Calls Tryz.prog 43 #[.slice A l.length c,.func (.func 65) #[] #[.pointer (some ⟨Ba,0,none⟩),.pointer (some ⟨Bb,0,none⟩)]] w fun e w'=>e=.returned (.bool (l.any (zaG a b)))∧Below w.heap.size w w':=by
 have HI:=hhd (zkI Ba Bb a b A c l w hr hc ha hb)
 have HS:=hhd (zjA (zaG a b) l 0)
 clear hr ha hb
 go_enter Tryz.func43,Tryz.ntmps43
 go_wp2_with (go_at_call 69;refine HI.out.mono ?_;rintro e w1 ⟨rfl,hb⟩)
 go_ret
 exact ⟨congrArg (fun q=>Ending.returned (.bool q)) HS.out,hb⟩
def zaj (p0 p1 p2 p3 p4:Int) (p5:Bool):Array Value:=#[.int .i64 p0,.int .i64 p1,.int .i64 p2,.int .i64 p3,.int .i64 p4,.bool p5]
set_option maxRecDepth 100000 in
set_option maxHeartbeats 4000000 in
theorem ze3 (p0 p1 p2 p3 p4:Int) (p5:Bool) (a b:Int) (A:Option Addr) (c:Nat) (l:List S38) (w:World) (hr:Kd.C k38 w A l.length l) (hc:l.length≤c) (h0:0≤p1) (h1:p1≤40) (hn:(l.length:Int)≠2^p1.toNat) :
  Calls Tryz.prog 38 #[.slice A l.length c,.agg (zaj p0 p1 p2 p3 p4 p5),.int .i64 a,.int .i64 b] w fun e w'=>e=.returned (.int .i64 3)∧Below w.heap.size w w':=by
 have hm2:(0:Int)≤2^p1.toNat∧(2:Int)^p1.toNat≤2^40:=⟨Int.pow_nonneg (by decide),zau (by omega)⟩
 have HR:=hhd hr
 have HC:=hhd hc
 clear hr hc
 have hw:IntKind.i64.wrap (2^p1.toNat)=2^p1.toNat:=by rw [zL];unfold wrap64;omega
 have hw2:wrap64 (2^p1.toNat)=2^p1.toNat:=(zL _).symm.trans hw
 have hw3:((l.length:Int) != wrap64 (2^p1.toNat))=true:=by rw [hw2];exact bne_iff_ne.mpr hn
 clear hm2 hn hw hw2
 go_enter Tryz.func38,Tryz.ntmps38
 go_wp2_with (first
  | ((with_reducible refine zg (N:=5) rfl ?_);refine zV ?hg (N:=5) ?hd (cs:=zaj p0 p1 p2 p3 p4 p5) (t:=24) ?hr ?_;(case hd=>rfl);(case hg=>rfl);(case hr=>first | (go_simp;done) | (go_simp;rfl));intro g5 hg W5 hbox hbl;have B5:=hhd hbox;have HB5:=hhd hbl;clear hbox hbl hg)
  | ((with_reducible refine zg (N:=6) rfl ?_);refine ba_ 6 #[.int .i64 a] 3 ?_;intro g6 hg W6 hbox hbl;have B6:=hhd hbox;have B56:=hhd (za B5.out hbl);have HB6:=hhd (zb HB5.out hbl);clear hbox hbl hg)
  | ((with_reducible refine zg (N:=7) rfl ?_);refine ba_ 7 #[.int .i64 b] 3 ?_;intro g7 hg W7 hbox hbl;have B7:=hhd hbox;have B67:=hhd (za B6.out hbl);have HB7:=hhd (zb HB6.out hbl);have k5:W7.cell? ⟨g5,1,none⟩=some (.int .i64 p1):=(zc (za B56.out hbl) 1).trans rfl;have R7:=hhd (Kd.C_below HR.out HB7.out);clear hbox hbl hg))
 go_ret
 exact ⟨rfl,HB7.out⟩
set_option maxRecDepth 100000 in
set_option maxHeartbeats 4000000 in
theorem zcl (v:Bool) (p0 p1 p2 p3 p4:Int) (p5:Bool) (a b:Int) (A:Option Addr) (c:Nat) (l:List S38) (w:World) (hr:Kd.C k38 w A l.length l) (hc:l.length≤c) (h0:0≤p1) (h1:p1≤40) (hn:(l.length:Int)=2^p1.toNat) (hv:l.any (zaG a b)=v) :
  Calls Tryz.prog 38 #[.slice A l.length c,.agg (zaj p0 p1 p2 p3 p4 p5),.int .i64 a,.int .i64 b] w fun e w'=>e=.returned (.int .i64 (if v then 2 else 0))∧Below w.heap.size w w':=by
 have hm2:(0:Int)≤2^p1.toNat∧(2:Int)^p1.toNat≤2^40:=⟨Int.pow_nonneg (by decide),zau (by omega)⟩
 have HR:=hhd hr
 have HC:=hhd hc
 have HV:=hhd hv
 clear hr hc hv
 have hw:IntKind.i64.wrap (2^p1.toNat)=(l.length:Int):=by rw [hn,zL];unfold wrap64;omega
 have hw2:wrap64 (2^p1.toNat)=(l.length:Int):=(zL _).symm.trans hw
 clear hm2 hn
 cases v with
 | true =>
  go_enter Tryz.func38,Tryz.ntmps38
  go_wp2_with (first
   | ((with_reducible refine zg (N:=5) rfl ?_);refine zV ?hg (N:=5) ?hd (cs:=zaj p0 p1 p2 p3 p4 p5) (t:=24) ?hr ?_;(case hd=>rfl);(case hg=>rfl);(case hr=>first | (go_simp;done) | (go_simp;rfl));intro g5 hg W5 hbox hbl;have B5:=hhd hbox;have HB5:=hhd hbl;clear hbox hbl hg)
   | ((with_reducible refine zg (N:=6) rfl ?_);refine ba_ 6 #[.int .i64 a] 3 ?_;intro g6 hg W6 hbox hbl;have B6:=hhd hbox;have B56:=hhd (za B5.out hbl);have HB6:=hhd (zb HB5.out hbl);clear hbox hbl hg)
   | ((with_reducible refine zg (N:=7) rfl ?_);refine ba_ 7 #[.int .i64 b] 3 ?_;intro g7 hg W7 hbox hbl;have B7:=hhd hbox;have B67:=hhd (za B6.out hbl);have HB7:=hhd (zb HB6.out hbl);have k5:W7.cell? ⟨g5,1,none⟩=some (.int .i64 p1):=(zc (za B56.out hbl) 1).trans rfl;have R7:=hhd (Kd.C_below HR.out HB7.out);clear hbox hbl hg)
   | (go_at_call 43;refine (ze2 g6 g7 a b A c l _ R7.out HC.out B67.out B7.out).mono ?_;rw [HV.out];rintro e W8 ⟨rfl,hb⟩;have HB8:=hhd (zb HB7.out hb);clear hb))
  go_ret
  exact ⟨rfl,HB8.out⟩
 | false =>
  go_enter Tryz.func38,Tryz.ntmps38
  go_wp2_with (first
   | ((with_reducible refine zg (N:=5) rfl ?_);refine zV ?hg (N:=5) ?hd (cs:=zaj p0 p1 p2 p3 p4 p5) (t:=24) ?hr ?_;(case hd=>rfl);(case hg=>rfl);(case hr=>first | (go_simp;done) | (go_simp;rfl));intro g5 hg W5 hbox hbl;have B5:=hhd hbox;have HB5:=hhd hbl;clear hbox hbl hg)
   | ((with_reducible refine zg (N:=6) rfl ?_);refine ba_ 6 #[.int .i64 a] 3 ?_;intro g6 hg W6 hbox hbl;have B6:=hhd hbox;have B56:=hhd (za B5.out hbl);have HB6:=hhd (zb HB5.out hbl);clear hbox hbl hg)
   | ((with_reducible refine zg (N:=7) rfl ?_);refine ba_ 7 #[.int .i64 b] 3 ?_;intro g7 hg W7 hbox hbl;have B7:=hhd hbox;have B67:=hhd (za B6.out hbl);have HB7:=hhd (zb HB6.out hbl);have k5:W7.cell? ⟨g5,1,none⟩=some (.int .i64 p1):=(zc (za B56.out hbl) 1).trans rfl;have R7:=hhd (Kd.C_below HR.out HB7.out);clear hbox hbl hg)
   | (go_at_call 43;refine (ze2 g6 g7 a b A c l _ R7.out HC.out B67.out B7.out).mono ?_;rw [HV.out];rintro e W8 ⟨rfl,hb⟩;have HB8:=hhd (zb HB7.out hb);clear hb))
  go_ret
  exact ⟨rfl,HB8.out⟩
end Go.Proofs.YteieahbadclppaaGreat.P

namespace Go.Proofs.YteieahbadclppaaGreat.P
open Go.RowKit Go.Proofs.YteieahbadclppaaGreatW.PrintWords Go.Proofs.YteieahbadclppaaGreatW.PrintLast Go.Proofs.YteieahbadclppaaGreatW.PrintMore
attribute [local go_sem] zI zJ zO zP zX zY z8 z9
set_option linter.unusedVariables false
set_option linter.unusedSimpArgs false
def sat_Bits.f (a0:Int):Option (Int×Int):=if a0=0 then (some (15,0)) else (if a0=1 then (some (31,0)) else (some (0,1)))
set_option maxHeartbeats 8000000 in
set_option maxRecDepth 100000 in
theorem sat_Bits.calls (a0:Int) (r1:Int) (r2:Int) (w:World) (h:sat_Bits.f a0=some (r1,r2)) :
  Calls Tryz.prog 41 #[.int .i64 a0] w fun e w'=>e=.returned (.tuple #[.int .i64 r1,.int .i64 r2])∧Drawn0 w w':=by
 have H:(if a0=0 then (some (15,0)) else (if a0=1 then (some (31,0)) else (some (0,1))))=some (r1,r2):=h
 clear h
 by_cases c2:a0=0
 ·rw [if_pos c2] at H
  have c2b0:(a0 == 0)=true:=beq_iff_eq.mpr c2
  have c2b1:(a0 != 0)=false:=bne_eq_false_iff_eq.mpr c2
  clear c2
  simp only [Option.some.injEq,Prod.mk.injEq] at H
  obtain ⟨rfl,rfl⟩:=H
  go_enter Tryz.func41,Tryz.ntmps41
  go_wp2
  go_ret2
  exact ⟨by first | rfl | (simp;done) | (simp [*];done),by repeat (first | exact Drawn0.refl _ | apply Drawn0.step)⟩
 ·rw [if_neg c2] at H
  have c2b0:(a0 == 0)=false:=beq_eq_false_iff_ne.mpr c2
  have c2b1:(a0 != 0)=true:=bne_iff_ne.mpr c2
  by_cases c3:a0=1
  ·rw [if_pos c3] at H
   have c3b0:(a0 == 1)=true:=beq_iff_eq.mpr c3
   have c3b1:(a0 != 1)=false:=bne_eq_false_iff_eq.mpr c3
   clear c3
   simp only [Option.some.injEq,Prod.mk.injEq] at H
   obtain ⟨rfl,rfl⟩:=H
   go_enter Tryz.func41,Tryz.ntmps41
   go_wp2
   go_ret2
   exact ⟨by first | rfl | (simp;done) | (simp [*];done),by repeat (first | exact Drawn0.refl _ | apply Drawn0.step)⟩
  ·rw [if_neg c3] at H
   have c3b0:(a0 == 1)=false:=beq_eq_false_iff_ne.mpr c3
   have c3b1:(a0 != 1)=true:=bne_iff_ne.mpr c3
   simp only [Option.some.injEq,Prod.mk.injEq] at H
   obtain ⟨rfl,rfl⟩:=H
   go_enter Tryz.func41,Tryz.ntmps41
   go_wp2
   go_ret2
   exact ⟨by first | rfl | (simp;done) | (simp [*];done),by repeat (first | exact Drawn0.refl _ | apply Drawn0.step)⟩

end Go.Proofs.YteieahbadclppaaGreat.P

