/- Part 4 of 36 of the proof: the texts that it reaches, one behind the other. No condition. -/
import Derived.Test.YteieahbadclppaaGreatKr3
import Derived.Great.BuildSlice
import Derived.Laws.CopyOwn
import Derived.Deep.QuietTactic
import Derived.BigQuiet
import Derived.Outline
import Derived.Lib.Hide
import Derived.Deep.RegionHeld3
namespace Go.Proofs.YteieahbadclppaaGreat.P
open Go.RowKit Go.Proofs.YteieahbadclppaaGreatW.PrintWords Go.Proofs.YteieahbadclppaaGreatW.PrintLast Go.Proofs.YteieahbadclppaaGreatW.PrintMore
attribute [local go_sem] zF zG zK zL
set_option linter.unusedVariables false
set_option linter.unusedSimpArgs false
section
variable {P:Program} {ops:Array Oper} {rest:List Oper} {o:Oper} {a:Act} {Q:Exit→Act→World→Prop}
theorem zN {W:World} (hgd:o.guard=none) (ty:TypeId) (x y:Operand) (ho:o.op=.store ty x y)
  (g:Nat) (cells:Array Value) (hx:a.eval x=.pointer (some ⟨g,0,none⟩)) (hy:a.eval y=.agg cells)
  (t:TypeId) (old:Array Value) (hg:W.heap[g]?=some (.cells old t (0,0))) (hi:(P.info? ty).map (·.size)=some cells.size)
  (hold:old.size=cells.size) (h1:cells.all (·.oneCell')=true)
  (h:∀w1,w1.heap[g]?=some (.cells cells t (0,0))→(∀k,k≠g→w1.heap[k]?=W.heap[k]?)→(∀B w0,B≤g→Below B w0 W→Below B w0 w1)→wpList P ops Q rest (a.put o.dst undef) w1):wpList P ops Q (o :: rest) a W :=
 wpList_store_row hgd ty x y ho g cells hx hy t old hg hi hold h1 (h _ (setRow_heap W g old cells t (0,0) hg) (fun k hk=>setRow_other W g k cells hk) (fun B w0 hB hb=>below_setRow hb hB cells))
end
theorem zw (a b:Value):(Tryz.prog.info? 38).map (·.size)=some (#[a,b]:Array Value).size:=by kernel_rfl
theorem zM (a b:Int):(#[.int .i64 a,.int .i64 b]:Array Value).all (·.oneCell')=true:=by simp [Value.oneCell']
theorem zeY {W:World} {B:Nat} {x:S38} (h:W.heap[B]?=some (.cells #[.int .i64 x.f0,.int .i64 x.f1] 38 (0,0))):Kd.C k38 W (some ⟨B,0,none⟩) [x].length [x]:=by
 refine ⟨rfl,(show 1≤9223372036854775807 by decide),fun _=>?_⟩
 refine ⟨⟨B,0,none⟩,rfl,fun j p hp=>?_⟩
 cases j with
 | zero =>
  obtain rfl:=Option.some.inj hp
  refine ⟨_,rfl,zm7 W _,fun i u hu=>?_⟩
  have hc:=za h i
  have e:(Addr.mk B 0 none).add (0*k38.sz+i)=⟨B,i,none⟩:=by rw [Nat.zero_mul,Nat.zero_add];unfold Addr.add;split <;> simp_all
  rw [e,hc,List.getElem?_toArray]
  exact hu
 | succ j=>simp at hp
def zbX (x:S38):Bool:=decide (x.f0≤2305843009213693952∧x.f1≤2305843009213693952∧-2305843009213693952≤x.f0∧-2305843009213693952≤x.f1)
theorem zcW (x:S38):cx_within.f 3 2305843009213693952 [x]=some (zbX x):=by
 have e:zk [x] 0=x:=rfl
 have hm:wrap64 (-2305843009213693952)=-2305843009213693952:=by decide +kernel
 have h1:wrap64 (0+1)=1:=by decide +kernel
 unfold cx_within.f
 simp only [cx_within.l0]
 rw [if_pos (by simp),if_pos (by decide),if_pos (by simp),e,hm,h1]
 unfold mx mn zbX
 by_cases c1:(if x.f0 < x.f1 then x.f1 else x.f0) > 2305843009213693952
 ·rw [if_pos c1]
  refine congrArg some (decide_eq_false ?_).symm
  split at c1 <;> omega
 ·rw [if_neg c1]
  by_cases c2:(if x.f1 < x.f0 then x.f1 else x.f0) < -2305843009213693952
  ·rw [if_pos c2]
   refine congrArg some (decide_eq_false ?_).symm
   split at c2 <;> omega
  ·rw [if_neg c2,if_neg (by simp)]
   refine congrArg some (decide_eq_true ?_).symm
   split at c1 <;> split at c2 <;> omega
set_option maxRecDepth 100000 in
set_option maxHeartbeats 4000000 in
theorem zjI (B:Nat) (x:S38) (w:World) (hb:w.heap[B]?=some (.cells #[.int .i64 x.f0,.int .i64 x.f1] 38 (0,0))) :
  Calls Tryz.prog 95 #[.pointer (some ⟨B,0,none⟩)] w fun e w'=>e=.returned (.agg #[.int .i64 x.f0,.int .i64 (wrap64 (-x.f1))])∧Below w.heap.size w w':=by
 have HB:=hhd hb
 clear hb
 go_enter Tryz.func95,Tryz.ntmps95
 go_wp2_with (first
  | ((with_reducible refine zf (N:=1) rfl ?_);refine zR ?hg (N:=1) ?hd (cs:=#[.int .i64 0,.int .i64 0]) (t:=38) ?hr ?_;(case hd=>rfl);(case hg=>rfl);(case hr=>rfl);intro g1 hg W0 aA I;have B0:=hhd aA;have aE:=hhd I;have L1:w.heap.size≤g1:=(by rw [hg];exact Nat.le_refl _);have k0:W0.cell? ⟨B,0,none⟩=some (.int .i64 x.f0):=(za (zd HB I) 0).trans rfl;have k1:W0.cell? ⟨B,1,none⟩=some (.int .i64 x.f1):=(za (zd HB I) 1).trans rfl;clear aA I hg)
  | ((with_reducible refine zo (t:=38) (p:=1) rfl ?_);refine zN rfl 38 _ _ rfl g1 #[.int .i64 x.f0,.int .i64 (wrap64 (-x.f1))] rfl rfl 38 #[.int .i64 0,.int .i64 0] B0.out (zw _ _) rfl (zM _ _) ?_;intro W7 hq aD aC;have B7:=hhd hq;have aG:=hhd aC;clear hq aD aC))
 refine bodyPost_ret (results_cell_row rfl _ _ g1 38 #[.int .i64 x.f0,.int .i64 (wrap64 (-x.f1))] (0,0) _ rfl B7.out Tryz.underlying38 rfl (zw _ _)) rfl ?_
 exact ⟨rfl,aG.out _ _ L1 aE.out⟩
def zal (a b:Int):Nat→Int×Int
 | 0=>(a,b)
 | k+1=>(wrap64 (-(zal a b k).2),(zal a b k).1)
def zaX (n:Int):Nat:=(Go.bits .and .i64 n 3).toNat
theorem zon (n:Int):0≤Go.bits .and .i64 n 3∧Go.bits .and .i64 n 3≤3:=by
 have e:Go.bits .and .i64 n 3=IntKind.i64.wrap (((BitVec.ofInt 64 n).toNat &&& 3:Nat):Int):=rfl
 have h:=Nat.and_le_right (n:=(BitVec.ofInt 64 n).toNat) (m:=3)
 rw [e,zD]
 generalize (BitVec.ofInt 64 n).toNat &&& 3=q at *
 unfold wrap64
 omega
theorem lr_ {P:Program} {ops:Array Oper} {rest:List Oper} {o:Oper} {a:Act} {Q:Exit→Act→World→Prop} {W:World} (N:Tmp) (hd:o.dst=some N) (ty:TypeId) {x:Operand} {g:Nat} {t:TypeId} {cs:Array Value} {d:TypeDesc} (hg:RowKit.Hid (W.heap[g]?=some (.cells cs t (0,0)))) (hu:P.underlying ty=some d) (h:wpList P ops Q rest (a.put o.dst (.agg cs)) W) (ho:o.op=.load ty x:=by rfl) (hx:a.eval x=.pointer (some ⟨g,0,none⟩):=by rfl) (hgd:o.guard=none:=by rfl) (hs:(match d with | .struct _ | .array _ _=>true | _=>false)=true:=by rfl) (hi:(P.info? ty).map (·.size)=some cs.size:=by kernel_rfl):wpList P ops Q (o :: rest) a W:=wpList_load_row hgd ty x ho g hx t cs (0,0) d hg hu hs hi h
theorem za_ {w w1:World} {g:Nat} {o:Obj} (h:RowKit.Hid (w.heap[g]?=some o)) (hb:Below w.heap.size w w1):RowKit.Hid (w1.heap[g]?=some o):=zd h hb
set_option maxRecDepth 100000 in
set_option maxHeartbeats 4000000 in
theorem zjJ (Bn B:Nat) (n:Int) (x:S38) (w w0:World) (hn:w.heap[Bn]?=some (.cells #[.int .i64 n] 3 (0,0))) (hb:w.heap[B]?=some (.cells #[.int .i64 x.f0,.int .i64 x.f1] 38 (0,0))) (hB:w0.heap.size≤B) (hw:Below w0.heap.size w0 w) :
  Calls Tryz.prog 109 #[.pointer (some ⟨Bn,0,none⟩),.pointer (some ⟨B,0,none⟩)] w fun e w'=>e=.returned (.agg #[.int .i64 (zal x.f0 x.f1 (zaX n)).1,.int .i64 (zal x.f0 x.f1 (zaX n)).2])∧Below w0.heap.size w0 w'∧∀k,k < w.heap.size→k≠B→w'.heap[k]?=w.heap[k]?:=by
 have HN:=hhd hn
 have HX:=hhd hb
 have HW:=hhd hw
 clear hn hb hw
 have h3:=zon n
 have HT:=hhd (show (zaX n:Int)=Go.bits .and .i64 n 3 by unfold zaX;omega)
 have hT3:zaX n≤3:=by unfold zaX;omega
 go_enter Tryz.func109,Tryz.ntmps109
 go_wp2_with (first
  | ((with_reducible refine zf (N:=2) rfl ?_);refine zR ?hg (N:=2) ?hd (cs:=#[.int .i64 0,.int .i64 0]) (t:=38) ?hr ?_;(case hd=>rfl);(case hg=>rfl);(case hr=>rfl);intro g1 hg W0 aA I;have B0:=hhd aA;have aE:=hhd I;have L1:w.heap.size≤g1:=(by rw [hg];exact Nat.le_refl _);have k0:W0.cell? ⟨Bn,0,none⟩=some (.int .i64 n):=(za (zd HN I) 0).trans rfl;have HX1:=za_ HX I;clear aA I hg))
 generalize Go.bits .and .i64 n 3=q at *
 generalize hK:zaX n=K at *
 have hK4:(K:Int)≤3:=by omega
 have LB:w.heap.size≤w0.heap.size∨w0.heap.size≤w.heap.size:=Nat.le_total _ _
 have hsz:=HW.out.size
 have NB:g1≠B:=by have:=zj HX;omega
 go_loopw [5] (fun s5 wr=>∃k:Nat,k≤K∧s5=.int .i64 k∧wr.heap[B]?=some (.cells #[.int .i64 (zal x.f0 x.f1 k).1,.int .i64 (zal x.f0 x.f1 k).2] 38 (0,0))∧wr.heap[g1]?=some (.cells #[.int .i64 0,.int .i64 0] 38 (0,0))∧Below w0.heap.size w0 wr∧(∀j,j < w.heap.size→j≠B→wr.heap[j]?=w.heap[j]?)) (fun i _=>K - (intOf i).toNat)
 case atStart=>exact ⟨0,by omega,rfl,HX1.out,B0.out,HW.out.trans (aE.out.mono hsz),fun j hj _=>aE.out.block j hj⟩
 case round =>
  obtain ⟨k,hk,rfl,hBk,hgk,hbw,hkeep⟩:=hrel
  have c0:wr.cell? ⟨B,0,none⟩=some (.int .i64 (zal x.f0 x.f1 k).1):=(za hBk 0).trans rfl
  have c1:wr.cell? ⟨B,1,none⟩=some (.int .i64 (zal x.f0 x.f1 k).2):=(za hBk 1).trans rfl
  have f0:=zh hBk 0
  have f1:=zh hBk 1
  have HBK:=hhd hBk
  have HGK:=hhd hgk
  have HBW:=hhd hbw
  have HKP:=hhd hkeep
  clear hBk hgk hbw hkeep
  have HQ:=HT.out
  clear HT
  by_cases hlt:k < K
  ·have d1:decide ((k:Int) < q)=true:=decide_eq_true (by omega)
   have hTS:=hhd (show zal x.f0 x.f1 (k+1)=(wrap64 (-(zal x.f0 x.f1 k).2),(zal x.f0 x.f1 k).1) from rfl)
   clear HQ
   go_wp2
   go_roundw
   case rel=>exact ⟨k+1,by omega,by go_num,by rw [hTS.out];exact zQ (zQ HBK.out 0 _ rfl) 1 _ rfl,(Below.heap_setCell _ _ _ _ NB).trans ((Below.heap_setCell _ _ _ _ NB).trans HGK.out),(HBW.out.setCell (p:=⟨B,0,none⟩) hB _).setCell (p:=⟨B,1,none⟩) hB _,fun j hj hne=>(Below.heap_setCell _ _ _ _ hne).trans ((Below.heap_setCell _ _ _ _ hne).trans (HKP.out j hj hne))⟩
   case measure=>simp [intOf];omega
  ·obtain rfl:k=K:=by omega
   have d1:decide ((k:Int) < q)=false:=decide_eq_false (by omega)
   clear HQ
   go_wp2_with (first
    | ((with_reducible refine zf (N:=14) rfl ?_);refine lr_ 14 rfl 38 HBK Tryz.underlying38 ?_)
    | ((with_reducible refine zo (t:=38) (p:=2) rfl ?_);refine zN rfl 38 _ _ rfl g1 #[.int .i64 (zal x.f0 x.f1 k).1,.int .i64 (zal x.f0 x.f1 k).2] rfl rfl 38 #[.int .i64 0,.int .i64 0] HGK.out (zw _ _) rfl (zM _ _) ?_;intro W7 hq aC aD;have B7:=hhd hq;have aG:=hhd aC;have aH:=hhd aD;clear hq aC aD))
   refine bodyPost_ret (results_cell_row rfl _ _ g1 38 #[.int .i64 (zal x.f0 x.f1 k).1,.int .i64 (zal x.f0 x.f1 k).2] (0,0) _ rfl B7.out Tryz.underlying38 rfl (zw _ _)) rfl ?_
   have HKK:=hK
   exact ⟨by rw [HKK],aH.out _ _ (by omega) HBW.out,fun j hj hne=>(aG.out j (by omega)).trans (HKP.out j hj hne)⟩
theorem ba_ {P:Program} {ops:Array Oper} {rest:List Oper} {o:Oper} {a:Act} {Q:Exit→Act→World→Prop} {W:World} (N:Tmp) (hd:o.dst=some N) (cs:Array Value) (t:TypeId) (h:∀g,g=W.heap.size→∀w1,w1.heap[g]?=some (.cells cs t (0,0))→Below W.heap.size W w1→wpList P ops Q rest (a.put o.dst (.pointer (some ⟨g,0,none⟩))) w1) (hgd:o.guard=none:=by rfl) (hrun:(execOp a.eval o).run P W=.ok (.value (.pointer (some ⟨W.heap.size,0,none⟩))) (W.alloc (.cells cs t (0,0))):=by first | (go_simp;done) | (go_simp;rfl)):wpList P ops Q (o :: rest) a W:=zR hgd hd hrun h
theorem zs_ {w W w2:World} (h:RowKit.Hid (Below w.heap.size w W)) (k:Below W.heap.size W w2):RowKit.Hid (Below w.heap.size w w2):=zb h.out k
set_option maxRecDepth 100000 in
set_option maxHeartbeats 4000000 in
theorem zg6 (F:Value) (w:World) :
  Calls Tryz.prog 93 #[.bool false,F] w fun e w'=>e=.returned (.tuple #[.agg #[.int .i64 0,.int .i64 0],.int .i64 2])∧Below w.heap.size w w':=by
 go_enter Tryz.func93,Tryz.ntmps93
 go_wp2_with (first
  | ((with_reducible refine zf (N:=4) rfl ?_);refine ba_ 4 rfl #[.int .i64 0,.int .i64 0] 38 ?_;intro g4 hg W4 I aA;have B4:=hhd I;have aE:=hhd aA;have L4:w.heap.size≤g4:=(by rw [hg];exact Nat.le_refl _);clear I aA hg)
  | ((with_reducible refine zf (N:=6) rfl ?_);refine ba_ 6 rfl #[.int .i64 0,.int .i64 0] 38 ?_;intro g6 hg W6 I aA;have B6:=hhd I;have B46:=za_ B4 aA;have aG:=zs_ aE aA;clear I aA hg)
  | ((with_reducible refine zf (N:=9) rfl ?_);refine lr_ 9 rfl 38 B6 Tryz.underlying38 ?_)
  | ((with_reducible refine zo (t:=38) (p:=4) rfl ?_);refine zN rfl 38 _ _ rfl g4 #[.int .i64 0,.int .i64 0] rfl rfl 38 #[.int .i64 0,.int .i64 0] B46.out (zw _ _) rfl (zM _ _) ?_;intro W7 hq aD aC;have B7:=hhd hq;have aH:=hhd aC;clear hq aD aC))
 refine bodyPost_ret (zW rfl _ _ g4 38 #[.int .i64 0,.int .i64 0] (0,0) _ rfl B7.out Tryz.underlying38 rfl (zw _ _)) rfl ?_
 exact ⟨rfl,aH.out _ _ L4 aG.out⟩
set_option maxRecDepth 100000 in
set_option maxHeartbeats 4000000 in
theorem zi2 (B:Nat) (x:S38) (w:World) (hb:w.heap[B]?=some (.cells #[.int .i64 x.f0,.int .i64 x.f1] 38 (0,0))) :
  Calls Tryz.prog 93 #[.bool true,.func (.func 95) #[] #[.pointer (some ⟨B,0,none⟩)]] w fun e w'=>e=.returned (.tuple #[.agg #[.int .i64 x.f0,.int .i64 (wrap64 (-x.f1))],.int .i64 0])∧Below w.heap.size w w':=by
 have HX:=hhd hb
 clear hb
 go_enter Tryz.func93,Tryz.ntmps93
 go_wp2_with (first
  | ((with_reducible refine zf (N:=4) rfl ?_);refine ba_ 4 rfl #[.int .i64 0,.int .i64 0] 38 ?_;intro g4 hg W4 I aC;have B4:=hhd I;have aD:=hhd aC;have L4:w.heap.size≤g4:=(by rw [hg];exact Nat.le_refl _);clear I aC hg)
  | (go_at_call 95;refine (zjI B x _ (zd HX aD)).mono ?_;rintro e W5 ⟨rfl,hb⟩;have B5:=za_ B4 hb;have aG:=zs_ aD hb;clear hb)
  | ((with_reducible refine zo (t:=38) (p:=4) rfl ?_);refine zN rfl 38 _ _ rfl g4 #[.int .i64 x.f0,.int .i64 (wrap64 (-x.f1))] rfl rfl 38 #[.int .i64 0,.int .i64 0] B5.out (zw _ _) rfl (zM _ _) ?_;intro W7 hq aE aA;have B7:=hhd hq;have aH:=hhd aA;clear hq aE aA))
 refine bodyPost_ret (zW rfl _ _ g4 38 #[.int .i64 x.f0,.int .i64 (wrap64 (-x.f1))] (0,0) _ rfl B7.out Tryz.underlying38 rfl (zw _ _)) rfl ?_
 exact ⟨rfl,aH.out _ _ L4 aG.out⟩
set_option maxRecDepth 100000 in
set_option maxHeartbeats 4000000 in
theorem zi3 (Bn B:Nat) (n:Int) (x:S38) (w w0:World) (hn:w.heap[Bn]?=some (.cells #[.int .i64 n] 3 (0,0))) (hb:w.heap[B]?=some (.cells #[.int .i64 x.f0,.int .i64 x.f1] 38 (0,0))) (hB:w0.heap.size≤B) (hw:Below w0.heap.size w0 w) :
  Calls Tryz.prog 93 #[.bool true,.func (.func 109) #[] #[.pointer (some ⟨Bn,0,none⟩),.pointer (some ⟨B,0,none⟩)]] w fun e w'=>e=.returned (.tuple #[.agg #[.int .i64 (zal x.f0 x.f1 (zaX n)).1,.int .i64 (zal x.f0 x.f1 (zaX n)).2],.int .i64 0])∧Below w0.heap.size w0 w'∧∀k,k < w.heap.size→k≠B→w'.heap[k]?=w.heap[k]?:=by
 have HX:=hhd hb
 have HN:=hhd hn
 have HW:=hhd hw
 have hsz:=hw.size
 have hBl:=zj hb
 clear hb hn hw
 generalize hT:zal x.f0 x.f1 (zaX n)=T at *
 have HTT:=hhd hT
 clear hT
 go_enter Tryz.func93,Tryz.ntmps93
 go_wp2_with (first
  | ((with_reducible refine zf (N:=4) rfl ?_);refine ba_ 4 rfl #[.int .i64 0,.int .i64 0] 38 ?_;intro g4 hg W4 aA aE;have B4:=hhd aA;have I:=hhd aE;have L4:w.heap.size≤g4:=(by rw [hg];exact Nat.le_refl _);clear aA aE hg)
  | (go_at_call 109;refine (zjJ Bn B n x _ w0 (zd HN I) (zd HX I) hB (HW.out.trans (I.out.mono hsz))).mono ?_;rw [HTT.out];rintro e W5 ⟨rfl,hb,hk⟩;have B5:=hhd ((hk g4 (zj B4) (by omega)).trans B4.out);have aG:=hhd hb;have HK5:=hhd (fun k hk1 hk2=>(hk k (Nat.lt_of_lt_of_le hk1 I.out.size) hk2).trans (I.out.block k hk1));clear hb hk)
  | ((with_reducible refine zo (t:=38) (p:=4) rfl ?_);refine zN rfl 38 _ _ rfl g4 #[.int .i64 T.1,.int .i64 T.2] rfl rfl 38 #[.int .i64 0,.int .i64 0] B5.out (zw _ _) rfl (zM _ _) ?_;intro W7 hq aC aD;have B7:=hhd hq;have aH:=hhd aC;have aI:=hhd aD;clear hq aC aD))
 refine bodyPost_ret (zW rfl _ _ g4 38 #[.int .i64 T.1,.int .i64 T.2] (0,0) _ rfl B7.out Tryz.underlying38 rfl (zw _ _)) rfl ?_
 exact ⟨rfl,aI.out _ _ (by omega) aG.out,fun k hk1 hk2=>(aH.out k (by omega)).trans (HK5.out k hk1 hk2)⟩
set_option maxRecDepth 100000 in
set_option maxHeartbeats 4000000 in
theorem zfk (x:S38) (hn:zbX x=true) (w:World) :
  Calls Tryz.prog 58 #[.agg #[.int .i64 x.f0,.int .i64 x.f1]] w fun e w'=>e=.returned (.tuple #[.agg #[.int .i64 x.f0,.int .i64 (wrap64 (-x.f1))],.int .i64 0])∧Below w.heap.size w w':=by
 have HW:=hhd (hn ▸ zcW x)
 clear hn
 go_enter Tryz.func58,Tryz.ntmps58
 go_wp2_with (first
  | ((with_reducible refine zf (N:=1) rfl ?_);refine ba_ 1 rfl #[.int .i64 x.f0,.int .i64 x.f1] 38 ?_;intro g1 hg W1 I aA;have B1:=hhd I;have aD:=hhd aA;clear I aA hg)
  | ((with_reducible refine zf (N:=2) rfl ?_);refine ba_ 2 rfl #[.int .i64 0,.int .i64 0] 38 ?_;intro g2 hg W2 I aA;have B2:=hhd I;have B21:=za_ B1 aA;have L2:w.heap.size≤g2:=(by rw [hg];exact aD.out.size);have aG:=zs_ aD aA;clear I aA hg)
  | ((with_reducible refine zf (N:=4) rfl ?_);refine lr_ 4 rfl 38 B21 Tryz.underlying38 ?_)
  | (go_at_call 94;refine (cx_within.calls 3 2305843009213693952 (some ⟨W2.heap.size,0,none⟩) 1 [x] true _ (zeY (zbb W2 _)) (Nat.le_refl 1) HW.out).mono ?_;rintro e W3 ⟨rfl,hb⟩;have B31:=hhd (zd (zm B21 _) hb);have B32:=hhd (zd (zm B2 _) hb);have aH:=hhd (zb (ze aG.out _) hb);clear hb)
  | (go_at_call 93;refine (zi2 g1 x _ B31.out).mono ?_;rintro e W4 ⟨rfl,hb⟩;have B42:=za_ B32 hb;have aI:=zs_ aH hb;clear hb)
  | ((with_reducible refine zo (t:=38) (p:=2) rfl ?_);refine zN rfl 38 _ _ rfl g2 #[.int .i64 x.f0,.int .i64 (wrap64 (-x.f1))] rfl rfl 38 #[.int .i64 0,.int .i64 0] B42.out (zw _ _) rfl (zM _ _) ?_;intro W7 hq aE aC;have B7:=hhd hq;have aJ:=hhd aC;clear hq aE aC))
 refine bodyPost_ret (zW rfl _ _ g2 38 #[.int .i64 x.f0,.int .i64 (wrap64 (-x.f1))] (0,0) _ rfl B7.out Tryz.underlying38 rfl (zw _ _)) rfl ?_
 exact ⟨rfl,aJ.out _ _ L2 aI.out⟩
set_option maxRecDepth 100000 in
set_option maxHeartbeats 4000000 in
theorem zmi (x:S38) (hn:zbX x=false) (w:World) :
  Calls Tryz.prog 58 #[.agg #[.int .i64 x.f0,.int .i64 x.f1]] w fun e w'=>e=.returned (.tuple #[.agg #[.int .i64 0,.int .i64 0],.int .i64 2])∧Below w.heap.size w w':=by
 have HW:=hhd (hn ▸ zcW x)
 clear hn
 go_enter Tryz.func58,Tryz.ntmps58
 go_wp2_with (first
  | ((with_reducible refine zf (N:=1) rfl ?_);refine ba_ 1 rfl #[.int .i64 x.f0,.int .i64 x.f1] 38 ?_;intro g1 hg W1 I aA;have B1:=hhd I;have aD:=hhd aA;clear I aA hg)
  | ((with_reducible refine zf (N:=2) rfl ?_);refine ba_ 2 rfl #[.int .i64 0,.int .i64 0] 38 ?_;intro g2 hg W2 I aA;have B2:=hhd I;have B21:=za_ B1 aA;have L2:w.heap.size≤g2:=(by rw [hg];exact aD.out.size);have aG:=zs_ aD aA;clear I aA hg)
  | ((with_reducible refine zf (N:=4) rfl ?_);refine lr_ 4 rfl 38 B21 Tryz.underlying38 ?_)
  | (go_at_call 94;refine (cx_within.calls 3 2305843009213693952 (some ⟨W2.heap.size,0,none⟩) 1 [x] false _ (zeY (zbb W2 _)) (Nat.le_refl 1) HW.out).mono ?_;rintro e W3 ⟨rfl,hb⟩;have B31:=hhd (zd (zm B21 _) hb);have B32:=hhd (zd (zm B2 _) hb);have aH:=hhd (zb (ze aG.out _) hb);clear hb)
  | (go_at_call 93;refine (zg6 _ _).mono ?_;rintro e W4 ⟨rfl,hb⟩;have B42:=za_ B32 hb;have aI:=zs_ aH hb;clear hb)
  | ((with_reducible refine zo (t:=38) (p:=2) rfl ?_);refine zN rfl 38 _ _ rfl g2 #[.int .i64 0,.int .i64 0] rfl rfl 38 #[.int .i64 0,.int .i64 0] B42.out (zw _ _) rfl (zM _ _) ?_;intro W7 hq aE aC;have B7:=hhd hq;have aJ:=hhd aC;clear hq aE aC))
 refine bodyPost_ret (zW rfl _ _ g2 38 #[.int .i64 0,.int .i64 0] (0,0) _ rfl B7.out Tryz.underlying38 rfl (zw _ _)) rfl ?_
 exact ⟨rfl,aJ.out _ _ L2 aI.out⟩
set_option maxRecDepth 100000 in
set_option maxHeartbeats 4000000 in
theorem zeb (x:S38) (n:Int) (hn:zbX x=true) (w:World) :
  Calls Tryz.prog 96 #[.agg #[.int .i64 x.f0,.int .i64 x.f1],.int .i64 n] w fun e w'=>e=.returned (.tuple #[.agg #[.int .i64 (zal x.f0 x.f1 (zaX n)).1,.int .i64 (zal x.f0 x.f1 (zaX n)).2],.int .i64 0])∧Below w.heap.size w w':=by
 have HW:=hhd (hn ▸ zcW x)
 clear hn
 generalize hT:zal x.f0 x.f1 (zaX n)=T at *
 have HTT:=hhd hT
 clear hT
 go_enter Tryz.func96,Tryz.ntmps96
 go_wp2_with (first
  | ((with_reducible refine zf (N:=2) rfl ?_);refine ba_ 2 rfl #[.int .i64 x.f0,.int .i64 x.f1] 38 ?_;intro g2 hg W1 I aA;have B2:=hhd I;have aG:=hhd aA;have L2:w.heap.size≤g2:=(by rw [hg];exact Nat.le_refl _);clear I aA hg)
  | ((with_reducible refine zf (N:=3) rfl ?_);refine ba_ 3 rfl #[.int .i64 n] 3 ?_;intro g3 hg W2 I aA;have B3:=hhd I;have B21:=za_ B2 aA;have aD:=zs_ aG aA;clear I aA hg)
  | ((with_reducible refine zf (N:=4) rfl ?_);refine ba_ 4 rfl #[.int .i64 0,.int .i64 0] 38 ?_;intro g4 hg W3 I aA;have B4:=hhd I;have B22:=za_ B21 aA;have B33:=za_ B3 aA;have N24:g4≠g2:=(by rw [hg];exact Nat.ne_of_gt (zj B21));have L4:w.heap.size≤g4:=(by rw [hg];exact aD.out.size);have aH:=zs_ aD aA;clear I aA hg)
  | ((with_reducible refine zf (N:=6) rfl ?_);refine lr_ 6 rfl 38 B22 Tryz.underlying38 ?_)
  | (go_at_call 94;refine (cx_within.calls 3 2305843009213693952 (some ⟨W3.heap.size,0,none⟩) 1 [x] true _ (zeY (zbb W3 _)) (Nat.le_refl 1) HW.out).mono ?_;rintro e W5 ⟨rfl,hb⟩;have C2:=hhd (zd (zm B22 _) hb);have C3:=hhd (zd (zm B33 _) hb);have C4:=hhd (zd (zm B4 _) hb);have aI:=hhd (zb (ze aH.out _) hb);clear hb)
  | (go_at_call 93;refine (zi3 g3 g2 n x _ w C3.out C2.out L2 aI.out).mono ?_;rw [HTT.out];rintro e W6 ⟨rfl,hb,hk⟩;have D4:=hhd ((hk g4 (zj C4) N24).trans C4.out);have aJ:=hhd hb;clear hb hk)
  | ((with_reducible refine zo (t:=38) (p:=4) rfl ?_);refine zN rfl 38 _ _ rfl g4 #[.int .i64 T.1,.int .i64 T.2] rfl rfl 38 #[.int .i64 0,.int .i64 0] D4.out (zw _ _) rfl (zM _ _) ?_;intro W7 hq aE aC;have B7:=hhd hq;have aK:=hhd aC;clear hq aE aC))
 refine bodyPost_ret (zW rfl _ _ g4 38 #[.int .i64 T.1,.int .i64 T.2] (0,0) _ rfl B7.out Tryz.underlying38 rfl (zw _ _)) rfl ?_
 exact ⟨rfl,aK.out _ _ L4 aJ.out⟩
set_option maxRecDepth 100000 in
set_option maxHeartbeats 4000000 in
theorem zmj (x:S38) (n:Int) (hn:zbX x=false) (w:World) :
  Calls Tryz.prog 96 #[.agg #[.int .i64 x.f0,.int .i64 x.f1],.int .i64 n] w fun e w'=>e=.returned (.tuple #[.agg #[.int .i64 0,.int .i64 0],.int .i64 2])∧Below w.heap.size w w':=by
 have HW:=hhd (hn ▸ zcW x)
 clear hn
 go_enter Tryz.func96,Tryz.ntmps96
 go_wp2_with (first
  | ((with_reducible refine zf (N:=2) rfl ?_);refine ba_ 2 rfl #[.int .i64 x.f0,.int .i64 x.f1] 38 ?_;intro g2 hg W1 I aA;have B2:=hhd I;have aG:=hhd aA;have L2:w.heap.size≤g2:=(by rw [hg];exact Nat.le_refl _);clear I aA hg)
  | ((with_reducible refine zf (N:=3) rfl ?_);refine ba_ 3 rfl #[.int .i64 n] 3 ?_;intro g3 hg W2 I aA;have B3:=hhd I;have B21:=za_ B2 aA;have aD:=zs_ aG aA;clear I aA hg)
  | ((with_reducible refine zf (N:=4) rfl ?_);refine ba_ 4 rfl #[.int .i64 0,.int .i64 0] 38 ?_;intro g4 hg W3 I aA;have B4:=hhd I;have B22:=za_ B21 aA;have B33:=za_ B3 aA;have N24:g4≠g2:=(by rw [hg];exact Nat.ne_of_gt (zj B21));have L4:w.heap.size≤g4:=(by rw [hg];exact aD.out.size);have aH:=zs_ aD aA;clear I aA hg)
  | ((with_reducible refine zf (N:=6) rfl ?_);refine lr_ 6 rfl 38 B22 Tryz.underlying38 ?_)
  | (go_at_call 94;refine (cx_within.calls 3 2305843009213693952 (some ⟨W3.heap.size,0,none⟩) 1 [x] false _ (zeY (zbb W3 _)) (Nat.le_refl 1) HW.out).mono ?_;rintro e W5 ⟨rfl,hb⟩;have C2:=hhd (zd (zm B22 _) hb);have C3:=hhd (zd (zm B33 _) hb);have C4:=hhd (zd (zm B4 _) hb);have aI:=hhd (zb (ze aH.out _) hb);clear hb)
  | (go_at_call 93;refine (zg6 _ _).mono ?_;rintro e W6 ⟨rfl,hb⟩;have D4:=za_ C4 hb;have aJ:=zs_ aI hb;clear hb)
  | ((with_reducible refine zo (t:=38) (p:=4) rfl ?_);refine zN rfl 38 _ _ rfl g4 #[.int .i64 0,.int .i64 0] rfl rfl 38 #[.int .i64 0,.int .i64 0] D4.out (zw _ _) rfl (zM _ _) ?_;intro W7 hq aE aC;have B7:=hhd hq;have aK:=hhd aC;clear hq aE aC))
 refine bodyPost_ret (zW rfl _ _ g4 38 #[.int .i64 0,.int .i64 0] (0,0) _ rfl B7.out Tryz.underlying38 rfl (zw _ _)) rfl ?_
 exact ⟨rfl,aK.out _ _ L4 aJ.out⟩

end Go.Proofs.YteieahbadclppaaGreat.P

namespace Go.Proofs.YteieahbadclppaaGreat.P
open Go.RowKit Go.Proofs.YteieahbadclppaaGreatW.PrintWords Go.Proofs.YteieahbadclppaaGreatW.PrintLast Go.Proofs.YteieahbadclppaaGreatW.PrintMore
attribute [local go_sem] zF zG zK zL
set_option linter.unusedVariables false
set_option linter.unusedSimpArgs false
def inB (m:Int) (x:S38):Bool:=decide (x.f0≤m∧x.f1≤m∧-m≤x.f0∧-m≤x.f1)
theorem zgw (m:Int) (hm0:0≤m) (hm1:m≤2305843009213693952) (x:S38):cx_within.f 3 m [x]=some (inB m x):=by
 have e:zk [x] 0=x:=rfl
 have hm:wrap64 (-m)=-m:=by unfold wrap64;omega
 have h1:wrap64 (0+1)=1:=by decide +kernel
 unfold cx_within.f
 simp only [cx_within.l0]
 rw [if_pos (by simp),if_pos (by decide),if_pos (by simp),e,hm,h1]
 unfold mx mn inB
 by_cases c1:(if x.f0 < x.f1 then x.f1 else x.f0) > m
 ·rw [if_pos c1]
  refine congrArg some (decide_eq_false ?_).symm
  split at c1 <;> omega
 ·rw [if_neg c1]
  by_cases c2:(if x.f1 < x.f0 then x.f1 else x.f0) < -m
  ·rw [if_pos c2]
   refine congrArg some (decide_eq_false ?_).symm
   split at c2 <;> omega
  ·rw [if_neg c2,if_neg (by simp)]
   refine congrArg some (decide_eq_true ?_).symm
   split at c1 <;> split at c2 <;> omega
def zbx (x y:S38):Int:=wrap64 (wrap64 (x.f0*y.f0) - wrap64 (x.f1*y.f1))
def zby (x y:S38):Int:=wrap64 (wrap64 (x.f0*y.f1)+wrap64 (x.f1*y.f0))
set_option maxRecDepth 100000 in
set_option maxHeartbeats 4000000 in
theorem zi4 (Bx By:Nat) (x y:S38) (w:World) (hx:w.heap[Bx]?=some (.cells #[.int .i64 x.f0,.int .i64 x.f1] 38 (0,0))) (hy:w.heap[By]?=some (.cells #[.int .i64 y.f0,.int .i64 y.f1] 38 (0,0))) :
  Calls Tryz.prog 112 #[.pointer (some ⟨Bx,0,none⟩),.pointer (some ⟨By,0,none⟩)] w fun e w'=>e=.returned (.agg #[.int .i64 (zbx x y),.int .i64 (zby x y)])∧Below w.heap.size w w':=by
 have HX:=hhd hx
 have HY:=hhd hy
 clear hx hy
 have HV:=hhd (show (zbx x y=wrap64 (wrap64 (x.f0*y.f0) - wrap64 (x.f1*y.f1)))∧(zby x y=wrap64 (wrap64 (x.f0*y.f1)+wrap64 (x.f1*y.f0))) from ⟨rfl,rfl⟩)
 go_enter Tryz.func112,Tryz.ntmps112
 go_wp2_with (first
  | ((with_reducible refine zf (N:=2) rfl ?_);refine zR ?hg (N:=2) ?hd (cs:=#[.int .i64 0,.int .i64 0]) (t:=38) ?hr ?_;(case hd=>rfl);(case hg=>rfl);(case hr=>rfl);intro g2 hg W0 aA I;have B0:=hhd aA;have aE:=hhd I;have L2:w.heap.size≤g2:=(by rw [hg];exact Nat.le_refl _);have k0:W0.cell? ⟨Bx,0,none⟩=some (.int .i64 x.f0):=(za (zd HX I) 0).trans rfl;have k1:W0.cell? ⟨Bx,1,none⟩=some (.int .i64 x.f1):=(za (zd HX I) 1).trans rfl;have k2:W0.cell? ⟨By,0,none⟩=some (.int .i64 y.f0):=(za (zd HY I) 0).trans rfl;have k3:W0.cell? ⟨By,1,none⟩=some (.int .i64 y.f1):=(za (zd HY I) 1).trans rfl;clear aA I hg)
  | ((with_reducible refine zo (t:=38) (p:=2) rfl ?_);refine zN rfl 38 _ _ rfl g2 #[.int .i64 (wrap64 (wrap64 (x.f0*y.f0) - wrap64 (x.f1*y.f1))),.int .i64 (wrap64 (wrap64 (x.f0*y.f1)+wrap64 (x.f1*y.f0)))] rfl rfl 38 #[.int .i64 0,.int .i64 0] B0.out (zw _ _) rfl (zM _ _) ?_;intro W7 hq aD aC;have B7:=hhd hq;have aG:=hhd aC;clear hq aD aC))
 refine bodyPost_ret (results_cell_row rfl _ _ g2 38 #[.int .i64 (wrap64 (wrap64 (x.f0*y.f0) - wrap64 (x.f1*y.f1))),.int .i64 (wrap64 (wrap64 (x.f0*y.f1)+wrap64 (x.f1*y.f0)))] (0,0) _ rfl B7.out Tryz.underlying38 rfl (zw _ _)) rfl ?_
 exact ⟨rfl,aG.out _ _ L2 aE.out⟩
set_option maxRecDepth 100000 in
set_option maxHeartbeats 4000000 in
theorem zic (Bx By:Nat) (x y:S38) (w:World) (hx:w.heap[Bx]?=some (.cells #[.int .i64 x.f0,.int .i64 x.f1] 38 (0,0))) (hy:w.heap[By]?=some (.cells #[.int .i64 y.f0,.int .i64 y.f1] 38 (0,0))) :
  Calls Tryz.prog 93 #[.bool true,.func (.func 112) #[] #[.pointer (some ⟨Bx,0,none⟩),.pointer (some ⟨By,0,none⟩)]] w fun e w'=>e=.returned (.tuple #[.agg #[.int .i64 (zbx x y),.int .i64 (zby x y)],.int .i64 0])∧Below w.heap.size w w':=by
 have HX:=hhd hx
 have HY:=hhd hy
 clear hx hy
 go_enter Tryz.func93,Tryz.ntmps93
 go_wp2_with (first
  | ((with_reducible refine zf (N:=4) rfl ?_);refine ba_ 4 rfl #[.int .i64 0,.int .i64 0] 38 ?_;intro g4 hg W4 I aD;have B4:=hhd I;have aA:=hhd aD;have L4:w.heap.size≤g4:=(by rw [hg];exact Nat.le_refl _);clear I aD hg)
  | (go_at_call 112;refine (zi4 Bx By x y _ (zd HX aA) (zd HY aA)).mono ?_;rintro e W5 ⟨rfl,hb⟩;have B5:=za_ B4 hb;have aG:=zs_ aA hb;clear hb)
  | ((with_reducible refine zo (t:=38) (p:=4) rfl ?_);refine zN rfl 38 _ _ rfl g4 #[.int .i64 (zbx x y),.int .i64 (zby x y)] rfl rfl 38 #[.int .i64 0,.int .i64 0] B5.out (zw _ _) rfl (zM _ _) ?_;intro W7 hq aE aC;have B7:=hhd hq;have aH:=hhd aC;clear hq aE aC))
 refine bodyPost_ret (zW rfl _ _ g4 38 #[.int .i64 (zbx x y),.int .i64 (zby x y)] (0,0) _ rfl B7.out Tryz.underlying38 rfl (zw _ _)) rfl ?_
 exact ⟨rfl,aH.out _ _ L4 aG.out⟩
set_option maxRecDepth 100000 in
set_option maxHeartbeats 8000000 in
theorem zeD (x y:S38) (hx:inB 2147483648 x=true) (hy:inB 1073741824 y=true) (w:World) :
  Calls Tryz.prog 104 #[.agg #[.int .i64 x.f0,.int .i64 x.f1],.agg #[.int .i64 y.f0,.int .i64 y.f1]] w fun e w'=>e=.returned (.tuple #[.agg #[.int .i64 (zbx x y),.int .i64 (zby x y)],.int .i64 0])∧Below w.heap.size w w':=by
 have HX:=hhd (show cx_within.f 3 2147483648 [x]=some true from hx ▸ zgw 2147483648 (by decide) (by decide) x)
 have HY:=hhd (show cx_within.f 3 1073741824 [y]=some true from hy ▸ zgw 1073741824 (by decide) (by decide) y)
 clear hx hy
 go_enter Tryz.func104,Tryz.ntmps104
 go_wp2_with (first
  | ((with_reducible refine zf (N:=2) rfl ?_);refine ba_ 2 rfl #[.int .i64 x.f0,.int .i64 x.f1] 38 ?_;intro g2 hg W1 I aA;have B2:=hhd I;have aG:=hhd aA;clear I aA hg)
  | ((with_reducible refine zf (N:=3) rfl ?_);refine ba_ 3 rfl #[.int .i64 y.f0,.int .i64 y.f1] 38 ?_;intro g3 hg W2 I aA;have B3:=hhd I;have B21:=za_ B2 aA;have aD:=zs_ aG aA;clear I aA hg)
  | ((with_reducible refine zf (N:=4) rfl ?_);refine ba_ 4 rfl #[.int .i64 0,.int .i64 0] 38 ?_;intro g4 hg W3 I aA;have B4:=hhd I;have B22:=za_ B21 aA;have B32:=za_ B3 aA;have L4:w.heap.size≤g4:=(by rw [hg];exact aD.out.size);have aH:=zs_ aD aA;clear I aA hg)
  | ((with_reducible refine zf (N:=7) rfl ?_);refine lr_ 7 rfl 38 B22 Tryz.underlying38 ?_)
  | (go_at_call 94;first
   | (refine (cx_within.calls 3 1073741824 (some ⟨W5.heap.size,0,none⟩) 1 [y] true _ (zeY (zbb W5 _)) (Nat.le_refl 1) HY.out).mono ?_;rintro e W6 ⟨rfl,hb⟩;have D2:=hhd (zd (zm C2 _) hb);have D3:=hhd (zd (zm C3 _) hb);have D4:=hhd (zd (zm C4 _) hb);have aI:=hhd (zb (ze aJ.out _) hb);clear hb)
   | (refine (cx_within.calls 3 2147483648 (some ⟨W3.heap.size,0,none⟩) 1 [x] true _ (zeY (zbb W3 _)) (Nat.le_refl 1) HX.out).mono ?_;rintro e W5 ⟨rfl,hb⟩;have C2:=hhd (zd (zm B22 _) hb);have C3:=hhd (zd (zm B32 _) hb);have C4:=hhd (zd (zm B4 _) hb);have aJ:=hhd (zb (ze aH.out _) hb);have k0:W5.cell? ⟨g3,0,none⟩=some (.int .i64 y.f0):=(za C3 0).trans rfl;have k1:W5.cell? ⟨g3,1,none⟩=some (.int .i64 y.f1):=(za C3 1).trans rfl;clear hb))
  | (go_at_call 93;refine (zic g2 g3 x y _ D2.out D3.out).mono ?_;rintro e W7 ⟨rfl,hb⟩;have E4:=za_ D4 hb;have aK:=zs_ aI hb;clear hb)
  | ((with_reducible refine zo (t:=38) (p:=4) rfl ?_);refine zN rfl 38 _ _ rfl g4 #[.int .i64 (zbx x y),.int .i64 (zby x y)] rfl rfl 38 #[.int .i64 0,.int .i64 0] E4.out (zw _ _) rfl (zM _ _) ?_;intro W8 hq aE aC;have B8:=hhd hq;have aM:=hhd aC;clear hq aE aC))
 refine bodyPost_ret (zW rfl _ _ g4 38 #[.int .i64 (zbx x y),.int .i64 (zby x y)] (0,0) _ rfl B8.out Tryz.underlying38 rfl (zw _ _)) rfl ?_
 exact ⟨rfl,aM.out _ _ L4 aK.out⟩
theorem zaj {m:Int} {x:S38} (h:inB m x=true):x.f0≤m∧x.f1≤m∧-m≤x.f0∧-m≤x.f1:=of_decide_eq_true h
theorem zaG {a b:Nat} (h:a≤b):(2:Int)^a≤2^b:=by
 have:=Nat.pow_le_pow_right (n:=2) (by decide) h
 exact_mod_cast this
theorem za3 {m:Int} {x:S38} (h:x.f0≤m∧x.f1≤m∧-m≤x.f0∧-m≤x.f1):inB m x=true:=decide_eq_true h
set_option maxRecDepth 100000 in
set_option maxHeartbeats 4000000 in
theorem zg7 (x:S38) (m:Int) (hm0:0≤m) (hm1:m≤4611686018427387904) (h:inB m x=true) (w:World) :
  Calls Tryz.prog 76 #[.agg #[.int .i64 x.f0,.int .i64 x.f1],.int .i64 m] w fun e w'=>e=.returned (.bool true)∧Below w.heap.size w w':=by
 obtain ⟨q0,q1,q2,q3⟩:=zaj h
 have hn:wrap64 (-m)=-m:=by unfold wrap64;omega
 have d0:decide (x.f0≤m)=true:=decide_eq_true q0
 have d1:decide (x.f1≤m)=true:=decide_eq_true q1
 have d2:decide (-m≤x.f0)=true:=decide_eq_true q2
 have d3:decide (-m≤x.f1)=true:=decide_eq_true q3
 clear h hm0 hm1 q0 q1 q2 q3
 by_cases c:x.f0 < x.f1
 ·have c1:(x.f0 < x.f1)=True:=eq_true c
  have c2:(x.f1 < x.f0)=False:=eq_false (by omega)
  clear c
  go_enter Tryz.func76,Tryz.ntmps76
  go_wp2_with ((with_reducible refine zf (N:=2) rfl ?_);refine ba_ 2 rfl #[.int .i64 x.f0,.int .i64 x.f1] 38 ?_;intro g2 hg W0 I aA;have B2:=hhd I;have aC:=hhd aA;have k0:W0.cell? ⟨g2,0,none⟩=some (.int .i64 x.f0):=(za I 0).trans rfl;have k1:W0.cell? ⟨g2,1,none⟩=some (.int .i64 x.f1):=(za I 1).trans rfl;clear I aA hg)
  go_ret
  exact ⟨rfl,aC.out⟩
 ·have c1:(x.f0 < x.f1)=False:=eq_false c
  by_cases c':x.f1 < x.f0
  ·have c2:(x.f1 < x.f0)=True:=eq_true c'
   clear c c'
   go_enter Tryz.func76,Tryz.ntmps76
   go_wp2_with ((with_reducible refine zf (N:=2) rfl ?_);refine ba_ 2 rfl #[.int .i64 x.f0,.int .i64 x.f1] 38 ?_;intro g2 hg W0 I aA;have B2:=hhd I;have aC:=hhd aA;have k0:W0.cell? ⟨g2,0,none⟩=some (.int .i64 x.f0):=(za I 0).trans rfl;have k1:W0.cell? ⟨g2,1,none⟩=some (.int .i64 x.f1):=(za I 1).trans rfl;clear I aA hg)
   go_ret
   exact ⟨rfl,aC.out⟩
  ·have c2:(x.f1 < x.f0)=False:=eq_false c'
   clear c c'
   go_enter Tryz.func76,Tryz.ntmps76
   go_wp2_with ((with_reducible refine zf (N:=2) rfl ?_);refine ba_ 2 rfl #[.int .i64 x.f0,.int .i64 x.f1] 38 ?_;intro g2 hg W0 I aA;have B2:=hhd I;have aC:=hhd aA;have k0:W0.cell? ⟨g2,0,none⟩=some (.int .i64 x.f0):=(za I 0).trans rfl;have k1:W0.cell? ⟨g2,1,none⟩=some (.int .i64 x.f1):=(za I 1).trans rfl;clear I aA hg)
   go_ret
   exact ⟨rfl,aC.out⟩
set_option maxRecDepth 100000 in
set_option maxHeartbeats 4000000 in
theorem zg8 (x:S38) (m:Int) (hm0:0≤m) (hm1:m≤4611686018427387904) (h:inB m x=true) (w:World) :
  Calls Tryz.prog 83 #[.agg #[.int .i64 x.f0,.int .i64 x.f1],.int .i64 m] w fun e w'=>e=.returned (.bool true)∧Below w.heap.size w w':=by
 obtain ⟨q0,q1,q2,q3⟩:=zaj h
 have hn:wrap64 (-m)=-m:=by unfold wrap64;omega
 have d0:decide (x.f0≤m)=true:=decide_eq_true q0
 have d1:decide (x.f1≤m)=true:=decide_eq_true q1
 have d2:decide (-m≤x.f0)=true:=decide_eq_true q2
 have d3:decide (-m≤x.f1)=true:=decide_eq_true q3
 clear h hm0 hm1 q0 q1 q2 q3
 by_cases c:x.f0 < x.f1
 ·have c1:(x.f0 < x.f1)=True:=eq_true c
  have c2:(x.f1 < x.f0)=False:=eq_false (by omega)
  clear c
  go_enter Tryz.func83,Tryz.ntmps83
  go_wp2_with ((with_reducible refine zf (N:=2) rfl ?_);refine ba_ 2 rfl #[.int .i64 x.f0,.int .i64 x.f1] 38 ?_;intro g2 hg W0 I aA;have B2:=hhd I;have aC:=hhd aA;have k0:W0.cell? ⟨g2,0,none⟩=some (.int .i64 x.f0):=(za I 0).trans rfl;have k1:W0.cell? ⟨g2,1,none⟩=some (.int .i64 x.f1):=(za I 1).trans rfl;clear I aA hg)
  go_ret
  exact ⟨rfl,aC.out⟩
 ·have c1:(x.f0 < x.f1)=False:=eq_false c
  by_cases c':x.f1 < x.f0
  ·have c2:(x.f1 < x.f0)=True:=eq_true c'
   clear c c'
   go_enter Tryz.func83,Tryz.ntmps83
   go_wp2_with ((with_reducible refine zf (N:=2) rfl ?_);refine ba_ 2 rfl #[.int .i64 x.f0,.int .i64 x.f1] 38 ?_;intro g2 hg W0 I aA;have B2:=hhd I;have aC:=hhd aA;have k0:W0.cell? ⟨g2,0,none⟩=some (.int .i64 x.f0):=(za I 0).trans rfl;have k1:W0.cell? ⟨g2,1,none⟩=some (.int .i64 x.f1):=(za I 1).trans rfl;clear I aA hg)
   go_ret
   exact ⟨rfl,aC.out⟩
  ·have c2:(x.f1 < x.f0)=False:=eq_false c'
   clear c c'
   go_enter Tryz.func83,Tryz.ntmps83
   go_wp2_with ((with_reducible refine zf (N:=2) rfl ?_);refine ba_ 2 rfl #[.int .i64 x.f0,.int .i64 x.f1] 38 ?_;intro g2 hg W0 I aA;have B2:=hhd I;have aC:=hhd aA;have k0:W0.cell? ⟨g2,0,none⟩=some (.int .i64 x.f0):=(za I 0).trans rfl;have k1:W0.cell? ⟨g2,1,none⟩=some (.int .i64 x.f1):=(za I 1).trans rfl;clear I aA hg)
   go_ret
   exact ⟨rfl,aC.out⟩
set_option maxRecDepth 100000 in
set_option maxHeartbeats 4000000 in
theorem zkW (x:S38) (m:Int) (hm0:0≤m) (hm1:m≤4611686018427387904) (h:inB m x=true) (w:World) :
  Calls Tryz.prog 45 #[.agg #[.int .i64 x.f0,.int .i64 x.f1],.int .i64 m] w fun e w'=>e=.returned (.bool true)∧Below w.heap.size w w':=by
 obtain ⟨q0,q1,q2,q3⟩:=zaj h
 have hn:wrap64 (-m)=-m:=by unfold wrap64;omega
 have d0:decide (x.f0≤m)=true:=decide_eq_true q0
 have d1:decide (x.f1≤m)=true:=decide_eq_true q1
 have d2:decide (-m≤x.f0)=true:=decide_eq_true q2
 have d3:decide (-m≤x.f1)=true:=decide_eq_true q3
 clear h hm0 hm1 q0 q1 q2 q3
 by_cases c:x.f0 < x.f1
 ·have c1:(x.f0 < x.f1)=True:=eq_true c
  have c2:(x.f1 < x.f0)=False:=eq_false (by omega)
  clear c
  go_enter Tryz.func45,Tryz.ntmps45
  go_wp2_with ((with_reducible refine zf (N:=2) rfl ?_);refine ba_ 2 rfl #[.int .i64 x.f0,.int .i64 x.f1] 38 ?_;intro g2 hg W0 I aA;have B2:=hhd I;have aC:=hhd aA;have k0:W0.cell? ⟨g2,0,none⟩=some (.int .i64 x.f0):=(za I 0).trans rfl;have k1:W0.cell? ⟨g2,1,none⟩=some (.int .i64 x.f1):=(za I 1).trans rfl;clear I aA hg)
  go_ret
  exact ⟨rfl,aC.out⟩
 ·have c1:(x.f0 < x.f1)=False:=eq_false c
  by_cases c':x.f1 < x.f0
  ·have c2:(x.f1 < x.f0)=True:=eq_true c'
   clear c c'
   go_enter Tryz.func45,Tryz.ntmps45
   go_wp2_with ((with_reducible refine zf (N:=2) rfl ?_);refine ba_ 2 rfl #[.int .i64 x.f0,.int .i64 x.f1] 38 ?_;intro g2 hg W0 I aA;have B2:=hhd I;have aC:=hhd aA;have k0:W0.cell? ⟨g2,0,none⟩=some (.int .i64 x.f0):=(za I 0).trans rfl;have k1:W0.cell? ⟨g2,1,none⟩=some (.int .i64 x.f1):=(za I 1).trans rfl;clear I aA hg)
   go_ret
   exact ⟨rfl,aC.out⟩
  ·have c2:(x.f1 < x.f0)=False:=eq_false c'
   clear c c'
   go_enter Tryz.func45,Tryz.ntmps45
   go_wp2_with ((with_reducible refine zf (N:=2) rfl ?_);refine ba_ 2 rfl #[.int .i64 x.f0,.int .i64 x.f1] 38 ?_;intro g2 hg W0 I aA;have B2:=hhd I;have aC:=hhd aA;have k0:W0.cell? ⟨g2,0,none⟩=some (.int .i64 x.f0):=(za I 0).trans rfl;have k1:W0.cell? ⟨g2,1,none⟩=some (.int .i64 x.f1):=(za I 1).trans rfl;clear I aA hg)
   go_ret
   exact ⟨rfl,aC.out⟩
set_option maxRecDepth 100000 in
set_option maxHeartbeats 4000000 in
theorem znT (x:S38) (h:inB 2147483648 x=true) (w:World) :
  Calls Tryz.prog 75 #[.agg #[.int .i64 x.f0,.int .i64 x.f1]] w fun e w'=>e=.returned (.bool false)∧Below w.heap.size w w':=by
 have H:=hhd h
 clear h
 go_enter Tryz.func75,Tryz.ntmps75
 go_wp2_with (first
  | ((with_reducible refine zf (N:=1) rfl ?_);refine ba_ 1 rfl #[.int .i64 x.f0,.int .i64 x.f1] 38 ?_;intro g2 hg W0 I aA;have B2:=hhd I;have aC:=hhd aA;have k0:W0.cell? ⟨g2,0,none⟩=some (.int .i64 x.f0):=(za I 0).trans rfl;have k1:W0.cell? ⟨g2,1,none⟩=some (.int .i64 x.f1):=(za I 1).trans rfl;clear I aA hg)
  | ((with_reducible refine zf (N:=3) rfl ?_);refine lr_ 3 rfl 38 B2 Tryz.underlying38 ?_)
  | (go_at_call 76;(with_reducible refine (zg7 x 2147483648 (by decide) (by decide) H.out _).mono ?_);rintro e W1 ⟨rfl,hb⟩;have aD:=zs_ aC hb;clear hb))
 go_ret
 exact ⟨rfl,aD.out⟩
set_option maxRecDepth 100000 in
set_option maxHeartbeats 4000000 in
theorem znU (x:S38) (h:inB 2147483648 x=true) (w:World) :
  Calls Tryz.prog 82 #[.agg #[.int .i64 x.f0,.int .i64 x.f1]] w fun e w'=>e=.returned (.bool false)∧Below w.heap.size w w':=by
 have H:=hhd h
 clear h
 go_enter Tryz.func82,Tryz.ntmps82
 go_wp2_with (first
  | ((with_reducible refine zf (N:=1) rfl ?_);refine ba_ 1 rfl #[.int .i64 x.f0,.int .i64 x.f1] 38 ?_;intro g2 hg W0 I aA;have B2:=hhd I;have aC:=hhd aA;have k0:W0.cell? ⟨g2,0,none⟩=some (.int .i64 x.f0):=(za I 0).trans rfl;have k1:W0.cell? ⟨g2,1,none⟩=some (.int .i64 x.f1):=(za I 1).trans rfl;clear I aA hg)
  | ((with_reducible refine zf (N:=3) rfl ?_);refine lr_ 3 rfl 38 B2 Tryz.underlying38 ?_)
  | (go_at_call 83;(with_reducible refine (zg8 x 2147483648 (by decide) (by decide) H.out _).mono ?_);rintro e W1 ⟨rfl,hb⟩;have aD:=zs_ aC hb;clear hb))
 go_ret
 exact ⟨rfl,aD.out⟩
set_option maxRecDepth 100000 in
set_option maxHeartbeats 4000000 in
theorem zmk (x:S38) (Bb:Nat) (bits m:Int) (h0:0≤bits) (h1:bits≤40) (hm:m=2^bits.toNat) (h:inB m x=true) (w:World) (hb:w.heap[Bb]?=some (.cells #[.int .i64 bits] 3 (0,0))) :
  Calls Tryz.prog 77 #[.agg #[.int .i64 x.f0,.int .i64 x.f1],.pointer (some ⟨Bb,0,none⟩)] w fun e w'=>e=.returned (.bool false)∧Below w.heap.size w w':=by
 have H:=hhd h
 have HBb:=hhd hb
 have hm2:0≤m∧m≤4611686018427387904:=by
  have hp:(2:Int)^(bits).toNat≤2^40:=zaG (by omega)
  have hq:(0:Int)≤2^(bits).toNat:=Int.pow_nonneg (by decide)
  rw [hm]
  omega
 obtain ⟨hm0,hm1⟩:=hm2
 have hw:IntKind.i64.wrap (2^bits.toNat)=m:=by rw [← hm,zD];unfold wrap64;omega
 have hw2:wrap64 (2^bits.toNat)=m:=(zD _).symm.trans hw
 clear h hb hm
 go_enter Tryz.func77,Tryz.ntmps77
 go_wp2_with ((with_reducible refine zf (N:=2) rfl ?_);refine ba_ 2 rfl #[.int .i64 x.f0,.int .i64 x.f1] 38 ?_;intro g2 hg W0 I aA;have B2:=hhd I;have aC:=hhd aA;have k0:W0.cell? ⟨g2,0,none⟩=some (.int .i64 x.f0):=(za I 0).trans rfl;have k1:W0.cell? ⟨g2,1,none⟩=some (.int .i64 x.f1):=(za I 1).trans rfl;have B20:=za_ HBb aA;have kb:W0.cell? ⟨Bb,0,none⟩=some (.int .i64 bits):=(za (zd HBb aA) 0).trans rfl;clear I aA hg)
 go_region_held3 (fun w'=>w'.cell? ⟨g2,0,none⟩=some (.int .i64 x.f0)∧w'.cell? ⟨g2,1,none⟩=some (.int .i64 x.f1)∧w'.cell? ⟨Bb,0,none⟩=some (.int .i64 bits)∧Below w.heap.size w w')
  (first
   | exact ⟨k0,k1,kb,zbj aC.out⟩
   | go_keep
   | exact ⟨(za (zd (zn B2.out 1) hb) 0).trans rfl,(za (zd (zn B2.out 1) hb) 1).trans rfl,(za (zd (zn B20.out 1) hb) 0).trans rfl,zb (zc aC.out 1) hb⟩)
  ((go_at_call 76;refine (zg7 x m hm0 hm1 H.out _).mono ?_;rintro e W1 ⟨rfl,hb⟩))
 case _ hH =>
  go_wp2
  go_ret
  exact ⟨rfl,hH.2.2.2⟩
set_option maxRecDepth 100000 in
set_option maxHeartbeats 4000000 in
theorem zml (x:S38) (Bb:Nat) (bits m:Int) (h0:0≤bits) (h1:bits≤40) (hm:m=2^bits.toNat) (h:inB m x=true) (w:World) (hb:w.heap[Bb]?=some (.cells #[.int .i64 bits] 3 (0,0))) :
  Calls Tryz.prog 84 #[.agg #[.int .i64 x.f0,.int .i64 x.f1],.pointer (some ⟨Bb,0,none⟩)] w fun e w'=>e=.returned (.bool false)∧Below w.heap.size w w':=by
 have H:=hhd h
 have HBb:=hhd hb
 have hm2:0≤m∧m≤4611686018427387904:=by
  have hp:(2:Int)^(bits).toNat≤2^40:=zaG (by omega)
  have hq:(0:Int)≤2^(bits).toNat:=Int.pow_nonneg (by decide)
  rw [hm]
  omega
 obtain ⟨hm0,hm1⟩:=hm2
 have hw:IntKind.i64.wrap (2^bits.toNat)=m:=by rw [← hm,zD];unfold wrap64;omega
 have hw2:wrap64 (2^bits.toNat)=m:=(zD _).symm.trans hw
 clear h hb hm
 go_enter Tryz.func84,Tryz.ntmps84
 go_wp2_with ((with_reducible refine zf (N:=2) rfl ?_);refine ba_ 2 rfl #[.int .i64 x.f0,.int .i64 x.f1] 38 ?_;intro g2 hg W0 I aA;have B2:=hhd I;have aC:=hhd aA;have k0:W0.cell? ⟨g2,0,none⟩=some (.int .i64 x.f0):=(za I 0).trans rfl;have k1:W0.cell? ⟨g2,1,none⟩=some (.int .i64 x.f1):=(za I 1).trans rfl;have B20:=za_ HBb aA;have kb:W0.cell? ⟨Bb,0,none⟩=some (.int .i64 bits):=(za (zd HBb aA) 0).trans rfl;clear I aA hg)
 go_region_held3 (fun w'=>w'.cell? ⟨g2,0,none⟩=some (.int .i64 x.f0)∧w'.cell? ⟨g2,1,none⟩=some (.int .i64 x.f1)∧w'.cell? ⟨Bb,0,none⟩=some (.int .i64 bits)∧Below w.heap.size w w')
  (first
   | exact ⟨k0,k1,kb,zbj aC.out⟩
   | go_keep
   | exact ⟨(za (zd (zn B2.out 1) hb) 0).trans rfl,(za (zd (zn B2.out 1) hb) 1).trans rfl,(za (zd (zn B20.out 1) hb) 0).trans rfl,zb (zc aC.out 1) hb⟩)
  ((go_at_call 83;refine (zg8 x m hm0 hm1 H.out _).mono ?_;rintro e W1 ⟨rfl,hb⟩))
 case _ hH =>
  go_wp2
  go_ret
  exact ⟨rfl,hH.2.2.2⟩
set_option maxRecDepth 100000 in
set_option maxHeartbeats 4000000 in
theorem zmm (x:S38) (Bb:Nat) (bits b1 m:Int) (h0:0≤b1) (h1:b1≤40) (hb1:wrap64 (bits - 1)=b1) (hm:m=2^b1.toNat) (h:inB m x=true) (w:World) (hb:w.heap[Bb]?=some (.cells #[.int .i64 bits] 3 (0,0))) :
  Calls Tryz.prog 44 #[.agg #[.int .i64 x.f0,.int .i64 x.f1],.pointer (some ⟨Bb,0,none⟩)] w fun e w'=>e=.returned (.bool false)∧Below w.heap.size w w':=by
 have H:=hhd h
 have HBb:=hhd hb
 have hb2:IntKind.i64.wrap (bits - 1)=b1:=(zD _).trans hb1
 have hm2:0≤m∧m≤4611686018427387904:=by
  have hp:(2:Int)^(b1).toNat≤2^40:=zaG (by omega)
  have hq:(0:Int)≤2^(b1).toNat:=Int.pow_nonneg (by decide)
  rw [hm]
  omega
 obtain ⟨hm0,hm1⟩:=hm2
 have hw:IntKind.i64.wrap (2^b1.toNat)=m:=by rw [← hm,zD];unfold wrap64;omega
 have hw2:wrap64 (2^b1.toNat)=m:=(zD _).symm.trans hw
 clear h hb hm
 go_enter Tryz.func44,Tryz.ntmps44
 go_wp2_with ((with_reducible refine zf (N:=2) rfl ?_);refine ba_ 2 rfl #[.int .i64 x.f0,.int .i64 x.f1] 38 ?_;intro g2 hg W0 I aA;have B2:=hhd I;have aC:=hhd aA;have k0:W0.cell? ⟨g2,0,none⟩=some (.int .i64 x.f0):=(za I 0).trans rfl;have k1:W0.cell? ⟨g2,1,none⟩=some (.int .i64 x.f1):=(za I 1).trans rfl;have B20:=za_ HBb aA;have kb:W0.cell? ⟨Bb,0,none⟩=some (.int .i64 bits):=(za (zd HBb aA) 0).trans rfl;clear I aA hg)
 go_region_held3 (fun w'=>w'.cell? ⟨g2,0,none⟩=some (.int .i64 x.f0)∧w'.cell? ⟨g2,1,none⟩=some (.int .i64 x.f1)∧w'.cell? ⟨Bb,0,none⟩=some (.int .i64 bits)∧Below w.heap.size w w')
  (first
   | exact ⟨k0,k1,kb,zbj aC.out⟩
   | go_keep
   | exact ⟨(za (zd (zn B2.out 1) hb) 0).trans rfl,(za (zd (zn B2.out 1) hb) 1).trans rfl,(za (zd (zn B20.out 1) hb) 0).trans rfl,zb (zc aC.out 1) hb⟩)
  ((go_at_call 45;refine (zkW x m hm0 hm1 H.out _).mono ?_;rintro e W1 ⟨rfl,hb⟩))
 case _ hH =>
  go_wp2
  go_ret
  exact ⟨rfl,hH.2.2.2⟩
end Go.Proofs.YteieahbadclppaaGreat.P

namespace Go.Proofs.YteieahbadclppaaGreat.P
open Go.RowKit Go.Proofs.YteieahbadclppaaGreatW.PrintWords Go.Proofs.YteieahbadclppaaGreatW.PrintLast Go.Proofs.YteieahbadclppaaGreatW.PrintMore
set_option linter.unusedVariables false
set_option linter.unusedSimpArgs false
@[reducible] def zm8:Array Value:=#[.func (.func 99) #[] #[],.func (.func 100) #[] #[],.func (.func 101) #[] #[]]
set_option maxRecDepth 100000 in
set_option maxHeartbeats 4000000 in
theorem za4 (w:World):Calls Tryz.prog 68 #[] w fun e w'=>e=.returned (.slice (some ⟨w.heap.size,0,none⟩) 3 3)∧w'=w.alloc (.cells zm8 129 (0,0)):=by
 go_enter Tryz.func68,Tryz.ntmps68
 go_wp2
 go_ret
 exact ⟨rfl,rfl⟩
set_option maxRecDepth 100000 in
set_option maxHeartbeats 4000000 in
theorem zmn (l h:Int) (o:Bool) (w:World):Calls Tryz.prog 99 #[.int .i64 l,.int .i64 h,.bool o] w fun e w'=>e=.returned (.bool false)∧w'=w:=by
 go_enter Tryz.func99,Tryz.ntmps99
 go_wp2
 go_ret
 exact ⟨rfl,rfl⟩
def zf9 (l h:Int):Bool:=decide (h≤l)
def zec (l h:Int) (o:Bool):Bool:=decide (h < l) || (decide (l=h) && o)
set_option maxRecDepth 100000 in
set_option maxHeartbeats 4000000 in
theorem zix (l h:Int) (o:Bool) (w:World):Calls Tryz.prog 100 #[.int .i64 l,.int .i64 h,.bool o] w fun e w'=>e=.returned (.bool (zf9 l h))∧w'=w:=by
 go_enter Tryz.func100,Tryz.ntmps100
 go_wp2
 go_ret
 exact ⟨rfl,rfl⟩
set_option maxRecDepth 100000 in
set_option maxHeartbeats 4000000 in
theorem ziy (l h:Int) (o:Bool) (w:World):Calls Tryz.prog 101 #[.int .i64 l,.int .i64 h,.bool o] w fun e w'=>e=.returned (.bool (zec l h o))∧w'=w:=by
 by_cases h1:h < l
 ·have d1:decide (h < l)=true:=decide_eq_true h1
  clear h1
  go_enter Tryz.func101,Tryz.ntmps101
  go_wp2
  go_ret
  exact ⟨by unfold zec;rw [d1];rfl,rfl⟩
 ·have d1:decide (h < l)=false:=decide_eq_false h1
  by_cases h2:l=h
  ·subst h2
   clear h1
   go_enter Tryz.func101,Tryz.ntmps101
   go_wp2
   go_ret
   exact ⟨by unfold zec;rw [d1];simp,rfl⟩
  ·have d2:(l == h)=false:=by simpa using h2
   clear h1
   go_enter Tryz.func101,Tryz.ntmps101
   go_wp2
   go_ret
   exact ⟨by unfold zec;rw [d1,decide_eq_false h2];rfl,rfl⟩
set_option maxRecDepth 100000 in
set_option maxHeartbeats 4000000 in
theorem zjK (x s how:Int) (h:s < 0∨s > 62∨how < 0∨how≥3) (w:World):Calls Tryz.prog 42 #[.int .i64 x,.int .i64 s,.int .i64 how] w fun e w'=>e=.returned (.tuple #[.int .i64 0,.int .i64 1])∧Below w.heap.size w w':=by
 have hM:=fun w=>za4 w
 by_cases h1:s < 0
 ·have d1:decide (s < 0)=true:=decide_eq_true h1
  clear h h1
  go_enter Tryz.func42,Tryz.ntmps42
  go_wp2_with (go_at_call 68;(with_reducible refine (za4 _).mono ?_);rintro e I ⟨rfl,rfl⟩)
  go_ret2
  exact ⟨rfl,ze (Below.refl _ _) _⟩
 ·by_cases h2:s > 62
  ·have d1:decide (s < 0)=false:=decide_eq_false h1
   have d2:decide (62 < s)=true:=decide_eq_true h2
   clear h h1 h2
   go_enter Tryz.func42,Tryz.ntmps42
   go_wp2_with (go_at_call 68;(with_reducible refine (za4 _).mono ?_);rintro e I ⟨rfl,rfl⟩)
   go_ret2
   exact ⟨rfl,ze (Below.refl _ _) _⟩
  ·by_cases h3:how < 0
   ·have d1:decide (s < 0)=false:=decide_eq_false h1
    have d2:decide (62 < s)=false:=decide_eq_false h2
    have d3:decide (how < 0)=true:=decide_eq_true h3
    clear h h1 h2 h3
    go_enter Tryz.func42,Tryz.ntmps42
    go_wp2_with (go_at_call 68;(with_reducible refine (za4 _).mono ?_);rintro e I ⟨rfl,rfl⟩)
    go_ret2
    exact ⟨rfl,ze (Below.refl _ _) _⟩
   ·have d1:decide (s < 0)=false:=decide_eq_false h1
    have d2:decide (62 < s)=false:=decide_eq_false h2
    have d3:decide (how < 0)=false:=decide_eq_false h3
    have d4:decide (3≤how)=true:=decide_eq_true (by omega)
    clear h h1 h2 h3
    go_enter Tryz.func42,Tryz.ntmps42
    go_wp2_with (go_at_call 68;(with_reducible refine (za4 _).mono ?_);rintro e I ⟨rfl,rfl⟩)
    go_ret2
    exact ⟨rfl,ze (Below.refl _ _) _⟩
set_option maxRecDepth 100000 in
set_option maxHeartbeats 4000000 in
theorem zi5 (x how:Int) (h0:0≤how) (h3:how < 3) (w:World):Calls Tryz.prog 42 #[.int .i64 x,.int .i64 0,.int .i64 how] w fun e w'=>e=.returned (.tuple #[.int .i64 x,.int .i64 0])∧Below w.heap.size w w':=by
 have d3:decide (how < 0)=false:=decide_eq_false (by omega)
 have d4:decide (3≤how)=false:=decide_eq_false (by omega)
 clear h0 h3
 go_enter Tryz.func42,Tryz.ntmps42
 go_wp2_with (go_at_call 68;(with_reducible refine (za4 _).mono ?_);rintro e I ⟨rfl,rfl⟩)
 go_ret2
 exact ⟨rfl,ze (Below.refl _ _) _⟩
set_option maxRecDepth 100000 in
set_option maxHeartbeats 4000000 in
theorem zmo (x s:Int) (h0:1≤s) (h3:s≤62) (w:World):Calls Tryz.prog 42 #[.int .i64 x,.int .i64 s,.int .i64 0] w fun e w'=>e=.returned (.tuple #[.int .i64 (x / 2^s.toNat),.int .i64 0])∧Below w.heap.size w w':=by
 have d1:decide (s < 0)=false:=decide_eq_false (by omega)
 have d2:decide (62 < s)=false:=decide_eq_false (by omega)
 have d3:(s == 0)=false:=by simp;omega
 go_enter Tryz.func42,Tryz.ntmps42
 go_wp2_with (go_at_call 68;(with_reducible refine (za4 _).mono ?_);rintro e I ⟨rfl,rfl⟩)
 go_quiet ((go_at_call 99;exact Calls.quiet_of_same (zmn _ _ _ _)))
 go_wp2
 go_ret2
 exact ⟨rfl,zc (ze (Below.refl _ _) _) _⟩
set_option maxRecDepth 100000 in
set_option maxHeartbeats 4000000 in
theorem zg9 (x s:Int) (h0:1≤s) (h3:s≤62) (hU:zf9 (bits .and .i64 x (wrap64 (wrap64 (2^s.toNat) - 1))) (wrap64 (2^(s.toNat - 1)))=true) (w:World):Calls Tryz.prog 42 #[.int .i64 x,.int .i64 s,.int .i64 1] w fun e w'=>e=.returned (.tuple #[.int .i64 (wrap64 (x / 2^s.toNat+1)),.int .i64 0])∧Below w.heap.size w w':=by
 have d1:decide (s < 0)=false:=decide_eq_false (by omega)
 have d2:decide (62 < s)=false:=decide_eq_false (by omega)
 have d3:(s == 0)=false:=by simp;omega
 go_enter Tryz.func42,Tryz.ntmps42
 go_wp2_with (go_at_call 68;(with_reducible refine (za4 _).mono ?_);rintro e I ⟨rfl,rfl⟩)
 go_quiet ((go_at_call 100;exact Calls.quiet_of_same (zix _ _ _ _)))
 go_wp2
 all_goals first
  | exact absurd (hU.symm.trans ‹zf9 _ _=false›) (by decide)
  | (go_ret2;exact ⟨rfl,zc (ze (Below.refl _ _) _) _⟩)
set_option maxRecDepth 100000 in
set_option maxHeartbeats 4000000 in
theorem zgM (x s:Int) (h0:1≤s) (h3:s≤62) (hU:zf9 (bits .and .i64 x (wrap64 (wrap64 (2^s.toNat) - 1))) (wrap64 (2^(s.toNat - 1)))=false) (w:World):Calls Tryz.prog 42 #[.int .i64 x,.int .i64 s,.int .i64 1] w fun e w'=>e=.returned (.tuple #[.int .i64 (x / 2^s.toNat),.int .i64 0])∧Below w.heap.size w w':=by
 have d1:decide (s < 0)=false:=decide_eq_false (by omega)
 have d2:decide (62 < s)=false:=decide_eq_false (by omega)
 have d3:(s == 0)=false:=by simp;omega
 go_enter Tryz.func42,Tryz.ntmps42
 go_wp2_with (go_at_call 68;(with_reducible refine (za4 _).mono ?_);rintro e I ⟨rfl,rfl⟩)
 go_quiet ((go_at_call 100;exact Calls.quiet_of_same (zix _ _ _ _)))
 go_wp2
 all_goals first
  | exact absurd (hU.symm.trans ‹zf9 _ _=true›) (by decide)
  | (go_ret2;exact ⟨rfl,zc (ze (Below.refl _ _) _) _⟩)
set_option maxRecDepth 100000 in
set_option maxHeartbeats 4000000 in
theorem zha (x s:Int) (h0:1≤s) (h3:s≤62) (hU:zec (bits .and .i64 x (wrap64 (wrap64 (2^s.toNat) - 1))) (wrap64 (2^(s.toNat - 1))) (bits .and .i64 (x / 2^s.toNat) 1 == 1)=true) (w:World):Calls Tryz.prog 42 #[.int .i64 x,.int .i64 s,.int .i64 2] w fun e w'=>e=.returned (.tuple #[.int .i64 (wrap64 (x / 2^s.toNat+1)),.int .i64 0])∧Below w.heap.size w w':=by
 have d1:decide (s < 0)=false:=decide_eq_false (by omega)
 have d2:decide (62 < s)=false:=decide_eq_false (by omega)
 have d3:(s == 0)=false:=by simp;omega
 go_enter Tryz.func42,Tryz.ntmps42
 go_wp2_with (go_at_call 68;(with_reducible refine (za4 _).mono ?_);rintro e I ⟨rfl,rfl⟩)
 go_quiet ((go_at_call 101;exact Calls.quiet_of_same (ziy _ _ _ _)))
 go_wp2
 all_goals first
  | exact absurd (hU.symm.trans ‹zec _ _ _=false›) (by decide)
  | (go_ret2;exact ⟨rfl,zc (ze (Below.refl _ _) _) _⟩)
set_option maxRecDepth 100000 in
set_option maxHeartbeats 4000000 in
theorem zgN (x s:Int) (h0:1≤s) (h3:s≤62) (hU:zec (bits .and .i64 x (wrap64 (wrap64 (2^s.toNat) - 1))) (wrap64 (2^(s.toNat - 1))) (bits .and .i64 (x / 2^s.toNat) 1 == 1)=false) (w:World):Calls Tryz.prog 42 #[.int .i64 x,.int .i64 s,.int .i64 2] w fun e w'=>e=.returned (.tuple #[.int .i64 (x / 2^s.toNat),.int .i64 0])∧Below w.heap.size w w':=by
 have d1:decide (s < 0)=false:=decide_eq_false (by omega)
 have d2:decide (62 < s)=false:=decide_eq_false (by omega)
 have d3:(s == 0)=false:=by simp;omega
 go_enter Tryz.func42,Tryz.ntmps42
 go_wp2_with (go_at_call 68;(with_reducible refine (za4 _).mono ?_);rintro e I ⟨rfl,rfl⟩)
 go_quiet ((go_at_call 101;exact Calls.quiet_of_same (ziy _ _ _ _)))
 go_wp2
 all_goals first
  | exact absurd (hU.symm.trans ‹zec _ _ _=true›) (by decide)
  | (go_ret2;exact ⟨rfl,zc (ze (Below.refl _ _) _) _⟩)
end Go.Proofs.YteieahbadclppaaGreat.P

namespace Go.Proofs.YteieahbadclppaaGreat.P
open Go.RowKit Go.Proofs.YteieahbadclppaaGreatW.PrintWords Go.Proofs.YteieahbadclppaaGreatW.PrintLast Go.Proofs.YteieahbadclppaaGreatW.PrintMore
attribute [local go_sem] zF zG zK zL zY zZ z9 zaa
set_option linter.unusedVariables false
set_option linter.unusedSimpArgs false
def upV (x s how:Int):Bool:=if how=1 then zf9 (bits .and .i64 x (wrap64 (wrap64 (2^s.toNat) - 1))) (wrap64 (2^(s.toNat - 1))) else if how=2 then zec (bits .and .i64 x (wrap64 (wrap64 (2^s.toNat) - 1))) (wrap64 (2^(s.toNat - 1))) (bits .and .i64 (x / 2^s.toNat) 1 == 1) else false
def shV (x s how:Int):Int:=if s=0 then x else if upV x s how=true then wrap64 (x / 2^s.toNat+1) else x / 2^s.toNat
def round_Shift.f (a0 a1 a2:Int):Option (Int×Int):=if a1 < 0∨a1 > 62∨a2 < 0∨a2≥3 then some (0,1) else some (shV a0 a1 a2,0)
theorem round_Shift.calls (a0:Int) (a1:Int) (a2:Int) (r1:Int) (r2:Int) (w:World) (h:round_Shift.f a0 a1 a2=some (r1,r2)) :
  Calls Tryz.prog 42 #[.int .i64 a0,.int .i64 a1,.int .i64 a2] w fun e w'=>e=.returned (.tuple #[.int .i64 r1,.int .i64 r2])∧Below w.heap.size w w':=by
 unfold round_Shift.f at h
 by_cases hb:a1 < 0∨a1 > 62∨a2 < 0∨a2≥3
 ·rw [if_pos hb] at h
  simp only [Option.some.injEq,Prod.mk.injEq] at h
  obtain ⟨rfl,rfl⟩:=h
  exact zjK a0 a1 a2 hb w
 ·rw [if_neg hb] at h
  simp only [Option.some.injEq,Prod.mk.injEq] at h
  obtain ⟨rfl,rfl⟩:=h
  unfold shV
  by_cases hz:a1=0
  ·subst hz
   rw [if_pos rfl]
   exact zi5 a0 a2 (by omega) (by omega) w
  ·rw [if_neg hz]
   have h3:a2=0∨a2=1∨a2=2:=by omega
   rcases h3 with rfl | rfl | rfl
   ·have e:upV a0 a1 0=false:=rfl
    rw [e,if_neg (by decide)]
    exact zmo a0 a1 (by omega) (by omega) w
   ·cases e:upV a0 a1 1 with
    | true=>rw [if_pos rfl];exact zg9 a0 a1 (by omega) (by omega) e w
    | false=>rw [if_neg (by decide)];exact zgM a0 a1 (by omega) (by omega) e w
   ·cases e:upV a0 a1 2 with
    | true=>rw [if_pos rfl];exact zha a0 a1 (by omega) (by omega) e w
    | false=>rw [if_neg (by decide)];exact zgN a0 a1 (by omega) (by omega) e w

def plan_in.f (a0:Int) (a1:Int) (a2:Int):Option (Bool):=if a0≥a1 then (some (decide (a0≤a2))) else (some false)
set_option maxHeartbeats 8000000 in
set_option maxRecDepth 100000 in
theorem plan_in.calls (a0:Int) (a1:Int) (a2:Int) (r:Bool) (w:World) (h:plan_in.f a0 a1 a2=some r) :
  Calls Tryz.prog 64 #[.int .i64 a0,.int .i64 a1,.int .i64 a2] w fun e w'=>e=.returned (.bool r)∧Drawn0 w w':=by
 have H:(if a0≥a1 then (some (decide (a0≤a2))) else (some false))=some r:=h
 clear h
 by_cases c4:a0≥a1
 ·rw [if_pos c4] at H
  have c4b0:decide (a1≤a0)=true:=decide_eq_true c4
  clear c4
  obtain rfl:=Option.some.inj H
  go_enter Tryz.func64,Tryz.ntmps64
  go_wp2
  go_ret
  exact ⟨by first | rfl | (simp;done) | (simp [*];done),by repeat (first | exact Drawn0.refl _ | apply Drawn0.step)⟩
 ·rw [if_neg c4] at H
  have c4b0:decide (a1≤a0)=false:=decide_eq_false c4
  clear c4
  obtain rfl:=Option.some.inj H
  go_enter Tryz.func64,Tryz.ntmps64
  go_wp2
  go_ret
  exact ⟨by first | rfl | (simp;done) | (simp [*];done),by repeat (first | exact Drawn0.refl _ | apply Drawn0.step)⟩

def flip_Log.l0:Nat→Int→Int→Option (Int×Int)
 | 0,_,_=>none
 | k+1,x0,x4=>if x4≤6 then (if 0≤x4 then (if x0=(shl .i64 1 x4) then (some (x4,0)) else (flip_Log.l0 k x0 (wrap64 (x4+1)))) else (none)) else (some (0,3))
def flip_Log.f (k:Nat) (a0:Int):Option (Int×Int):=flip_Log.l0 k a0 2
set_option maxHeartbeats 8000000 in
set_option maxRecDepth 100000 in
theorem flip_Log.calls (k:Nat) (a0:Int) (r1:Int) (r2:Int) (w:World) (h:flip_Log.f k a0=some (r1,r2)) :
  Calls Tryz.prog 40 #[.int .i64 a0] w fun e w'=>e=.returned (.tuple #[.int .i64 r1,.int .i64 r2])∧Drawn0 w w':=by
 have H:(flip_Log.l0 k a0 2)=some (r1,r2):=h
 clear h
 have H':=Aside0.mk H
 clear H
 go_enter Tryz.func40,Tryz.ntmps40
 go_wp2
 go_loopg [4] k (fun kq v4 w'=>∃(x4_1:Int),v4=.int .i64 x4_1∧Aside0 (flip_Log.l0 kq a0 x4_1=some (r1,r2))∧Aside0 (kq≤k)∧Drawn0 w w')
 case atStart=>exact ⟨(2),(by first | rfl | (simp;done) | (simp [*];done)),H',⟨Nat.le_refl _⟩,by repeat (first | exact Drawn0.refl _ | apply Drawn0.step)⟩
 case round =>
  clear H'
  obtain ⟨x4_1,rfl,HA,HK1,⟨m1,rfl⟩⟩:=hrel
  cases gk with
  | zero=>exact absurd HA.out (by simp [flip_Log.l0])
  | succ k1 =>
   have H:=HA.out
   clear HA
   simp only [flip_Log.l0] at H
   by_cases c2:x4_1≤6
   ·rw [if_pos c2] at H
    have c2b0:decide (x4_1≤6)=true:=decide_eq_true c2
    clear c2
    by_cases c3:0≤x4_1
    ·rw [if_pos c3] at H
     have c3b0:=eq_true c3
     have c3b1:decide (0≤x4_1)=true:=decide_eq_true c3
     clear c3
     obtain ⟨ji4,hji4⟩:∃j_:Int,(shl .i64 1 x4_1)=j_:=⟨_,rfl⟩
     replace H:(if a0=(ji4) then (some (x4_1,0)) else (flip_Log.l0 k1 a0 (wrap64 (x4_1+1))))=some (r1,r2):=by first | (rw [hji4] at H;exact H) | (simp only [hji4] at H ⊢;exact H)
     have hji4_:(IntKind.i64.wrap (1*2^min x4_1.toNat 64))=ji4:=hji4
     have hji4z:x4_1≤64→(IntKind.i64.wrap (1*2^x4_1.toNat))=ji4:=zci hji4
     have hji4u:(IntKind.i64.wrap (2^min x4_1.toNat 64))=ji4:=by have h_:=hji4_;rw [Int.one_mul] at h_;exact h_
     have hji4v:x4_1≤64→(IntKind.i64.wrap (2^x4_1.toNat))=ji4:=fun hle_=>by have h_:=hji4z hle_;rw [Int.one_mul] at h_;exact h_
     have hji4y:(wrap64 (1*2^min x4_1.toNat 64))=ji4:=(zD _).symm.trans hji4_
     have hji4x:x4_1≤64→(wrap64 (1*2^x4_1.toNat))=ji4:=fun h_=>(zD _).symm.trans (hji4z h_)
     by_cases c5:a0=(ji4)
     ·rw [if_pos c5] at H
      have c5b0:(a0 == (ji4))=true:=beq_iff_eq.mpr c5
      have c5b1:(a0 != (ji4))=false:=bne_eq_false_iff_eq.mpr c5
      clear c5
      simp only [Option.some.injEq,Prod.mk.injEq] at H
      obtain ⟨rfl,rfl⟩:=H
      go_wp2
      go_ret2
      exact ⟨by first | rfl | (simp;done) | (simp only [← hji4] <;> (first | rfl | simp)) | (simp [*];done),by repeat (first | exact Drawn0.refl _ | apply Drawn0.step)⟩
     ·rw [if_neg c5] at H
      have c5b0:(a0 == (ji4))=false:=beq_eq_false_iff_ne.mpr c5
      have c5b1:(a0 != (ji4))=true:=bne_iff_ne.mpr c5
      have H':=Aside0.mk H
      clear H
      go_wp2
      go_roundg k1
      case measure=>have:=HK1.out;omega
      case rel=>exact ⟨(wrap64 (x4_1+1)),(by first | rfl | (simp;done) | (simp [*];done)),H',⟨by have:=HK1.out;omega⟩,by repeat (first | exact Drawn0.refl _ | apply Drawn0.step)⟩
    ·rw [if_neg c3] at H
     exact absurd H (by simp)
   ·rw [if_neg c2] at H
    have c2b0:decide (x4_1≤6)=false:=decide_eq_false c2
    clear c2
    simp only [Option.some.injEq,Prod.mk.injEq] at H
    obtain ⟨rfl,rfl⟩:=H
    go_wp2
    go_ret2
    exact ⟨by first | rfl | (simp;done) | (simp [*];done),by repeat (first | exact Drawn0.refl _ | apply Drawn0.step)⟩

def flip_may.f (a0:Int):Option (Bool):=if a0≥2 then (some (decide (a0≤6))) else (some false)
set_option maxHeartbeats 8000000 in
set_option maxRecDepth 100000 in
theorem flip_may.calls (a0:Int) (r:Bool) (w:World) (h:flip_may.f a0=some r) :
  Calls Tryz.prog 110 #[.int .i64 a0] w fun e w'=>e=.returned (.bool r)∧Drawn0 w w':=by
 have H:(if a0≥2 then (some (decide (a0≤6))) else (some false))=some r:=h
 clear h
 by_cases c2:a0≥2
 ·rw [if_pos c2] at H
  have c2b0:decide (2≤a0)=true:=decide_eq_true c2
  clear c2
  obtain rfl:=Option.some.inj H
  go_enter Tryz.func110,Tryz.ntmps110
  go_wp2
  go_ret
  exact ⟨by first | rfl | (simp;done) | (simp [*];done),by repeat (first | exact Drawn0.refl _ | apply Drawn0.step)⟩
 ·rw [if_neg c2] at H
  have c2b0:decide (2≤a0)=false:=decide_eq_false c2
  clear c2
  obtain rfl:=Option.some.inj H
  go_enter Tryz.func110,Tryz.ntmps110
  go_wp2
  go_ret
  exact ⟨by first | rfl | (simp;done) | (simp [*];done),by repeat (first | exact Drawn0.refl _ | apply Drawn0.step)⟩

def round_Up.j0:Nat→Int→Int→Bool→Option (Int×Int)
 | 0,_,_,_=>none
 | k+1,x0,x1,x12=>if x12=true then (some (0,1)) else (if 0≤(wrap64 (62 - x1)) then (if x0 < (wrap64 (-(shl .i64 1 (wrap64 (62 - x1))))) then (some (0,2)) else (if x0 > (shl .i64 1 (wrap64 (62 - x1))) then (some (0,2)) else (if 0≤x1 then (some (shl .i64 x0 x1,0)) else (none)))) else (none))
def split_turns.f (a0:Bool):Option (Int):=if a0=true then (some 1) else (some (-1))
set_option maxHeartbeats 8000000 in
set_option maxRecDepth 100000 in
theorem split_turns.calls (a0:Bool) (r:Int) (w:World) (h:split_turns.f a0=some r) :
  Calls Tryz.prog 47 #[.bool a0] w fun e w'=>e=.returned (.int .i64 r)∧Drawn0 w w':=by
 have H:(if a0=true then (some 1) else (some (-1)))=some r:=h
 clear h
 by_cases c2:a0=true
 ·subst c2
  have H1:(some 1)=some r:=by rw [if_pos rfl] at H;exact H
  clear H
  have H:=H1
  clear H1
  obtain rfl:=Option.some.inj H
  go_enter Tryz.func47,Tryz.ntmps47
  go_wp2
  go_ret
  exact ⟨by first | rfl | (simp;done) | (simp [*];done),by repeat (first | exact Drawn0.refl _ | apply Drawn0.step)⟩
 ·replace c2:=Bool.eq_false_iff.mpr c2
  subst c2
  have H1:(some (-1))=some r:=by rw [if_neg (show ¬(false=true) by decide)] at H;exact H
  clear H
  have H:=H1
  clear H1
  obtain rfl:=Option.some.inj H
  go_enter Tryz.func47,Tryz.ntmps47
  go_wp2
  go_ret
  exact ⟨by first | rfl | (simp;done) | (simp [*];done),by repeat (first | exact Drawn0.refl _ | apply Drawn0.step)⟩

def budget_greatest.f (a0_0:Int) (a0_1:Int) (a0_2:Int) (a0_3:Int) (a0_4:Int) (a0_5:Bool) (a1:Int):Option (Int×Bool):=if a0_3=0 then (some (wrap64 (Int.tdiv a1 2),true)) else (if a0_3=2 then (some (0,true)) else (some (wrap64 (1+(wrap64 (Int.tdiv a1 2))),false)))
set_option maxHeartbeats 8000000 in
set_option maxRecDepth 100000 in
theorem budget_greatest.calls (a0_0:Int) (a0_1:Int) (a0_2:Int) (a0_3:Int) (a0_4:Int) (a0_5:Bool) (a1:Int) (r1:Int) (r2:Bool) (w:World) (h:budget_greatest.f a0_0 a0_1 a0_2 a0_3 a0_4 a0_5 a1=some (r1,r2)) :
  Calls Tryz.prog 21 #[.agg #[.int .i64 a0_0,.int .i64 a0_1,.int .i64 a0_2,.int .i64 a0_3,.int .i64 a0_4,.bool a0_5],.int .i64 a1] w fun e w'=>e=.returned (.tuple #[.int .i64 r1,.bool r2])∧Below w.heap.size w w':=by
 have hu24:=Tryz.underlying24
 have HB:=Aside0.mk (Below.refl w.heap.size w)
 have H:(if a0_3=0 then (some (wrap64 (Int.tdiv a1 2),true)) else (if a0_3=2 then (some (0,true)) else (some (wrap64 (1+(wrap64 (Int.tdiv a1 2))),false))))=some (r1,r2):=h
 clear h
 by_cases c3:a0_3=0
 ·rw [if_pos c3] at H
  have c3b0:(a0_3 == 0)=true:=beq_iff_eq.mpr c3
  have c3b1:(a0_3 != 0)=false:=bne_eq_false_iff_eq.mpr c3
  clear c3
  simp only [Option.some.injEq,Prod.mk.injEq] at H
  obtain ⟨rfl,rfl⟩:=H
  go_enter Tryz.func21,Tryz.ntmps21
  go_wp2_with (first | ((with_reducible refine zf (N:=2) rfl ?_);refine ba_ 2 rfl #[.int .i64 a0_0,.int .i64 a0_1,.int .i64 a0_2,.int .i64 a0_3,.int .i64 a0_4,.bool a0_5] 24 ?_;intro gb255 hg w4 I hb;have n0_:=Aside0.mk (zb (by repeat (first | (with_reducible first | exact HB.out | apply ze | apply zc | apply zg) | exact HB.out)) hb);have n1_:=Aside0.mk (I);have n2_:=Aside0.mk ((by rw [hg];exact (zi (by repeat (first | (with_reducible first | exact HB.out | apply ze | apply zc | apply zg) | exact HB.out))):w.heap.size≤gb255));have n3_:=Aside0.mk ((by rw [hg];exact (zi (by repeat (first | (with_reducible first | exact HB.out | apply ze | apply zc | apply zg) | exact HB.out))):w.heap.size≤gb255));clear HB;have HB:=n0_;have BK255:=n1_;have GW255:=n2_;have GE255:=n3_;clear n0_ n1_ n2_ n3_;clear hb I hg;have hcz5_0:w4.cell? ⟨gb255,0,none⟩=some (.int .i64 a0_0):=(za BK255.out 0).trans rfl;have hcz5_1:w4.cell? ⟨gb255,1,none⟩=some (.int .i64 a0_1):=(za BK255.out 1).trans rfl;have hcz5_2:w4.cell? ⟨gb255,2,none⟩=some (.int .i64 a0_2):=(za BK255.out 2).trans rfl;have hcz5_3:w4.cell? ⟨gb255,3,none⟩=some (.int .i64 a0_3):=(za BK255.out 3).trans rfl;have hcz5_4:w4.cell? ⟨gb255,4,none⟩=some (.int .i64 a0_4):=(za BK255.out 4).trans rfl;have hcz5_5:w4.cell? ⟨gb255,5,none⟩=some (.bool a0_5):=(za BK255.out 5).trans rfl;have hfz5_0:=zh BK255.out 0;have hfz5_1:=zh BK255.out 1;have hfz5_2:=zh BK255.out 2;have hfz5_3:=zh BK255.out 3;have hfz5_4:=zh BK255.out 4;have hfz5_5:=zh BK255.out 5))
  go_ret2
  exact ⟨by first | rfl | (simp [zq,zt] <;> rfl) | (simp [*,zq,zt] <;> rfl),by repeat (first | (with_reducible first | exact HB.out | apply ze | apply zc | apply zg | refine zp ?_ GE255.out) | exact HB.out)⟩
 ·rw [if_neg c3] at H
  have c3b0:(a0_3 == 0)=false:=beq_eq_false_iff_ne.mpr c3
  have c3b1:(a0_3 != 0)=true:=bne_iff_ne.mpr c3
  by_cases c6:a0_3=2
  ·rw [if_pos c6] at H
   have c6b0:(a0_3 == 2)=true:=beq_iff_eq.mpr c6
   have c6b1:(a0_3 != 2)=false:=bne_eq_false_iff_eq.mpr c6
   clear c6
   simp only [Option.some.injEq,Prod.mk.injEq] at H
   obtain ⟨rfl,rfl⟩:=H
   go_enter Tryz.func21,Tryz.ntmps21
   go_wp2_with (first | ((with_reducible refine zf (N:=2) rfl ?_);refine ba_ 2 rfl #[.int .i64 a0_0,.int .i64 a0_1,.int .i64 a0_2,.int .i64 a0_3,.int .i64 a0_4,.bool a0_5] 24 ?_;intro gb255 hg w7 I hb;have n0_:=Aside0.mk (zb (by repeat (first | (with_reducible first | exact HB.out | apply ze | apply zc | apply zg) | exact HB.out)) hb);have n1_:=Aside0.mk (I);have n2_:=Aside0.mk ((by rw [hg];exact (zi (by repeat (first | (with_reducible first | exact HB.out | apply ze | apply zc | apply zg) | exact HB.out))):w.heap.size≤gb255));have n3_:=Aside0.mk ((by rw [hg];exact (zi (by repeat (first | (with_reducible first | exact HB.out | apply ze | apply zc | apply zg) | exact HB.out))):w.heap.size≤gb255));clear HB;have HB:=n0_;have BK255:=n1_;have GW255:=n2_;have GE255:=n3_;clear n0_ n1_ n2_ n3_;clear hb I hg;have hcz8_0:w7.cell? ⟨gb255,0,none⟩=some (.int .i64 a0_0):=(za BK255.out 0).trans rfl;have hcz8_1:w7.cell? ⟨gb255,1,none⟩=some (.int .i64 a0_1):=(za BK255.out 1).trans rfl;have hcz8_2:w7.cell? ⟨gb255,2,none⟩=some (.int .i64 a0_2):=(za BK255.out 2).trans rfl;have hcz8_3:w7.cell? ⟨gb255,3,none⟩=some (.int .i64 a0_3):=(za BK255.out 3).trans rfl;have hcz8_4:w7.cell? ⟨gb255,4,none⟩=some (.int .i64 a0_4):=(za BK255.out 4).trans rfl;have hcz8_5:w7.cell? ⟨gb255,5,none⟩=some (.bool a0_5):=(za BK255.out 5).trans rfl;have hfz8_0:=zh BK255.out 0;have hfz8_1:=zh BK255.out 1;have hfz8_2:=zh BK255.out 2;have hfz8_3:=zh BK255.out 3;have hfz8_4:=zh BK255.out 4;have hfz8_5:=zh BK255.out 5))
   go_ret2
   exact ⟨by first | rfl | (simp [zq,zt] <;> rfl) | (simp [*,zq,zt] <;> rfl),by repeat (first | (with_reducible first | exact HB.out | apply ze | apply zc | apply zg | refine zp ?_ GE255.out) | exact HB.out)⟩
  ·rw [if_neg c6] at H
   have c6b0:(a0_3 == 2)=false:=beq_eq_false_iff_ne.mpr c6
   have c6b1:(a0_3 != 2)=true:=bne_iff_ne.mpr c6
   simp only [Option.some.injEq,Prod.mk.injEq] at H
   obtain ⟨rfl,rfl⟩:=H
   go_enter Tryz.func21,Tryz.ntmps21
   go_wp2_with (first | ((with_reducible refine zf (N:=2) rfl ?_);refine ba_ 2 rfl #[.int .i64 a0_0,.int .i64 a0_1,.int .i64 a0_2,.int .i64 a0_3,.int .i64 a0_4,.bool a0_5] 24 ?_;intro gb255 hg w9 I hb;have n0_:=Aside0.mk (zb (by repeat (first | (with_reducible first | exact HB.out | apply ze | apply zc | apply zg) | exact HB.out)) hb);have n1_:=Aside0.mk (I);have n2_:=Aside0.mk ((by rw [hg];exact (zi (by repeat (first | (with_reducible first | exact HB.out | apply ze | apply zc | apply zg) | exact HB.out))):w.heap.size≤gb255));have n3_:=Aside0.mk ((by rw [hg];exact (zi (by repeat (first | (with_reducible first | exact HB.out | apply ze | apply zc | apply zg) | exact HB.out))):w.heap.size≤gb255));clear HB;have HB:=n0_;have BK255:=n1_;have GW255:=n2_;have GE255:=n3_;clear n0_ n1_ n2_ n3_;clear hb I hg;have hcz10_0:w9.cell? ⟨gb255,0,none⟩=some (.int .i64 a0_0):=(za BK255.out 0).trans rfl;have hcz10_1:w9.cell? ⟨gb255,1,none⟩=some (.int .i64 a0_1):=(za BK255.out 1).trans rfl;have hcz10_2:w9.cell? ⟨gb255,2,none⟩=some (.int .i64 a0_2):=(za BK255.out 2).trans rfl;have hcz10_3:w9.cell? ⟨gb255,3,none⟩=some (.int .i64 a0_3):=(za BK255.out 3).trans rfl;have hcz10_4:w9.cell? ⟨gb255,4,none⟩=some (.int .i64 a0_4):=(za BK255.out 4).trans rfl;have hcz10_5:w9.cell? ⟨gb255,5,none⟩=some (.bool a0_5):=(za BK255.out 5).trans rfl;have hfz10_0:=zh BK255.out 0;have hfz10_1:=zh BK255.out 1;have hfz10_2:=zh BK255.out 2;have hfz10_3:=zh BK255.out 3;have hfz10_4:=zh BK255.out 4;have hfz10_5:=zh BK255.out 5))
   go_ret2
   exact ⟨by first | rfl | (simp [zq,zt] <;> rfl) | (simp [*,zq,zt] <;> rfl),by repeat (first | (with_reducible first | exact HB.out | apply ze | apply zc | apply zg | refine zp ?_ GE255.out) | exact HB.out)⟩

def zbi (w0 W:World) (g:Nat) (f0:Int) (f1:Int):Prop:=W.heap[g]?=some (.cells #[.int .i64 f0,.int .i64 f1] 70 (0,0))∧w0.heap.size≤g
theorem zbi.grown {w0 W:World} {g:Nat} {f0:Int} {f1:Int} {I:World} {row:Option Nat} (h:zbi w0 W g f0 f1) (hw:W.grownBy I row) (hne:some g≠row):zbi w0 I g f0 f1:=by
 obtain ⟨hb,hg⟩:=h
 exact ⟨zc1 hb hw hne,hg⟩
theorem zbi.kept {w0 W:World} {g:Nat} {f0:Int} {f1:Int} {I:World} {S:Nat→Prop} (h:zbi w0 W g f0 f1) (hk:zbS W I S) (hne:¬S g):zbi w0 I g f0 f1:=by
 obtain ⟨hb,hg⟩:=h
 exact ⟨zkS hb hk hne,hg⟩
theorem zbi.below {w0 W:World} {g:Nat} {f0:Int} {f1:Int} {I:World} (h:zbi w0 W g f0 f1) (hw:Below W.heap.size W I):zbi w0 I g f0 f1:=h.grown (zaZ hw none) (by simp)
theorem zbi.alloc {w0 W:World} {g:Nat} {f0:Int} {f1:Int} (h:zbi w0 W g f0 f1) (o:Obj):zbi w0 (W.alloc o) g f0 f1:=h.below (ze (Below.refl _ _) o)
theorem zbi.drewN {w0 W:World} {g:Nat} {f0:Int} {f1:Int} (h:zbi w0 W g f0 f1) (m:Nat):zbi w0 (W.drewN m) g f0 f1:=h
theorem zbi.drew {w0 W:World} {g:Nat} {f0:Int} {f1:Int} (h:zbi w0 W g f0 f1):zbi w0 W.drew g f0 f1:=h
theorem zbi.at_ {w0 W:World} {g:Nat} {f0:Int} {f1:Int} {w':World} {m:Nat} (hq:W.drewN m=w') (h:zbi w0 W g f0 f1):zbi w0 w' g f0 f1:=by subst hq;exact zbi.drewN h m
theorem zbi.apart {w0 W:World} {g:Nat} {f0:Int} {f1:Int} {α:Type} {d:Kd α} {e:Nat} {base:Nat} {ok:Nat→Prop} {v:Value} {xs:List α} (h:zbi w0 W g f0 f1) (ho:d.R e W base ok v xs) (ht:∀q,q∈e :: d.E→q≠70):d.R e W base (fun k=>ok k∧k≠g) v xs:=by
 obtain ⟨hb,hg⟩:=h
 exact Kd.R_types ho hb ht
theorem zbi.own_ne {w0 W:World} {g:Nat} {f0:Int} {f1:Int} {α:Type} {d:Kd α} {e:Nat} {base:Nat} {ok:Nat→Prop} {v:Value} {xs:List α} (h:zbi w0 W g f0 f1) (ho:d.R e W base ok v xs) (ht:e≠70):some g≠v.ownBlock:=by
 obtain ⟨hb,hg⟩:=h
 exact Kd.R_ne ho hb ht
theorem zbi.lt {w0 W:World} {g:Nat} {f0:Int} {f1:Int} (h:zbi w0 W g f0 f1):g < W.heap.size:=by
 obtain ⟨hb,hg⟩:=h
 exact zj hb
theorem zbi.new (w0 W:World) (f0:Int) (f1:Int) (hB:Below w0.heap.size w0 W):zbi w0 (W.alloc (.cells #[.int .i64 f0,.int .i64 f1] 70)) W.heap.size f0 f1:=⟨by simpa using heap_alloc_new W _,hB.size⟩

end Go.Proofs.YteieahbadclppaaGreat.P

