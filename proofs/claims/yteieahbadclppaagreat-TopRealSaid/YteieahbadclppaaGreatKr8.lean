/- Part 8 of 36 of the proof: the texts that it reaches, one behind the other. No condition. -/
import Derived.Test.YteieahbadclppaaGreatKr6
import Derived.Test.YteieahbadclppaaGreatKr7
namespace Go.Proofs.YteieahbadclppaaGreat.P

set_option linter.unusedVariables false
set_option linter.unusedSimpArgs false
def fl (n m:Nat):Array Bool:=((List.range n).map fun i=>m.testBit i).toArray
end Go.Proofs.YteieahbadclppaaGreat.P
namespace Go.Proofs.YteieahbadclppaaGreat.P
open Go.RowKit Go.Proofs.YteieahbadclppaaGreatW.PrintWords Go.Proofs.YteieahbadclppaaGreatW.PrintLast Go.Proofs.YteieahbadclppaaGreatW.PrintMore
attribute [local go_sem] zF zG zK zL zY zZ z9 zaa
set_option linter.unusedVariables false
set_option linter.unusedSimpArgs false
def roots_root.f (a0:Int) (a1:Int) (a2:Int):Option (Int×Int):=if 0≤a0 then ((roots_point.f a0 (Go.bits .and .i64 (wrap64 (4*(Go.bits .and .i64 a1 (wrap64 ((shl .i64 1 a0) - 1))))) (wrap64 ((shl .i64 1 a0) - 1)))).bind fun bt131=>((cx_Shift.f bt131.1 bt131.2 (wrap64 (56 - a2)) 1).bind fun bt133=>((cx_Turn.f bt133.1 bt133.2.1 (shr .i64 (wrap64 (4*(Go.bits .and .i64 a1 (wrap64 ((shl .i64 1 a0) - 1))))) a0)).bind fun bt137=>((cx_Conj.f bt137.1 bt137.2.1).bind fun bt140=>(some (bt140.1,bt140.2.1)))))) else (none)
def roots_root.T4:Bool×List (List Nat×List Nat):=(true,[([],[]),([],[]),([1],[1]),([],[]),([2,3],[2,3]),([0,4],[0,4]),([5],[5]),([6],[6]),([6],[6]),([7,5,0,1,2,3,4,5,6,7],[7])])
def roots_root.B4:List Nat:=[0,0,2,0,14,31,63,127,127,255]
theorem roots_root.tab4:zbe .any (zi1 Tryz.f90 4)=roots_root.T4:=by kernel_rfl
theorem roots_root.bits4:zcD roots_root.T4.2 roots_root.B4=true:=by kernel_rfl
theorem nx_ {P:Program} {ops:Array Oper} {Q:Exit→Act→World→Prop} {md:Go.Region.Mode} {S:World→Prop} {ds:List Nat} {fuel:Nat} {l:Array Bool} {b a':Act} {w:World} {N:Option Tmp} {v:Value} (h:zC P md ops Q S ds fuel l a' w) (ha:b.put N v=a':=by simp only [Act.put,zzA,zzB,zzC,zD,zU];rfl):zC P md ops Q S ds fuel l (b.put N v) w:=znQ ha h
set_option maxHeartbeats 8000000 in
set_option maxRecDepth 100000 in
theorem roots_root.calls (a0:Int) (a1:Int) (a2:Int) (r1:Int) (r2:Int) (w:World) (h:roots_root.f a0 a1 a2=some (r1,r2)) :
  Calls Tryz.prog 90 #[.int .i64 a0,.int .i64 a1,.int .i64 a2] w fun e w'=>e=.returned (.agg #[.int .i64 r1,.int .i64 r2])∧Below w.heap.size w w':=by
 have hu38:=Tryz.underlying38
 have HB:=Aside0.mk (Below.refl w.heap.size w)
 have H:(if 0≤a0 then ((roots_point.f a0 (Go.bits .and .i64 (wrap64 (4*(Go.bits .and .i64 a1 (wrap64 ((shl .i64 1 a0) - 1))))) (wrap64 ((shl .i64 1 a0) - 1)))).bind fun bt131=>((cx_Shift.f bt131.1 bt131.2 (wrap64 (56 - a2)) 1).bind fun bt133=>((cx_Turn.f bt133.1 bt133.2.1 (shr .i64 (wrap64 (4*(Go.bits .and .i64 a1 (wrap64 ((shl .i64 1 a0) - 1))))) a0)).bind fun bt137=>((cx_Conj.f bt137.1 bt137.2.1).bind fun bt140=>(some (bt140.1,bt140.2.1)))))) else (none))=some (r1,r2):=h
 clear h
 by_cases c4:0≤a0
 ·rw [if_pos c4] at H
  have c4b0:=eq_true c4
  have c4b1:decide (0≤a0)=true:=decide_eq_true c4
  clear c4
  obtain ⟨ji5,hji5⟩:∃j_:Int,(shl .i64 1 a0)=j_:=⟨_,rfl⟩
  replace H:((roots_point.f a0 (Go.bits .and .i64 (wrap64 (4*(Go.bits .and .i64 a1 (wrap64 ((ji5) - 1))))) (wrap64 ((ji5) - 1)))).bind fun bt131=>((cx_Shift.f bt131.1 bt131.2 (wrap64 (56 - a2)) 1).bind fun bt133=>((cx_Turn.f bt133.1 bt133.2.1 (shr .i64 (wrap64 (4*(Go.bits .and .i64 a1 (wrap64 ((ji5) - 1))))) a0)).bind fun bt137=>((cx_Conj.f bt137.1 bt137.2.1).bind fun bt140=>(some (bt140.1,bt140.2.1))))))=some (r1,r2):=by first | (rw [hji5] at H;exact H) | (simp only [hji5] at H ⊢;exact H)
  have hji5_:(IntKind.i64.wrap (1*2^min a0.toNat 64))=ji5:=hji5
  have hji5z:a0≤64→(IntKind.i64.wrap (1*2^a0.toNat))=ji5:=zci hji5
  have hji5u:(IntKind.i64.wrap (2^min a0.toNat 64))=ji5:=by have h_:=hji5_;rw [Int.one_mul] at h_;exact h_
  have hji5v:a0≤64→(IntKind.i64.wrap (2^a0.toNat))=ji5:=fun hle_=>by have h_:=hji5z hle_;rw [Int.one_mul] at h_;exact h_
  have hji5y:(wrap64 (1*2^min a0.toNat 64))=ji5:=(zD _).symm.trans hji5_
  have hji5x:a0≤64→(wrap64 (1*2^a0.toNat))=ji5:=fun h_=>(zD _).symm.trans (hji5z h_)
  replace H:=Option.bind_eq_some_iff.mp H
  obtain ⟨⟨t131,t132⟩,A60,H⟩:=H
  replace H:((cx_Shift.f t131 t132 (wrap64 (56 - a2)) 1).bind fun bt133=>((cx_Turn.f bt133.1 bt133.2.1 (shr .i64 (wrap64 (4*(Go.bits .and .i64 a1 (wrap64 ((ji5) - 1))))) a0)).bind fun bt137=>((cx_Conj.f bt137.1 bt137.2.1).bind fun bt140=>(some (bt140.1,bt140.2.1)))))=some (r1,r2):=H
  have A6:=Aside0.mk A60
  clear A60
  replace H:=Option.bind_eq_some_iff.mp H
  obtain ⟨⟨t133,t134,t135⟩,A70,H⟩:=H
  replace H:((cx_Turn.f t133 t134 (shr .i64 (wrap64 (4*(Go.bits .and .i64 a1 (wrap64 ((ji5) - 1))))) a0)).bind fun bt137=>((cx_Conj.f bt137.1 bt137.2.1).bind fun bt140=>(some (bt140.1,bt140.2.1))))=some (r1,r2):=H
  have A7:=Aside0.mk A70
  clear A70
  have c8b0:=eq_true (of_decide_eq_true (by first | (with_reducible assumption) | assumption):0≤a0)
  obtain ⟨ji9,hji9⟩:∃j_:Int,(shr .i64 (wrap64 (4*(Go.bits .and .i64 a1 (wrap64 ((ji5) - 1))))) a0)=j_:=⟨_,rfl⟩
  replace H:((cx_Turn.f t133 t134 (ji9)).bind fun bt137=>((cx_Conj.f bt137.1 bt137.2.1).bind fun bt140=>(some (bt140.1,bt140.2.1))))=some (r1,r2):=by first | (rw [hji9] at H;exact H) | (simp only [hji9] at H ⊢;exact H)
  (try rw [hji9] at A6)
  (try rw [hji9] at A7)
  have hji9_:((wrap64 (4*(Go.bits .and .i64 a1 (wrap64 ((ji5) - 1))))) / 2^min a0.toNat 64)=ji9:=hji9
  have hji9z:a0≤64→((wrap64 (4*(Go.bits .and .i64 a1 (wrap64 ((ji5) - 1))))) / 2^a0.toNat)=ji9:=zjH hji9
  replace H:=Option.bind_eq_some_iff.mp H
  obtain ⟨⟨t137,t138,t139⟩,A100,H⟩:=H
  replace H:((cx_Conj.f t137 t138).bind fun bt140=>(some (bt140.1,bt140.2.1)))=some (r1,r2):=H
  have A10:=Aside0.mk A100
  clear A100
  replace H:=Option.bind_eq_some_iff.mp H
  obtain ⟨⟨t140,t141,t142⟩,A110,H⟩:=H
  replace H:(some (t140,t141))=some (r1,r2):=H
  have A11:=Aside0.mk A110
  clear A110
  simp only [Option.some.injEq,Prod.mk.injEq] at H
  obtain ⟨rfl,rfl⟩:=H
  go_enter Tryz.func90,Tryz.ntmps90
  try go_wp2_with (first | ((with_reducible refine zf (N:=6) rfl ?_);refine ba_ 6 rfl #[.int .i64 0,.int .i64 0] 38 ?_;intro gb130 hg w12 I hb;have n0_:=Aside0.mk (zb (by repeat (first | (with_reducible first | exact HB.out | apply ze | apply zc | apply zg) | exact HB.out)) hb);have n1_:=Aside0.mk (I);have n2_:=Aside0.mk ((by rw [hg];exact (zi (by repeat (first | (with_reducible first | exact HB.out | apply ze | apply zc | apply zg) | exact HB.out))):w.heap.size≤gb130));have n3_:=Aside0.mk ((by rw [hg];exact (zi (by repeat (first | (with_reducible first | exact HB.out | apply ze | apply zc | apply zg) | exact HB.out))):w.heap.size≤gb130));clear HB;have HB:=n0_;have BK130:=n1_;have GW130:=n2_;have GE130:=n3_;clear n0_ n1_ n2_ n3_;clear hb I hg) | ((with_reducible refine zy (f:=108) rfl ?_);refine zO (some 24) rfl rfl Tryz.func108 (by kernel_rfl) rfl #[.int .i64 a0,.int .i64 (Go.bits .and .i64 (wrap64 (4*(Go.bits .and .i64 a1 (wrap64 ((ji5) - 1))))) (wrap64 ((ji5) - 1)))] rfl (by (try simp only [List.map_toArray,List.map_cons,List.map_nil]);first | done | (simp only [hji5];rfl) | rfl | (simp only [List.length_drop,List.length_take];rfl)) ?_;(with_reducible refine (roots_point.calls a0 (Go.bits .and .i64 (wrap64 (4*(Go.bits .and .i64 a1 (wrap64 ((ji5) - 1))))) (wrap64 ((ji5) - 1))) t131 t132 _ A6.out).mono ?_);rintro e w13 ⟨rfl,hb⟩;refine ⟨_,rfl,?_⟩;have n0_:=Aside0.mk (zd (g:=gb130) (o:=.cells #[.int .i64 0,.int .i64 0] 38 (0,0)) (by (with_reducible repeat (first | refine zn ?_ _ | refine zu ?_ | refine zm ?_ _));exact BK130.out) hb);have n1_:=Aside0.mk (zb (by repeat (first | (with_reducible first | exact HB.out | apply ze | apply zc | apply zg | refine zp ?_ GE130.out) | exact HB.out)) hb);clear BK130;clear HB;have BK130:=n0_;have HB:=n1_;clear n0_ n1_;(try clear hb);(try clear hb2);(try clear hk);(try clear hi)) | ((with_reducible refine zy (f:=70) rfl ?_);refine zO (some 27) rfl rfl Tryz.func70 (by kernel_rfl) rfl #[.agg #[.int .i64 t131,.int .i64 t132],.int .i64 (wrap64 (56 - a2)),.int .i64 1] rfl (by (try simp only [List.map_toArray,List.map_cons,List.map_nil]);first | done | rfl | (simp only [List.length_drop,List.length_take];rfl)) ?_;(with_reducible refine (cx_Shift.calls t131 t132 (wrap64 (56 - a2)) 1 t133 t134 t135 _ A7.out).mono ?_);rintro e w14 ⟨rfl,hb⟩;refine ⟨_,rfl,?_⟩;have n0_:=Aside0.mk (zd (g:=gb130) (o:=.cells #[.int .i64 0,.int .i64 0] 38 (0,0)) (by (with_reducible repeat (first | refine zn ?_ _ | refine zu ?_ | refine zm ?_ _));exact BK130.out) hb);have n1_:=Aside0.mk (zb (by repeat (first | (with_reducible first | exact HB.out | apply ze | apply zc | apply zg | refine zp ?_ GE130.out) | exact HB.out)) hb);clear BK130;clear HB;have BK130:=n0_;have HB:=n1_;clear n0_ n1_;(try clear hb);(try clear hb2);(try clear hk);(try clear hi)) | ((with_reducible refine zf (N:=9) rfl ?_);refine ba_ 9 rfl #[.int .i64 0,.int .i64 0] 38 ?_;intro gb136 hg w15 I hb;have n0_:=Aside0.mk (zd (g:=gb130) (o:=.cells #[.int .i64 0,.int .i64 0] 38 (0,0)) (by (with_reducible repeat (first | refine zn ?_ _ | refine zu ?_ | refine zm ?_ _));exact BK130.out) hb);have n1_:=Aside0.mk (zb (by repeat (first | (with_reducible first | exact HB.out | apply ze | apply zc | apply zg | refine zp ?_ GE130.out) | exact HB.out)) hb);have n2_:=Aside0.mk (I);have n3_:=Aside0.mk ((by rw [hg];exact (zi (by repeat (first | (with_reducible first | exact HB.out | apply ze | apply zc | apply zg | refine zp ?_ GE130.out) | exact HB.out))):w.heap.size≤gb136));have n4_:=Aside0.mk ((by rw [hg];exact (zi (by repeat (first | (with_reducible first | exact HB.out | apply ze | apply zc | apply zg | refine zp ?_ GE130.out) | exact HB.out))):w.heap.size≤gb136));have n5_:=Aside0.mk ((by rw [hg];exact Nat.ne_of_lt (zj (g:=gb130) (o:=.cells #[.int .i64 0,.int .i64 0] 38 (0,0)) (by (with_reducible repeat (first | refine zn ?_ _ | refine zu ?_ | refine zm ?_ _));exact BK130.out)):gb130≠gb136));have n6_:=Aside0.mk ((by rw [hg];exact Nat.ne_of_gt (zj (g:=gb130) (o:=.cells #[.int .i64 0,.int .i64 0] 38 (0,0)) (by (with_reducible repeat (first | refine zn ?_ _ | refine zu ?_ | refine zm ?_ _));exact BK130.out)):gb136≠gb130));clear BK130;clear HB;have BK130:=n0_;have HB:=n1_;have BK136:=n2_;have GW136:=n3_;have GE136:=n4_;have NB130_136:=n5_;have NB136_130:=n6_;clear n0_ n1_ n2_ n3_ n4_ n5_ n6_;clear hb I hg;have hnb16:=NB136_130.out;have hnc16:=NB130_136.out;have hcz17_0:w15.cell? ⟨gb136,0,none⟩=some (.int .i64 0):=(za BK136.out 0).trans rfl;have hcz17_1:w15.cell? ⟨gb136,1,none⟩=some (.int .i64 0):=(za BK136.out 1).trans rfl;have hfz17_0:=zh BK136.out 0;have hfz17_1:=zh BK136.out 1))
  have n0_:Aside0 (((w15.setCell ⟨gb136,0,none⟩ (.int .i64 t133)).setCell ⟨gb136,1,none⟩ (.int .i64 t134)).heap[gb130]?=some (.cells #[.int .i64 0,.int .i64 0] 38 (0,0))):=⟨by (with_reducible repeat (first | refine zn ?_ _ | refine zu ?_ | refine zm ?_ _));refine zaI ?_ NB130_136.out _;(with_reducible repeat (first | refine zn ?_ _ | refine zu ?_ | refine zm ?_ _));refine zaI ?_ NB130_136.out _;(with_reducible repeat (first | refine zn ?_ _ | refine zu ?_ | refine zm ?_ _));exact BK130.out⟩
  have n1_:Aside0 (((w15.setCell ⟨gb136,0,none⟩ (.int .i64 t133)).setCell ⟨gb136,1,none⟩ (.int .i64 t134)).heap[gb136]?=some (.cells #[.int .i64 t133,.int .i64 t134] 38 (0,0))):=⟨by (with_reducible repeat (first | refine zn ?_ _ | refine zu ?_ | refine zm ?_ _));refine zQ (cs:=#[.int .i64 t133,.int .i64 0]) ?_ 1 _ rfl;(with_reducible repeat (first | refine zn ?_ _ | refine zu ?_ | refine zm ?_ _));refine zQ (cs:=#[.int .i64 0,.int .i64 0]) ?_ 0 _ rfl;(with_reducible repeat (first | refine zn ?_ _ | refine zu ?_ | refine zm ?_ _));exact BK136.out⟩
  have n2_:Aside0 (Below w.heap.size w ((w15.setCell ⟨gb136,0,none⟩ (.int .i64 t133)).setCell ⟨gb136,1,none⟩ (.int .i64 t134))):=⟨by repeat (first | (with_reducible first | exact HB.out | apply ze | apply zc | apply zg | refine zp ?_ GE130.out | refine zp ?_ GE136.out) | exact HB.out)⟩
  (try clear BK130)
  (try clear BK136)
  (try clear HB)
  generalize ((w15.setCell ⟨gb136,0,none⟩ (.int .i64 t133)).setCell ⟨gb136,1,none⟩ (.int .i64 t134))=w18 at n0_ n1_ n2_ ⊢
  have BK130:=n0_
  have BK136:=n1_
  have HB:=n2_
  clear n0_ n1_ n2_
  have n0_:=Aside0.mk (zu BK130.out)
  have n1_:=Aside0.mk (zu BK136.out)
  have n2_:=Aside0.mk (zg HB.out)
  clear BK130
  clear BK136
  clear HB
  have BK130:=n0_
  have BK136:=n1_
  have HB:=n2_
  clear n0_ n1_ n2_
  refine z7 (n:=10) (S:=fun w'=>w'.cell? ⟨gb136,0,none⟩=some (.int .i64 t133)∧w'.cell? ⟨gb136,1,none⟩=some (.int .i64 t134)) (ds:=[9]) (fl 10 0) (by kernel_rfl) rfl rfl ⟨(za BK136.out 0).trans rfl,(za BK136.out 1).trans rfl⟩ (fun aA=>?_);refine zeC roots_root.tab4 roots_root.bits4 (fun HT_ HW_=>?_)
  generalize w18.drew=w19 at BK130 BK136 HB aA ⊢
  refine zaD (i:=1) (N:=some 32) (v:=?_) (a':=?_) (fl 10 2) rfl rfl (zar HT_.out (by kernel_rfl)) (fun _ _ _ h=>h) (Or.inl ⟨by rfl,?_⟩) ?_ ?_
  rotate_left
  ·intro w'
   go_simp
   with_reducible rfl
  rotate_left
  ·simp only [Act.put,zzA,zzB,zzC,zD,zU]
   rfl
  refine zaD (i:=2) (N:=some 33) (v:=?_) (a':=?_) (fl 10 6) rfl rfl (zar HT_.out (by kernel_rfl)) (fun _ _ _ h=>h) (Or.inl ⟨by rfl,?_⟩) ?_ ?_
  rotate_left
  ·intro w'
   go_simp
   with_reducible rfl
  rotate_left
  ·simp only [Act.put,zzA,zzB,zzC,zD,zU]
   rfl
  refine zaD (i:=3) (N:=some 34) (v:=?_) (a':=?_) (fl 10 14) rfl rfl (zar HT_.out (by kernel_rfl)) (fun _ _ _ h=>h) (Or.inl ⟨by rfl,?_⟩) ?_ ?_
  rotate_left
  ·intro w'
   go_simp
   with_reducible rfl
  rotate_left
  ·simp only [Act.put,zzA,zzB,zzC,zD,zU]
   rfl
  refine zaD (i:=4) (N:=some 35) (v:=?_) (a':=?_) (fl 10 30) rfl rfl (zar HT_.out (by kernel_rfl)) (fun _ _ _ h=>h) (Or.inl ⟨by rfl,?_⟩) ?_ ?_
  rotate_left
  ·intro w'
   go_simp
   with_reducible rfl
  rotate_left
  ·simp only [Act.put,zzA,zzB,zzC,zD,zU]
   rfl
  refine take_ (i:=0) (N:=some 31) (v:=?_) (a':=?_) (fl 10 31) rfl rfl (zdr HT_.out HW_.out (by kernel_rfl)) (fun _ _ _ h=>h) (Or.inl ⟨by rfl,?_⟩) aA ?_ ?_
  rotate_left
  ·rintro w' ⟨s0,s1⟩
   go_simp
   with_reducible rfl
  rotate_left
  ·simp only [Act.put,zzA,zzB,zzC,zD,zU]
   rfl
  refine ziX (i:=5) (N:=some 36) (fl 10 63) rfl rfl (zd3 HT_.out (by kernel_rfl)) (by decide) (fun K hK=>?_)
  refine zJ Tryz.func96 (by kernel_rfl) rfl #[.agg #[.int .i64 t133,.int .i64 t134],.int .i64 ji9] (by rfl) rfl rfl (by (try simp only [List.map_toArray,List.map_cons,List.map_nil]);first | done | (simp only [hji9];rfl) | rfl | (simp only [List.length_drop,List.length_take];rfl)) ?_
  with_reducible refine (cx_Turn.calls t133 t134 ji9 t137 t138 t139 _ A10.out).mono ?_
  rintro e w20 ⟨rfl,hb⟩
  refine ⟨_,rfl,?_⟩
  have n0_:=Aside0.mk (zd (g:=gb130) (o:=.cells #[.int .i64 0,.int .i64 0] 38 (0,0)) (by (with_reducible repeat (first | refine zn ?_ _ | refine zu ?_ | refine zm ?_ _));exact BK130.out) hb)
  have n1_:=Aside0.mk (zd (g:=gb136) (o:=.cells #[.int .i64 t133,.int .i64 t134] 38 (0,0)) (by (with_reducible repeat (first | refine zn ?_ _ | refine zu ?_ | refine zm ?_ _));exact BK136.out) hb)
  have n2_:=Aside0.mk (zb (by repeat (first | (with_reducible first | exact HB.out | apply ze | apply zc | apply zg | refine zp ?_ GE130.out | refine zp ?_ GE136.out) | exact HB.out)) hb)
  clear BK130
  clear BK136
  clear HB
  have BK130:=n0_
  have BK136:=n1_
  have HB:=n2_
  clear n0_ n1_ n2_
  (try clear hb)
  (try clear hb2)
  (try clear hk)
  (try clear hi)
  refine hK.out _ _ ⟨(za BK136.out 0).trans rfl,(za BK136.out 1).trans rfl⟩ (fun aA=>?_)
  clear hK K
  refine nx_ ?_
  refine zaD (i:=6) (N:=some 30) (v:=?_) (a':=?_) (fl 10 127) rfl rfl (zar HT_.out (by kernel_rfl)) (fun _ _ _ h=>h) (Or.inl ⟨by rfl,?_⟩) ?_ ?_
  rotate_left
  ·intro w'
   go_simp
   with_reducible rfl
  rotate_left
  ·simp only [Act.put,zzA,zzB,zzC,zD,zU]
   rfl
  refine zaD (i:=7) (N:=some 37) (v:=?_) (a':=?_) (fl 10 255) rfl rfl (zar HT_.out (by kernel_rfl)) (fun _ _ _ h=>h) (Or.inl ⟨by rfl,?_⟩) ?_ ?_
  rotate_left
  ·intro w'
   go_simp
   with_reducible rfl
  rotate_left
  ·simp only [Act.put,zzA,zzB,zzC,zD,zU]
   rfl
  refine zaD (i:=8) (N:=some 38) (v:=?_) (a':=?_) (fl 10 511) rfl rfl (zar HT_.out (by kernel_rfl)) (fun _ _ _ h=>h) (Or.inl ⟨by rfl,?_⟩) ?_ ?_
  rotate_left
  ·intro w'
   go_simp
   with_reducible rfl
  rotate_left
  ·simp only [Act.put,zzA,zzB,zzC,zD,zU]
   rfl
  refine zgV (i:=9) (N:=none) (fl 10 1023) rfl rfl (zd3 HT_.out (by kernel_rfl)) (by decide) (fun K hK=>?_)
  have hs21:w20.cell? ⟨gb136,0,none⟩=some (.int .i64 t133):=(za BK136.out 0).trans rfl
  have hfs21:=zh BK136.out 0
  have hns21_0:=NB130_136.out
  have hms21_0:=NB136_130.out
  have hs22:w20.cell? ⟨gb136,1,none⟩=some (.int .i64 t134):=(za BK136.out 1).trans rfl
  have hfs22:=zh BK136.out 1
  have hns22_0:=NB130_136.out
  have hms22_0:=NB136_130.out
  refine ziY (w1:=?_) (by rfl) rfl ?_ ?_
  rotate_left
  ·go_simp
   rfl
  refine hK.out _ _ ?_
  clear hK K
  refine zE (zf8 HT_.out (by kernel_rfl)) ?_
  have hcz23_0:w20.cell? ⟨gb136,0,none⟩=some (.int .i64 t133):=(za BK136.out 0).trans rfl
  have hcz23_1:w20.cell? ⟨gb136,1,none⟩=some (.int .i64 t134):=(za BK136.out 1).trans rfl
  have hfz23_0:=zh BK136.out 0
  have hfz23_1:=zh BK136.out 1
  try go_wp2_with (first | ((with_reducible refine zy (f:=58) rfl ?_);refine zO (some 41) rfl rfl Tryz.func58 (by kernel_rfl) rfl #[.agg #[.int .i64 t137,.int .i64 t138]] rfl (by (try simp only [List.map_toArray,List.map_cons,List.map_nil]);first | done | rfl | (simp only [List.length_drop,List.length_take];rfl)) ?_;(with_reducible refine (cx_Conj.calls t137 t138 t140 t141 t142 _ A11.out).mono ?_);rintro e w24 ⟨rfl,hb⟩;refine ⟨_,rfl,?_⟩;have n0_:=Aside0.mk (zd (g:=gb130) (o:=.cells #[.int .i64 0,.int .i64 0] 38 (0,0)) (by (with_reducible repeat (first | refine zn ?_ _ | refine zu ?_ | refine zm ?_ _));refine zaI ?_ NB130_136.out _;(with_reducible repeat (first | refine zn ?_ _ | refine zu ?_ | refine zm ?_ _));refine zaI ?_ NB130_136.out _;(with_reducible repeat (first | refine zn ?_ _ | refine zu ?_ | refine zm ?_ _));exact BK130.out) hb);have n1_:=Aside0.mk (zd (g:=gb136) (o:=.cells #[.int .i64 t137,.int .i64 t138] 38 (0,0)) (by (with_reducible repeat (first | refine zn ?_ _ | refine zu ?_ | refine zm ?_ _));refine zQ (cs:=#[.int .i64 t137,.int .i64 t134]) ?_ 1 _ rfl;(with_reducible repeat (first | refine zn ?_ _ | refine zu ?_ | refine zm ?_ _));refine zQ (cs:=#[.int .i64 t133,.int .i64 t134]) ?_ 0 _ rfl;(with_reducible repeat (first | refine zn ?_ _ | refine zu ?_ | refine zm ?_ _));exact BK136.out) hb);have n2_:=Aside0.mk (zb (by repeat (first | (with_reducible first | exact HB.out | apply ze | apply zc | apply zg | refine zp ?_ GE130.out | refine zp ?_ GE136.out) | exact HB.out)) hb);clear BK130;clear BK136;clear HB;have BK130:=n0_;have BK136:=n1_;have HB:=n2_;clear n0_ n1_ n2_;(try clear hb);(try clear hb2);(try clear hk);(try clear hi);have hcz25_0:w24.cell? ⟨gb136,0,none⟩=some (.int .i64 t137):=(za BK136.out 0).trans rfl;have hcz25_1:w24.cell? ⟨gb136,1,none⟩=some (.int .i64 t138):=(za BK136.out 1).trans rfl;have hfz25_0:=zh BK136.out 0;have hfz25_1:=zh BK136.out 1;have hcz26_0:w24.cell? ⟨gb130,0,none⟩=some (.int .i64 0):=(za BK130.out 0).trans rfl;have hcz26_1:w24.cell? ⟨gb130,1,none⟩=some (.int .i64 0):=(za BK130.out 1).trans rfl;have hfz26_0:=zh BK130.out 0;have hfz26_1:=zh BK130.out 1))
  refine bodyPost_ret (results_cell_row rfl _ _ gb130 38 #[.int .i64 t140,.int .i64 t141] (0,0) _ rfl (by (with_reducible repeat (first | refine zn ?_ _ | refine zu ?_ | refine zm ?_ _));refine zQ (cs:=#[.int .i64 t140,.int .i64 0]) ?_ 1 _ rfl;(with_reducible repeat (first | refine zn ?_ _ | refine zu ?_ | refine zm ?_ _));refine zQ (cs:=#[.int .i64 0,.int .i64 0]) ?_ 0 _ rfl;(with_reducible repeat (first | refine zn ?_ _ | refine zu ?_ | refine zm ?_ _));refine zaI ?_ NB130_136.out _;(with_reducible repeat (first | refine zn ?_ _ | refine zu ?_ | refine zm ?_ _));refine zaI ?_ NB130_136.out _;(with_reducible repeat (first | refine zn ?_ _ | refine zu ?_ | refine zm ?_ _));exact BK130.out) Tryz.underlying38 rfl (by kernel_rfl)) rfl ?_
  exact ⟨by first | rfl | (simp [zq,zt] <;> rfl) | (simp only [← hji5,← hji9];first | rfl | (simp [zq,zt] <;> rfl)) | (simp [*,zq,zt] <;> rfl),by repeat (first | (with_reducible first | exact HB.out | apply ze | apply zc | apply zg | refine zp ?_ GE130.out | refine zp ?_ GE136.out) | exact HB.out)⟩
 ·rw [if_neg c4] at H
  exact absurd H (by simp)

end Go.Proofs.YteieahbadclppaaGreat.P

namespace Go.Proofs.YteieahbadclppaaGreat.P
open Go.RowKit Go.Proofs.YteieahbadclppaaGreatW.PrintWords Go.Proofs.YteieahbadclppaaGreatW.PrintLast Go.Proofs.YteieahbadclppaaGreatW.PrintMore
set_option linter.unusedVariables false
set_option linter.unusedSimpArgs false
section
variable {P:Program} {ops:Array Oper} {rest:List Oper} {o:Oper} {a:Act} {Q:Exit→Act→World→Prop}
theorem zk6 {w0 W:World} (base:Nat) (hN:o.dst=none) (hgd:o.guard=none) (p x:Operand) (ho:o.op=.store 38 p x) {g n cap:Nat} (i:Nat) (xs:List S38) (y:S38) (ok:Nat→Prop)
  (haddr:a.eval p=.pointer (some ⟨g,i*2,none⟩)) (hx:a.eval x=.agg #[.int .i64 y.f0,.int .i64 y.f1]) (ht:(P.info? 38).map (·.size)=some 2)
  (HO:Kd.R k38 38 W base ok (.slice (some ⟨g,0,none⟩) n cap) xs) (hi:i < n) (HB:Below base w0 W)
  (h:∀w1,Kd.R k38 38 w1 base ok (.slice (some ⟨g,0,none⟩) n cap) (xs.set i y)→Below base w0 w1→W.grownBy w1 (some g)→wpList P ops Q rest a w1):wpList P ops Q (o :: rest) a W:=by
 obtain ⟨c,hcl,hM,hcc,hfr⟩:=Kd.R_elem HO z38 (i:Int) (by omega) (by omega)
 obtain rfl:=zbk hM
 refine Kd.R_store k38 base hN hgd 38 p x ho 38 (i:Int) 0 xs y (.agg #[.int .i64 y.f0,.int .i64 y.f1]) [.int .i64 y.f0,.int .i64 y.f1] _ ok (fun _=>False) haddr (by rw [Int.toNat_natCast];rfl) hx rfl ht (by simp [Value.oneCell']) HO (by omega) (by omega) hcl hcc (Nat.le_refl 2) (zaA W base _ y) (fun _ h=>h.elim) HB ?_
 intro w1 h1 h2 h3
 rw [Int.toNat_natCast] at h1
 exact h w1 h1 h2 h3
end
set_option maxRecDepth 100000 in
set_option maxHeartbeats 4000000 in
theorem zja (k:Int) (Bl Bb:Nat) (log bits r1 r2:Int) (w:World) (hl:w.heap[Bl]?=some (.cells #[.int .i64 log] 3 (0,0))) (hb:w.heap[Bb]?=some (.cells #[.int .i64 bits] 3 (0,0))) (h:roots_root.f log k bits=some (r1,r2)) :
  Calls Tryz.prog 92 #[.int .i64 k,.pointer (some ⟨Bl,0,none⟩),.pointer (some ⟨Bb,0,none⟩)] w fun e w'=>e=.returned (.agg #[.int .i64 r1,.int .i64 r2])∧Below w.heap.size w w':=by
 have HL:=hhd hl
 have HBb:=hhd hb
 have HR:=hhd h
 clear hl hb h
 go_enter Tryz.func92,Tryz.ntmps92
 go_wp2_with (first
  | ((with_reducible refine zf (N:=4) rfl ?_);refine zR ?hg (N:=4) ?hd (cs:=#[.int .i64 0,.int .i64 0]) (t:=38) ?hr ?_;(case hd=>rfl);(case hg=>rfl);(case hr=>rfl);intro g4 hg W0 aA I;have B0:=hhd aA;have aE:=hhd I;have L4:w.heap.size≤g4:=(by rw [hg];exact Nat.le_refl _);have k0:W0.cell? ⟨Bl,0,none⟩=some (.int .i64 log):=(za (zd HL I) 0).trans rfl;have k1:W0.cell? ⟨Bb,0,none⟩=some (.int .i64 bits):=(za (zd HBb I) 0).trans rfl;clear aA I hg)
  | (go_at_call 90;(with_reducible refine (roots_root.calls log k bits r1 r2 _ HR.out).mono ?_);rintro e W1 ⟨rfl,hb⟩;have B1:=za_ B0 hb;have aG:=zs_ aE hb;clear hb)
  | ((with_reducible refine zo (t:=38) (p:=4) rfl ?_);refine zN rfl 38 _ _ rfl g4 #[.int .i64 r1,.int .i64 r2] rfl rfl 38 #[.int .i64 0,.int .i64 0] B1.out (zw _ _) rfl (zM _ _) ?_;intro W7 hq aD aC;have B7:=hhd hq;have aH:=hhd aC;clear hq aD aC))
 refine bodyPost_ret (results_cell_row rfl _ _ g4 38 #[.int .i64 r1,.int .i64 r2] (0,0) _ rfl B7.out Tryz.underlying38 rfl (zw _ _)) rfl ?_
 exact ⟨rfl,aH.out _ _ L4 aG.out⟩
theorem zk7 (L:List S38) (k:Nat) (hk:k < L.length):(L.take k++List.replicate (L.length - k) z38).set k (L.getD k z38)=L.take (k+1)++List.replicate (L.length - (k+1)) z38:=by
 have e:L.length - k=(L.length - (k+1))+1:=by omega
 rw [List.set_append_right _ _ (by simp;omega),List.length_take,Nat.min_eq_left (by omega),Nat.sub_self,e,List.replicate_succ,zzB,List.take_succ_eq_append_getElem hk,List.append_assoc]
 simp [List.getD,List.getElem?_eq_getElem hk]
set_option maxRecDepth 100000 in
set_option maxHeartbeats 4000000 in
theorem zhk (L:List S38) (hn1:1≤L.length) (hn2:L.length≤64) (Bl Bb:Nat) (log bits:Int) (w:World) (hl:w.heap[Bl]?=some (.cells #[.int .i64 log] 3 (0,0))) (hb:w.heap[Bb]?=some (.cells #[.int .i64 bits] 3 (0,0))) (hL:∀k:Nat,k < L.length→roots_root.f log k bits=some ((L.getD k z38).f0,(L.getD k z38).f1)) :
  Calls Tryz.prog 91 #[.int .i64 L.length,.func (.func 92) #[] #[.pointer (some ⟨Bl,0,none⟩),.pointer (some ⟨Bb,0,none⟩)]] w fun e w'=>∃v,e=.returned v∧Kd.R k38 38 w' w.heap.size (fun _=>True) v L∧Below w.heap.size w w':=by
 have HL:=hhd hl
 have HBb:=hhd hb
 have HR:=hhd hL
 have hlB:=zj hl
 have hbB:=zj hb
 clear hl hb hL
 go_enter Tryz.func91,Tryz.ntmps91
 go_wp2_with ((with_reducible refine zf (N:=8) rfl ?_);refine Kd.R_make k38 _ 38 rfl (N:=8) rfl 22 _ _ rfl (L.length:Int) rfl rfl Tryz.underlying22 (.agg #[(.int .i64 0),(.int .i64 0)]) 16 zbF rfl (by decide) (by decide) z38 (ok:=fun _=>True) (okp:=fun _=>True) (zaA _ _ _ z38) (fun _ hk=>hk) trivial (by omega) (by omega) (Below.refl _ _) (Nat.le_refl _) ?_;intro v8 w3 ho hb hg_ hnew_;obtain ⟨g,cap,hv,hg1,hg2,_⟩:=Kd.R_form ho (by simp;omega);rw [List.length_replicate,Int.toNat_natCast] at hv;subst hv;have HO:=hhd ho;have I:=hhd hb;have HG:=hhd hg1;clear hb ho hg_ hnew_ hg1 hg2)
 go_loopw [11] (fun s11 wr=>∃k:Nat,k≤L.length∧s11=.int .i64 k∧Kd.R k38 38 wr w.heap.size (fun _=>True) (.slice (some ⟨g,0,none⟩) L.length cap) (L.take k++List.replicate (L.length - k) z38)∧Below w.heap.size w wr) (fun i _=>L.length - (intOf i).toNat)
 case atStart=>exact ⟨0,by omega,rfl,by simpa using HO.out,I.out⟩
 case round =>
  obtain ⟨k,hk,rfl,ho,hb⟩:=hrel
  have HOr:=hhd ho
  have HBr:=hhd hb
  have BL:=za_ HL hb
  have BB:=za_ HBb hb
  clear ho hb HO I
  by_cases hlt:k < L.length
  ·have HRk:=hhd (HR.out k hlt)
   have hlen:(L.take k++List.replicate (L.length - k) z38).length=L.length:=by simp;omega
   have HLen:=hhd hlen
   have HTP:=hhd (zk7 L k hlt)
   generalize L.getD k z38=y at *
   generalize L.take k++List.replicate (L.length - k) z38=X at *
   clear hlen
   go_wp2_with (first
    | (go_at_call 92;(with_reducible refine (zja k Bl Bb log bits y.f0 y.f1 _ BL.out BB.out HRk.out).mono ?_);rintro e W4 ⟨rfl,hb⟩;have aA:=zr_ HOr hb;have aC:=zs_ HBr hb;clear hb)
    | ((with_reducible refine zo (t:=38) (p:=19) rfl ?_);refine zk6 (w0:=w) w.heap.size rfl rfl _ _ rfl k X y (fun _=>True) ?ha rfl (zw (.int .i64 0) (.int .i64 0)) aA.out hlt aC.out ?_;(case ha=>first | rfl | go_simp);intro W5 ho hb hg;have aD:=hhd ho;have aE:=hhd hb;clear ho hb hg))
   go_roundw
   case rel=>exact ⟨k+1,by omega,by go_num,by have h5:=aD.out;rw [HTP.out] at h5;exact h5,aE.out⟩
   case measure=>simp [intOf];omega
  ·obtain rfl:k=L.length:=by omega
   go_wp2
   go_ret
   exact ⟨_,rfl,by have h:=HOr.out;rw [List.take_length,Nat.sub_self,List.replicate_zero,List.append_nil] at h;exact h,HBr.out⟩
def zeZ (log bits:Int):Nat→Option (List S38)
 | 0=>some []
 | k+1=>(zeZ log bits k).bind fun l=>(roots_root.f log k bits).bind fun r=>some (l++[⟨r.1,r.2⟩])
theorem zeE (log bits:Int):∀(n:Nat) (L:List S38),zeZ log bits n=some L→L.length=n∧∀k:Nat,k < n→roots_root.f log k bits=some ((L.getD k z38).f0,(L.getD k z38).f1)
 | 0,L,h=>by
  obtain rfl:=Option.some.inj h
  exact ⟨rfl,fun k hk=>absurd hk (Nat.not_lt_zero k)⟩
 | n+1,L,h=>by
  obtain ⟨l,h1,h2⟩:=Option.bind_eq_some_iff.mp h
  obtain ⟨r,h3,h4⟩:=Option.bind_eq_some_iff.mp h2
  obtain rfl:=Option.some.inj h4
  obtain ⟨e1,e2⟩:=zeE log bits n l h1
  refine ⟨by simp [e1],fun k hk=>?_⟩
  by_cases e:k=n
  ·subst e
   rw [h3,List.getD_eq_getElem?_getD,List.getElem?_append_right (by omega),e1,Nat.sub_self]
   rfl
  ·rw [e2 k (by omega),List.getD_eq_getElem?_getD,List.getD_eq_getElem?_getD,List.getElem?_append_left (by omega)]
theorem zjb (log:Int) (h0:2≤log) (h1:log≤6):IntKind.i64.wrap (2^log.toNat)=((2^log.toNat:Nat):Int)∧1≤2^log.toNat∧2^log.toNat≤64:=by
 have h:log=2∨log=3∨log=4∨log=5∨log=6:=by omega
 rcases h with rfl | rfl | rfl | rfl | rfl <;> decide
set_option maxRecDepth 100000 in
set_option maxHeartbeats 4000000 in
theorem zj0 (log bits:Int) (L:List S38) (h0:2≤log) (h1:log≤6) (hm:roots_may.f log bits=some true) (hL:zeZ log bits (2^log.toNat)=some L) (w:World) :
  Calls Tryz.prog 57 #[.int .i64 log,.int .i64 bits] w fun e w'=>∃v,e=.returned (.tuple #[v,.int .i64 0])∧Kd.R k38 38 w' w.heap.size (fun _=>True) v L∧Below w.heap.size w w':=by
 obtain ⟨p0,p1,p2⟩:=zjb log h0 h1
 obtain ⟨e1,e2⟩:=zeE log bits _ L hL
 have HG:=hhd (fun (Bl Bb:Nat) (W:World) hl hb=>zhk L (by omega) (by omega) Bl Bb log bits W hl hb (by rw [e1];exact e2))
 have HM:=hhd hm
 rw [← e1] at p0
 have p3:wrap64 (2^log.toNat)=(L.length:Int):=(zD _).symm.trans p0
 clear p1 p2 e1 e2 hL hm
 generalize L.length=n at *
 go_enter Tryz.func57,Tryz.ntmps57
 go_wp2_with (first
  | ((with_reducible refine zf (N:=2) rfl ?_);refine ba_ 2 rfl #[.int .i64 log] 3 ?_;intro g2 hg W1 I aA;have B2:=hhd I;have aD:=hhd aA;clear I aA hg)
  | ((with_reducible refine zf (N:=3) rfl ?_);refine ba_ 3 rfl #[.int .i64 bits] 3 ?_;intro g3 hg W2 I aA;have B3:=hhd I;have B22:=za_ B2 aA;have aE:=zs_ aD aA;have k2:W2.cell? ⟨g2,0,none⟩=some (.int .i64 log):=(za B22 0).trans rfl;have k3:W2.cell? ⟨g3,0,none⟩=some (.int .i64 bits):=(za B3 0).trans rfl;clear I aA hg)
  | (go_at_call 89;(with_reducible refine (roots_may.calls log bits true _ HM.out).mono ?_);rintro e W4 ⟨rfl,hb⟩;have B24:=za_ B22 hb;have B34:=za_ B3 hb;have aC:=zs_ aE hb;have k4:W4.cell? ⟨g2,0,none⟩=some (.int .i64 log):=(za B24 0).trans rfl;clear hb)
  | (go_at_call 91;refine (HG.out g2 g3 _ B24.out B34.out).mono ?_;rintro e W5 ⟨v,rfl,ho,hb⟩;have HO:=hhd (Kd.R_lower ho (zi aC));have aG:=zs_ aC hb;clear ho hb))
 go_ret2
 exact ⟨_,rfl,HO.out,aG.out⟩
set_option maxRecDepth 100000 in
set_option maxHeartbeats 4000000 in
theorem zk8 (log bits:Int) (hm:roots_may.f log bits=some false) (w:World) :
  Calls Tryz.prog 57 #[.int .i64 log,.int .i64 bits] w fun e w'=>∃v,e=.returned (.tuple #[v,.int .i64 1])∧Kd.R k38 38 w' w.heap.size (fun _=>True) v []∧Below w.heap.size w w':=by
 have HM:=hhd hm
 clear hm
 go_enter Tryz.func57,Tryz.ntmps57
 go_wp2_with (first
  | ((with_reducible refine zf (N:=2) rfl ?_);refine ba_ 2 rfl #[.int .i64 log] 3 ?_;intro g2 hg W1 I aA;have B2:=hhd I;have aC:=hhd aA;clear I aA hg)
  | ((with_reducible refine zf (N:=3) rfl ?_);refine ba_ 3 rfl #[.int .i64 bits] 3 ?_;intro g3 hg W2 I aA;have B3:=hhd I;have B22:=za_ B2 aA;have aD:=zs_ aC aA;have k2:W2.cell? ⟨g2,0,none⟩=some (.int .i64 log):=(za B22 0).trans rfl;have k3:W2.cell? ⟨g3,0,none⟩=some (.int .i64 bits):=(za B3 0).trans rfl;clear I aA hg)
  | (go_at_call 89;(with_reducible refine (roots_may.calls log bits false _ HM.out).mono ?_);rintro e W4 ⟨rfl,hb⟩;have aE:=zs_ aD hb;clear hb))
 go_ret2
 exact ⟨_,rfl,Kd.R_nil _ _ _ _ _,aE.out⟩
end Go.Proofs.YteieahbadclppaaGreat.P

namespace Go.Proofs.YteieahbadclppaaGreat.P
open Go.RowKit Go.Proofs.YteieahbadclppaaGreatW.PrintWords Go.Proofs.YteieahbadclppaaGreatW.PrintLast Go.Proofs.YteieahbadclppaaGreatW.PrintMore
attribute [local go_sem] zF zG zK zL zY zZ z9 zaa
set_option linter.unusedVariables false
set_option linter.unusedSimpArgs false
def roots_Table.f (a0:Int) (a1:Int):Option (List (S38)×Int) :=
 (roots_may.f a0 a1).bind fun t=>if t=true then (if 2≤a0∧a0≤6 then (zeZ a0 a1 (2^a0.toNat)).bind fun L=>some (L,0) else none) else some ([],1)
theorem roots_Table.calls (a0:Int) (a1:Int) (r1:List (S38)) (r2:Int) (w:World) (h:roots_Table.f a0 a1=some (r1,r2)) :
  Calls Tryz.prog 57 #[.int .i64 a0,.int .i64 a1] w fun e w'=>∃v0_:Value,e=.returned (.tuple #[v0_,.int .i64 r2])∧Kd.R k38 38 w' w.heap.size (fun _=>True) v0_ r1∧Below w.heap.size w w':=by
 obtain ⟨t,ht,h⟩:=Option.bind_eq_some_iff.mp h
 by_cases hb:t=true
 ·rw [if_pos hb] at h
  subst hb
  by_cases hc:2≤a0∧a0≤6
  ·rw [if_pos hc] at h
   obtain ⟨L,hL,h⟩:=Option.bind_eq_some_iff.mp h
   simp only [Option.some.injEq,Prod.mk.injEq] at h
   obtain ⟨rfl,rfl⟩:=h
   exact zj0 a0 a1 L hc.1 hc.2 ht hL w
  ·rw [if_neg hc] at h
   cases h
 ·rw [if_neg hb] at h
  simp only [Option.some.injEq,Prod.mk.injEq] at h
  obtain ⟨rfl,rfl⟩:=h
  exact zk8 a0 a1 (by rw [ht];simpa using hb) w

def roots_Twiddles.f (a0:Int) (a1:Int):Option ((List (S38))×Int):=(sat_Bits.f a1).bind fun bt143=>(if bt143.2=0 then ((roots_Table.f a0 (wrap64 (bt143.1 - 2))).bind fun bt145=>(some (bt145.1,bt145.2))) else (some (([]:List (S38)),bt143.2)))
set_option maxHeartbeats 8000000 in
set_option maxRecDepth 100000 in
theorem roots_Twiddles.calls (a0:Int) (a1:Int) (r1:List (S38)) (r2:Int) (w:World) (h:roots_Twiddles.f a0 a1=some (r1,r2)) :
  Calls Tryz.prog 46 #[.int .i64 a0,.int .i64 a1] w fun e w'=>∃v0_:Value,e=.returned (.tuple #[v0_,.int .i64 r2])∧Kd.R k38 38 w' w.heap.size (fun _=>True) v0_ r1∧Below w.heap.size w w':=by
 have HB:=Aside0.mk (Below.refl w.heap.size w)
 have H:((sat_Bits.f a1).bind fun bt143=>(if bt143.2=0 then ((roots_Table.f a0 (wrap64 (bt143.1 - 2))).bind fun bt145=>(some (bt145.1,bt145.2))) else (some (([]:List (S38)),bt143.2))))=some (r1,r2):=h
 clear h
 replace H:=Option.bind_eq_some_iff.mp H
 obtain ⟨⟨t143,t144⟩,A30,H⟩:=H
 replace H:(if t144=0 then ((roots_Table.f a0 (wrap64 (t143 - 2))).bind fun bt145=>(some (bt145.1,bt145.2))) else (some (([]:List (S38)),t144)))=some (r1,r2):=H
 have A3:=Aside0.mk A30
 clear A30
 by_cases c4:t144=0
 ·rw [if_pos c4] at H
  have c4b0:(t144 == 0)=true:=beq_iff_eq.mpr c4
  have c4b1:(t144 != 0)=false:=bne_eq_false_iff_eq.mpr c4
  clear c4
  replace H:=Option.bind_eq_some_iff.mp H
  obtain ⟨⟨t145,t146⟩,A50,H⟩:=H
  replace H:(some (t145,t146))=some (r1,r2):=H
  have A5:=Aside0.mk A50
  clear A50
  simp only [Option.some.injEq,Prod.mk.injEq] at H
  obtain ⟨rfl,rfl⟩:=H
  go_enter Tryz.func46,Tryz.ntmps46
  go_wp2_with (first | ((with_reducible refine zy (f:=41) rfl ?_);refine zO (some 10) rfl rfl Tryz.func41 (by kernel_rfl) rfl #[.int .i64 a1] rfl (by (try simp only [List.map_toArray,List.map_cons,List.map_nil]);first | done | rfl | (simp only [List.length_drop,List.length_take];rfl)) ?_;(with_reducible refine (sat_Bits.calls a1 t143 t144 _ A3.out).mono ?_);rintro e w' ⟨rfl,⟨nd,rfl⟩⟩;refine ⟨_,rfl,?_⟩) | ((with_reducible refine zy (f:=57) rfl ?_);refine zO (some 19) rfl rfl Tryz.func57 (by kernel_rfl) rfl #[.int .i64 a0,.int .i64 (wrap64 (t143 - 2))] rfl (by (try simp only [List.map_toArray,List.map_cons,List.map_nil]);first | done | rfl | (simp only [List.length_drop,List.length_take];rfl)) ?_;(with_reducible refine (roots_Table.calls a0 (wrap64 (t143 - 2)) t145 t146 _ A5.out).mono ?_);rintro e w6 ⟨v147,rfl,ho0,hb⟩;refine ⟨_,rfl,?_⟩;have n0_:=Aside0.mk (Kd.R_lower ho0 (zi (by repeat (first | (with_reducible first | exact HB.out | apply ze | apply zc | apply zg) | exact HB.out))));have n1_:=Aside0.mk (zb (by repeat (first | (with_reducible first | exact HB.out | apply ze | apply zc | apply zg) | exact HB.out)) hb);clear HB;have I:=n0_;have HB:=n1_;clear n0_ n1_;(try clear hb);(try clear hb2);(try clear hk);(try clear hi);(try clear ho0)))
  go_ret2
  exact ⟨_,by first | rfl | (simp [zq,zt] <;> rfl) | (simp [*,zq,zt] <;> rfl),by (with_reducible repeat (first | apply Kd.R_alloc | apply Kd.R_drewN | apply Kd.R_drew));exact I.out,by repeat (first | (with_reducible first | exact HB.out | apply ze | apply zc | apply zg) | exact HB.out)⟩
 ·rw [if_neg c4] at H
  have c4b0:(t144 == 0)=false:=beq_eq_false_iff_ne.mpr c4
  have c4b1:(t144 != 0)=true:=bne_iff_ne.mpr c4
  simp only [Option.some.injEq,Prod.mk.injEq] at H
  obtain ⟨rfl,rfl⟩:=H
  go_enter Tryz.func46,Tryz.ntmps46
  go_wp2_with (first | ((with_reducible refine zy (f:=41) rfl ?_);refine zO (some 10) rfl rfl Tryz.func41 (by kernel_rfl) rfl #[.int .i64 a1] rfl (by (try simp only [List.map_toArray,List.map_cons,List.map_nil]);first | done | rfl | (simp only [List.length_drop,List.length_take];rfl)) ?_;(with_reducible refine (sat_Bits.calls a1 t143 t144 _ A3.out).mono ?_);rintro e w' ⟨rfl,⟨nd,rfl⟩⟩;refine ⟨_,rfl,?_⟩))
  go_ret2
  exact ⟨_,by first | rfl | (simp [zq,zt] <;> rfl) | (simp [*,zq,zt] <;> rfl),by first | exact Kd.R_nil _ _ _ _ _ | exact Kd.N_nil _ _ _ _ _ | exact Kd.V_nil _ _ _ _ _ | exact Kd.Q_nil _ _ _ _ _ | exact Kd.S_nil _ _ _ _ _,by repeat (first | (with_reducible first | exact HB.out | apply ze | apply zc | apply zg) | exact HB.out)⟩

end Go.Proofs.YteieahbadclppaaGreat.P

namespace Go.Proofs.YteieahbadclppaaGreat.P
open Go.RowKit Go.Proofs.YteieahbadclppaaGreatW.PrintWords Go.Proofs.YteieahbadclppaaGreatW.PrintLast Go.Proofs.YteieahbadclppaaGreatW.PrintMore
attribute [local go_sem] zF zG zK zL
set_option linter.unusedVariables false
set_option linter.unusedSimpArgs false
set_option maxRecDepth 100000 in
set_option maxHeartbeats 4000000 in
theorem zhl (A:Option Addr) (n c:Nat) (w:World):Calls Tryz.prog 144 #[.agg #[],.slice A n c] w fun e w'=>e=.returned (.int .i64 1)∧Below w.heap.size w w':=by
 go_enter Tryz.func144,Tryz.ntmps144
 go_wp2
 go_ret
 exact ⟨rfl,(Below.refl _ _).alloc (Nat.le_refl _) _⟩
set_option maxRecDepth 100000 in
set_option maxHeartbeats 4000000 in
theorem zhm (k:Int) (h0:0≤k) (h1:k≤1000) (A:Option Addr) (n c:Nat) (w:World):Calls Tryz.prog 145 #[.agg #[],.int .i64 k,.slice A n c] w fun e w'=>e=.returned (.int .i64 (k / 2))∧Below w.heap.size w w':=by
 go_enter Tryz.func145,Tryz.ntmps145
 go_wp2
 go_ret
 exact ⟨rfl,(Below.refl _ _).alloc (Nat.le_refl _) _⟩
set_option maxRecDepth 100000 in
set_option maxHeartbeats 4000000 in
theorem zk9 (A:Option Addr) (n c:Nat) (w:World):Calls Tryz.prog 151 #[.agg #[],.slice A n c] w fun e w'=>e=.returned (.int .i64 0)∧Below w.heap.size w w':=by
 go_enter Tryz.func151,Tryz.ntmps151
 go_wp2
 go_ret
 exact ⟨rfl,(Below.refl _ _).alloc (Nat.le_refl _) _⟩
set_option maxRecDepth 100000 in
set_option maxHeartbeats 4000000 in
theorem zla (k:Int) (A:Option Addr) (n c:Nat) (w:World):Calls Tryz.prog 152 #[.agg #[],.int .i64 k,.slice A n c] w fun e w'=>e=.returned (.int .i64 0)∧Below w.heap.size w w':=by
 go_enter Tryz.func152,Tryz.ntmps152
 go_wp2
 go_ret
 exact ⟨rfl,(Below.refl _ _).alloc (Nat.le_refl _) _⟩

theorem zgO {w:World} {b:Nat} {es:Array MapEntry} {n:Nat} (hb:w.heap[b]?=some (.map es n)) (k:Int) (v:Value) (hn:Instr.findNow (.int .i64) (.int .i64 k) es.toList 0=some none) :
  (Instr.mapUpdate 101 (.map (some b)) (.int .i64 k) v).run Tryz.prog w=.ok () { w with heap:=w.heap.setIfInBounds b (.map (es.push ⟨.int .i64 k,v,n⟩) (n+1)) }:=by
 have hk:∀e W,(Instr.checkKey e 10000 3 (.int .i64 k)).run Tryz.prog W=.ok () W:=fun e W=>by unfold Instr.checkKey;simp [run_underlying Tryz.underlying3]
 have hf:(Instr.findKey 3 (.int .i64 k) es.toList).run Tryz.prog w=.ok none w:=by
  unfold Instr.findKey
  simp [run_underlying Tryz.underlying3,hn]
 simp [Instr.mapUpdate,run_underlying Tryz.underlying101,MapKept.run_getObj_map hb,hk,hf,MapKept.run_setObj_map _ hb,Result.andThen]
theorem zgP {w:World} {b:Nat} {es:Array MapEntry} {n:Nat} (hb:w.heap[b]?=some (.map es n)) (k:Int) (v:Value) (i:Nat) (hn:Instr.findNow (.int .i64) (.int .i64 k) es.toList 0=some (some (i,v))) :
  (Instr.lookup 101 (.map (some b)) (.int .i64 k) false).run Tryz.prog w=.ok v w:=by
 have hk:∀e W,(Instr.checkKey e 10000 3 (.int .i64 k)).run Tryz.prog W=.ok () W:=fun e W=>by unfold Instr.checkKey;simp [run_underlying Tryz.underlying3]
 have hf:(Instr.findKey 3 (.int .i64 k) es.toList).run Tryz.prog w=.ok (some (i,v)) w:=by
  unfold Instr.findKey
  simp [run_underlying Tryz.underlying3,hn]
 simp [Instr.lookup,run_underlying Tryz.underlying101,MapKept.run_getObj_map hb,hk,hf]
section
variable {ops:Array Oper} {rest:List Oper} {o:Oper} {a:Act} {Q:Exit→Act→World→Prop}
theorem zfK (W:World) (g:Nat) (x:Obj) (k:Nat) (h:k≠g):(W.heap.setIfInBounds g x)[k]?=W.heap[k]?:=by
 rw [Array.getElem?_setIfInBounds,if_neg (fun e=>h e.symm)]
theorem zhn {W:World} {N:Tmp} (hgd:o.guard=none) (hN:o.dst=some N) (ho:o.op=.makeMap 101 none)
  (h:∀g,g=W.heap.size→∀w1,w1.heap[g]?=some (.map #[] 0)→Below W.heap.size W w1→wpList Tryz.prog ops Q rest (a.put (some N) (.map (some g))) w1):wpList Tryz.prog ops Q (o :: rest) a W:=by
 refine Kd.event_run hgd (v:=.map (some W.heap.size)) (w1:=W.alloc (.map #[] 0)) ?_ ?_
 ·simp only [execOp,ho]
  rfl
 ·rw [hN]
  exact h _ rfl _ (heap_alloc_new W _) ((Below.refl _ _).alloc (Nat.le_refl _) _)
theorem zbY {W:World} (hgd:o.guard=none) (hN:o.dst=none) (m k x:Operand) (ho:o.op=.insert 101 m k x) (g:Nat) (key:Int) (v:Value) (hm:a.eval m=.map (some g)) (hk:a.eval k=.int .i64 key) (hx:a.eval x=v)
  (es:Array MapEntry) (n:Nat) (hg:W.heap[g]?=some (.map es n)) (hn:Instr.findNow (.int .i64) (.int .i64 key) es.toList 0=some none)
  (h:∀w1,w1.heap[g]?=some (.map (es.push ⟨.int .i64 key,v,n⟩) (n+1))→(∀k,k≠g→w1.heap[k]?=W.heap[k]?)→(∀B w0,B≤g→Below B w0 W→Below B w0 w1)→wpList Tryz.prog ops Q rest a w1):wpList Tryz.prog ops Q (o :: rest) a W:=by
 have hr:=zgO hg key v hn
 have hlt:g < W.heap.size:=zj hg
 refine wpList_plain hgd fun K hK=>?_
 unfold Oper.wp execOp
 simp only [ho,hm,hk,hx,Sem.run_bind,Sem.run_pure,Result.andThen_ok,hr]
 show K (a.put o.dst undef) _
 rw [hN]
 refine hK _ _ (h _ (by simp [hlt]) (fun k hk=>zfK W g _ k hk) (fun B w0 hB hb=>hb.trans ⟨rfl,rfl,rfl,by simp,fun k hk=>zfK W g _ k (by omega)⟩))
theorem zfL {W:World} {N:Tmp} (hgd:o.guard=none) (hN:o.dst=some N) (m k:Operand) (ho:o.op=.lookup 101 m k false) (g:Nat) (key:Int) (v:Value) (i:Nat) (hm:a.eval m=.map (some g)) (hk:a.eval k=.int .i64 key)
  (es:Array MapEntry) (n:Nat) (hg:W.heap[g]?=some (.map es n)) (hn:Instr.findNow (.int .i64) (.int .i64 key) es.toList 0=some (some (i,v)))
  (h:wpList Tryz.prog ops Q rest (a.put (some N) v) W):wpList Tryz.prog ops Q (o :: rest) a W:=by
 refine Kd.event_run hgd (v:=v) (w1:=W) ?_ (by rw [hN];exact h)
 simp only [execOp,ho,hm,hk,Sem.run_bind,Result.andThen_ok,zgP hg key v i hn]
 rfl
end
theorem zj1 (a b c d e f g h i:Value):(Tryz.prog.info? 56).map (·.size)=some (#[a,b,c,d,e,f,g,h,i]:Array Value).size:=by kernel_rfl
theorem zow (a b c d:Int) (e:Bool) (f:Int) (A:Option Addr) (n m:Nat):(#[.int .i64 a,.int .i64 b,.int .i64 c,.int .i64 0,.int .i64 d,.bool e,.iface 97 (.agg #[]),.int .i64 f,.slice A n m]:Array Value).all (·.oneCell')=true:=by simp [Value.oneCell']
theorem zox (a b c d:Int) (e:Bool) (f:Int) (A:Option Addr) (n m:Nat):(#[.int .i64 a,.int .i64 b,.int .i64 c,.int .i64 2,.int .i64 d,.bool e,.iface 100 (.agg #[]),.int .i64 f,.slice A n m]:Array Value).all (·.oneCell')=true:=by simp [Value.oneCell']
theorem zoy (a b c d e f:Value):(Tryz.prog.info? 24).map (·.size)=some (#[a,b,c,d,e,f]:Array Value).size:=by kernel_rfl
theorem bb_ {P:Program} {ops:Array Oper} {rest:List Oper} {o:Oper} {a:Act} {Q:Exit→Act→World→Prop} {W:World} {w0:World} (N:Tmp) (hd:o.dst=some N) (HB:RowKit.Hid (Below w0.heap.size w0 W)) (cs:Array Value) (t:TypeId) (h:∀g w1,g=W.heap.size→Below W.heap.size W w1→w0.heap.size≤g→RowKit.Hid (w1.heap[g]?=some (.cells cs t (0,0)))→RowKit.Hid (Below w0.heap.size w0 w1)→wpList P ops Q rest (a.put o.dst (.pointer (some ⟨g,0,none⟩))) w1) (hgd:o.guard=none:=by rfl) (hrun:(execOp a.eval o).run P W=.ok (.value (.pointer (some ⟨W.heap.size,0,none⟩))) (W.alloc (.cells cs t (0,0))):=by first | (go_simp;done) | (go_simp;rfl)):wpList P ops Q (o :: rest) a W:=zR hgd hd hrun fun g hg w1 hb I=>h g w1 hg I (by rw [hg];exact zi HB) hb (zb HB I)
theorem ne_ {g k:Nat} {W:World} {x:Obj} (h:RowKit.Hid (W.heap[k]?=some x)) (hg:g=W.heap.size):RowKit.Hid (k≠g):=fun e=>by have:=zj h;omega
theorem zt_ {w w1:World} {g k:Nat} {o:Option Obj} (I:∀k,k≠g→w1.heap[k]?=w.heap[k]?) (hne:k≠g) (h:w.heap[k]?=o):RowKit.Hid (w1.heap[k]?=o):=(I k hne).trans h
set_option maxRecDepth 100000 in
set_option maxHeartbeats 4000000 in
theorem ze0 (p0 p1 p2 p4 b:Int) (p5:Bool) (L:List S38) (hb:sat_Bits.f p0=some (b,0)) (hL:roots_Twiddles.f p1 p0=some (L,0)) (w:World) :
  Calls Tryz.prog 19 #[.agg (zay p0 p1 p2 0 p4 p5)] w fun e w'=>∃A c,e=.returned (.agg #[.int .i64 p0,.int .i64 p1,.int .i64 p2,.int .i64 0,.int .i64 p4,.bool p5,.iface 97 (.agg #[]),.int .i64 b,.slice A L.length c])∧Kd.R k38 38 w' w.heap.size (fun _=>True) (.slice A L.length c) L∧Below w.heap.size w w':=by
 have HBITS:=hhd hb
 have HTW:=hhd hL
 have f9:=hhd (Below.refl w.heap.size w)
 clear hb hL
 unfold zay
 go_enter Tryz.func19,Tryz.ntmps19
 go_wp2_with (first
  | ((with_reducible refine zf (N:=1) rfl ?_);refine bb_ 1 rfl f9 #[.int .i64 p0,.int .i64 p1,.int .i64 p2,.int .i64 0,.int .i64 p4,.bool p5] 24 ?_;intro g1 W1 hg aC L1 aD fP;obtain ⟨aJ,aK,aM,aN,aQ,aT⟩:=bk6 aD;clear aC hg)
  | ((with_reducible refine zf (N:=2) rfl ?_);refine bb_ 2 rfl fP #[.int .i64 0,.int .i64 0,.int .i64 0,.int .i64 0,.int .i64 0,.bool false,.nilIface,.int .i64 0,.slice none 0 0] 56 ?_;intro g2 W2 hg aC L2 aU fQ;have aV:=za_ aD aC;obtain ⟨aW,aX,aY,aZ,a7,a8⟩:=bk6 aV;clear aJ aK aM aN aQ aT;obtain ⟨a9,bA,bB,bC,bD,bE,bF,bG,bH⟩:=bk9 aU;have fR:=ne_ aD hg;clear aC hg)
  | (go_at_call 41;(with_reducible refine (sat_Bits.calls p0 b 0 _ HBITS.out).mono ?_);rintro e W3 ⟨rfl,hd⟩;have hb:=hd.below;clear hd;have bI:=zs_ fQ hb;have bJ:=za_ aV hb;have aE:=za_ aU hb;obtain ⟨bK,bL,bM,bP,bQ,bR⟩:=bk6 bJ;obtain ⟨bS,bT,bU,bV,bW,bX,bY,bZ,b6⟩:=bk9 aE;clear aW aX aY aZ a7 a8 a9 bA bB bC bD bE bF bG bH;clear hb)
  | (go_at_call 46;(with_reducible refine (roots_Twiddles.calls p1 p0 L 0 _ HTW.out).mono ?_);rintro e W4 ⟨vt,rfl,ho,hb⟩;obtain ⟨A,c,ev⟩:=Kd.R_slice ho;subst ev;have b7:=hhd (Kd.R_lower ho (zi bI));have b8:=zs_ bI hb;have aG:=za_ bJ hb;have aH:=za_ aE hb;obtain ⟨b9,cA,cB,cC,cD,cH⟩:=bk6 aG;obtain ⟨cI,cJ,cK,cL,cM,cN,cO,cP,cQ⟩:=bk9 aH;clear bK bL bM bP bQ bR bS bT bU bV bW bX bY bZ b6;have NR2:=hhd (show some g2≠(Value.slice A L.length c).ownBlock from fun e=>Nat.lt_irrefl _ (Nat.lt_of_lt_of_le (zj aE) (Kd.R_base ho g2 e.symm)));clear hb ho)
  | ((with_reducible refine zf (N:=22) rfl ?_);refine zhn rfl rfl rfl ?_;intro gm hg W5 cR aC;have Lm:w.heap.size≤gm:=(by rw [hg];exact zi b8);have M_5:=hhd cR;have cS:=hhd (show some gm≠_ from by rw [hg];exact Kd.R_ne_new b7.out 0);have cT:=hhd (show g1≠gm from fun e=>by have:=zj aG;omega);have cU:=hhd (show g2≠gm from fun e=>by have:=zj aH;omega);have fS:=zs_ b8 aC;have cV:=za_ aG aC;have cW:=za_ aH aC;have fT:=zr_ b7 aC;obtain ⟨cX,cY,cZ,dB,dC,dD⟩:=bk6 cV;obtain ⟨dE,dF,dG,dH,dI,dJ,dK,dL,dM⟩:=bk9 cW;clear b9 cA cB cC cD cH cI cJ cK cL cM cN cO cP cQ;clear cR aC hg)
  | (refine zbY rfl rfl _ (.const (.int .i64 0)) (.tmp 24) rfl gm 0 (.iface 97 (.agg #[])) rfl rfl rfl (#[]) 0 M_5.out rfl ?_;intro W6 hq I aA;have M_6:=hhd hq;have fU:=hhd (aA _ _ Lm fS.out);have dN:=zt_ I cT cV;have dO:=zt_ I cU cW;have fV:=hhd (zI fT.out I cS.out);obtain ⟨dP,dQ,dR,dS,dU,dV⟩:=bk6 dN;obtain ⟨dW,dX,dY,dZ,d5,d6,d7,d8,d9⟩:=bk9 dO;clear cX cY cZ dB dC dD dE dF dG dH dI dJ dK dL dM;clear hq I aA)
  | (refine zbY rfl rfl _ (.const (.int .i64 1)) (.tmp 28) rfl gm 1 (.iface 99 (.agg #[.int .i64 p0])) rfl rfl rfl (#[].push ⟨.int .i64 0,.iface 97 (.agg #[]),0⟩) 1 M_6.out rfl ?_;intro W7 hq I aA;have M_7:=hhd hq;have fW:=hhd (aA _ _ Lm fU.out);have eB:=zt_ I cT dN;have eC:=zt_ I cU dO;have fX:=hhd (zI fV.out I cS.out);obtain ⟨eD,eE,eF,eG,eH,eI⟩:=bk6 eB;obtain ⟨eJ,eK,eM,eN,eO,eP,eQ,eR,eT⟩:=bk9 eC;clear dP dQ dR dS dU dV dW dX dY dZ d5 d6 d7 d8 d9;clear hq I aA)
  | (refine zbY rfl rfl _ (.const (.int .i64 2)) (.tmp 30) rfl gm 2 (.iface 100 (.agg #[])) rfl rfl rfl ((#[].push ⟨.int .i64 0,.iface 97 (.agg #[]),0⟩).push ⟨.int .i64 1,.iface 99 (.agg #[.int .i64 p0]),1⟩) 2 M_7.out rfl ?_;intro W8 hq I aA;have M_8:=hhd hq;have fY:=hhd (aA _ _ Lm fW.out);have aI:=zt_ I cT eB;have eU:=zt_ I cU eC;have fZ:=hhd (zI fX.out I cS.out);obtain ⟨eV,eW,eX,eY,eZ,fA⟩:=bk6 aI;obtain ⟨fB,fD,fE,fF,fG,fH,fJ,fK,fM⟩:=bk9 eU;clear eD eE eF eG eH eI eJ eK eM eN eO eP eQ eR eT;clear hq I aA)
  | ((with_reducible refine zf (N:=34) rfl ?_);refine zfL rfl rfl _ _ rfl gm 0 (.iface 97 (.agg #[])) 0 rfl rfl (((#[].push ⟨.int .i64 0,.iface 97 (.agg #[]),0⟩).push ⟨.int .i64 1,.iface 99 (.agg #[.int .i64 p0]),1⟩).push ⟨.int .i64 2,.iface 100 (.agg #[]),2⟩) 3 M_8.out rfl ?_)
  | ((with_reducible refine zf (N:=35) rfl ?_);refine lr_ 35 rfl 24 aI Tryz.underlying24 ?_)
  | ((with_reducible refine zo (t:=56) (p:=2) rfl ?_);refine re_ 56 2 rfl #[.int .i64 p0,.int .i64 p1,.int .i64 p2,.int .i64 0,.int .i64 p4,.bool p5,.iface 97 (.agg #[]),.int .i64 b,.slice A L.length c] eU L2 fY ?_;intro W9 I fO f6;have f7:=zt_ I fR aI;have f8:=hhd (zI fZ.out I NR2.out);obtain ⟨gA,gB,gC,gE,gF,gG⟩:=bk6 f7;clear eV eW eX eY eZ fA fB fD fE fF fG fH fJ fK fM;obtain ⟨gH,gI,gJ,gK,gL,gM,gN,gO,gP⟩:=bk9 fO;clear I))
 refine bodyPost_ret (results_cell_row rfl _ _ g2 56 #[.int .i64 p0,.int .i64 p1,.int .i64 p2,.int .i64 0,.int .i64 p4,.bool p5,.iface 97 (.agg #[]),.int .i64 b,.slice A L.length c] (0,0) _ rfl fO.out Tryz.underlying56 rfl (zj1 _ _ _ _ _ _ _ _ _)) rfl ?_
 exact ⟨A,c,rfl,f8.out,f6.out⟩
set_option maxRecDepth 100000 in
set_option maxHeartbeats 4000000 in
theorem ziA (p0 p1 p2 p4 b:Int) (p5:Bool) (L:List S38) (hb:sat_Bits.f p0=some (b,0)) (hL:roots_Twiddles.f p1 p0=some (L,0)) (w:World) :
  Calls Tryz.prog 19 #[.agg (zay p0 p1 p2 2 p4 p5)] w fun e w'=>∃A c,e=.returned (.agg #[.int .i64 p0,.int .i64 p1,.int .i64 p2,.int .i64 2,.int .i64 p4,.bool p5,.iface 100 (.agg #[]),.int .i64 b,.slice A L.length c])∧Kd.R k38 38 w' w.heap.size (fun _=>True) (.slice A L.length c) L∧Below w.heap.size w w':=by
 have HBITS:=hhd hb
 have HTW:=hhd hL
 have f9:=hhd (Below.refl w.heap.size w)
 clear hb hL
 unfold zay
 go_enter Tryz.func19,Tryz.ntmps19
 go_wp2_with (first
  | ((with_reducible refine zf (N:=1) rfl ?_);refine bb_ 1 rfl f9 #[.int .i64 p0,.int .i64 p1,.int .i64 p2,.int .i64 2,.int .i64 p4,.bool p5] 24 ?_;intro g1 W1 hg aC L1 aD fP;obtain ⟨aJ,aK,aM,aN,aQ,aT⟩:=bk6 aD;clear aC hg)
  | ((with_reducible refine zf (N:=2) rfl ?_);refine bb_ 2 rfl fP #[.int .i64 0,.int .i64 0,.int .i64 0,.int .i64 0,.int .i64 0,.bool false,.nilIface,.int .i64 0,.slice none 0 0] 56 ?_;intro g2 W2 hg aC L2 aU fQ;have aV:=za_ aD aC;obtain ⟨aW,aX,aY,aZ,a7,a8⟩:=bk6 aV;clear aJ aK aM aN aQ aT;obtain ⟨a9,bA,bB,bC,bD,bE,bF,bG,bH⟩:=bk9 aU;have fR:=ne_ aD hg;clear aC hg)
  | (go_at_call 41;(with_reducible refine (sat_Bits.calls p0 b 0 _ HBITS.out).mono ?_);rintro e W3 ⟨rfl,hd⟩;have hb:=hd.below;clear hd;have bI:=zs_ fQ hb;have bJ:=za_ aV hb;have aE:=za_ aU hb;obtain ⟨bK,bL,bM,bP,bQ,bR⟩:=bk6 bJ;obtain ⟨bS,bT,bU,bV,bW,bX,bY,bZ,b6⟩:=bk9 aE;clear aW aX aY aZ a7 a8 a9 bA bB bC bD bE bF bG bH;clear hb)
  | (go_at_call 46;(with_reducible refine (roots_Twiddles.calls p1 p0 L 0 _ HTW.out).mono ?_);rintro e W4 ⟨vt,rfl,ho,hb⟩;obtain ⟨A,c,ev⟩:=Kd.R_slice ho;subst ev;have b7:=hhd (Kd.R_lower ho (zi bI));have b8:=zs_ bI hb;have aG:=za_ bJ hb;have aH:=za_ aE hb;obtain ⟨b9,cA,cB,cC,cD,cH⟩:=bk6 aG;obtain ⟨cI,cJ,cK,cL,cM,cN,cO,cP,cQ⟩:=bk9 aH;clear bK bL bM bP bQ bR bS bT bU bV bW bX bY bZ b6;have NR2:=hhd (show some g2≠(Value.slice A L.length c).ownBlock from fun e=>Nat.lt_irrefl _ (Nat.lt_of_lt_of_le (zj aE) (Kd.R_base ho g2 e.symm)));clear hb ho)
  | ((with_reducible refine zf (N:=22) rfl ?_);refine zhn rfl rfl rfl ?_;intro gm hg W5 cR aC;have Lm:w.heap.size≤gm:=(by rw [hg];exact zi b8);have M_5:=hhd cR;have cS:=hhd (show some gm≠_ from by rw [hg];exact Kd.R_ne_new b7.out 0);have cT:=hhd (show g1≠gm from fun e=>by have:=zj aG;omega);have cU:=hhd (show g2≠gm from fun e=>by have:=zj aH;omega);have fS:=zs_ b8 aC;have cV:=za_ aG aC;have cW:=za_ aH aC;have fT:=zr_ b7 aC;obtain ⟨cX,cY,cZ,dB,dC,dD⟩:=bk6 cV;obtain ⟨dE,dF,dG,dH,dI,dJ,dK,dL,dM⟩:=bk9 cW;clear b9 cA cB cC cD cH cI cJ cK cL cM cN cO cP cQ;clear cR aC hg)
  | (refine zbY rfl rfl _ (.const (.int .i64 0)) (.tmp 24) rfl gm 0 (.iface 97 (.agg #[])) rfl rfl rfl (#[]) 0 M_5.out rfl ?_;intro W6 hq I aA;have M_6:=hhd hq;have fU:=hhd (aA _ _ Lm fS.out);have dN:=zt_ I cT cV;have dO:=zt_ I cU cW;have fV:=hhd (zI fT.out I cS.out);obtain ⟨dP,dQ,dR,dS,dU,dV⟩:=bk6 dN;obtain ⟨dW,dX,dY,dZ,d5,d6,d7,d8,d9⟩:=bk9 dO;clear cX cY cZ dB dC dD dE dF dG dH dI dJ dK dL dM;clear hq I aA)
  | (refine zbY rfl rfl _ (.const (.int .i64 1)) (.tmp 28) rfl gm 1 (.iface 99 (.agg #[.int .i64 p0])) rfl rfl rfl (#[].push ⟨.int .i64 0,.iface 97 (.agg #[]),0⟩) 1 M_6.out rfl ?_;intro W7 hq I aA;have M_7:=hhd hq;have fW:=hhd (aA _ _ Lm fU.out);have eB:=zt_ I cT dN;have eC:=zt_ I cU dO;have fX:=hhd (zI fV.out I cS.out);obtain ⟨eD,eE,eF,eG,eH,eI⟩:=bk6 eB;obtain ⟨eJ,eK,eM,eN,eO,eP,eQ,eR,eT⟩:=bk9 eC;clear dP dQ dR dS dU dV dW dX dY dZ d5 d6 d7 d8 d9;clear hq I aA)
  | (refine zbY rfl rfl _ (.const (.int .i64 2)) (.tmp 30) rfl gm 2 (.iface 100 (.agg #[])) rfl rfl rfl ((#[].push ⟨.int .i64 0,.iface 97 (.agg #[]),0⟩).push ⟨.int .i64 1,.iface 99 (.agg #[.int .i64 p0]),1⟩) 2 M_7.out rfl ?_;intro W8 hq I aA;have M_8:=hhd hq;have fY:=hhd (aA _ _ Lm fW.out);have aI:=zt_ I cT eB;have eU:=zt_ I cU eC;have fZ:=hhd (zI fX.out I cS.out);obtain ⟨eV,eW,eX,eY,eZ,fA⟩:=bk6 aI;obtain ⟨fB,fD,fE,fF,fG,fH,fJ,fK,fM⟩:=bk9 eU;clear eD eE eF eG eH eI eJ eK eM eN eO eP eQ eR eT;clear hq I aA)
  | ((with_reducible refine zf (N:=34) rfl ?_);refine zfL rfl rfl _ _ rfl gm 2 (.iface 100 (.agg #[])) 2 rfl rfl (((#[].push ⟨.int .i64 0,.iface 97 (.agg #[]),0⟩).push ⟨.int .i64 1,.iface 99 (.agg #[.int .i64 p0]),1⟩).push ⟨.int .i64 2,.iface 100 (.agg #[]),2⟩) 3 M_8.out rfl ?_)
  | ((with_reducible refine zf (N:=35) rfl ?_);refine lr_ 35 rfl 24 aI Tryz.underlying24 ?_)
  | ((with_reducible refine zo (t:=56) (p:=2) rfl ?_);refine re_ 56 2 rfl #[.int .i64 p0,.int .i64 p1,.int .i64 p2,.int .i64 2,.int .i64 p4,.bool p5,.iface 100 (.agg #[]),.int .i64 b,.slice A L.length c] eU L2 fY ?_;intro W9 I fO f6;have f7:=zt_ I fR aI;have f8:=hhd (zI fZ.out I NR2.out);obtain ⟨gA,gB,gC,gE,gF,gG⟩:=bk6 f7;clear eV eW eX eY eZ fA fB fD fE fF fG fH fJ fK fM;obtain ⟨gH,gI,gJ,gK,gL,gM,gN,gO,gP⟩:=bk9 fO;clear I))
 refine bodyPost_ret (results_cell_row rfl _ _ g2 56 #[.int .i64 p0,.int .i64 p1,.int .i64 p2,.int .i64 2,.int .i64 p4,.bool p5,.iface 100 (.agg #[]),.int .i64 b,.slice A L.length c] (0,0) _ rfl fO.out Tryz.underlying56 rfl (zj1 _ _ _ _ _ _ _ _ _)) rfl ?_
 exact ⟨A,c,rfl,f8.out,f6.out⟩
end Go.Proofs.YteieahbadclppaaGreat.P

