/- Part 5 of 36 of the proof: the texts that it reaches, one behind the other. No condition. -/
import Derived.Test.YteieahbadclppaaGreatKr4
namespace Go.Proofs.YteieahbadclppaaGreat.P
open Go.RowKit Go.Proofs.YteieahbadclppaaGreatW.PrintWords Go.Proofs.YteieahbadclppaaGreatW.PrintLast Go.Proofs.YteieahbadclppaaGreatW.PrintMore
attribute [local go_sem] zF zG zK zL zY zZ z9 zaa
set_option linter.unusedVariables false
set_option linter.unusedSimpArgs false
def roots_may.f (a0:Int) (a1:Int):Option (Bool):=(round_Shift.f 0 a1 1).bind fun bt104=>(if a0≥2 then (if a0≤6 then (if bt104.2=0 then (some (decide (a1≤40))) else (some false)) else (some false)) else (some false))
set_option maxHeartbeats 8000000 in
set_option maxRecDepth 100000 in
theorem roots_may.calls (a0:Int) (a1:Int) (r:Bool) (w:World) (h:roots_may.f a0 a1=some r) :
  Calls Tryz.prog 89 #[.int .i64 a0,.int .i64 a1] w fun e w'=>e=.returned (.bool r)∧Below w.heap.size w w':=by
 have HB:=Aside0.mk (Below.refl w.heap.size w)
 have H:((round_Shift.f 0 a1 1).bind fun bt104=>(if a0≥2 then (if a0≤6 then (if bt104.2=0 then (some (decide (a1≤40))) else (some false)) else (some false)) else (some false)))=some r:=h
 clear h
 replace H:=Option.bind_eq_some_iff.mp H
 obtain ⟨⟨t104,t105⟩,A30,H⟩:=H
 replace H:(if a0≥2 then (if a0≤6 then (if t105=0 then (some (decide (a1≤40))) else (some false)) else (some false)) else (some false))=some r:=H
 have A3:=Aside0.mk A30
 clear A30
 by_cases c4:a0≥2
 ·rw [if_pos c4] at H
  have c4b0:decide (2≤a0)=true:=decide_eq_true c4
  clear c4
  by_cases c5:a0≤6
  ·rw [if_pos c5] at H
   have c5b0:decide (a0≤6)=true:=decide_eq_true c5
   clear c5
   by_cases c6:t105=0
   ·rw [if_pos c6] at H
    have c6b0:(t105 == 0)=true:=beq_iff_eq.mpr c6
    have c6b1:(t105 != 0)=false:=bne_eq_false_iff_eq.mpr c6
    clear c6
    obtain rfl:=Option.some.inj H
    go_enter Tryz.func89,Tryz.ntmps89
    go_wp2_with (first | ((with_reducible refine zy (f:=42) rfl ?_);refine zO (some 9) rfl rfl Tryz.func42 (by kernel_rfl) rfl #[.int .i64 0,.int .i64 a1,.int .i64 1] rfl (by (try simp only [List.map_toArray,List.map_cons,List.map_nil]);first | done | rfl | (simp only [List.length_drop,List.length_take];rfl)) ?_;(with_reducible refine (round_Shift.calls 0 a1 1 t104 t105 _ A3.out).mono ?_);rintro e w7 ⟨rfl,hb⟩;refine ⟨_,rfl,?_⟩;have n0_:=Aside0.mk (zb (by repeat (first | (with_reducible first | exact HB.out | apply ze | apply zc | apply zg) | exact HB.out)) hb);clear HB;have HB:=n0_;clear n0_;(try clear hb);(try clear hb2);(try clear hk);(try clear hi)))
    go_ret
    exact ⟨by first | rfl | (simp [zq,zt] <;> rfl) | (simp [*,zq,zt] <;> rfl),by repeat (first | (with_reducible first | exact HB.out | apply ze | apply zc | apply zg) | exact HB.out)⟩
   ·rw [if_neg c6] at H
    have c6b0:(t105 == 0)=false:=beq_eq_false_iff_ne.mpr c6
    have c6b1:(t105 != 0)=true:=bne_iff_ne.mpr c6
    obtain rfl:=Option.some.inj H
    go_enter Tryz.func89,Tryz.ntmps89
    go_wp2_with (first | ((with_reducible refine zy (f:=42) rfl ?_);refine zO (some 9) rfl rfl Tryz.func42 (by kernel_rfl) rfl #[.int .i64 0,.int .i64 a1,.int .i64 1] rfl (by (try simp only [List.map_toArray,List.map_cons,List.map_nil]);first | done | rfl | (simp only [List.length_drop,List.length_take];rfl)) ?_;(with_reducible refine (round_Shift.calls 0 a1 1 t104 t105 _ A3.out).mono ?_);rintro e w8 ⟨rfl,hb⟩;refine ⟨_,rfl,?_⟩;have n0_:=Aside0.mk (zb (by repeat (first | (with_reducible first | exact HB.out | apply ze | apply zc | apply zg) | exact HB.out)) hb);clear HB;have HB:=n0_;clear n0_;(try clear hb);(try clear hb2);(try clear hk);(try clear hi)))
    go_ret
    exact ⟨by first | rfl | (simp [zq,zt] <;> rfl) | (simp [*,zq,zt] <;> rfl),by repeat (first | (with_reducible first | exact HB.out | apply ze | apply zc | apply zg) | exact HB.out)⟩
  ·rw [if_neg c5] at H
   have c5b0:decide (a0≤6)=false:=decide_eq_false c5
   clear c5
   obtain rfl:=Option.some.inj H
   go_enter Tryz.func89,Tryz.ntmps89
   go_wp2_with (first | ((with_reducible refine zy (f:=42) rfl ?_);refine zO (some 9) rfl rfl Tryz.func42 (by kernel_rfl) rfl #[.int .i64 0,.int .i64 a1,.int .i64 1] rfl (by (try simp only [List.map_toArray,List.map_cons,List.map_nil]);first | done | rfl | (simp only [List.length_drop,List.length_take];rfl)) ?_;(with_reducible refine (round_Shift.calls 0 a1 1 t104 t105 _ A3.out).mono ?_);rintro e w9 ⟨rfl,hb⟩;refine ⟨_,rfl,?_⟩;have n0_:=Aside0.mk (zb (by repeat (first | (with_reducible first | exact HB.out | apply ze | apply zc | apply zg) | exact HB.out)) hb);clear HB;have HB:=n0_;clear n0_;(try clear hb);(try clear hb2);(try clear hk);(try clear hi)))
   go_ret
   exact ⟨by first | rfl | (simp [zq,zt] <;> rfl) | (simp [*,zq,zt] <;> rfl),by repeat (first | (with_reducible first | exact HB.out | apply ze | apply zc | apply zg) | exact HB.out)⟩
 ·rw [if_neg c4] at H
  have c4b0:decide (2≤a0)=false:=decide_eq_false c4
  clear c4
  obtain rfl:=Option.some.inj H
  go_enter Tryz.func89,Tryz.ntmps89
  go_wp2_with (first | ((with_reducible refine zy (f:=42) rfl ?_);refine zO (some 9) rfl rfl Tryz.func42 (by kernel_rfl) rfl #[.int .i64 0,.int .i64 a1,.int .i64 1] rfl (by (try simp only [List.map_toArray,List.map_cons,List.map_nil]);first | done | rfl | (simp only [List.length_drop,List.length_take];rfl)) ?_;(with_reducible refine (round_Shift.calls 0 a1 1 t104 t105 _ A3.out).mono ?_);rintro e w10 ⟨rfl,hb⟩;refine ⟨_,rfl,?_⟩;have n0_:=Aside0.mk (zb (by repeat (first | (with_reducible first | exact HB.out | apply ze | apply zc | apply zg) | exact HB.out)) hb);clear HB;have HB:=n0_;clear n0_;(try clear hb);(try clear hb2);(try clear hk);(try clear hi)))
  go_ret
  exact ⟨by first | rfl | (simp [zq,zt] <;> rfl) | (simp [*,zq,zt] <;> rfl),by repeat (first | (with_reducible first | exact HB.out | apply ze | apply zc | apply zg) | exact HB.out)⟩

def cx_Shift.f (a0_0:Int) (a0_1:Int) (a1:Int) (a2:Int):Option (Int×Int×Int):=(round_Shift.f a0_0 a1 a2).bind fun bt110=>(if bt110.2=0 then ((round_Shift.f a0_1 a1 a2).bind fun bt112=>(some (bt110.1,bt112.1,0))) else (some (0,0,bt110.2)))
set_option maxHeartbeats 8000000 in
set_option maxRecDepth 100000 in
theorem cx_Shift.calls (a0_0:Int) (a0_1:Int) (a1:Int) (a2:Int) (r1:Int) (r2:Int) (r3:Int) (w:World) (h:cx_Shift.f a0_0 a0_1 a1 a2=some (r1,r2,r3)) :
  Calls Tryz.prog 70 #[.agg #[.int .i64 a0_0,.int .i64 a0_1],.int .i64 a1,.int .i64 a2] w fun e w'=>e=.returned (.tuple #[.agg #[.int .i64 r1,.int .i64 r2],.int .i64 r3])∧Below w.heap.size w w':=by
 have hu38:=Tryz.underlying38
 have HB:=Aside0.mk (Below.refl w.heap.size w)
 have H:((round_Shift.f a0_0 a1 a2).bind fun bt110=>(if bt110.2=0 then ((round_Shift.f a0_1 a1 a2).bind fun bt112=>(some (bt110.1,bt112.1,0))) else (some (0,0,bt110.2))))=some (r1,r2,r3):=h
 clear h
 replace H:=Option.bind_eq_some_iff.mp H
 obtain ⟨⟨t110,t111⟩,A40,H⟩:=H
 replace H:(if t111=0 then ((round_Shift.f a0_1 a1 a2).bind fun bt112=>(some (t110,bt112.1,0))) else (some (0,0,t111)))=some (r1,r2,r3):=H
 have A4:=Aside0.mk A40
 clear A40
 by_cases c5:t111=0
 ·rw [if_pos c5] at H
  have c5b0:(t111 == 0)=true:=beq_iff_eq.mpr c5
  have c5b1:(t111 != 0)=false:=bne_eq_false_iff_eq.mpr c5
  clear c5
  replace H:=Option.bind_eq_some_iff.mp H
  obtain ⟨⟨t112,t113⟩,A60,H⟩:=H
  replace H:(some (t110,t112,0))=some (r1,r2,r3):=H
  have A6:=Aside0.mk A60
  clear A60
  simp only [Option.some.injEq,Prod.mk.injEq] at H
  obtain ⟨rfl,rfl,rfl⟩:=H
  go_enter Tryz.func70,Tryz.ntmps70
  go_wp2_with (first | ((with_reducible refine zf (N:=3) rfl ?_);refine ba_ 3 rfl #[.int .i64 a0_0,.int .i64 a0_1] 38 ?_;intro gb108 hg w7 I hb;have n0_:=Aside0.mk (zb (by repeat (first | (with_reducible first | exact HB.out | apply ze | apply zc | apply zg) | exact HB.out)) hb);have n1_:=Aside0.mk (I);have n2_:=Aside0.mk ((by rw [hg];exact (zi (by repeat (first | (with_reducible first | exact HB.out | apply ze | apply zc | apply zg) | exact HB.out))):w.heap.size≤gb108));have n3_:=Aside0.mk ((by rw [hg];exact (zi (by repeat (first | (with_reducible first | exact HB.out | apply ze | apply zc | apply zg) | exact HB.out))):w.heap.size≤gb108));clear HB;have HB:=n0_;have BK108:=n1_;have GW108:=n2_;have GE108:=n3_;clear n0_ n1_ n2_ n3_;clear hb I hg) | ((with_reducible refine zf (N:=6) rfl ?_);refine ba_ 6 rfl #[.int .i64 0,.int .i64 0] 38 ?_;intro gb109 hg w8 I hb;have n0_:=Aside0.mk (zd (g:=gb108) (o:=.cells #[.int .i64 a0_0,.int .i64 a0_1] 38 (0,0)) (by (with_reducible repeat (first | refine zn ?_ _ | refine zu ?_ | refine zm ?_ _));exact BK108.out) hb);have n1_:=Aside0.mk (zb (by repeat (first | (with_reducible first | exact HB.out | apply ze | apply zc | apply zg | refine zp ?_ GE108.out) | exact HB.out)) hb);have n2_:=Aside0.mk (I);have n3_:=Aside0.mk ((by rw [hg];exact (zi (by repeat (first | (with_reducible first | exact HB.out | apply ze | apply zc | apply zg | refine zp ?_ GE108.out) | exact HB.out))):w.heap.size≤gb109));have n4_:=Aside0.mk ((by rw [hg];exact (zi (by repeat (first | (with_reducible first | exact HB.out | apply ze | apply zc | apply zg | refine zp ?_ GE108.out) | exact HB.out))):w.heap.size≤gb109));have n5_:=Aside0.mk ((by rw [hg];exact Nat.ne_of_lt (zj (g:=gb108) (o:=.cells #[.int .i64 a0_0,.int .i64 a0_1] 38 (0,0)) (by (with_reducible repeat (first | refine zn ?_ _ | refine zu ?_ | refine zm ?_ _));exact BK108.out)):gb108≠gb109));have n6_:=Aside0.mk ((by rw [hg];exact Nat.ne_of_gt (zj (g:=gb108) (o:=.cells #[.int .i64 a0_0,.int .i64 a0_1] 38 (0,0)) (by (with_reducible repeat (first | refine zn ?_ _ | refine zu ?_ | refine zm ?_ _));exact BK108.out)):gb109≠gb108));clear BK108;clear HB;have BK108:=n0_;have HB:=n1_;have BK109:=n2_;have GW109:=n3_;have GE109:=n4_;have NB108_109:=n5_;have NB109_108:=n6_;clear n0_ n1_ n2_ n3_ n4_ n5_ n6_;clear hb I hg;have hnb9:=NB108_109.out;have hnc9:=NB109_108.out;have hcz10_0:w8.cell? ⟨gb108,0,none⟩=some (.int .i64 a0_0):=(za BK108.out 0).trans rfl;have hcz10_1:w8.cell? ⟨gb108,1,none⟩=some (.int .i64 a0_1):=(za BK108.out 1).trans rfl;have hfz10_0:=zh BK108.out 0;have hfz10_1:=zh BK108.out 1) | ((with_reducible refine zy (f:=42) rfl ?_);refine zO (some 17) rfl rfl Tryz.func42 (by kernel_rfl) rfl #[.int .i64 a0_0,.int .i64 a1,.int .i64 a2] rfl (by (try simp only [List.map_toArray,List.map_cons,List.map_nil]);first | done | rfl | (simp only [List.length_drop,List.length_take];rfl)) ?_;(with_reducible refine (round_Shift.calls a0_0 a1 a2 t110 t111 _ A4.out).mono ?_);rintro e w11 ⟨rfl,hb⟩;refine ⟨_,rfl,?_⟩;have n0_:=Aside0.mk (zd (g:=gb108) (o:=.cells #[.int .i64 a0_0,.int .i64 a0_1] 38 (0,0)) (by (with_reducible repeat (first | refine zn ?_ _ | refine zu ?_ | refine zm ?_ _));exact BK108.out) hb);have n1_:=Aside0.mk (zd (g:=gb109) (o:=.cells #[.int .i64 0,.int .i64 0] 38 (0,0)) (by (with_reducible repeat (first | refine zn ?_ _ | refine zu ?_ | refine zm ?_ _));exact BK109.out) hb);have n2_:=Aside0.mk (zb (by repeat (first | (with_reducible first | exact HB.out | apply ze | apply zc | apply zg | refine zp ?_ GE108.out | refine zp ?_ GE109.out) | exact HB.out)) hb);clear BK108;clear BK109;clear HB;have BK108:=n0_;have BK109:=n1_;have HB:=n2_;clear n0_ n1_ n2_;(try clear hb);(try clear hb2);(try clear hk);(try clear hi);have hcz12_0:w11.cell? ⟨gb108,0,none⟩=some (.int .i64 a0_0):=(za BK108.out 0).trans rfl;have hcz12_1:w11.cell? ⟨gb108,1,none⟩=some (.int .i64 a0_1):=(za BK108.out 1).trans rfl;have hfz12_0:=zh BK108.out 0;have hfz12_1:=zh BK108.out 1) | ((with_reducible refine zy (f:=42) rfl ?_);refine zO (some 29) rfl rfl Tryz.func42 (by kernel_rfl) rfl #[.int .i64 a0_1,.int .i64 a1,.int .i64 a2] rfl (by (try simp only [List.map_toArray,List.map_cons,List.map_nil]);first | done | rfl | (simp only [List.length_drop,List.length_take];rfl)) ?_;(with_reducible refine (round_Shift.calls a0_1 a1 a2 t112 t113 _ A6.out).mono ?_);rintro e w13 ⟨rfl,hb⟩;refine ⟨_,rfl,?_⟩;have n0_:=Aside0.mk (zd (g:=gb108) (o:=.cells #[.int .i64 a0_0,.int .i64 a0_1] 38 (0,0)) (by (with_reducible repeat (first | refine zn ?_ _ | refine zu ?_ | refine zm ?_ _));exact BK108.out) hb);have n1_:=Aside0.mk (zd (g:=gb109) (o:=.cells #[.int .i64 0,.int .i64 0] 38 (0,0)) (by (with_reducible repeat (first | refine zn ?_ _ | refine zu ?_ | refine zm ?_ _));exact BK109.out) hb);have n2_:=Aside0.mk (zb (by repeat (first | (with_reducible first | exact HB.out | apply ze | apply zc | apply zg | refine zp ?_ GE108.out | refine zp ?_ GE109.out) | exact HB.out)) hb);clear BK108;clear BK109;clear HB;have BK108:=n0_;have BK109:=n1_;have HB:=n2_;clear n0_ n1_ n2_;(try clear hb);(try clear hb2);(try clear hk);(try clear hi);have hcz14_0:w13.cell? ⟨gb109,0,none⟩=some (.int .i64 0):=(za BK109.out 0).trans rfl;have hcz14_1:w13.cell? ⟨gb109,1,none⟩=some (.int .i64 0):=(za BK109.out 1).trans rfl;have hfz14_0:=zh BK109.out 0;have hfz14_1:=zh BK109.out 1))
  refine bodyPost_ret (zW rfl _ _ gb109 38 #[.int .i64 t110,.int .i64 t112] (0,0) _ rfl (by (with_reducible repeat (first | refine zn ?_ _ | refine zu ?_ | refine zm ?_ _));refine zQ (cs:=#[.int .i64 t110,.int .i64 0]) ?_ 1 _ rfl;(with_reducible repeat (first | refine zn ?_ _ | refine zu ?_ | refine zm ?_ _));refine zQ (cs:=#[.int .i64 0,.int .i64 0]) ?_ 0 _ rfl;(with_reducible repeat (first | refine zn ?_ _ | refine zu ?_ | refine zm ?_ _));exact BK109.out) Tryz.underlying38 rfl (by kernel_rfl)) rfl ?_
  exact ⟨by first | rfl | (simp [zq,zt] <;> rfl) | (simp [*,zq,zt] <;> rfl),by repeat (first | (with_reducible first | exact HB.out | apply ze | apply zc | apply zg | refine zp ?_ GE108.out | refine zp ?_ GE109.out) | exact HB.out)⟩
 ·rw [if_neg c5] at H
  have c5b0:(t111 == 0)=false:=beq_eq_false_iff_ne.mpr c5
  have c5b1:(t111 != 0)=true:=bne_iff_ne.mpr c5
  simp only [Option.some.injEq,Prod.mk.injEq] at H
  obtain ⟨rfl,rfl,rfl⟩:=H
  go_enter Tryz.func70,Tryz.ntmps70
  go_wp2_with (first | ((with_reducible refine zf (N:=3) rfl ?_);refine ba_ 3 rfl #[.int .i64 a0_0,.int .i64 a0_1] 38 ?_;intro gb108 hg w15 I hb;have n0_:=Aside0.mk (zb (by repeat (first | (with_reducible first | exact HB.out | apply ze | apply zc | apply zg) | exact HB.out)) hb);have n1_:=Aside0.mk (I);have n2_:=Aside0.mk ((by rw [hg];exact (zi (by repeat (first | (with_reducible first | exact HB.out | apply ze | apply zc | apply zg) | exact HB.out))):w.heap.size≤gb108));have n3_:=Aside0.mk ((by rw [hg];exact (zi (by repeat (first | (with_reducible first | exact HB.out | apply ze | apply zc | apply zg) | exact HB.out))):w.heap.size≤gb108));clear HB;have HB:=n0_;have BK108:=n1_;have GW108:=n2_;have GE108:=n3_;clear n0_ n1_ n2_ n3_;clear hb I hg) | ((with_reducible refine zf (N:=6) rfl ?_);refine ba_ 6 rfl #[.int .i64 0,.int .i64 0] 38 ?_;intro gb109 hg w16 I hb;have n0_:=Aside0.mk (zd (g:=gb108) (o:=.cells #[.int .i64 a0_0,.int .i64 a0_1] 38 (0,0)) (by (with_reducible repeat (first | refine zn ?_ _ | refine zu ?_ | refine zm ?_ _));exact BK108.out) hb);have n1_:=Aside0.mk (zb (by repeat (first | (with_reducible first | exact HB.out | apply ze | apply zc | apply zg | refine zp ?_ GE108.out) | exact HB.out)) hb);have n2_:=Aside0.mk (I);have n3_:=Aside0.mk ((by rw [hg];exact (zi (by repeat (first | (with_reducible first | exact HB.out | apply ze | apply zc | apply zg | refine zp ?_ GE108.out) | exact HB.out))):w.heap.size≤gb109));have n4_:=Aside0.mk ((by rw [hg];exact (zi (by repeat (first | (with_reducible first | exact HB.out | apply ze | apply zc | apply zg | refine zp ?_ GE108.out) | exact HB.out))):w.heap.size≤gb109));have n5_:=Aside0.mk ((by rw [hg];exact Nat.ne_of_lt (zj (g:=gb108) (o:=.cells #[.int .i64 a0_0,.int .i64 a0_1] 38 (0,0)) (by (with_reducible repeat (first | refine zn ?_ _ | refine zu ?_ | refine zm ?_ _));exact BK108.out)):gb108≠gb109));have n6_:=Aside0.mk ((by rw [hg];exact Nat.ne_of_gt (zj (g:=gb108) (o:=.cells #[.int .i64 a0_0,.int .i64 a0_1] 38 (0,0)) (by (with_reducible repeat (first | refine zn ?_ _ | refine zu ?_ | refine zm ?_ _));exact BK108.out)):gb109≠gb108));clear BK108;clear HB;have BK108:=n0_;have HB:=n1_;have BK109:=n2_;have GW109:=n3_;have GE109:=n4_;have NB108_109:=n5_;have NB109_108:=n6_;clear n0_ n1_ n2_ n3_ n4_ n5_ n6_;clear hb I hg;have hnb17:=NB108_109.out;have hnc17:=NB109_108.out;have hcz18_0:w16.cell? ⟨gb108,0,none⟩=some (.int .i64 a0_0):=(za BK108.out 0).trans rfl;have hcz18_1:w16.cell? ⟨gb108,1,none⟩=some (.int .i64 a0_1):=(za BK108.out 1).trans rfl;have hfz18_0:=zh BK108.out 0;have hfz18_1:=zh BK108.out 1) | ((with_reducible refine zy (f:=42) rfl ?_);refine zO (some 17) rfl rfl Tryz.func42 (by kernel_rfl) rfl #[.int .i64 a0_0,.int .i64 a1,.int .i64 a2] rfl (by (try simp only [List.map_toArray,List.map_cons,List.map_nil]);first | done | rfl | (simp only [List.length_drop,List.length_take];rfl)) ?_;(with_reducible refine (round_Shift.calls a0_0 a1 a2 t110 t111 _ A4.out).mono ?_);rintro e w19 ⟨rfl,hb⟩;refine ⟨_,rfl,?_⟩;have n0_:=Aside0.mk (zd (g:=gb108) (o:=.cells #[.int .i64 a0_0,.int .i64 a0_1] 38 (0,0)) (by (with_reducible repeat (first | refine zn ?_ _ | refine zu ?_ | refine zm ?_ _));exact BK108.out) hb);have n1_:=Aside0.mk (zd (g:=gb109) (o:=.cells #[.int .i64 0,.int .i64 0] 38 (0,0)) (by (with_reducible repeat (first | refine zn ?_ _ | refine zu ?_ | refine zm ?_ _));exact BK109.out) hb);have n2_:=Aside0.mk (zb (by repeat (first | (with_reducible first | exact HB.out | apply ze | apply zc | apply zg | refine zp ?_ GE108.out | refine zp ?_ GE109.out) | exact HB.out)) hb);clear BK108;clear BK109;clear HB;have BK108:=n0_;have BK109:=n1_;have HB:=n2_;clear n0_ n1_ n2_;(try clear hb);(try clear hb2);(try clear hk);(try clear hi);have hcz20_0:w19.cell? ⟨gb109,0,none⟩=some (.int .i64 0):=(za BK109.out 0).trans rfl;have hcz20_1:w19.cell? ⟨gb109,1,none⟩=some (.int .i64 0):=(za BK109.out 1).trans rfl;have hfz20_0:=zh BK109.out 0;have hfz20_1:=zh BK109.out 1))
  refine bodyPost_ret (zW rfl _ _ gb109 38 #[.int .i64 0,.int .i64 0] (0,0) _ rfl (by (with_reducible repeat (first | refine zn ?_ _ | refine zu ?_ | refine zm ?_ _));refine zQ (cs:=#[.int .i64 0,.int .i64 0]) ?_ 1 _ rfl;(with_reducible repeat (first | refine zn ?_ _ | refine zu ?_ | refine zm ?_ _));refine zQ (cs:=#[.int .i64 0,.int .i64 0]) ?_ 0 _ rfl;(with_reducible repeat (first | refine zn ?_ _ | refine zu ?_ | refine zm ?_ _));exact BK109.out) Tryz.underlying38 rfl (by kernel_rfl)) rfl ?_
  exact ⟨by first | rfl | (simp [zq,zt] <;> rfl) | (simp [*,zq,zt] <;> rfl),by repeat (first | (with_reducible first | exact HB.out | apply ze | apply zc | apply zg | refine zp ?_ GE108.out | refine zp ?_ GE109.out) | exact HB.out)⟩

mutual
def flip_Bits.j0:Nat→Int→Int→Bool→Option (Int×Int)
 | 0,_,_,_=>none
 | k+1,x0,x1,x19=>if x19=true then (some (0,1)) else (flip_Bits.l0 k x0 0 x1 0)
def flip_Bits.l0:Nat→Int→Int→Int→Int→Option (Int×Int)
 | 0,_,_,_,_=>none
 | k+1,x0,x6,x20,x21=>if x21 < x20 then (flip_Bits.l0 k (x0 / 2) (Go.bits .or .i64 (wrap64 (x6*2)) (Go.bits .and .i64 x0 1)) x20 (wrap64 (x21+1))) else (some (x6,0))
end
def flip_Bits.f (k:Nat) (a0:Int) (a1:Int):Option (Int×Int):=(flip_may.f a1).bind fun t156=>(if t156=true then (if a0 < 0 then (flip_Bits.j0 k a0 a1 true) else (if 0≤a1 then (flip_Bits.j0 k a0 a1 (decide (a0≥(shl .i64 1 a1)))) else (none))) else (flip_Bits.j0 k a0 a1 true))
set_option maxHeartbeats 8000000 in
set_option maxRecDepth 100000 in
theorem flip_Bits.calls (k:Nat) (a0:Int) (a1:Int) (r1:Int) (r2:Int) (w:World) (h:flip_Bits.f k a0 a1=some (r1,r2)) :
  Calls Tryz.prog 111 #[.int .i64 a0,.int .i64 a1] w fun e w'=>e=.returned (.tuple #[.int .i64 r1,.int .i64 r2])∧Drawn0 w w':=by
 have H:((flip_may.f a1).bind fun t156=>(if t156=true then (if a0 < 0 then (flip_Bits.j0 k a0 a1 true) else (if 0≤a1 then (flip_Bits.j0 k a0 a1 (decide (a0≥(shl .i64 1 a1)))) else (none))) else (flip_Bits.j0 k a0 a1 true)))=some (r1,r2):=h
 clear h
 have HC3:=Aside0.mk H
 clear H
 go_enter Tryz.func111,Tryz.ntmps111
 go_upto_region 1 with (fail)
 go_cut [19] (fun v19 wc=>∃(kq:Nat) (x19_2:Bool),v19=.bool x19_2∧Aside0 (flip_Bits.j0 kq a0 a1 x19_2=some (r1,r2))∧Aside0 (kq≤k)∧Drawn0 w wc)
 case first =>
  have H:=HC3.out
  clear HC3
  replace H:=Option.bind_eq_some_iff.mp H
  obtain ⟨t156,A40,H⟩:=H
  replace H:(if t156=true then (if a0 < 0 then (flip_Bits.j0 k a0 a1 true) else (if 0≤a1 then (flip_Bits.j0 k a0 a1 (decide (a0≥(shl .i64 1 a1)))) else (none))) else (flip_Bits.j0 k a0 a1 true))=some (r1,r2):=H
  have A4:=Aside0.mk A40
  clear A40
  by_cases c5:t156=true
  ·subst c5
   have H1:(if a0 < 0 then (flip_Bits.j0 k a0 a1 true) else (if 0≤a1 then (flip_Bits.j0 k a0 a1 (decide (a0≥(shl .i64 1 a1)))) else (none)))=some (r1,r2):=by rw [if_pos rfl] at H;exact H
   clear H
   have H:=H1
   clear H1
   by_cases c6:a0 < 0
   ·rw [if_pos c6] at H
    have c6b0:decide (a0 < 0)=true:=decide_eq_true c6
    clear c6
    (first | rw [c6b0] | (simp only [zD,zU];rw [c6b0]) | skip)
    have H':=Aside0.mk H
    clear H
    go_wp2_with (first | ((with_reducible refine zy (f:=110) rfl ?_);refine zO (some 8) rfl rfl Tryz.func110 (by kernel_rfl) rfl #[.int .i64 a1] rfl (by (try simp only [List.map_toArray,List.map_cons,List.map_nil]);first | done | rfl | (simp only [List.length_drop,List.length_take];rfl)) ?_;(with_reducible refine (flip_may.calls a1 true _ A4.out).mono ?_);rintro e w' ⟨rfl,⟨nd,rfl⟩⟩;refine ⟨_,rfl,?_⟩))
    go_meet
    case rel=>exact ⟨_,(true),(by first | rfl | (simp;done) | (simp [*];done)),H',⟨by first | omega | exact Nat.le_refl _⟩,by repeat (first | exact Drawn0.refl _ | apply Drawn0.step)⟩
   ·rw [if_neg c6] at H
    have c6b0:decide (a0 < 0)=false:=decide_eq_false c6
    clear c6
    (first | rw [c6b0] | (simp only [zD,zU];rw [c6b0]) | skip)
    by_cases c7:0≤a1
    ·rw [if_pos c7] at H
     have c7b0:=eq_true c7
     have c7b1:decide (0≤a1)=true:=decide_eq_true c7
     clear c7
     obtain ⟨ji8,hji8⟩:∃j_:Int,(shl .i64 1 a1)=j_:=⟨_,rfl⟩
     replace H:(flip_Bits.j0 k a0 a1 (decide (a0≥(ji8))))=some (r1,r2):=by first | (rw [hji8] at H;exact H) | (simp only [hji8] at H ⊢;exact H)
     (try rw [hji8] at A4)
     have hji8_:(IntKind.i64.wrap (1*2^min a1.toNat 64))=ji8:=hji8
     have hji8z:a1≤64→(IntKind.i64.wrap (1*2^a1.toNat))=ji8:=zci hji8
     have hji8u:(IntKind.i64.wrap (2^min a1.toNat 64))=ji8:=by have h_:=hji8_;rw [Int.one_mul] at h_;exact h_
     have hji8v:a1≤64→(IntKind.i64.wrap (2^a1.toNat))=ji8:=fun hle_=>by have h_:=hji8z hle_;rw [Int.one_mul] at h_;exact h_
     have hji8y:(wrap64 (1*2^min a1.toNat 64))=ji8:=(zD _).symm.trans hji8_
     have hji8x:a1≤64→(wrap64 (1*2^a1.toNat))=ji8:=fun h_=>(zD _).symm.trans (hji8z h_)
     have H':=Aside0.mk H
     clear H
     go_wp2_with (first | ((with_reducible refine zy (f:=110) rfl ?_);refine zO (some 8) rfl rfl Tryz.func110 (by kernel_rfl) rfl #[.int .i64 a1] rfl (by (try simp only [List.map_toArray,List.map_cons,List.map_nil]);first | done | rfl | (simp only [List.length_drop,List.length_take];rfl)) ?_;(with_reducible refine (flip_may.calls a1 true _ A4.out).mono ?_);rintro e w' ⟨rfl,⟨nd,rfl⟩⟩;refine ⟨_,rfl,?_⟩))
     go_meet
     case rel=>exact ⟨_,(decide (a0≥(ji8))),(by first | rfl | (simp;done) | (simp only [← hji8] <;> (first | rfl | simp)) | (simp [*];done)),H',⟨by first | omega | exact Nat.le_refl _⟩,by repeat (first | exact Drawn0.refl _ | apply Drawn0.step)⟩
    ·rw [if_neg c7] at H
     exact absurd H (by simp)
  ·replace c5:=Bool.eq_false_iff.mpr c5
   subst c5
   have H1:(flip_Bits.j0 k a0 a1 true)=some (r1,r2):=by rw [if_neg (show ¬(false=true) by decide)] at H;exact H
   clear H
   have H:=H1
   clear H1
   have H':=Aside0.mk H
   clear H
   go_wp2_with (first | ((with_reducible refine zy (f:=110) rfl ?_);refine zO (some 8) rfl rfl Tryz.func110 (by kernel_rfl) rfl #[.int .i64 a1] rfl (by (try simp only [List.map_toArray,List.map_cons,List.map_nil]);first | done | rfl | (simp only [List.length_drop,List.length_take];rfl)) ?_;(with_reducible refine (flip_may.calls a1 false _ A4.out).mono ?_);rintro e w' ⟨rfl,⟨nd,rfl⟩⟩;refine ⟨_,rfl,?_⟩))
   go_meet
   case rel=>exact ⟨_,(true),(by first | rfl | (simp;done) | (simp [*];done)),H',⟨by first | omega | exact Nat.le_refl _⟩,by repeat (first | exact Drawn0.refl _ | apply Drawn0.step)⟩
 case rest =>
  clear HC3
  try clear c1
  try clear p2
  try clear c5
  try clear c6
  try clear c6b0
  try clear p6
  try clear c7
  try clear c7b0
  try clear c7b1
  obtain ⟨kq,x19_2,rfl,HA,HJ2,⟨mc2,rfl⟩⟩:=hcut
  cases kq with
  | zero=>exact absurd HA.out (by simp [flip_Bits.j0])
  | succ kj2 =>
   have H:=HA.out
   clear HA
   simp only [flip_Bits.j0] at H
   by_cases c9:x19_2=true
   ·subst c9
    have H1:(some (0,1))=some (r1,r2):=by rw [if_pos rfl] at H;exact H
    clear H
    have H:=H1
    clear H1
    simp only [Option.some.injEq,Prod.mk.injEq] at H
    obtain ⟨rfl,rfl⟩:=H
    go_wp2
    go_ret2
    exact ⟨by first | rfl | (simp;done) | (simp [*];done),by repeat (first | exact Drawn0.refl _ | apply Drawn0.step)⟩
   ·replace c9:=Bool.eq_false_iff.mpr c9
    subst c9
    have H1:(flip_Bits.l0 kj2 a0 0 a1 0)=some (r1,r2):=by rw [if_neg (show ¬(false=true) by decide)] at H;exact H
    clear H
    have H:=H1
    clear H1
    have H':=Aside0.mk H
    clear H
    go_wp2
    go_loopg [0,6,21] kj2 (fun kq v0 v6 v21 w'=>∃(x0_2:Int) (x6_2:Int) (x21_2:Int),v0=.int .i64 x0_2∧v6=.int .i64 x6_2∧v21=.int .i64 x21_2∧Aside0 (flip_Bits.l0 kq x0_2 x6_2 a1 x21_2=some (r1,r2))∧Aside0 (kq≤kj2)∧Drawn0 w w')
    case atStart=>exact ⟨(a0),(0),(0),(by first | rfl | (simp;done) | (simp [*];done)),(by first | rfl | (simp;done) | (simp [*];done)),(by first | rfl | (simp;done) | (simp [*];done)),H',⟨Nat.le_refl _⟩,by repeat (first | exact Drawn0.refl _ | apply Drawn0.step)⟩
    case round =>
     clear H'
     try clear c1
     try clear c2
     try clear p2
     try clear c5
     try clear c6
     try clear c6b0
     try clear p6
     try clear c7
     try clear c7b0
     try clear c7b1
     try clear c9
     try clear p2
     try clear p6
     obtain ⟨x0_2,x6_2,x21_2,rfl,rfl,rfl,HA,HK2,⟨m2,rfl⟩⟩:=hrel
     cases gk with
     | zero=>exact absurd HA.out (by simp [flip_Bits.l0])
     | succ k2 =>
      have H:=HA.out
      clear HA
      simp only [flip_Bits.l0] at H
      by_cases c10:x21_2 < a1
      ·rw [if_pos c10] at H
       have c10b0:decide (x21_2 < a1)=true:=decide_eq_true c10
       clear c10
       have H':=Aside0.mk H
       clear H
       go_wp2
       go_roundg k2
       case measure=>have:=HJ2.out;have:=HK2.out;omega
       case rel=>exact ⟨(x0_2 / 2),(Go.bits .or .i64 (wrap64 (x6_2*2)) (Go.bits .and .i64 x0_2 1)),(wrap64 (x21_2+1)),(by first | rfl | (simp;done) | (simp [*];done)),(by first | rfl | (simp;done) | (simp [*];done)),(by first | rfl | (simp;done) | (simp [*];done)),H',⟨by have:=HJ2.out;have:=HK2.out;omega⟩,by repeat (first | exact Drawn0.refl _ | apply Drawn0.step)⟩
      ·rw [if_neg c10] at H
       have c10b0:decide (x21_2 < a1)=false:=decide_eq_false c10
       clear c10
       simp only [Option.some.injEq,Prod.mk.injEq] at H
       obtain ⟨rfl,rfl⟩:=H
       go_wp2
       go_ret2
       exact ⟨by first | rfl | (simp;done) | (simp [*];done),by repeat (first | exact Drawn0.refl _ | apply Drawn0.step)⟩

def two_settings.f (a0:Int) (a1:Int) (a2:Int):Option (Bool):=(round_Shift.f 0 0 a2).bind fun bt229=>(if a0≥0 then (if a0≤29 then (if a1≥0 then (if a1≤3 then (some (bt229.2 == 0)) else (some false)) else (some false)) else (some false)) else (some false))
set_option maxHeartbeats 8000000 in
set_option maxRecDepth 100000 in
theorem two_settings.calls (a0:Int) (a1:Int) (a2:Int) (r:Bool) (w:World) (h:two_settings.f a0 a1 a2=some r) :
  Calls Tryz.prog 78 #[.int .i64 a0,.int .i64 a1,.int .i64 a2] w fun e w'=>e=.returned (.bool r)∧Below w.heap.size w w':=by
 have HB:=Aside0.mk (Below.refl w.heap.size w)
 have H:((round_Shift.f 0 0 a2).bind fun bt229=>(if a0≥0 then (if a0≤29 then (if a1≥0 then (if a1≤3 then (some (bt229.2 == 0)) else (some false)) else (some false)) else (some false)) else (some false)))=some r:=h
 clear h
 replace H:=Option.bind_eq_some_iff.mp H
 obtain ⟨⟨t229,t230⟩,A40,H⟩:=H
 replace H:(if a0≥0 then (if a0≤29 then (if a1≥0 then (if a1≤3 then (some (t230 == 0)) else (some false)) else (some false)) else (some false)) else (some false))=some r:=H
 have A4:=Aside0.mk A40
 clear A40
 by_cases c5:a0≥0
 ·rw [if_pos c5] at H
  have c5b0:decide (0≤a0)=true:=decide_eq_true c5
  clear c5
  by_cases c6:a0≤29
  ·rw [if_pos c6] at H
   have c6b0:decide (a0≤29)=true:=decide_eq_true c6
   clear c6
   by_cases c7:a1≥0
   ·rw [if_pos c7] at H
    have c7b0:decide (0≤a1)=true:=decide_eq_true c7
    clear c7
    by_cases c8:a1≤3
    ·rw [if_pos c8] at H
     have c8b0:decide (a1≤3)=true:=decide_eq_true c8
     clear c8
     obtain rfl:=Option.some.inj H
     go_enter Tryz.func78,Tryz.ntmps78
     go_wp2_with (first | ((with_reducible refine zy (f:=42) rfl ?_);refine zO (some 11) rfl rfl Tryz.func42 (by kernel_rfl) rfl #[.int .i64 0,.int .i64 0,.int .i64 a2] rfl (by (try simp only [List.map_toArray,List.map_cons,List.map_nil]);first | done | rfl | (simp only [List.length_drop,List.length_take];rfl)) ?_;(with_reducible refine (round_Shift.calls 0 0 a2 t229 t230 _ A4.out).mono ?_);rintro e w9 ⟨rfl,hb⟩;refine ⟨_,rfl,?_⟩;have n0_:=Aside0.mk (zb (by repeat (first | (with_reducible first | exact HB.out | apply ze | apply zc | apply zg) | exact HB.out)) hb);clear HB;have HB:=n0_;clear n0_;(try clear hb);(try clear hb2);(try clear hk);(try clear hi)))
     go_ret
     exact ⟨by first | rfl | (simp [zq,zt] <;> rfl) | (simp [*,zq,zt] <;> rfl),by repeat (first | (with_reducible first | exact HB.out | apply ze | apply zc | apply zg) | exact HB.out)⟩
    ·rw [if_neg c8] at H
     have c8b0:decide (a1≤3)=false:=decide_eq_false c8
     clear c8
     obtain rfl:=Option.some.inj H
     go_enter Tryz.func78,Tryz.ntmps78
     go_wp2_with (first | ((with_reducible refine zy (f:=42) rfl ?_);refine zO (some 11) rfl rfl Tryz.func42 (by kernel_rfl) rfl #[.int .i64 0,.int .i64 0,.int .i64 a2] rfl (by (try simp only [List.map_toArray,List.map_cons,List.map_nil]);first | done | rfl | (simp only [List.length_drop,List.length_take];rfl)) ?_;(with_reducible refine (round_Shift.calls 0 0 a2 t229 t230 _ A4.out).mono ?_);rintro e w10 ⟨rfl,hb⟩;refine ⟨_,rfl,?_⟩;have n0_:=Aside0.mk (zb (by repeat (first | (with_reducible first | exact HB.out | apply ze | apply zc | apply zg) | exact HB.out)) hb);clear HB;have HB:=n0_;clear n0_;(try clear hb);(try clear hb2);(try clear hk);(try clear hi)))
     go_ret
     exact ⟨by first | rfl | (simp [zq,zt] <;> rfl) | (simp [*,zq,zt] <;> rfl),by repeat (first | (with_reducible first | exact HB.out | apply ze | apply zc | apply zg) | exact HB.out)⟩
   ·rw [if_neg c7] at H
    have c7b0:decide (0≤a1)=false:=decide_eq_false c7
    clear c7
    obtain rfl:=Option.some.inj H
    go_enter Tryz.func78,Tryz.ntmps78
    go_wp2_with (first | ((with_reducible refine zy (f:=42) rfl ?_);refine zO (some 11) rfl rfl Tryz.func42 (by kernel_rfl) rfl #[.int .i64 0,.int .i64 0,.int .i64 a2] rfl (by (try simp only [List.map_toArray,List.map_cons,List.map_nil]);first | done | rfl | (simp only [List.length_drop,List.length_take];rfl)) ?_;(with_reducible refine (round_Shift.calls 0 0 a2 t229 t230 _ A4.out).mono ?_);rintro e w11 ⟨rfl,hb⟩;refine ⟨_,rfl,?_⟩;have n0_:=Aside0.mk (zb (by repeat (first | (with_reducible first | exact HB.out | apply ze | apply zc | apply zg) | exact HB.out)) hb);clear HB;have HB:=n0_;clear n0_;(try clear hb);(try clear hb2);(try clear hk);(try clear hi)))
    go_ret
    exact ⟨by first | rfl | (simp [zq,zt] <;> rfl) | (simp [*,zq,zt] <;> rfl),by repeat (first | (with_reducible first | exact HB.out | apply ze | apply zc | apply zg) | exact HB.out)⟩
  ·rw [if_neg c6] at H
   have c6b0:decide (a0≤29)=false:=decide_eq_false c6
   clear c6
   obtain rfl:=Option.some.inj H
   go_enter Tryz.func78,Tryz.ntmps78
   go_wp2_with (first | ((with_reducible refine zy (f:=42) rfl ?_);refine zO (some 11) rfl rfl Tryz.func42 (by kernel_rfl) rfl #[.int .i64 0,.int .i64 0,.int .i64 a2] rfl (by (try simp only [List.map_toArray,List.map_cons,List.map_nil]);first | done | rfl | (simp only [List.length_drop,List.length_take];rfl)) ?_;(with_reducible refine (round_Shift.calls 0 0 a2 t229 t230 _ A4.out).mono ?_);rintro e w12 ⟨rfl,hb⟩;refine ⟨_,rfl,?_⟩;have n0_:=Aside0.mk (zb (by repeat (first | (with_reducible first | exact HB.out | apply ze | apply zc | apply zg) | exact HB.out)) hb);clear HB;have HB:=n0_;clear n0_;(try clear hb);(try clear hb2);(try clear hk);(try clear hi)))
   go_ret
   exact ⟨by first | rfl | (simp [zq,zt] <;> rfl) | (simp [*,zq,zt] <;> rfl),by repeat (first | (with_reducible first | exact HB.out | apply ze | apply zc | apply zg) | exact HB.out)⟩
 ·rw [if_neg c5] at H
  have c5b0:decide (0≤a0)=false:=decide_eq_false c5
  clear c5
  obtain rfl:=Option.some.inj H
  go_enter Tryz.func78,Tryz.ntmps78
  go_wp2_with (first | ((with_reducible refine zy (f:=42) rfl ?_);refine zO (some 11) rfl rfl Tryz.func42 (by kernel_rfl) rfl #[.int .i64 0,.int .i64 0,.int .i64 a2] rfl (by (try simp only [List.map_toArray,List.map_cons,List.map_nil]);first | done | rfl | (simp only [List.length_drop,List.length_take];rfl)) ?_;(with_reducible refine (round_Shift.calls 0 0 a2 t229 t230 _ A4.out).mono ?_);rintro e w13 ⟨rfl,hb⟩;refine ⟨_,rfl,?_⟩;have n0_:=Aside0.mk (zb (by repeat (first | (with_reducible first | exact HB.out | apply ze | apply zc | apply zg) | exact HB.out)) hb);clear HB;have HB:=n0_;clear n0_;(try clear hb);(try clear hb2);(try clear hk);(try clear hi)))
  go_ret
  exact ⟨by first | rfl | (simp [zq,zt] <;> rfl) | (simp [*,zq,zt] <;> rfl),by repeat (first | (with_reducible first | exact HB.out | apply ze | apply zc | apply zg) | exact HB.out)⟩

def four_settings.f (a0:Int) (a1:Int) (a2:Int):Option (Bool):=(round_Shift.f 0 0 a2).bind fun bt248=>(if a0≥0 then (if a0≤29 then (if a1≥0 then (if a1≤3 then (some (bt248.2 == 0)) else (some false)) else (some false)) else (some false)) else (some false))
set_option maxHeartbeats 8000000 in
set_option maxRecDepth 100000 in
theorem four_settings.calls (a0:Int) (a1:Int) (a2:Int) (r:Bool) (w:World) (h:four_settings.f a0 a1 a2=some r) :
  Calls Tryz.prog 85 #[.int .i64 a0,.int .i64 a1,.int .i64 a2] w fun e w'=>e=.returned (.bool r)∧Below w.heap.size w w':=by
 have HB:=Aside0.mk (Below.refl w.heap.size w)
 have H:((round_Shift.f 0 0 a2).bind fun bt248=>(if a0≥0 then (if a0≤29 then (if a1≥0 then (if a1≤3 then (some (bt248.2 == 0)) else (some false)) else (some false)) else (some false)) else (some false)))=some r:=h
 clear h
 replace H:=Option.bind_eq_some_iff.mp H
 obtain ⟨⟨t248,t249⟩,A40,H⟩:=H
 replace H:(if a0≥0 then (if a0≤29 then (if a1≥0 then (if a1≤3 then (some (t249 == 0)) else (some false)) else (some false)) else (some false)) else (some false))=some r:=H
 have A4:=Aside0.mk A40
 clear A40
 by_cases c5:a0≥0
 ·rw [if_pos c5] at H
  have c5b0:decide (0≤a0)=true:=decide_eq_true c5
  clear c5
  by_cases c6:a0≤29
  ·rw [if_pos c6] at H
   have c6b0:decide (a0≤29)=true:=decide_eq_true c6
   clear c6
   by_cases c7:a1≥0
   ·rw [if_pos c7] at H
    have c7b0:decide (0≤a1)=true:=decide_eq_true c7
    clear c7
    by_cases c8:a1≤3
    ·rw [if_pos c8] at H
     have c8b0:decide (a1≤3)=true:=decide_eq_true c8
     clear c8
     obtain rfl:=Option.some.inj H
     go_enter Tryz.func85,Tryz.ntmps85
     go_wp2_with (first | ((with_reducible refine zy (f:=42) rfl ?_);refine zO (some 11) rfl rfl Tryz.func42 (by kernel_rfl) rfl #[.int .i64 0,.int .i64 0,.int .i64 a2] rfl (by (try simp only [List.map_toArray,List.map_cons,List.map_nil]);first | done | rfl | (simp only [List.length_drop,List.length_take];rfl)) ?_;(with_reducible refine (round_Shift.calls 0 0 a2 t248 t249 _ A4.out).mono ?_);rintro e w9 ⟨rfl,hb⟩;refine ⟨_,rfl,?_⟩;have n0_:=Aside0.mk (zb (by repeat (first | (with_reducible first | exact HB.out | apply ze | apply zc | apply zg) | exact HB.out)) hb);clear HB;have HB:=n0_;clear n0_;(try clear hb);(try clear hb2);(try clear hk);(try clear hi)))
     go_ret
     exact ⟨by first | rfl | (simp [zq,zt] <;> rfl) | (simp [*,zq,zt] <;> rfl),by repeat (first | (with_reducible first | exact HB.out | apply ze | apply zc | apply zg) | exact HB.out)⟩
    ·rw [if_neg c8] at H
     have c8b0:decide (a1≤3)=false:=decide_eq_false c8
     clear c8
     obtain rfl:=Option.some.inj H
     go_enter Tryz.func85,Tryz.ntmps85
     go_wp2_with (first | ((with_reducible refine zy (f:=42) rfl ?_);refine zO (some 11) rfl rfl Tryz.func42 (by kernel_rfl) rfl #[.int .i64 0,.int .i64 0,.int .i64 a2] rfl (by (try simp only [List.map_toArray,List.map_cons,List.map_nil]);first | done | rfl | (simp only [List.length_drop,List.length_take];rfl)) ?_;(with_reducible refine (round_Shift.calls 0 0 a2 t248 t249 _ A4.out).mono ?_);rintro e w10 ⟨rfl,hb⟩;refine ⟨_,rfl,?_⟩;have n0_:=Aside0.mk (zb (by repeat (first | (with_reducible first | exact HB.out | apply ze | apply zc | apply zg) | exact HB.out)) hb);clear HB;have HB:=n0_;clear n0_;(try clear hb);(try clear hb2);(try clear hk);(try clear hi)))
     go_ret
     exact ⟨by first | rfl | (simp [zq,zt] <;> rfl) | (simp [*,zq,zt] <;> rfl),by repeat (first | (with_reducible first | exact HB.out | apply ze | apply zc | apply zg) | exact HB.out)⟩
   ·rw [if_neg c7] at H
    have c7b0:decide (0≤a1)=false:=decide_eq_false c7
    clear c7
    obtain rfl:=Option.some.inj H
    go_enter Tryz.func85,Tryz.ntmps85
    go_wp2_with (first | ((with_reducible refine zy (f:=42) rfl ?_);refine zO (some 11) rfl rfl Tryz.func42 (by kernel_rfl) rfl #[.int .i64 0,.int .i64 0,.int .i64 a2] rfl (by (try simp only [List.map_toArray,List.map_cons,List.map_nil]);first | done | rfl | (simp only [List.length_drop,List.length_take];rfl)) ?_;(with_reducible refine (round_Shift.calls 0 0 a2 t248 t249 _ A4.out).mono ?_);rintro e w11 ⟨rfl,hb⟩;refine ⟨_,rfl,?_⟩;have n0_:=Aside0.mk (zb (by repeat (first | (with_reducible first | exact HB.out | apply ze | apply zc | apply zg) | exact HB.out)) hb);clear HB;have HB:=n0_;clear n0_;(try clear hb);(try clear hb2);(try clear hk);(try clear hi)))
    go_ret
    exact ⟨by first | rfl | (simp [zq,zt] <;> rfl) | (simp [*,zq,zt] <;> rfl),by repeat (first | (with_reducible first | exact HB.out | apply ze | apply zc | apply zg) | exact HB.out)⟩
  ·rw [if_neg c6] at H
   have c6b0:decide (a0≤29)=false:=decide_eq_false c6
   clear c6
   obtain rfl:=Option.some.inj H
   go_enter Tryz.func85,Tryz.ntmps85
   go_wp2_with (first | ((with_reducible refine zy (f:=42) rfl ?_);refine zO (some 11) rfl rfl Tryz.func42 (by kernel_rfl) rfl #[.int .i64 0,.int .i64 0,.int .i64 a2] rfl (by (try simp only [List.map_toArray,List.map_cons,List.map_nil]);first | done | rfl | (simp only [List.length_drop,List.length_take];rfl)) ?_;(with_reducible refine (round_Shift.calls 0 0 a2 t248 t249 _ A4.out).mono ?_);rintro e w12 ⟨rfl,hb⟩;refine ⟨_,rfl,?_⟩;have n0_:=Aside0.mk (zb (by repeat (first | (with_reducible first | exact HB.out | apply ze | apply zc | apply zg) | exact HB.out)) hb);clear HB;have HB:=n0_;clear n0_;(try clear hb);(try clear hb2);(try clear hk);(try clear hi)))
   go_ret
   exact ⟨by first | rfl | (simp [zq,zt] <;> rfl) | (simp [*,zq,zt] <;> rfl),by repeat (first | (with_reducible first | exact HB.out | apply ze | apply zc | apply zg) | exact HB.out)⟩
 ·rw [if_neg c5] at H
  have c5b0:decide (0≤a0)=false:=decide_eq_false c5
  clear c5
  obtain rfl:=Option.some.inj H
  go_enter Tryz.func85,Tryz.ntmps85
  go_wp2_with (first | ((with_reducible refine zy (f:=42) rfl ?_);refine zO (some 11) rfl rfl Tryz.func42 (by kernel_rfl) rfl #[.int .i64 0,.int .i64 0,.int .i64 a2] rfl (by (try simp only [List.map_toArray,List.map_cons,List.map_nil]);first | done | rfl | (simp only [List.length_drop,List.length_take];rfl)) ?_;(with_reducible refine (round_Shift.calls 0 0 a2 t248 t249 _ A4.out).mono ?_);rintro e w13 ⟨rfl,hb⟩;refine ⟨_,rfl,?_⟩;have n0_:=Aside0.mk (zb (by repeat (first | (with_reducible first | exact HB.out | apply ze | apply zc | apply zg) | exact HB.out)) hb);clear HB;have HB:=n0_;clear n0_;(try clear hb);(try clear hb2);(try clear hk);(try clear hi)))
  go_ret
  exact ⟨by first | rfl | (simp [zq,zt] <;> rfl) | (simp [*,zq,zt] <;> rfl),by repeat (first | (with_reducible first | exact HB.out | apply ze | apply zc | apply zg) | exact HB.out)⟩

end Go.Proofs.YteieahbadclppaaGreat.P

namespace Go.Proofs.YteieahbadclppaaGreat.P
open Go.RowKit Go.Proofs.YteieahbadclppaaGreatW.PrintWords Go.Proofs.YteieahbadclppaaGreatW.PrintLast Go.Proofs.YteieahbadclppaaGreatW.PrintMore
attribute [local go_sem] zF zG zK zL
set_option linter.unusedVariables false
set_option linter.unusedSimpArgs false
def shC (s mode:Int) (x:S38):S38:=⟨shV x.f0 s mode,shV x.f1 s mode⟩
theorem zbf (x:S38) (s mode:Int) (h0:0≤s) (h1:s≤62) (h2:0≤mode) (h3:mode < 3):cx_Shift.f x.f0 x.f1 s mode=some ((shC s mode x).f0,(shC s mode x).f1,0):=by
 unfold cx_Shift.f round_Shift.f
 rw [if_neg (by omega),if_neg (by omega)]
 rfl
theorem zI {base:Nat} {ok:Nat→Prop} {W w1:World} {v:Value} {xs:List S38} {g:Nat} (h:Kd.R k38 38 W base ok v xs) (hw:∀k,k≠g→w1.heap[k]?=W.heap[k]?) (hne:some g≠v.ownBlock):Kd.R k38 38 w1 base ok v xs :=
 Kd.R_mono (Kd.R_step (Kd.R_tight rfl h) (fun k hk _=>hw k (fun e_=>hne (by rw [← e_];exact hk.symm ▸ rfl)))) (fun k hk=>h.1 k hk.symm)
section
variable {ops:Array Oper} {rest:List Oper} {o:Oper} {a:Act} {Q:Exit→Act→World→Prop}
theorem zhb {w0 W:World} (base:Nat) (hgd:o.guard=none) (x y:Operand) (ho:o.op=.makeSlice 22 x y) (m:Nat) (hx:a.eval x=.int .i64 0) (hy:a.eval y=.int .i64 m) (hm:m≤1000000) (HB:Below base w0 W) (hbase:base≤W.heap.size)
  (h:∀v1 w1,Kd.R k38 38 w1 base (fun _=>True) v1 []→Below base w0 w1→wpList Tryz.prog ops Q rest (a.put o.dst v1) w1):wpList Tryz.prog ops Q (o :: rest) a W:=by
 obtain ⟨i,hi,hz⟩:=Option.map_eq_some_iff.1 (zbF:(Tryz.prog.info? 38).map (fun i=>(i.zero,i.size,i.bytes))=some (some (.agg #[(.int .i64 0),(.int .i64 0)]),2,16))
 simp only [Prod.mk.injEq] at hz
 obtain ⟨z0,z1,z2⟩:=hz
 obtain ⟨w1,hr,hown,hg⟩:=run_make_own (P:=Tryz.prog) W base 22 38 i _ 2 Tryz.underlying22 hi z0 z1 .i64 .i64 m (by rw [z2];omega) (by unfold maxLen;omega) hbase
 refine Kd.event_run hgd (v:=.slice (some ⟨W.heap.size,0,none⟩) 0 m) (w1:=w1) ?_ (h _ _ ⟨fun _ _=>trivial,[],hown,zat.none _ _⟩ ?_)
 ·simp only [execOp,ho,hx,hy]
  simp [hr]
 ·exact HB.grown hg hbase (by simp)
end
theorem zr_ {α:Type} {d:Kd α} {e base:Nat} {ok:Nat→Prop} {w w1:World} {v:Value} {xs:List α} (h:RowKit.Hid (d.R e w base ok v xs)) (hb:Below w.heap.size w w1):RowKit.Hid (d.R e w1 base ok v xs):=Kd.R_below h.out hb
set_option maxRecDepth 100000 in
set_option maxHeartbeats 4000000 in
theorem zkX (mode:Int) (h0:0≤mode) (h1:mode < 3) (A:Option Addr) (c:Nat) (l:List S38) (w:World) (hr:Kd.C k38 w A l.length l) (hc:l.length≤c) (hl:l.length≤1000) :
  Calls Tryz.prog 67 #[.slice A l.length c,.int .i64 0,.int .i64 mode] w fun e w'=>∃v,e=.returned (.tuple #[v,.int .i64 0])∧Kd.R k38 38 w' w.heap.size (fun _=>True) v (l.map (shC 0 mode))∧Below w.heap.size w w':=by
 have HR:=hhd hr
 clear hr
 have HS:=hhd (show round_Shift.f 0 0 mode=some (shV 0 0 mode,0) by unfold round_Shift.f;rw [if_neg (by omega)])
 have HC:=hhd (fun x:S38=>zbf x 0 mode (by omega) (by omega) h0 h1)
 have HBr:=hhd (Below.refl w.heap.size w)
 clear h0 h1
 generalize shV 0 0 mode=z0 at *
 go_enter Tryz.func67,Tryz.ntmps67
 go_wp2_with (first
  | (go_at_call 42;(with_reducible refine (round_Shift.calls 0 0 mode _ _ _ HS.out).mono ?_);rintro e W0 ⟨rfl,hb⟩;have aC:=zs_ HBr hb;clear hb HBr)
  | ((with_reducible refine zf (N:=31) rfl ?_);refine zhb (w0:=w) w.heap.size rfl _ _ rfl l.length rfl rfl (by omega) aC.out (zi aC) ?_;intro v31 W1 ho hb;have aH:=hhd ho;have aI:=hhd hb;clear ho hb))
 go_loopw [10,34] (fun s10 s34 wr=>∃k:Nat,k≤l.length∧s34=.int .i64 k∧Kd.R k38 38 wr w.heap.size (fun _=>True) s10 ((l.take k).map (shC 0 mode))∧Below w.heap.size w wr) (fun _ i _=>l.length - (intOf i).toNat)
 case atStart=>exact ⟨0,by omega,rfl,by simpa using aH.out,aI.out⟩
 case round =>
  obtain ⟨k,hk,rfl,ho,hb⟩:=hrel
  have HOr:=hhd ho
  have HBr:=hhd hb
  clear ho hb aH aI aC
  by_cases hlt:k < l.length
  ·obtain ⟨ad,rfl,h0,h1⟩:=zag HR.out (k:Int) (by omega) (by omega)
   have HT:=hhd (show (l.take (k+1)).map (shC 0 mode)=(l.take k).map (shC 0 mode)++[shC 0 mode (zk l k)] by
    rw [List.take_succ_eq_append_getElem hlt,List.map_append]
    unfold zk
    rw [Int.toNat_natCast,List.getD_eq_getElem?_getD,List.getElem?_eq_getElem hlt]
    rfl)
   have hlen:((l.take k).map (shC 0 mode)).length≤1000:=by simp;omega
   have HL:=hhd hlen
   rw [Int.toNat_natCast] at h0 h1
   replace h0:=(HBr.out.cell (World.block_lt_of_cell? w _ h0)).trans h0
   replace h1:=(HBr.out.cell (World.block_lt_of_cell? w _ h1)).trans h1
   have HX:=hhd (HC.out (zk l k))
   clear hlen
   generalize zk l k=x at *
   generalize (l.take k).map (shC 0 mode)=Y at *
   generalize shC 0 mode x=y at *
   go_wp2_with (first
    | ((with_reducible refine zf (N:=12) rfl ?_);refine ba_ 12 rfl #[.int .i64 0,.int .i64 0] 38 ?_;intro g12 hg aY aD aE;have B12:=hhd aD;have aK:=zs_ HBr aE;have aJ:w.heap.size≤g12:=(by rw [hg];exact zi HBr);have aM:=zr_ HOr aE;have N12:=hhd (show some g12≠_ from by rw [hg];exact Kd.R_ne_new HOr.out 0);clear aD aE hg)
    | ((with_reducible refine zo (t:=38) (p:=12) rfl ?_);refine zN rfl 38 _ _ rfl g12 #[.int .i64 x.f0,.int .i64 x.f1] rfl rfl 38 #[.int .i64 0,.int .i64 0] B12.out (zw _ _) rfl (zM _ _) ?_;intro aZ hq I aA;have B13:=hhd hq;have aN:=hhd (aA _ _ aJ aK.out);clear aA;have aQ:=hhd (zI aM.out I N12.out);clear hq I)
    | ((with_reducible refine zf (N:=41) rfl ?_);refine lr_ 41 rfl 38 B13 Tryz.underlying38 ?_)
    | (go_at_call 70;(with_reducible refine (cx_Shift.calls x.f0 x.f1 0 mode y.f0 y.f1 0 _ HX.out).mono ?_);rintro e a7 ⟨rfl,hb⟩;have B14:=za_ B13 hb;have aT:=zs_ aN hb;have aU:=zr_ aQ hb;clear hb)
    | ((with_reducible refine zo (t:=38) (p:=12) rfl ?_);refine zN rfl 38 _ _ rfl g12 #[.int .i64 y.f0,.int .i64 y.f1] rfl rfl 38 #[.int .i64 x.f0,.int .i64 x.f1] B14.out (zw _ _) rfl (zM _ _) ?_;intro a8 hq I aA;have B15:=hhd hq;have aG:=hhd (aA _ _ aJ aT.out);clear aA;have aV:=hhd (zI aU.out I N12.out);clear hq I)
    | ((with_reducible refine zf (N:=48) rfl ?_);refine lr_ 48 rfl 38 B15 Tryz.underlying38 ?_)
    | ((with_reducible refine zaw (b:=.append) (xs:=#[.tmp 47,.tmp 49]) rfl ?_);at_builtin;refine Kd.R_append k38 (w0:=w) w.heap.size rfl (.tmp 47) (.tmp 49) 22 38 (.agg #[(.int .i64 0),(.int .i64 0)]) 16 rfl Tryz.underlying22 zbF rfl (by decide) (by omega) _ Y y [.int .i64 y.f0,.int .i64 y.f1] (fun _=>True) (fun _=>False) rfl rfl ?aP (fun _ hk=>hk.elim) ?aF ?aO ?aB ?aS ?aL ?_;(case aP=>exact zaA _ _ _ y);(case aB=>exact aG.out);(case aF=>exact (fun _ _=>trivial));(case aO=>exact aV.out);(case aS=>exact zi aG);(case aL=>have:=HL.out;omega);intro v50 a9 ho hb hg hat;have aW:=hhd ho;have aX:=hhd hb;clear ho hb hg hat))
   go_roundw
   case rel=>exact ⟨k+1,by omega,by go_num,by rw [HT.out];exact aW.out,aX.out⟩
   case measure=>simp [intOf];omega
  ·obtain rfl:k=l.length:=by omega
   go_wp2
   go_ret2
   exact ⟨_,rfl,by have h:=HOr.out;rw [List.take_length] at h;exact h,HBr.out⟩
set_option maxRecDepth 100000 in
set_option maxHeartbeats 4000000 in
theorem zhc (mode:Int) (h0:0≤mode) (h1:mode < 3) (A:Option Addr) (c:Nat) (l:List S38) (w:World) (hr:Kd.C k38 w A l.length l) (hc:l.length≤c) (hl:l.length≤1000) :
  Calls Tryz.prog 67 #[.slice A l.length c,.int .i64 1,.int .i64 mode] w fun e w'=>∃v,e=.returned (.tuple #[v,.int .i64 0])∧Kd.R k38 38 w' w.heap.size (fun _=>True) v (l.map (shC 1 mode))∧Below w.heap.size w w':=by
 have HR:=hhd hr
 clear hr
 have HS:=hhd (show round_Shift.f 0 1 mode=some (shV 0 1 mode,0) by unfold round_Shift.f;rw [if_neg (by omega)])
 have HC:=hhd (fun x:S38=>zbf x 1 mode (by omega) (by omega) h0 h1)
 have HBr:=hhd (Below.refl w.heap.size w)
 clear h0 h1
 generalize shV 0 1 mode=z0 at *
 go_enter Tryz.func67,Tryz.ntmps67
 go_wp2_with (first
  | (go_at_call 42;(with_reducible refine (round_Shift.calls 0 1 mode _ _ _ HS.out).mono ?_);rintro e W0 ⟨rfl,hb⟩;have aC:=zs_ HBr hb;clear hb HBr)
  | ((with_reducible refine zf (N:=31) rfl ?_);refine zhb (w0:=w) w.heap.size rfl _ _ rfl l.length rfl rfl (by omega) aC.out (zi aC) ?_;intro v31 W1 ho hb;have aH:=hhd ho;have aI:=hhd hb;clear ho hb))
 go_loopw [10,34] (fun s10 s34 wr=>∃k:Nat,k≤l.length∧s34=.int .i64 k∧Kd.R k38 38 wr w.heap.size (fun _=>True) s10 ((l.take k).map (shC 1 mode))∧Below w.heap.size w wr) (fun _ i _=>l.length - (intOf i).toNat)
 case atStart=>exact ⟨0,by omega,rfl,by simpa using aH.out,aI.out⟩
 case round =>
  obtain ⟨k,hk,rfl,ho,hb⟩:=hrel
  have HOr:=hhd ho
  have HBr:=hhd hb
  clear ho hb aH aI aC
  by_cases hlt:k < l.length
  ·obtain ⟨ad,rfl,h0,h1⟩:=zag HR.out (k:Int) (by omega) (by omega)
   have HT:=hhd (show (l.take (k+1)).map (shC 1 mode)=(l.take k).map (shC 1 mode)++[shC 1 mode (zk l k)] by
    rw [List.take_succ_eq_append_getElem hlt,List.map_append]
    unfold zk
    rw [Int.toNat_natCast,List.getD_eq_getElem?_getD,List.getElem?_eq_getElem hlt]
    rfl)
   have hlen:((l.take k).map (shC 1 mode)).length≤1000:=by simp;omega
   have HL:=hhd hlen
   rw [Int.toNat_natCast] at h0 h1
   replace h0:=(HBr.out.cell (World.block_lt_of_cell? w _ h0)).trans h0
   replace h1:=(HBr.out.cell (World.block_lt_of_cell? w _ h1)).trans h1
   have HX:=hhd (HC.out (zk l k))
   clear hlen
   generalize zk l k=x at *
   generalize (l.take k).map (shC 1 mode)=Y at *
   generalize shC 1 mode x=y at *
   go_wp2_with (first
    | ((with_reducible refine zf (N:=12) rfl ?_);refine ba_ 12 rfl #[.int .i64 0,.int .i64 0] 38 ?_;intro g12 hg aY aD aE;have B12:=hhd aD;have aK:=zs_ HBr aE;have aJ:w.heap.size≤g12:=(by rw [hg];exact zi HBr);have aM:=zr_ HOr aE;have N12:=hhd (show some g12≠_ from by rw [hg];exact Kd.R_ne_new HOr.out 0);clear aD aE hg)
    | ((with_reducible refine zo (t:=38) (p:=12) rfl ?_);refine zN rfl 38 _ _ rfl g12 #[.int .i64 x.f0,.int .i64 x.f1] rfl rfl 38 #[.int .i64 0,.int .i64 0] B12.out (zw _ _) rfl (zM _ _) ?_;intro aZ hq I aA;have B13:=hhd hq;have aN:=hhd (aA _ _ aJ aK.out);clear aA;have aQ:=hhd (zI aM.out I N12.out);clear hq I)
    | ((with_reducible refine zf (N:=41) rfl ?_);refine lr_ 41 rfl 38 B13 Tryz.underlying38 ?_)
    | (go_at_call 70;(with_reducible refine (cx_Shift.calls x.f0 x.f1 1 mode y.f0 y.f1 0 _ HX.out).mono ?_);rintro e a7 ⟨rfl,hb⟩;have B14:=za_ B13 hb;have aT:=zs_ aN hb;have aU:=zr_ aQ hb;clear hb)
    | ((with_reducible refine zo (t:=38) (p:=12) rfl ?_);refine zN rfl 38 _ _ rfl g12 #[.int .i64 y.f0,.int .i64 y.f1] rfl rfl 38 #[.int .i64 x.f0,.int .i64 x.f1] B14.out (zw _ _) rfl (zM _ _) ?_;intro a8 hq I aA;have B15:=hhd hq;have aG:=hhd (aA _ _ aJ aT.out);clear aA;have aV:=hhd (zI aU.out I N12.out);clear hq I)
    | ((with_reducible refine zf (N:=48) rfl ?_);refine lr_ 48 rfl 38 B15 Tryz.underlying38 ?_)
    | ((with_reducible refine zaw (b:=.append) (xs:=#[.tmp 47,.tmp 49]) rfl ?_);at_builtin;refine Kd.R_append k38 (w0:=w) w.heap.size rfl (.tmp 47) (.tmp 49) 22 38 (.agg #[(.int .i64 0),(.int .i64 0)]) 16 rfl Tryz.underlying22 zbF rfl (by decide) (by omega) _ Y y [.int .i64 y.f0,.int .i64 y.f1] (fun _=>True) (fun _=>False) rfl rfl ?aP (fun _ hk=>hk.elim) ?aF ?aO ?aB ?aS ?aL ?_;(case aP=>exact zaA _ _ _ y);(case aB=>exact aG.out);(case aF=>exact (fun _ _=>trivial));(case aO=>exact aV.out);(case aS=>exact zi aG);(case aL=>have:=HL.out;omega);intro v50 a9 ho hb hg hat;have aW:=hhd ho;have aX:=hhd hb;clear ho hb hg hat))
   go_roundw
   case rel=>exact ⟨k+1,by omega,by go_num,by rw [HT.out];exact aW.out,aX.out⟩
   case measure=>simp [intOf];omega
  ·obtain rfl:k=l.length:=by omega
   go_wp2
   go_ret2
   exact ⟨_,rfl,by have h:=HOr.out;rw [List.take_length] at h;exact h,HBr.out⟩
end Go.Proofs.YteieahbadclppaaGreat.P

namespace Go.Proofs.YteieahbadclppaaGreat.P
open Go.RowKit Go.Proofs.YteieahbadclppaaGreatW.PrintWords Go.Proofs.YteieahbadclppaaGreatW.PrintLast Go.Proofs.YteieahbadclppaaGreatW.PrintMore
attribute [local go_sem] zF zG zK zL
set_option linter.unusedVariables false
set_option linter.unusedSimpArgs false
theorem zbl {l:List S38} {p:S38→Bool} (h:∀x,x∈l→p x=true) (k:Nat) (hk:k < l.length):p (zk l k)=true:=by
 unfold zk
 rw [Int.toNat_natCast,List.getD_eq_getElem?_getD,List.getElem?_eq_getElem hk]
 exact h _ (List.getElem_mem hk)
def zdt {α:Type} (p:α→Bool):List α→Nat→Int
 | [],_=>-1
 | x :: l,i=>if p x=true then i else zdt p l (i+1)
theorem zjL {α:Type} (p:α→Bool):∀(l:List α) (i:Nat),decide (0≤zdt p l i)=l.any p:=by
 intro l
 induction l with
 | nil=>intro i;rfl
 | cons x l ih =>
  intro i
  unfold zdt
  cases hx:p x with
  | true=>simp [hx]
  | false=>simp [hx,ih]
set_option maxRecDepth 100000 in
set_option maxHeartbeats 4000000 in
theorem zjM (A:Option Addr) (c:Nat) (l:List S38) (w:World) (hr:Kd.C k38 w A l.length l) (hc:l.length≤c) (hl:∀x,x∈l→inB 2147483648 x=true) :
  Calls Tryz.prog 69 #[.slice A l.length c,.func (.func 75) #[] #[]] w fun e w'=>e=.returned (.int .i64 (-1))∧Below w.heap.size w w':=by
 have hmax:=hr.2.1
 unfold maxLen at hmax
 have HR:=hhd hr
 have HL:=hhd hl
 clear hr hl
 have HB:=hhd (Below.refl w.heap.size w)
 go_enter Tryz.func69,Tryz.ntmps69
 go_wp2
 go_loopw [8] (fun s8 wr=>∃k:Nat,k≤l.length∧s8=.int .i64 k∧Below w.heap.size w wr) (fun i _=>l.length - (intOf i).toNat)
 case atStart=>exact ⟨0,by omega,rfl,HB.out⟩
 case round =>
  obtain ⟨k,hk,rfl,hb⟩:=hrel
  have HBR:=hhd hb
  clear hb HB
  by_cases hlt:k < l.length
  ·obtain ⟨ad,rfl,h0,h1⟩:=zag HR.out (k:Int) (by omega) (by omega)
   have HX:=hhd (zbl HL.out k hlt)
   rw [Int.toNat_natCast] at h0 h1
   replace h0:=(HBR.out.cell (World.block_lt_of_cell? w _ h0)).trans h0
   replace h1:=(HBR.out.cell (World.block_lt_of_cell? w _ h1)).trans h1
   generalize zk l k=x at *
   go_wp2_with (go_at_call 75;refine (znT x HX.out _).mono ?_;rintro e w1 ⟨rfl,hb⟩;have I:=zs_ HBR hb;clear hb)
   go_roundw
   case rel=>exact ⟨k+1,by omega,by go_num,I.out⟩
   case measure=>simp [intOf];omega
  ·obtain rfl:k=l.length:=by omega
   go_wp2
   go_ret
   exact ⟨rfl,HBR.out⟩
set_option maxRecDepth 100000 in
set_option maxHeartbeats 4000000 in
theorem zhd (A:Option Addr) (c:Nat) (l:List S38) (w:World) (hr:Kd.C k38 w A l.length l) (hc:l.length≤c) (hl:∀x,x∈l→inB 2147483648 x=true) :
  Calls Tryz.prog 43 #[.slice A l.length c,.func (.func 75) #[] #[]] w fun e w'=>e=.returned (.bool false)∧Below w.heap.size w w':=by
 have HI:=hhd (zjM A c l w hr hc hl)
 clear hr hl
 go_enter Tryz.func43,Tryz.ntmps43
 go_wp2_with (go_at_call 69;refine HI.out.mono ?_;rintro e w1 ⟨rfl,hb⟩)
 go_ret
 exact ⟨rfl,hb⟩
set_option maxRecDepth 100000 in
set_option maxHeartbeats 4000000 in
theorem zjN (A:Option Addr) (c:Nat) (l:List S38) (w:World) (hr:Kd.C k38 w A l.length l) (hc:l.length≤c) (hl:∀x,x∈l→inB 2147483648 x=true) :
  Calls Tryz.prog 69 #[.slice A l.length c,.func (.func 82) #[] #[]] w fun e w'=>e=.returned (.int .i64 (-1))∧Below w.heap.size w w':=by
 have hmax:=hr.2.1
 unfold maxLen at hmax
 have HR:=hhd hr
 have HL:=hhd hl
 clear hr hl
 have HB:=hhd (Below.refl w.heap.size w)
 go_enter Tryz.func69,Tryz.ntmps69
 go_wp2
 go_loopw [8] (fun s8 wr=>∃k:Nat,k≤l.length∧s8=.int .i64 k∧Below w.heap.size w wr) (fun i _=>l.length - (intOf i).toNat)
 case atStart=>exact ⟨0,by omega,rfl,HB.out⟩
 case round =>
  obtain ⟨k,hk,rfl,hb⟩:=hrel
  have HBR:=hhd hb
  clear hb HB
  by_cases hlt:k < l.length
  ·obtain ⟨ad,rfl,h0,h1⟩:=zag HR.out (k:Int) (by omega) (by omega)
   have HX:=hhd (zbl HL.out k hlt)
   rw [Int.toNat_natCast] at h0 h1
   replace h0:=(HBR.out.cell (World.block_lt_of_cell? w _ h0)).trans h0
   replace h1:=(HBR.out.cell (World.block_lt_of_cell? w _ h1)).trans h1
   generalize zk l k=x at *
   go_wp2_with (go_at_call 82;refine (znU x HX.out _).mono ?_;rintro e w1 ⟨rfl,hb⟩;have I:=zs_ HBR hb;clear hb)
   go_roundw
   case rel=>exact ⟨k+1,by omega,by go_num,I.out⟩
   case measure=>simp [intOf];omega
  ·obtain rfl:k=l.length:=by omega
   go_wp2
   go_ret
   exact ⟨rfl,HBR.out⟩
set_option maxRecDepth 100000 in
set_option maxHeartbeats 4000000 in
theorem zhe (A:Option Addr) (c:Nat) (l:List S38) (w:World) (hr:Kd.C k38 w A l.length l) (hc:l.length≤c) (hl:∀x,x∈l→inB 2147483648 x=true) :
  Calls Tryz.prog 43 #[.slice A l.length c,.func (.func 82) #[] #[]] w fun e w'=>e=.returned (.bool false)∧Below w.heap.size w w':=by
 have HI:=hhd (zjN A c l w hr hc hl)
 clear hr hl
 go_enter Tryz.func43,Tryz.ntmps43
 go_wp2_with (go_at_call 69;refine HI.out.mono ?_;rintro e w1 ⟨rfl,hb⟩)
 go_ret
 exact ⟨rfl,hb⟩
set_option maxRecDepth 100000 in
set_option maxHeartbeats 4000000 in
theorem zjO (A:Option Addr) (c:Nat) (l:List S38) (Bb:Nat) (bits m:Int) (g0:0≤bits) (g1:bits≤40) (hm:m=2^bits.toNat) (w:World) (hr:Kd.C k38 w A l.length l) (hc:l.length≤c) (hBb:w.heap[Bb]?=some (.cells #[.int .i64 bits] 3 (0,0))) (hl:∀x,x∈l→inB m x=true) :
  Calls Tryz.prog 69 #[.slice A l.length c,.func (.func 77) #[] #[.pointer (some ⟨Bb,0,none⟩)]] w fun e w'=>e=.returned (.int .i64 (-1))∧Below w.heap.size w w':=by
 have hmax:=hr.2.1
 unfold maxLen at hmax
 have HR:=hhd hr
 have HL:=hhd hl
 clear hr hl
 have CBb:=hhd hBb
 clear hBb
 have HB:=hhd (Below.refl w.heap.size w)
 go_enter Tryz.func69,Tryz.ntmps69
 go_wp2
 go_loopw [8] (fun s8 wr=>∃k:Nat,k≤l.length∧s8=.int .i64 k∧Below w.heap.size w wr) (fun i _=>l.length - (intOf i).toNat)
 case atStart=>exact ⟨0,by omega,rfl,HB.out⟩
 case round =>
  obtain ⟨k,hk,rfl,hb⟩:=hrel
  have HBR:=hhd hb
  have DBb:=za_ CBb hb;clear hb HB
  by_cases hlt:k < l.length
  ·obtain ⟨ad,rfl,h0,h1⟩:=zag HR.out (k:Int) (by omega) (by omega)
   have HX:=hhd (zbl HL.out k hlt)
   rw [Int.toNat_natCast] at h0 h1
   replace h0:=(HBR.out.cell (World.block_lt_of_cell? w _ h0)).trans h0
   replace h1:=(HBR.out.cell (World.block_lt_of_cell? w _ h1)).trans h1
   generalize zk l k=x at *
   go_wp2_with (go_at_call 77;refine (zmk x Bb bits m g0 g1 hm HX.out _ DBb.out).mono ?_;rintro e w1 ⟨rfl,hb⟩;have I:=zs_ HBR hb;clear hb)
   go_roundw
   case rel=>exact ⟨k+1,by omega,by go_num,I.out⟩
   case measure=>simp [intOf];omega
  ·obtain rfl:k=l.length:=by omega
   go_wp2
   go_ret
   exact ⟨rfl,HBR.out⟩
set_option maxRecDepth 100000 in
set_option maxHeartbeats 4000000 in
theorem zhf (A:Option Addr) (c:Nat) (l:List S38) (Bb:Nat) (bits m:Int) (g0:0≤bits) (g1:bits≤40) (hm:m=2^bits.toNat) (w:World) (hr:Kd.C k38 w A l.length l) (hc:l.length≤c) (hBb:w.heap[Bb]?=some (.cells #[.int .i64 bits] 3 (0,0))) (hl:∀x,x∈l→inB m x=true) :
  Calls Tryz.prog 43 #[.slice A l.length c,.func (.func 77) #[] #[.pointer (some ⟨Bb,0,none⟩)]] w fun e w'=>e=.returned (.bool false)∧Below w.heap.size w w':=by
 have HI:=hhd (zjO A c l Bb bits m g0 g1 hm w hr hc hBb hl)
 clear hr hl hBb
 go_enter Tryz.func43,Tryz.ntmps43
 go_wp2_with (go_at_call 69;refine HI.out.mono ?_;rintro e w1 ⟨rfl,hb⟩)
 go_ret
 exact ⟨rfl,hb⟩
set_option maxRecDepth 100000 in
set_option maxHeartbeats 4000000 in
theorem zjP (A:Option Addr) (c:Nat) (l:List S38) (Bb:Nat) (bits m:Int) (g0:0≤bits) (g1:bits≤40) (hm:m=2^bits.toNat) (w:World) (hr:Kd.C k38 w A l.length l) (hc:l.length≤c) (hBb:w.heap[Bb]?=some (.cells #[.int .i64 bits] 3 (0,0))) (hl:∀x,x∈l→inB m x=true) :
  Calls Tryz.prog 69 #[.slice A l.length c,.func (.func 84) #[] #[.pointer (some ⟨Bb,0,none⟩)]] w fun e w'=>e=.returned (.int .i64 (-1))∧Below w.heap.size w w':=by
 have hmax:=hr.2.1
 unfold maxLen at hmax
 have HR:=hhd hr
 have HL:=hhd hl
 clear hr hl
 have CBb:=hhd hBb
 clear hBb
 have HB:=hhd (Below.refl w.heap.size w)
 go_enter Tryz.func69,Tryz.ntmps69
 go_wp2
 go_loopw [8] (fun s8 wr=>∃k:Nat,k≤l.length∧s8=.int .i64 k∧Below w.heap.size w wr) (fun i _=>l.length - (intOf i).toNat)
 case atStart=>exact ⟨0,by omega,rfl,HB.out⟩
 case round =>
  obtain ⟨k,hk,rfl,hb⟩:=hrel
  have HBR:=hhd hb
  have DBb:=za_ CBb hb;clear hb HB
  by_cases hlt:k < l.length
  ·obtain ⟨ad,rfl,h0,h1⟩:=zag HR.out (k:Int) (by omega) (by omega)
   have HX:=hhd (zbl HL.out k hlt)
   rw [Int.toNat_natCast] at h0 h1
   replace h0:=(HBR.out.cell (World.block_lt_of_cell? w _ h0)).trans h0
   replace h1:=(HBR.out.cell (World.block_lt_of_cell? w _ h1)).trans h1
   generalize zk l k=x at *
   go_wp2_with (go_at_call 84;refine (zml x Bb bits m g0 g1 hm HX.out _ DBb.out).mono ?_;rintro e w1 ⟨rfl,hb⟩;have I:=zs_ HBR hb;clear hb)
   go_roundw
   case rel=>exact ⟨k+1,by omega,by go_num,I.out⟩
   case measure=>simp [intOf];omega
  ·obtain rfl:k=l.length:=by omega
   go_wp2
   go_ret
   exact ⟨rfl,HBR.out⟩
set_option maxRecDepth 100000 in
set_option maxHeartbeats 4000000 in
theorem zhg (A:Option Addr) (c:Nat) (l:List S38) (Bb:Nat) (bits m:Int) (g0:0≤bits) (g1:bits≤40) (hm:m=2^bits.toNat) (w:World) (hr:Kd.C k38 w A l.length l) (hc:l.length≤c) (hBb:w.heap[Bb]?=some (.cells #[.int .i64 bits] 3 (0,0))) (hl:∀x,x∈l→inB m x=true) :
  Calls Tryz.prog 43 #[.slice A l.length c,.func (.func 84) #[] #[.pointer (some ⟨Bb,0,none⟩)]] w fun e w'=>e=.returned (.bool false)∧Below w.heap.size w w':=by
 have HI:=hhd (zjP A c l Bb bits m g0 g1 hm w hr hc hBb hl)
 clear hr hl hBb
 go_enter Tryz.func43,Tryz.ntmps43
 go_wp2_with (go_at_call 69;refine HI.out.mono ?_;rintro e w1 ⟨rfl,hb⟩)
 go_ret
 exact ⟨rfl,hb⟩
set_option maxRecDepth 100000 in
set_option maxHeartbeats 4000000 in
theorem zjQ (A:Option Addr) (c:Nat) (l:List S38) (Bb:Nat) (bits b1 m:Int) (g0:0≤b1) (g1:b1≤40) (hb1:wrap64 (bits - 1)=b1) (hm:m=2^b1.toNat) (w:World) (hr:Kd.C k38 w A l.length l) (hc:l.length≤c) (hBb:w.heap[Bb]?=some (.cells #[.int .i64 bits] 3 (0,0))) (hl:∀x,x∈l→inB m x=true) :
  Calls Tryz.prog 69 #[.slice A l.length c,.func (.func 44) #[] #[.pointer (some ⟨Bb,0,none⟩)]] w fun e w'=>e=.returned (.int .i64 (-1))∧Below w.heap.size w w':=by
 have hmax:=hr.2.1
 unfold maxLen at hmax
 have HR:=hhd hr
 have HL:=hhd hl
 clear hr hl
 have CBb:=hhd hBb
 clear hBb
 have HB:=hhd (Below.refl w.heap.size w)
 go_enter Tryz.func69,Tryz.ntmps69
 go_wp2
 go_loopw [8] (fun s8 wr=>∃k:Nat,k≤l.length∧s8=.int .i64 k∧Below w.heap.size w wr) (fun i _=>l.length - (intOf i).toNat)
 case atStart=>exact ⟨0,by omega,rfl,HB.out⟩
 case round =>
  obtain ⟨k,hk,rfl,hb⟩:=hrel
  have HBR:=hhd hb
  have DBb:=za_ CBb hb;clear hb HB
  by_cases hlt:k < l.length
  ·obtain ⟨ad,rfl,h0,h1⟩:=zag HR.out (k:Int) (by omega) (by omega)
   have HX:=hhd (zbl HL.out k hlt)
   rw [Int.toNat_natCast] at h0 h1
   replace h0:=(HBR.out.cell (World.block_lt_of_cell? w _ h0)).trans h0
   replace h1:=(HBR.out.cell (World.block_lt_of_cell? w _ h1)).trans h1
   generalize zk l k=x at *
   go_wp2_with (go_at_call 44;refine (zmm x Bb bits b1 m g0 g1 hb1 hm HX.out _ DBb.out).mono ?_;rintro e w1 ⟨rfl,hb⟩;have I:=zs_ HBR hb;clear hb)
   go_roundw
   case rel=>exact ⟨k+1,by omega,by go_num,I.out⟩
   case measure=>simp [intOf];omega
  ·obtain rfl:k=l.length:=by omega
   go_wp2
   go_ret
   exact ⟨rfl,HBR.out⟩
set_option maxRecDepth 100000 in
set_option maxHeartbeats 4000000 in
theorem zhh (A:Option Addr) (c:Nat) (l:List S38) (Bb:Nat) (bits b1 m:Int) (g0:0≤b1) (g1:b1≤40) (hb1:wrap64 (bits - 1)=b1) (hm:m=2^b1.toNat) (w:World) (hr:Kd.C k38 w A l.length l) (hc:l.length≤c) (hBb:w.heap[Bb]?=some (.cells #[.int .i64 bits] 3 (0,0))) (hl:∀x,x∈l→inB m x=true) :
  Calls Tryz.prog 43 #[.slice A l.length c,.func (.func 44) #[] #[.pointer (some ⟨Bb,0,none⟩)]] w fun e w'=>e=.returned (.bool false)∧Below w.heap.size w w':=by
 have HI:=hhd (zjQ A c l Bb bits b1 m g0 g1 hb1 hm w hr hc hBb hl)
 clear hr hl hBb
 go_enter Tryz.func43,Tryz.ntmps43
 go_wp2_with (go_at_call 69;refine HI.out.mono ?_;rintro e w1 ⟨rfl,hb⟩)
 go_ret
 exact ⟨rfl,hb⟩
end Go.Proofs.YteieahbadclppaaGreat.P

