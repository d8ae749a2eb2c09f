/- Part 9 of 36 of the proof: the texts that it reaches, one behind the other. No condition. -/
import Derived.Test.YteieahbadclppaaGreatKr5
import Derived.Laws.CopyRow
namespace Go.Proofs.YteieahbadclppaaGreat.P
open Go.RowKit Go.Proofs.YteieahbadclppaaGreatW.PrintWords Go.Proofs.YteieahbadclppaaGreatW.PrintLast Go.Proofs.YteieahbadclppaaGreatW.PrintMore
attribute [local go_sem] zF zG zK zL zY zZ z9 zaa
set_option linter.unusedVariables false
set_option linter.unusedSimpArgs false
def plan_Check.f (a0_0:Int) (a0_1:Int) (a0_2:Int) (a0_3:Int) (a0_4:Int) (a0_5:Bool):Option (Int):=(plan_in.f a0_0 0 1).bind fun t150=>(if t150=true then ((plan_in.f a0_1 2 6).bind fun t151=>(if t151=true then ((plan_in.f a0_2 0 2).bind fun t152=>(if t152=true then ((plan_in.f a0_3 0 2).bind fun t153=>(if t153=true then ((plan_in.f a0_4 0 2).bind fun t154=>(if t154=true then (if a0_2=2 then (if a0_3=0 then (some 0) else (some 4)) else (some 0)) else (some 4))) else (some 4))) else (some 4))) else (some 4))) else (some 4))
set_option maxHeartbeats 8000000 in
set_option maxRecDepth 100000 in
theorem plan_Check.calls (a0_0:Int) (a0_1:Int) (a0_2:Int) (a0_3:Int) (a0_4:Int) (a0_5:Bool) (r:Int) (w:World) (h:plan_Check.f a0_0 a0_1 a0_2 a0_3 a0_4 a0_5=some r) :
  Calls Tryz.prog 37 #[.agg #[.int .i64 a0_0,.int .i64 a0_1,.int .i64 a0_2,.int .i64 a0_3,.int .i64 a0_4,.bool a0_5]] w fun e w'=>e=.returned (.int .i64 r)∧Below w.heap.size w w':=by
 have hu24:=Tryz.underlying24
 have HB:=Aside0.mk (Below.refl w.heap.size w)
 have H:((plan_in.f a0_0 0 1).bind fun t150=>(if t150=true then ((plan_in.f a0_1 2 6).bind fun t151=>(if t151=true then ((plan_in.f a0_2 0 2).bind fun t152=>(if t152=true then ((plan_in.f a0_3 0 2).bind fun t153=>(if t153=true then ((plan_in.f a0_4 0 2).bind fun t154=>(if t154=true then (if a0_2=2 then (if a0_3=0 then (some 0) else (some 4)) else (some 0)) else (some 4))) else (some 4))) else (some 4))) else (some 4))) else (some 4)))=some r:=h
 clear h
 replace H:=Option.bind_eq_some_iff.mp H
 obtain ⟨t150,A20,H⟩:=H
 replace H:(if t150=true then ((plan_in.f a0_1 2 6).bind fun t151=>(if t151=true then ((plan_in.f a0_2 0 2).bind fun t152=>(if t152=true then ((plan_in.f a0_3 0 2).bind fun t153=>(if t153=true then ((plan_in.f a0_4 0 2).bind fun t154=>(if t154=true then (if a0_2=2 then (if a0_3=0 then (some 0) else (some 4)) else (some 0)) else (some 4))) else (some 4))) else (some 4))) else (some 4))) else (some 4))=some r:=H
 have A2:=Aside0.mk A20
 clear A20
 by_cases c3:t150=true
 ·subst c3
  have H1:((plan_in.f a0_1 2 6).bind fun t151=>(if t151=true then ((plan_in.f a0_2 0 2).bind fun t152=>(if t152=true then ((plan_in.f a0_3 0 2).bind fun t153=>(if t153=true then ((plan_in.f a0_4 0 2).bind fun t154=>(if t154=true then (if a0_2=2 then (if a0_3=0 then (some 0) else (some 4)) else (some 0)) else (some 4))) else (some 4))) else (some 4))) else (some 4)))=some r:=by rw [if_pos rfl] at H;exact H
  clear H
  have H:=H1
  clear H1
  replace H:=Option.bind_eq_some_iff.mp H
  obtain ⟨t151,A40,H⟩:=H
  replace H:(if t151=true then ((plan_in.f a0_2 0 2).bind fun t152=>(if t152=true then ((plan_in.f a0_3 0 2).bind fun t153=>(if t153=true then ((plan_in.f a0_4 0 2).bind fun t154=>(if t154=true then (if a0_2=2 then (if a0_3=0 then (some 0) else (some 4)) else (some 0)) else (some 4))) else (some 4))) else (some 4))) else (some 4))=some r:=H
  have A4:=Aside0.mk A40
  clear A40
  by_cases c5:t151=true
  ·subst c5
   have H1:((plan_in.f a0_2 0 2).bind fun t152=>(if t152=true then ((plan_in.f a0_3 0 2).bind fun t153=>(if t153=true then ((plan_in.f a0_4 0 2).bind fun t154=>(if t154=true then (if a0_2=2 then (if a0_3=0 then (some 0) else (some 4)) else (some 0)) else (some 4))) else (some 4))) else (some 4)))=some r:=by rw [if_pos rfl] at H;exact H
   clear H
   have H:=H1
   clear H1
   replace H:=Option.bind_eq_some_iff.mp H
   obtain ⟨t152,A60,H⟩:=H
   replace H:(if t152=true then ((plan_in.f a0_3 0 2).bind fun t153=>(if t153=true then ((plan_in.f a0_4 0 2).bind fun t154=>(if t154=true then (if a0_2=2 then (if a0_3=0 then (some 0) else (some 4)) else (some 0)) else (some 4))) else (some 4))) else (some 4))=some r:=H
   have A6:=Aside0.mk A60
   clear A60
   by_cases c7:t152=true
   ·subst c7
    have H1:((plan_in.f a0_3 0 2).bind fun t153=>(if t153=true then ((plan_in.f a0_4 0 2).bind fun t154=>(if t154=true then (if a0_2=2 then (if a0_3=0 then (some 0) else (some 4)) else (some 0)) else (some 4))) else (some 4)))=some r:=by rw [if_pos rfl] at H;exact H
    clear H
    have H:=H1
    clear H1
    replace H:=Option.bind_eq_some_iff.mp H
    obtain ⟨t153,A80,H⟩:=H
    replace H:(if t153=true then ((plan_in.f a0_4 0 2).bind fun t154=>(if t154=true then (if a0_2=2 then (if a0_3=0 then (some 0) else (some 4)) else (some 0)) else (some 4))) else (some 4))=some r:=H
    have A8:=Aside0.mk A80
    clear A80
    by_cases c9:t153=true
    ·subst c9
     have H1:((plan_in.f a0_4 0 2).bind fun t154=>(if t154=true then (if a0_2=2 then (if a0_3=0 then (some 0) else (some 4)) else (some 0)) else (some 4)))=some r:=by rw [if_pos rfl] at H;exact H
     clear H
     have H:=H1
     clear H1
     replace H:=Option.bind_eq_some_iff.mp H
     obtain ⟨t154,A100,H⟩:=H
     replace H:(if t154=true then (if a0_2=2 then (if a0_3=0 then (some 0) else (some 4)) else (some 0)) else (some 4))=some r:=H
     have A10:=Aside0.mk A100
     clear A100
     by_cases c11:t154=true
     ·subst c11
      have H1:(if a0_2=2 then (if a0_3=0 then (some 0) else (some 4)) else (some 0))=some r:=by rw [if_pos rfl] at H;exact H
      clear H
      have H:=H1
      clear H1
      by_cases c12:a0_2=2
      ·rw [if_pos c12] at H
       have c12b0:(a0_2 == 2)=true:=beq_iff_eq.mpr c12
       have c12b1:(a0_2 != 2)=false:=bne_eq_false_iff_eq.mpr c12
       clear c12
       by_cases c13:a0_3=0
       ·rw [if_pos c13] at H
        have c13b0:(a0_3 == 0)=true:=beq_iff_eq.mpr c13
        have c13b1:(a0_3 != 0)=false:=bne_eq_false_iff_eq.mpr c13
        clear c13
        obtain rfl:=Option.some.inj H
        go_enter Tryz.func37,Tryz.ntmps37
        go_wp2_with (first | ((with_reducible refine zf (N:=1) rfl ?_);refine ba_ 1 rfl #[.int .i64 a0_0,.int .i64 a0_1,.int .i64 a0_2,.int .i64 a0_3,.int .i64 a0_4,.bool a0_5] 24 ?_;intro gb149 hg w14 I hb;have n0_:=Aside0.mk (zb (by repeat (first | (with_reducible first | exact HB.out | apply ze | apply zc | apply zg) | exact HB.out)) hb);have n1_:=Aside0.mk (I);have n2_:=Aside0.mk ((by rw [hg];exact (zi (by repeat (first | (with_reducible first | exact HB.out | apply ze | apply zc | apply zg) | exact HB.out))):w.heap.size≤gb149));have n3_:=Aside0.mk ((by rw [hg];exact (zi (by repeat (first | (with_reducible first | exact HB.out | apply ze | apply zc | apply zg) | exact HB.out))):w.heap.size≤gb149));clear HB;have HB:=n0_;have BK149:=n1_;have GW149:=n2_;have GE149:=n3_;clear n0_ n1_ n2_ n3_;clear hb I hg;have hcz15_0:w14.cell? ⟨gb149,0,none⟩=some (.int .i64 a0_0):=(za BK149.out 0).trans rfl;have hcz15_1:w14.cell? ⟨gb149,1,none⟩=some (.int .i64 a0_1):=(za BK149.out 1).trans rfl;have hcz15_2:w14.cell? ⟨gb149,2,none⟩=some (.int .i64 a0_2):=(za BK149.out 2).trans rfl;have hcz15_3:w14.cell? ⟨gb149,3,none⟩=some (.int .i64 a0_3):=(za BK149.out 3).trans rfl;have hcz15_4:w14.cell? ⟨gb149,4,none⟩=some (.int .i64 a0_4):=(za BK149.out 4).trans rfl;have hcz15_5:w14.cell? ⟨gb149,5,none⟩=some (.bool a0_5):=(za BK149.out 5).trans rfl;have hfz15_0:=zh BK149.out 0;have hfz15_1:=zh BK149.out 1;have hfz15_2:=zh BK149.out 2;have hfz15_3:=zh BK149.out 3;have hfz15_4:=zh BK149.out 4;have hfz15_5:=zh BK149.out 5) | ((with_reducible refine zy (f:=64) rfl ?_);refine zO (some 5) rfl rfl Tryz.func64 (by kernel_rfl) rfl #[.int .i64 a0_0,.int .i64 0,.int .i64 1] rfl (by (try simp only [List.map_toArray,List.map_cons,List.map_nil]);first | done | rfl | (simp only [List.length_drop,List.length_take];rfl)) ?_;(with_reducible refine (plan_in.calls a0_0 0 1 true _ A2.out).mono ?_);rintro e w' ⟨rfl,⟨nd,rfl⟩⟩;refine ⟨_,rfl,?_⟩) | (go_at_call 64;(with_reducible refine (plan_in.calls a0_1 2 6 true _ A4.out).mono ?_);rintro e w' ⟨rfl,⟨nd,rfl⟩⟩) | (go_at_call 64;(with_reducible refine (plan_in.calls a0_2 0 2 true _ A6.out).mono ?_);rintro e w' ⟨rfl,⟨nd,rfl⟩⟩) | (go_at_call 64;(with_reducible refine (plan_in.calls a0_3 0 2 true _ A8.out).mono ?_);rintro e w' ⟨rfl,⟨nd,rfl⟩⟩) | (go_at_call 64;(with_reducible refine (plan_in.calls a0_4 0 2 true _ A10.out).mono ?_);rintro e w' ⟨rfl,⟨nd,rfl⟩⟩))
        go_ret
        exact ⟨by first | rfl | (simp [zq,zt] <;> rfl) | (simp [*,zq,zt] <;> rfl),by repeat (first | (with_reducible first | exact HB.out | apply ze | apply zc | apply zg | refine zp ?_ GE149.out) | exact HB.out)⟩
       ·rw [if_neg c13] at H
        have c13b0:(a0_3 == 0)=false:=beq_eq_false_iff_ne.mpr c13
        have c13b1:(a0_3 != 0)=true:=bne_iff_ne.mpr c13
        obtain rfl:=Option.some.inj H
        go_enter Tryz.func37,Tryz.ntmps37
        go_wp2_with (first | ((with_reducible refine zf (N:=1) rfl ?_);refine ba_ 1 rfl #[.int .i64 a0_0,.int .i64 a0_1,.int .i64 a0_2,.int .i64 a0_3,.int .i64 a0_4,.bool a0_5] 24 ?_;intro gb149 hg w16 I hb;have n0_:=Aside0.mk (zb (by repeat (first | (with_reducible first | exact HB.out | apply ze | apply zc | apply zg) | exact HB.out)) hb);have n1_:=Aside0.mk (I);have n2_:=Aside0.mk ((by rw [hg];exact (zi (by repeat (first | (with_reducible first | exact HB.out | apply ze | apply zc | apply zg) | exact HB.out))):w.heap.size≤gb149));have n3_:=Aside0.mk ((by rw [hg];exact (zi (by repeat (first | (with_reducible first | exact HB.out | apply ze | apply zc | apply zg) | exact HB.out))):w.heap.size≤gb149));clear HB;have HB:=n0_;have BK149:=n1_;have GW149:=n2_;have GE149:=n3_;clear n0_ n1_ n2_ n3_;clear hb I hg;have hcz17_0:w16.cell? ⟨gb149,0,none⟩=some (.int .i64 a0_0):=(za BK149.out 0).trans rfl;have hcz17_1:w16.cell? ⟨gb149,1,none⟩=some (.int .i64 a0_1):=(za BK149.out 1).trans rfl;have hcz17_2:w16.cell? ⟨gb149,2,none⟩=some (.int .i64 a0_2):=(za BK149.out 2).trans rfl;have hcz17_3:w16.cell? ⟨gb149,3,none⟩=some (.int .i64 a0_3):=(za BK149.out 3).trans rfl;have hcz17_4:w16.cell? ⟨gb149,4,none⟩=some (.int .i64 a0_4):=(za BK149.out 4).trans rfl;have hcz17_5:w16.cell? ⟨gb149,5,none⟩=some (.bool a0_5):=(za BK149.out 5).trans rfl;have hfz17_0:=zh BK149.out 0;have hfz17_1:=zh BK149.out 1;have hfz17_2:=zh BK149.out 2;have hfz17_3:=zh BK149.out 3;have hfz17_4:=zh BK149.out 4;have hfz17_5:=zh BK149.out 5) | ((with_reducible refine zy (f:=64) rfl ?_);refine zO (some 5) rfl rfl Tryz.func64 (by kernel_rfl) rfl #[.int .i64 a0_0,.int .i64 0,.int .i64 1] rfl (by (try simp only [List.map_toArray,List.map_cons,List.map_nil]);first | done | rfl | (simp only [List.length_drop,List.length_take];rfl)) ?_;(with_reducible refine (plan_in.calls a0_0 0 1 true _ A2.out).mono ?_);rintro e w' ⟨rfl,⟨nd,rfl⟩⟩;refine ⟨_,rfl,?_⟩) | (go_at_call 64;(with_reducible refine (plan_in.calls a0_1 2 6 true _ A4.out).mono ?_);rintro e w' ⟨rfl,⟨nd,rfl⟩⟩) | (go_at_call 64;(with_reducible refine (plan_in.calls a0_2 0 2 true _ A6.out).mono ?_);rintro e w' ⟨rfl,⟨nd,rfl⟩⟩) | (go_at_call 64;(with_reducible refine (plan_in.calls a0_3 0 2 true _ A8.out).mono ?_);rintro e w' ⟨rfl,⟨nd,rfl⟩⟩) | (go_at_call 64;(with_reducible refine (plan_in.calls a0_4 0 2 true _ A10.out).mono ?_);rintro e w' ⟨rfl,⟨nd,rfl⟩⟩))
        go_ret
        exact ⟨by first | rfl | (simp [zq,zt] <;> rfl) | (simp [*,zq,zt] <;> rfl),by repeat (first | (with_reducible first | exact HB.out | apply ze | apply zc | apply zg | refine zp ?_ GE149.out) | exact HB.out)⟩
      ·rw [if_neg c12] at H
       have c12b0:(a0_2 == 2)=false:=beq_eq_false_iff_ne.mpr c12
       have c12b1:(a0_2 != 2)=true:=bne_iff_ne.mpr c12
       obtain rfl:=Option.some.inj H
       go_enter Tryz.func37,Tryz.ntmps37
       go_wp2_with (first | ((with_reducible refine zf (N:=1) rfl ?_);refine ba_ 1 rfl #[.int .i64 a0_0,.int .i64 a0_1,.int .i64 a0_2,.int .i64 a0_3,.int .i64 a0_4,.bool a0_5] 24 ?_;intro gb149 hg w18 I hb;have n0_:=Aside0.mk (zb (by repeat (first | (with_reducible first | exact HB.out | apply ze | apply zc | apply zg) | exact HB.out)) hb);have n1_:=Aside0.mk (I);have n2_:=Aside0.mk ((by rw [hg];exact (zi (by repeat (first | (with_reducible first | exact HB.out | apply ze | apply zc | apply zg) | exact HB.out))):w.heap.size≤gb149));have n3_:=Aside0.mk ((by rw [hg];exact (zi (by repeat (first | (with_reducible first | exact HB.out | apply ze | apply zc | apply zg) | exact HB.out))):w.heap.size≤gb149));clear HB;have HB:=n0_;have BK149:=n1_;have GW149:=n2_;have GE149:=n3_;clear n0_ n1_ n2_ n3_;clear hb I hg;have hcz19_0:w18.cell? ⟨gb149,0,none⟩=some (.int .i64 a0_0):=(za BK149.out 0).trans rfl;have hcz19_1:w18.cell? ⟨gb149,1,none⟩=some (.int .i64 a0_1):=(za BK149.out 1).trans rfl;have hcz19_2:w18.cell? ⟨gb149,2,none⟩=some (.int .i64 a0_2):=(za BK149.out 2).trans rfl;have hcz19_3:w18.cell? ⟨gb149,3,none⟩=some (.int .i64 a0_3):=(za BK149.out 3).trans rfl;have hcz19_4:w18.cell? ⟨gb149,4,none⟩=some (.int .i64 a0_4):=(za BK149.out 4).trans rfl;have hcz19_5:w18.cell? ⟨gb149,5,none⟩=some (.bool a0_5):=(za BK149.out 5).trans rfl;have hfz19_0:=zh BK149.out 0;have hfz19_1:=zh BK149.out 1;have hfz19_2:=zh BK149.out 2;have hfz19_3:=zh BK149.out 3;have hfz19_4:=zh BK149.out 4;have hfz19_5:=zh BK149.out 5) | ((with_reducible refine zy (f:=64) rfl ?_);refine zO (some 5) rfl rfl Tryz.func64 (by kernel_rfl) rfl #[.int .i64 a0_0,.int .i64 0,.int .i64 1] rfl (by (try simp only [List.map_toArray,List.map_cons,List.map_nil]);first | done | rfl | (simp only [List.length_drop,List.length_take];rfl)) ?_;(with_reducible refine (plan_in.calls a0_0 0 1 true _ A2.out).mono ?_);rintro e w' ⟨rfl,⟨nd,rfl⟩⟩;refine ⟨_,rfl,?_⟩) | (go_at_call 64;(with_reducible refine (plan_in.calls a0_1 2 6 true _ A4.out).mono ?_);rintro e w' ⟨rfl,⟨nd,rfl⟩⟩) | (go_at_call 64;(with_reducible refine (plan_in.calls a0_2 0 2 true _ A6.out).mono ?_);rintro e w' ⟨rfl,⟨nd,rfl⟩⟩) | (go_at_call 64;(with_reducible refine (plan_in.calls a0_3 0 2 true _ A8.out).mono ?_);rintro e w' ⟨rfl,⟨nd,rfl⟩⟩) | (go_at_call 64;(with_reducible refine (plan_in.calls a0_4 0 2 true _ A10.out).mono ?_);rintro e w' ⟨rfl,⟨nd,rfl⟩⟩))
       go_ret
       exact ⟨by first | rfl | (simp [zq,zt] <;> rfl) | (simp [*,zq,zt] <;> rfl),by repeat (first | (with_reducible first | exact HB.out | apply ze | apply zc | apply zg | refine zp ?_ GE149.out) | exact HB.out)⟩
     ·replace c11:=Bool.eq_false_iff.mpr c11
      subst c11
      have H1:(some 4)=some r:=by rw [if_neg (show ¬(false=true) by decide)] at H;exact H
      clear H
      have H:=H1
      clear H1
      obtain rfl:=Option.some.inj H
      go_enter Tryz.func37,Tryz.ntmps37
      go_wp2_with (first | ((with_reducible refine zf (N:=1) rfl ?_);refine ba_ 1 rfl #[.int .i64 a0_0,.int .i64 a0_1,.int .i64 a0_2,.int .i64 a0_3,.int .i64 a0_4,.bool a0_5] 24 ?_;intro gb149 hg w20 I hb;have n0_:=Aside0.mk (zb (by repeat (first | (with_reducible first | exact HB.out | apply ze | apply zc | apply zg) | exact HB.out)) hb);have n1_:=Aside0.mk (I);have n2_:=Aside0.mk ((by rw [hg];exact (zi (by repeat (first | (with_reducible first | exact HB.out | apply ze | apply zc | apply zg) | exact HB.out))):w.heap.size≤gb149));have n3_:=Aside0.mk ((by rw [hg];exact (zi (by repeat (first | (with_reducible first | exact HB.out | apply ze | apply zc | apply zg) | exact HB.out))):w.heap.size≤gb149));clear HB;have HB:=n0_;have BK149:=n1_;have GW149:=n2_;have GE149:=n3_;clear n0_ n1_ n2_ n3_;clear hb I hg;have hcz21_0:w20.cell? ⟨gb149,0,none⟩=some (.int .i64 a0_0):=(za BK149.out 0).trans rfl;have hcz21_1:w20.cell? ⟨gb149,1,none⟩=some (.int .i64 a0_1):=(za BK149.out 1).trans rfl;have hcz21_2:w20.cell? ⟨gb149,2,none⟩=some (.int .i64 a0_2):=(za BK149.out 2).trans rfl;have hcz21_3:w20.cell? ⟨gb149,3,none⟩=some (.int .i64 a0_3):=(za BK149.out 3).trans rfl;have hcz21_4:w20.cell? ⟨gb149,4,none⟩=some (.int .i64 a0_4):=(za BK149.out 4).trans rfl;have hcz21_5:w20.cell? ⟨gb149,5,none⟩=some (.bool a0_5):=(za BK149.out 5).trans rfl;have hfz21_0:=zh BK149.out 0;have hfz21_1:=zh BK149.out 1;have hfz21_2:=zh BK149.out 2;have hfz21_3:=zh BK149.out 3;have hfz21_4:=zh BK149.out 4;have hfz21_5:=zh BK149.out 5) | ((with_reducible refine zy (f:=64) rfl ?_);refine zO (some 5) rfl rfl Tryz.func64 (by kernel_rfl) rfl #[.int .i64 a0_0,.int .i64 0,.int .i64 1] rfl (by (try simp only [List.map_toArray,List.map_cons,List.map_nil]);first | done | rfl | (simp only [List.length_drop,List.length_take];rfl)) ?_;(with_reducible refine (plan_in.calls a0_0 0 1 true _ A2.out).mono ?_);rintro e w' ⟨rfl,⟨nd,rfl⟩⟩;refine ⟨_,rfl,?_⟩) | (go_at_call 64;(with_reducible refine (plan_in.calls a0_1 2 6 true _ A4.out).mono ?_);rintro e w' ⟨rfl,⟨nd,rfl⟩⟩) | (go_at_call 64;(with_reducible refine (plan_in.calls a0_2 0 2 true _ A6.out).mono ?_);rintro e w' ⟨rfl,⟨nd,rfl⟩⟩) | (go_at_call 64;(with_reducible refine (plan_in.calls a0_3 0 2 true _ A8.out).mono ?_);rintro e w' ⟨rfl,⟨nd,rfl⟩⟩) | (go_at_call 64;(with_reducible refine (plan_in.calls a0_4 0 2 false _ A10.out).mono ?_);rintro e w' ⟨rfl,⟨nd,rfl⟩⟩))
      go_ret
      exact ⟨by first | rfl | (simp [zq,zt] <;> rfl) | (simp [*,zq,zt] <;> rfl),by repeat (first | (with_reducible first | exact HB.out | apply ze | apply zc | apply zg | refine zp ?_ GE149.out) | exact HB.out)⟩
    ·replace c9:=Bool.eq_false_iff.mpr c9
     subst c9
     have H1:(some 4)=some r:=by rw [if_neg (show ¬(false=true) by decide)] at H;exact H
     clear H
     have H:=H1
     clear H1
     obtain rfl:=Option.some.inj H
     go_enter Tryz.func37,Tryz.ntmps37
     go_wp2_with (first | ((with_reducible refine zf (N:=1) rfl ?_);refine ba_ 1 rfl #[.int .i64 a0_0,.int .i64 a0_1,.int .i64 a0_2,.int .i64 a0_3,.int .i64 a0_4,.bool a0_5] 24 ?_;intro gb149 hg w22 I hb;have n0_:=Aside0.mk (zb (by repeat (first | (with_reducible first | exact HB.out | apply ze | apply zc | apply zg) | exact HB.out)) hb);have n1_:=Aside0.mk (I);have n2_:=Aside0.mk ((by rw [hg];exact (zi (by repeat (first | (with_reducible first | exact HB.out | apply ze | apply zc | apply zg) | exact HB.out))):w.heap.size≤gb149));have n3_:=Aside0.mk ((by rw [hg];exact (zi (by repeat (first | (with_reducible first | exact HB.out | apply ze | apply zc | apply zg) | exact HB.out))):w.heap.size≤gb149));clear HB;have HB:=n0_;have BK149:=n1_;have GW149:=n2_;have GE149:=n3_;clear n0_ n1_ n2_ n3_;clear hb I hg;have hcz23_0:w22.cell? ⟨gb149,0,none⟩=some (.int .i64 a0_0):=(za BK149.out 0).trans rfl;have hcz23_1:w22.cell? ⟨gb149,1,none⟩=some (.int .i64 a0_1):=(za BK149.out 1).trans rfl;have hcz23_2:w22.cell? ⟨gb149,2,none⟩=some (.int .i64 a0_2):=(za BK149.out 2).trans rfl;have hcz23_3:w22.cell? ⟨gb149,3,none⟩=some (.int .i64 a0_3):=(za BK149.out 3).trans rfl;have hcz23_4:w22.cell? ⟨gb149,4,none⟩=some (.int .i64 a0_4):=(za BK149.out 4).trans rfl;have hcz23_5:w22.cell? ⟨gb149,5,none⟩=some (.bool a0_5):=(za BK149.out 5).trans rfl;have hfz23_0:=zh BK149.out 0;have hfz23_1:=zh BK149.out 1;have hfz23_2:=zh BK149.out 2;have hfz23_3:=zh BK149.out 3;have hfz23_4:=zh BK149.out 4;have hfz23_5:=zh BK149.out 5) | ((with_reducible refine zy (f:=64) rfl ?_);refine zO (some 5) rfl rfl Tryz.func64 (by kernel_rfl) rfl #[.int .i64 a0_0,.int .i64 0,.int .i64 1] rfl (by (try simp only [List.map_toArray,List.map_cons,List.map_nil]);first | done | rfl | (simp only [List.length_drop,List.length_take];rfl)) ?_;(with_reducible refine (plan_in.calls a0_0 0 1 true _ A2.out).mono ?_);rintro e w' ⟨rfl,⟨nd,rfl⟩⟩;refine ⟨_,rfl,?_⟩) | (go_at_call 64;(with_reducible refine (plan_in.calls a0_1 2 6 true _ A4.out).mono ?_);rintro e w' ⟨rfl,⟨nd,rfl⟩⟩) | (go_at_call 64;(with_reducible refine (plan_in.calls a0_2 0 2 true _ A6.out).mono ?_);rintro e w' ⟨rfl,⟨nd,rfl⟩⟩) | (go_at_call 64;(with_reducible refine (plan_in.calls a0_3 0 2 false _ A8.out).mono ?_);rintro e w' ⟨rfl,⟨nd,rfl⟩⟩))
     go_ret
     exact ⟨by first | rfl | (simp [zq,zt] <;> rfl) | (simp [*,zq,zt] <;> rfl),by repeat (first | (with_reducible first | exact HB.out | apply ze | apply zc | apply zg | refine zp ?_ GE149.out) | exact HB.out)⟩
   ·replace c7:=Bool.eq_false_iff.mpr c7
    subst c7
    have H1:(some 4)=some r:=by rw [if_neg (show ¬(false=true) by decide)] at H;exact H
    clear H
    have H:=H1
    clear H1
    obtain rfl:=Option.some.inj H
    go_enter Tryz.func37,Tryz.ntmps37
    go_wp2_with (first | ((with_reducible refine zf (N:=1) rfl ?_);refine ba_ 1 rfl #[.int .i64 a0_0,.int .i64 a0_1,.int .i64 a0_2,.int .i64 a0_3,.int .i64 a0_4,.bool a0_5] 24 ?_;intro gb149 hg w24 I hb;have n0_:=Aside0.mk (zb (by repeat (first | (with_reducible first | exact HB.out | apply ze | apply zc | apply zg) | exact HB.out)) hb);have n1_:=Aside0.mk (I);have n2_:=Aside0.mk ((by rw [hg];exact (zi (by repeat (first | (with_reducible first | exact HB.out | apply ze | apply zc | apply zg) | exact HB.out))):w.heap.size≤gb149));have n3_:=Aside0.mk ((by rw [hg];exact (zi (by repeat (first | (with_reducible first | exact HB.out | apply ze | apply zc | apply zg) | exact HB.out))):w.heap.size≤gb149));clear HB;have HB:=n0_;have BK149:=n1_;have GW149:=n2_;have GE149:=n3_;clear n0_ n1_ n2_ n3_;clear hb I hg;have hcz25_0:w24.cell? ⟨gb149,0,none⟩=some (.int .i64 a0_0):=(za BK149.out 0).trans rfl;have hcz25_1:w24.cell? ⟨gb149,1,none⟩=some (.int .i64 a0_1):=(za BK149.out 1).trans rfl;have hcz25_2:w24.cell? ⟨gb149,2,none⟩=some (.int .i64 a0_2):=(za BK149.out 2).trans rfl;have hcz25_3:w24.cell? ⟨gb149,3,none⟩=some (.int .i64 a0_3):=(za BK149.out 3).trans rfl;have hcz25_4:w24.cell? ⟨gb149,4,none⟩=some (.int .i64 a0_4):=(za BK149.out 4).trans rfl;have hcz25_5:w24.cell? ⟨gb149,5,none⟩=some (.bool a0_5):=(za BK149.out 5).trans rfl;have hfz25_0:=zh BK149.out 0;have hfz25_1:=zh BK149.out 1;have hfz25_2:=zh BK149.out 2;have hfz25_3:=zh BK149.out 3;have hfz25_4:=zh BK149.out 4;have hfz25_5:=zh BK149.out 5) | ((with_reducible refine zy (f:=64) rfl ?_);refine zO (some 5) rfl rfl Tryz.func64 (by kernel_rfl) rfl #[.int .i64 a0_0,.int .i64 0,.int .i64 1] rfl (by (try simp only [List.map_toArray,List.map_cons,List.map_nil]);first | done | rfl | (simp only [List.length_drop,List.length_take];rfl)) ?_;(with_reducible refine (plan_in.calls a0_0 0 1 true _ A2.out).mono ?_);rintro e w' ⟨rfl,⟨nd,rfl⟩⟩;refine ⟨_,rfl,?_⟩) | (go_at_call 64;(with_reducible refine (plan_in.calls a0_1 2 6 true _ A4.out).mono ?_);rintro e w' ⟨rfl,⟨nd,rfl⟩⟩) | (go_at_call 64;(with_reducible refine (plan_in.calls a0_2 0 2 false _ A6.out).mono ?_);rintro e w' ⟨rfl,⟨nd,rfl⟩⟩))
    go_ret
    exact ⟨by first | rfl | (simp [zq,zt] <;> rfl) | (simp [*,zq,zt] <;> rfl),by repeat (first | (with_reducible first | exact HB.out | apply ze | apply zc | apply zg | refine zp ?_ GE149.out) | exact HB.out)⟩
  ·replace c5:=Bool.eq_false_iff.mpr c5
   subst c5
   have H1:(some 4)=some r:=by rw [if_neg (show ¬(false=true) by decide)] at H;exact H
   clear H
   have H:=H1
   clear H1
   obtain rfl:=Option.some.inj H
   go_enter Tryz.func37,Tryz.ntmps37
   go_wp2_with (first | ((with_reducible refine zf (N:=1) rfl ?_);refine ba_ 1 rfl #[.int .i64 a0_0,.int .i64 a0_1,.int .i64 a0_2,.int .i64 a0_3,.int .i64 a0_4,.bool a0_5] 24 ?_;intro gb149 hg w26 I hb;have n0_:=Aside0.mk (zb (by repeat (first | (with_reducible first | exact HB.out | apply ze | apply zc | apply zg) | exact HB.out)) hb);have n1_:=Aside0.mk (I);have n2_:=Aside0.mk ((by rw [hg];exact (zi (by repeat (first | (with_reducible first | exact HB.out | apply ze | apply zc | apply zg) | exact HB.out))):w.heap.size≤gb149));have n3_:=Aside0.mk ((by rw [hg];exact (zi (by repeat (first | (with_reducible first | exact HB.out | apply ze | apply zc | apply zg) | exact HB.out))):w.heap.size≤gb149));clear HB;have HB:=n0_;have BK149:=n1_;have GW149:=n2_;have GE149:=n3_;clear n0_ n1_ n2_ n3_;clear hb I hg;have hcz27_0:w26.cell? ⟨gb149,0,none⟩=some (.int .i64 a0_0):=(za BK149.out 0).trans rfl;have hcz27_1:w26.cell? ⟨gb149,1,none⟩=some (.int .i64 a0_1):=(za BK149.out 1).trans rfl;have hcz27_2:w26.cell? ⟨gb149,2,none⟩=some (.int .i64 a0_2):=(za BK149.out 2).trans rfl;have hcz27_3:w26.cell? ⟨gb149,3,none⟩=some (.int .i64 a0_3):=(za BK149.out 3).trans rfl;have hcz27_4:w26.cell? ⟨gb149,4,none⟩=some (.int .i64 a0_4):=(za BK149.out 4).trans rfl;have hcz27_5:w26.cell? ⟨gb149,5,none⟩=some (.bool a0_5):=(za BK149.out 5).trans rfl;have hfz27_0:=zh BK149.out 0;have hfz27_1:=zh BK149.out 1;have hfz27_2:=zh BK149.out 2;have hfz27_3:=zh BK149.out 3;have hfz27_4:=zh BK149.out 4;have hfz27_5:=zh BK149.out 5) | ((with_reducible refine zy (f:=64) rfl ?_);refine zO (some 5) rfl rfl Tryz.func64 (by kernel_rfl) rfl #[.int .i64 a0_0,.int .i64 0,.int .i64 1] rfl (by (try simp only [List.map_toArray,List.map_cons,List.map_nil]);first | done | rfl | (simp only [List.length_drop,List.length_take];rfl)) ?_;(with_reducible refine (plan_in.calls a0_0 0 1 true _ A2.out).mono ?_);rintro e w' ⟨rfl,⟨nd,rfl⟩⟩;refine ⟨_,rfl,?_⟩) | (go_at_call 64;(with_reducible refine (plan_in.calls a0_1 2 6 false _ A4.out).mono ?_);rintro e w' ⟨rfl,⟨nd,rfl⟩⟩))
   go_ret
   exact ⟨by first | rfl | (simp [zq,zt] <;> rfl) | (simp [*,zq,zt] <;> rfl),by repeat (first | (with_reducible first | exact HB.out | apply ze | apply zc | apply zg | refine zp ?_ GE149.out) | exact HB.out)⟩
 ·replace c3:=Bool.eq_false_iff.mpr c3
  subst c3
  have H1:(some 4)=some r:=by rw [if_neg (show ¬(false=true) by decide)] at H;exact H
  clear H
  have H:=H1
  clear H1
  obtain rfl:=Option.some.inj H
  go_enter Tryz.func37,Tryz.ntmps37
  go_wp2_with (first | ((with_reducible refine zf (N:=1) rfl ?_);refine ba_ 1 rfl #[.int .i64 a0_0,.int .i64 a0_1,.int .i64 a0_2,.int .i64 a0_3,.int .i64 a0_4,.bool a0_5] 24 ?_;intro gb149 hg w28 I hb;have n0_:=Aside0.mk (zb (by repeat (first | (with_reducible first | exact HB.out | apply ze | apply zc | apply zg) | exact HB.out)) hb);have n1_:=Aside0.mk (I);have n2_:=Aside0.mk ((by rw [hg];exact (zi (by repeat (first | (with_reducible first | exact HB.out | apply ze | apply zc | apply zg) | exact HB.out))):w.heap.size≤gb149));have n3_:=Aside0.mk ((by rw [hg];exact (zi (by repeat (first | (with_reducible first | exact HB.out | apply ze | apply zc | apply zg) | exact HB.out))):w.heap.size≤gb149));clear HB;have HB:=n0_;have BK149:=n1_;have GW149:=n2_;have GE149:=n3_;clear n0_ n1_ n2_ n3_;clear hb I hg;have hcz29_0:w28.cell? ⟨gb149,0,none⟩=some (.int .i64 a0_0):=(za BK149.out 0).trans rfl;have hcz29_1:w28.cell? ⟨gb149,1,none⟩=some (.int .i64 a0_1):=(za BK149.out 1).trans rfl;have hcz29_2:w28.cell? ⟨gb149,2,none⟩=some (.int .i64 a0_2):=(za BK149.out 2).trans rfl;have hcz29_3:w28.cell? ⟨gb149,3,none⟩=some (.int .i64 a0_3):=(za BK149.out 3).trans rfl;have hcz29_4:w28.cell? ⟨gb149,4,none⟩=some (.int .i64 a0_4):=(za BK149.out 4).trans rfl;have hcz29_5:w28.cell? ⟨gb149,5,none⟩=some (.bool a0_5):=(za BK149.out 5).trans rfl;have hfz29_0:=zh BK149.out 0;have hfz29_1:=zh BK149.out 1;have hfz29_2:=zh BK149.out 2;have hfz29_3:=zh BK149.out 3;have hfz29_4:=zh BK149.out 4;have hfz29_5:=zh BK149.out 5) | ((with_reducible refine zy (f:=64) rfl ?_);refine zO (some 5) rfl rfl Tryz.func64 (by kernel_rfl) rfl #[.int .i64 a0_0,.int .i64 0,.int .i64 1] rfl (by (try simp only [List.map_toArray,List.map_cons,List.map_nil]);first | done | rfl | (simp only [List.length_drop,List.length_take];rfl)) ?_;(with_reducible refine (plan_in.calls a0_0 0 1 false _ A2.out).mono ?_);rintro e w' ⟨rfl,⟨nd,rfl⟩⟩;refine ⟨_,rfl,?_⟩))
  go_ret
  exact ⟨by first | rfl | (simp [zq,zt] <;> rfl) | (simp [*,zq,zt] <;> rfl),by repeat (first | (with_reducible first | exact HB.out | apply ze | apply zc | apply zg | refine zp ?_ GE149.out) | exact HB.out)⟩

def flip_Row.l0:Nat→Int→List Int→Int→Int→Option (List Int×Int)
 | 0,_,_,_,_=>none
 | k+1,x0,x4,x12,x13=>if x13 < x12 then ((flip_Bits.f k x13 x0).bind fun bt158=>(if x4.length < 17592186044416 then (flip_Row.l0 k x0 (x4++[bt158.1]) x12 (wrap64 (x13+1))) else (none))) else (some (x4,0))
def flip_Row.f (k:Nat) (a0:Int):Option (List Int×Int):=(flip_may.f a0).bind fun t157=>(if t157=true then (if 0≤a0 then (flip_Row.l0 k a0 ([]:List Int) (shl .i64 1 a0) 0) else (none)) else (some (([]:List Int),1)))
set_option maxHeartbeats 8000000 in
set_option maxRecDepth 100000 in
theorem flip_Row.calls (k:Nat) (a0:Int) (r1:List Int) (r2:Int) (w:World) (h:flip_Row.f k a0=some (r1,r2)) :
  Calls Tryz.prog 97 #[.int .i64 a0] w fun e w'=>∃v0_:Value,e=.returned (.tuple #[v0_,.int .i64 r2])∧Kd.R (Kd.int .i64) 3 w' w.heap.size (fun _=>True) v0_ r1∧Below w.heap.size w w':=by
 have HB:=Aside0.mk (Below.refl w.heap.size w)
 have H:((flip_may.f a0).bind fun t157=>(if t157=true then (if 0≤a0 then (flip_Row.l0 k a0 ([]:List Int) (shl .i64 1 a0) 0) else (none)) else (some (([]:List Int),1))))=some (r1,r2):=h
 clear h
 replace H:=Option.bind_eq_some_iff.mp H
 obtain ⟨t157,A20,H⟩:=H
 replace H:(if t157=true then (if 0≤a0 then (flip_Row.l0 k a0 ([]:List Int) (shl .i64 1 a0) 0) else (none)) else (some (([]:List Int),1)))=some (r1,r2):=H
 have A2:=Aside0.mk A20
 clear A20
 by_cases c3:t157=true
 ·subst c3
  have H1:(if 0≤a0 then (flip_Row.l0 k a0 ([]:List Int) (shl .i64 1 a0) 0) else (none))=some (r1,r2):=by rw [if_pos rfl] at H;exact H
  clear H
  have H:=H1
  clear H1
  by_cases c4:0≤a0
  ·rw [if_pos c4] at H
   have c4b0:=eq_true c4
   have c4b1:decide (0≤a0)=true:=decide_eq_true c4
   clear c4
   obtain ⟨ji5,hji5⟩:∃j_:Int,(shl .i64 1 a0)=j_:=⟨_,rfl⟩
   replace H:(flip_Row.l0 k a0 ([]:List Int) ji5 0)=some (r1,r2):=by first | (rw [hji5] at H;exact H) | (simp only [hji5] at H ⊢;exact H)
   (try rw [hji5] at A2)
   have hji5_:(IntKind.i64.wrap (1*2^min a0.toNat 64))=ji5:=hji5
   have hji5z:a0≤64→(IntKind.i64.wrap (1*2^a0.toNat))=ji5:=zci hji5
   have hji5u:(IntKind.i64.wrap (2^min a0.toNat 64))=ji5:=by have h_:=hji5_;rw [Int.one_mul] at h_;exact h_
   have hji5v:a0≤64→(IntKind.i64.wrap (2^a0.toNat))=ji5:=fun hle_=>by have h_:=hji5z hle_;rw [Int.one_mul] at h_;exact h_
   have hji5y:(wrap64 (1*2^min a0.toNat 64))=ji5:=(zD _).symm.trans hji5_
   have hji5x:a0≤64→(wrap64 (1*2^a0.toNat))=ji5:=fun h_=>(zD _).symm.trans (hji5z h_)
   have H':=Aside0.mk H
   clear H
   go_enter Tryz.func97,Tryz.ntmps97
   go_wp2_with (first | ((with_reducible refine zy (f:=110) rfl ?_);refine zO (some 9) rfl rfl Tryz.func110 (by kernel_rfl) rfl #[.int .i64 a0] rfl (by (try simp only [List.map_toArray,List.map_cons,List.map_nil]);first | done | rfl | (simp only [List.length_drop,List.length_take];rfl)) ?_;(with_reducible refine (flip_may.calls a0 true _ A2.out).mono ?_);rintro e w' ⟨rfl,⟨nd,rfl⟩⟩;refine ⟨_,rfl,?_⟩))
   go_loopg [4,13] k (fun kq v4 v13 w'=>∃(x4_1:List Int) (x13_1:Int),v13=.int .i64 x13_1∧Aside0 (flip_Row.l0 kq a0 x4_1 ji5 x13_1=some (r1,r2))∧Aside0 (kq≤k)∧Aside0 (Kd.R (Kd.int .i64) 3 w' w.heap.size (fun _=>True) v4 x4_1)∧Aside0 (Below w.heap.size w w'))
   case atStart=>exact ⟨(([]:List Int)),(0),(by first | rfl | (simp;done) | (simp [*];done)),H',⟨Nat.le_refl _⟩,⟨by first | exact Kd.R_nil _ _ _ _ _ | exact Kd.N_nil _ _ _ _ _ | exact Kd.V_nil _ _ _ _ _ | exact Kd.Q_nil _ _ _ _ _ | exact Kd.S_nil _ _ _ _ _⟩,⟨by repeat (first | (with_reducible first | exact HB.out | apply ze | apply zc | apply zg) | exact HB.out)⟩⟩
   case round =>
    clear H'
    try clear c1
    try clear p2
    try clear c3
    try clear c4
    try clear c4b0
    try clear c4b1
    obtain ⟨x4_1,x13_1,rfl,HA,HK1,HO_4,HB⟩:=hrel
    cases gk with
    | zero=>exact absurd HA.out (by simp [flip_Row.l0])
    | succ k1 =>
     have H:=HA.out
     clear HA
     simp only [flip_Row.l0] at H
     by_cases c6:x13_1 < ji5
     ·rw [if_pos c6] at H
      have c6b0:decide (x13_1 < ji5)=true:=decide_eq_true c6
      clear c6
      replace H:=Option.bind_eq_some_iff.mp H
      obtain ⟨⟨t158,t159⟩,A70,H⟩:=H
      replace H:(if x4_1.length < 17592186044416 then (flip_Row.l0 k1 a0 (x4_1++[t158]) ji5 (wrap64 (x13_1+1))) else (none))=some (r1,r2):=H
      have A7:=Aside0.mk A70
      clear A70
      by_cases c8:x4_1.length < 17592186044416
      ·rw [if_pos c8] at H
       have LMc8:=Aside0.mk c8
       clear c8
       obtain ⟨y160,hy160⟩:∃y_:List Int,y_=(x4_1++[t158]):=⟨_,rfl⟩
       replace H:(flip_Row.l0 k1 a0 y160 ji5 (wrap64 (x13_1+1)))=some (r1,r2):=by first | (rw [hy160];with_reducible exact H) | (have H2_:=(Option.bind_some _ _).symm.trans H;rw [hy160];with_reducible exact H2_) | (have H2_:=(Option.bind_some _ _).symm.trans H;with_reducible exact H2_) | with_reducible exact H | (rw [hy160];exact H) | exact H
       have Ny160:=Aside0.mk hy160
       clear hy160
       have H':=Aside0.mk H
       clear H
       go_wp2_with (first | ((with_reducible refine zy (f:=111) rfl ?_);refine zO (some 19) rfl rfl Tryz.func111 (by kernel_rfl) rfl #[.int .i64 x13_1,.int .i64 a0] rfl (by (try simp only [List.map_toArray,List.map_cons,List.map_nil]);first | done | rfl | (simp only [List.length_drop,List.length_take];rfl)) ?_;(with_reducible refine (flip_Bits.calls k1 x13_1 a0 t158 t159 _ A7.out).mono ?_);rintro e w' ⟨rfl,⟨nd,rfl⟩⟩;refine ⟨_,rfl,?_⟩) | ((with_reducible refine zaw (b:=.append) (xs:=#[.tmp 22,.tmp 24]) rfl ?_);at_builtin;refine Kd.R_append (Kd.int .i64) (w0:=w) w.heap.size rfl (.tmp 22) (.tmp 24) 26 3 (.int .i64 0) 8 rfl Tryz.underlying26 zfG rfl (by decide) (by omega) u4 x4_1 t158 [.int .i64 t158] (fun _=>True) (fun _=>False) rfl rfl ?aP (fun _ hk=>hk.elim) ?aF ?aO ?aB ?aS ?aL ?_;(case aP=>exact rfl);(case aB=>exact (by repeat (first | (with_reducible first | exact HB.out | apply ze | apply zc | apply zg) | exact HB.out)));(case aF=>exact (fun _ _=>trivial));(case aO=>exact (by (with_reducible repeat (first | apply Kd.R_alloc | apply Kd.R_drewN | apply Kd.R_drew));exact HO_4.out));(case aS=>exact (zi (by repeat (first | (with_reducible first | exact HB.out | apply ze | apply zc | apply zg) | exact HB.out))));(case aL=>have:=LMc8.out;omega);intro v161 w9 ho hb hg hat;rw [← Ny160.out] at ho;have n0_:=Aside0.mk (hb);have n1_:=Aside0.mk (ho);clear HB;clear HO_4;have HB:=n0_;have I:=n1_;clear n0_ n1_;clear ho hb hg hat))
       go_roundg k1
       case measure=>have:=HK1.out;omega
       case rel=>exact ⟨(y160),(wrap64 (x13_1+1)),(by first | rfl | (simp;done) | (simp [*];done)),H',⟨by have:=HK1.out;omega⟩,⟨by (with_reducible repeat (first | apply Kd.R_alloc | apply Kd.R_drewN | apply Kd.R_drew));exact I.out⟩,⟨by repeat (first | (with_reducible first | exact HB.out | apply ze | apply zc | apply zg) | exact HB.out)⟩⟩
      ·rw [if_neg c8] at H
       exact absurd H (by simp)
     ·rw [if_neg c6] at H
      have c6b0:decide (x13_1 < ji5)=false:=decide_eq_false c6
      clear c6
      simp only [Option.some.injEq,Prod.mk.injEq] at H
      obtain ⟨rfl,rfl⟩:=H
      go_wp2
      go_ret2
      exact ⟨_,by first | rfl | (simp [zq,zt] <;> rfl) | (simp only [← hji5];first | rfl | (simp [zq,zt] <;> rfl)) | (simp [*,zq,zt] <;> rfl),by (with_reducible repeat (first | apply Kd.R_alloc | apply Kd.R_drewN | apply Kd.R_drew));exact HO_4.out,by repeat (first | (with_reducible first | exact HB.out | apply ze | apply zc | apply zg) | exact HB.out)⟩
  ·rw [if_neg c4] at H
   exact absurd H (by simp)
 ·replace c3:=Bool.eq_false_iff.mpr c3
  subst c3
  have H1:(some (([]:List Int),1))=some (r1,r2):=by rw [if_neg (show ¬(false=true) by decide)] at H;exact H
  clear H
  have H:=H1
  clear H1
  simp only [Option.some.injEq,Prod.mk.injEq] at H
  obtain ⟨rfl,rfl⟩:=H
  go_enter Tryz.func97,Tryz.ntmps97
  go_wp2_with (first | ((with_reducible refine zy (f:=110) rfl ?_);refine zO (some 9) rfl rfl Tryz.func110 (by kernel_rfl) rfl #[.int .i64 a0] rfl (by (try simp only [List.map_toArray,List.map_cons,List.map_nil]);first | done | rfl | (simp only [List.length_drop,List.length_take];rfl)) ?_;(with_reducible refine (flip_may.calls a0 false _ A2.out).mono ?_);rintro e w' ⟨rfl,⟨nd,rfl⟩⟩;refine ⟨_,rfl,?_⟩))
  go_ret2
  exact ⟨_,by first | rfl | (simp [zq,zt] <;> rfl) | (simp [*,zq,zt] <;> rfl),by first | exact Kd.R_nil _ _ _ _ _ | exact Kd.N_nil _ _ _ _ _ | exact Kd.V_nil _ _ _ _ _ | exact Kd.Q_nil _ _ _ _ _ | exact Kd.S_nil _ _ _ _ _,by repeat (first | (with_reducible first | exact HB.out | apply ze | apply zc | apply zg) | exact HB.out)⟩

def budget_Start.f (a0_0:Int) (a0_1:Int) (a0_2:Int) (a0_3:Int) (a0_4:Int) (a0_5:Bool):Option (Int×Int):=(plan_Check.f a0_0 a0_1 a0_2 a0_3 a0_4 a0_5).bind fun t269=>(if t269=0 then (if a0_3=0 then (some (91,0)) else (some (0,0))) else (some (0,t269)))
set_option maxHeartbeats 8000000 in
set_option maxRecDepth 100000 in
theorem budget_Start.calls (a0_0:Int) (a0_1:Int) (a0_2:Int) (a0_3:Int) (a0_4:Int) (a0_5:Bool) (r1:Int) (r2:Int) (w:World) (h:budget_Start.f a0_0 a0_1 a0_2 a0_3 a0_4 a0_5=some (r1,r2)) :
  Calls Tryz.prog 22 #[.agg #[.int .i64 a0_0,.int .i64 a0_1,.int .i64 a0_2,.int .i64 a0_3,.int .i64 a0_4,.bool a0_5]] w fun e w'=>e=.returned (.tuple #[.int .i64 r1,.int .i64 r2])∧Below w.heap.size w w':=by
 have hu24:=Tryz.underlying24
 have HB:=Aside0.mk (Below.refl w.heap.size w)
 have H:((plan_Check.f a0_0 a0_1 a0_2 a0_3 a0_4 a0_5).bind fun t269=>(if t269=0 then (if a0_3=0 then (some (91,0)) else (some (0,0))) else (some (0,t269))))=some (r1,r2):=h
 clear h
 replace H:=Option.bind_eq_some_iff.mp H
 obtain ⟨t269,A20,H⟩:=H
 replace H:(if t269=0 then (if a0_3=0 then (some (91,0)) else (some (0,0))) else (some (0,t269)))=some (r1,r2):=H
 have A2:=Aside0.mk A20
 clear A20
 by_cases c3:t269=0
 ·rw [if_pos c3] at H
  have c3b0:(t269 == 0)=true:=beq_iff_eq.mpr c3
  have c3b1:(t269 != 0)=false:=bne_eq_false_iff_eq.mpr c3
  clear c3
  by_cases c4:a0_3=0
  ·rw [if_pos c4] at H
   have c4b0:(a0_3 == 0)=true:=beq_iff_eq.mpr c4
   have c4b1:(a0_3 != 0)=false:=bne_eq_false_iff_eq.mpr c4
   clear c4
   simp only [Option.some.injEq,Prod.mk.injEq] at H
   obtain ⟨rfl,rfl⟩:=H
   go_enter Tryz.func22,Tryz.ntmps22
   go_wp2_with (first | ((with_reducible refine zf (N:=1) rfl ?_);refine ba_ 1 rfl #[.int .i64 a0_0,.int .i64 a0_1,.int .i64 a0_2,.int .i64 a0_3,.int .i64 a0_4,.bool a0_5] 24 ?_;intro gb268 hg w5 I hb;have n0_:=Aside0.mk (zb (by repeat (first | (with_reducible first | exact HB.out | apply ze | apply zc | apply zg) | exact HB.out)) hb);have n1_:=Aside0.mk (I);have n2_:=Aside0.mk ((by rw [hg];exact (zi (by repeat (first | (with_reducible first | exact HB.out | apply ze | apply zc | apply zg) | exact HB.out))):w.heap.size≤gb268));have n3_:=Aside0.mk ((by rw [hg];exact (zi (by repeat (first | (with_reducible first | exact HB.out | apply ze | apply zc | apply zg) | exact HB.out))):w.heap.size≤gb268));clear HB;have HB:=n0_;have BK268:=n1_;have GW268:=n2_;have GE268:=n3_;clear n0_ n1_ n2_ n3_;clear hb I hg;have hcz6_0:w5.cell? ⟨gb268,0,none⟩=some (.int .i64 a0_0):=(za BK268.out 0).trans rfl;have hcz6_1:w5.cell? ⟨gb268,1,none⟩=some (.int .i64 a0_1):=(za BK268.out 1).trans rfl;have hcz6_2:w5.cell? ⟨gb268,2,none⟩=some (.int .i64 a0_2):=(za BK268.out 2).trans rfl;have hcz6_3:w5.cell? ⟨gb268,3,none⟩=some (.int .i64 a0_3):=(za BK268.out 3).trans rfl;have hcz6_4:w5.cell? ⟨gb268,4,none⟩=some (.int .i64 a0_4):=(za BK268.out 4).trans rfl;have hcz6_5:w5.cell? ⟨gb268,5,none⟩=some (.bool a0_5):=(za BK268.out 5).trans rfl;have hfz6_0:=zh BK268.out 0;have hfz6_1:=zh BK268.out 1;have hfz6_2:=zh BK268.out 2;have hfz6_3:=zh BK268.out 3;have hfz6_4:=zh BK268.out 4;have hfz6_5:=zh BK268.out 5) | ((with_reducible refine zy (f:=37) rfl ?_);refine zO (some 6) rfl rfl Tryz.func37 (by kernel_rfl) rfl #[.agg #[.int .i64 a0_0,.int .i64 a0_1,.int .i64 a0_2,.int .i64 a0_3,.int .i64 a0_4,.bool a0_5]] rfl (by (try simp only [List.map_toArray,List.map_cons,List.map_nil]);first | done | rfl | (simp only [List.length_drop,List.length_take];rfl)) ?_;(with_reducible refine (plan_Check.calls a0_0 a0_1 a0_2 a0_3 a0_4 a0_5 t269 _ A2.out).mono ?_);rintro e w7 ⟨rfl,hb⟩;refine ⟨_,rfl,?_⟩;have n0_:=Aside0.mk (zd (g:=gb268) (o:=.cells #[.int .i64 a0_0,.int .i64 a0_1,.int .i64 a0_2,.int .i64 a0_3,.int .i64 a0_4,.bool a0_5] 24 (0,0)) (by (with_reducible repeat (first | refine zn ?_ _ | refine zu ?_ | refine zm ?_ _));exact BK268.out) hb);have n1_:=Aside0.mk (zb (by repeat (first | (with_reducible first | exact HB.out | apply ze | apply zc | apply zg | refine zp ?_ GE268.out) | exact HB.out)) hb);clear BK268;clear HB;have BK268:=n0_;have HB:=n1_;clear n0_ n1_;(try clear hb);(try clear hb2);(try clear hk);(try clear hi);have hcz8_0:w7.cell? ⟨gb268,0,none⟩=some (.int .i64 a0_0):=(za BK268.out 0).trans rfl;have hcz8_1:w7.cell? ⟨gb268,1,none⟩=some (.int .i64 a0_1):=(za BK268.out 1).trans rfl;have hcz8_2:w7.cell? ⟨gb268,2,none⟩=some (.int .i64 a0_2):=(za BK268.out 2).trans rfl;have hcz8_3:w7.cell? ⟨gb268,3,none⟩=some (.int .i64 a0_3):=(za BK268.out 3).trans rfl;have hcz8_4:w7.cell? ⟨gb268,4,none⟩=some (.int .i64 a0_4):=(za BK268.out 4).trans rfl;have hcz8_5:w7.cell? ⟨gb268,5,none⟩=some (.bool a0_5):=(za BK268.out 5).trans rfl;have hfz8_0:=zh BK268.out 0;have hfz8_1:=zh BK268.out 1;have hfz8_2:=zh BK268.out 2;have hfz8_3:=zh BK268.out 3;have hfz8_4:=zh BK268.out 4;have hfz8_5:=zh BK268.out 5))
   go_ret2
   exact ⟨by first | rfl | (simp [zq,zt] <;> rfl) | (simp [*,zq,zt] <;> rfl),by repeat (first | (with_reducible first | exact HB.out | apply ze | apply zc | apply zg | refine zp ?_ GE268.out) | exact HB.out)⟩
  ·rw [if_neg c4] at H
   have c4b0:(a0_3 == 0)=false:=beq_eq_false_iff_ne.mpr c4
   have c4b1:(a0_3 != 0)=true:=bne_iff_ne.mpr c4
   simp only [Option.some.injEq,Prod.mk.injEq] at H
   obtain ⟨rfl,rfl⟩:=H
   go_enter Tryz.func22,Tryz.ntmps22
   go_wp2_with (first | ((with_reducible refine zf (N:=1) rfl ?_);refine ba_ 1 rfl #[.int .i64 a0_0,.int .i64 a0_1,.int .i64 a0_2,.int .i64 a0_3,.int .i64 a0_4,.bool a0_5] 24 ?_;intro gb268 hg w9 I hb;have n0_:=Aside0.mk (zb (by repeat (first | (with_reducible first | exact HB.out | apply ze | apply zc | apply zg) | exact HB.out)) hb);have n1_:=Aside0.mk (I);have n2_:=Aside0.mk ((by rw [hg];exact (zi (by repeat (first | (with_reducible first | exact HB.out | apply ze | apply zc | apply zg) | exact HB.out))):w.heap.size≤gb268));have n3_:=Aside0.mk ((by rw [hg];exact (zi (by repeat (first | (with_reducible first | exact HB.out | apply ze | apply zc | apply zg) | exact HB.out))):w.heap.size≤gb268));clear HB;have HB:=n0_;have BK268:=n1_;have GW268:=n2_;have GE268:=n3_;clear n0_ n1_ n2_ n3_;clear hb I hg;have hcz10_0:w9.cell? ⟨gb268,0,none⟩=some (.int .i64 a0_0):=(za BK268.out 0).trans rfl;have hcz10_1:w9.cell? ⟨gb268,1,none⟩=some (.int .i64 a0_1):=(za BK268.out 1).trans rfl;have hcz10_2:w9.cell? ⟨gb268,2,none⟩=some (.int .i64 a0_2):=(za BK268.out 2).trans rfl;have hcz10_3:w9.cell? ⟨gb268,3,none⟩=some (.int .i64 a0_3):=(za BK268.out 3).trans rfl;have hcz10_4:w9.cell? ⟨gb268,4,none⟩=some (.int .i64 a0_4):=(za BK268.out 4).trans rfl;have hcz10_5:w9.cell? ⟨gb268,5,none⟩=some (.bool a0_5):=(za BK268.out 5).trans rfl;have hfz10_0:=zh BK268.out 0;have hfz10_1:=zh BK268.out 1;have hfz10_2:=zh BK268.out 2;have hfz10_3:=zh BK268.out 3;have hfz10_4:=zh BK268.out 4;have hfz10_5:=zh BK268.out 5) | ((with_reducible refine zy (f:=37) rfl ?_);refine zO (some 6) rfl rfl Tryz.func37 (by kernel_rfl) rfl #[.agg #[.int .i64 a0_0,.int .i64 a0_1,.int .i64 a0_2,.int .i64 a0_3,.int .i64 a0_4,.bool a0_5]] rfl (by (try simp only [List.map_toArray,List.map_cons,List.map_nil]);first | done | rfl | (simp only [List.length_drop,List.length_take];rfl)) ?_;(with_reducible refine (plan_Check.calls a0_0 a0_1 a0_2 a0_3 a0_4 a0_5 t269 _ A2.out).mono ?_);rintro e w11 ⟨rfl,hb⟩;refine ⟨_,rfl,?_⟩;have n0_:=Aside0.mk (zd (g:=gb268) (o:=.cells #[.int .i64 a0_0,.int .i64 a0_1,.int .i64 a0_2,.int .i64 a0_3,.int .i64 a0_4,.bool a0_5] 24 (0,0)) (by (with_reducible repeat (first | refine zn ?_ _ | refine zu ?_ | refine zm ?_ _));exact BK268.out) hb);have n1_:=Aside0.mk (zb (by repeat (first | (with_reducible first | exact HB.out | apply ze | apply zc | apply zg | refine zp ?_ GE268.out) | exact HB.out)) hb);clear BK268;clear HB;have BK268:=n0_;have HB:=n1_;clear n0_ n1_;(try clear hb);(try clear hb2);(try clear hk);(try clear hi);have hcz12_0:w11.cell? ⟨gb268,0,none⟩=some (.int .i64 a0_0):=(za BK268.out 0).trans rfl;have hcz12_1:w11.cell? ⟨gb268,1,none⟩=some (.int .i64 a0_1):=(za BK268.out 1).trans rfl;have hcz12_2:w11.cell? ⟨gb268,2,none⟩=some (.int .i64 a0_2):=(za BK268.out 2).trans rfl;have hcz12_3:w11.cell? ⟨gb268,3,none⟩=some (.int .i64 a0_3):=(za BK268.out 3).trans rfl;have hcz12_4:w11.cell? ⟨gb268,4,none⟩=some (.int .i64 a0_4):=(za BK268.out 4).trans rfl;have hcz12_5:w11.cell? ⟨gb268,5,none⟩=some (.bool a0_5):=(za BK268.out 5).trans rfl;have hfz12_0:=zh BK268.out 0;have hfz12_1:=zh BK268.out 1;have hfz12_2:=zh BK268.out 2;have hfz12_3:=zh BK268.out 3;have hfz12_4:=zh BK268.out 4;have hfz12_5:=zh BK268.out 5))
   go_ret2
   exact ⟨by first | rfl | (simp [zq,zt] <;> rfl) | (simp [*,zq,zt] <;> rfl),by repeat (first | (with_reducible first | exact HB.out | apply ze | apply zc | apply zg | refine zp ?_ GE268.out) | exact HB.out)⟩
 ·rw [if_neg c3] at H
  have c3b0:(t269 == 0)=false:=beq_eq_false_iff_ne.mpr c3
  have c3b1:(t269 != 0)=true:=bne_iff_ne.mpr c3
  simp only [Option.some.injEq,Prod.mk.injEq] at H
  obtain ⟨rfl,rfl⟩:=H
  go_enter Tryz.func22,Tryz.ntmps22
  go_wp2_with (first | ((with_reducible refine zf (N:=1) rfl ?_);refine ba_ 1 rfl #[.int .i64 a0_0,.int .i64 a0_1,.int .i64 a0_2,.int .i64 a0_3,.int .i64 a0_4,.bool a0_5] 24 ?_;intro gb268 hg w13 I hb;have n0_:=Aside0.mk (zb (by repeat (first | (with_reducible first | exact HB.out | apply ze | apply zc | apply zg) | exact HB.out)) hb);have n1_:=Aside0.mk (I);have n2_:=Aside0.mk ((by rw [hg];exact (zi (by repeat (first | (with_reducible first | exact HB.out | apply ze | apply zc | apply zg) | exact HB.out))):w.heap.size≤gb268));have n3_:=Aside0.mk ((by rw [hg];exact (zi (by repeat (first | (with_reducible first | exact HB.out | apply ze | apply zc | apply zg) | exact HB.out))):w.heap.size≤gb268));clear HB;have HB:=n0_;have BK268:=n1_;have GW268:=n2_;have GE268:=n3_;clear n0_ n1_ n2_ n3_;clear hb I hg;have hcz14_0:w13.cell? ⟨gb268,0,none⟩=some (.int .i64 a0_0):=(za BK268.out 0).trans rfl;have hcz14_1:w13.cell? ⟨gb268,1,none⟩=some (.int .i64 a0_1):=(za BK268.out 1).trans rfl;have hcz14_2:w13.cell? ⟨gb268,2,none⟩=some (.int .i64 a0_2):=(za BK268.out 2).trans rfl;have hcz14_3:w13.cell? ⟨gb268,3,none⟩=some (.int .i64 a0_3):=(za BK268.out 3).trans rfl;have hcz14_4:w13.cell? ⟨gb268,4,none⟩=some (.int .i64 a0_4):=(za BK268.out 4).trans rfl;have hcz14_5:w13.cell? ⟨gb268,5,none⟩=some (.bool a0_5):=(za BK268.out 5).trans rfl;have hfz14_0:=zh BK268.out 0;have hfz14_1:=zh BK268.out 1;have hfz14_2:=zh BK268.out 2;have hfz14_3:=zh BK268.out 3;have hfz14_4:=zh BK268.out 4;have hfz14_5:=zh BK268.out 5) | ((with_reducible refine zy (f:=37) rfl ?_);refine zO (some 6) rfl rfl Tryz.func37 (by kernel_rfl) rfl #[.agg #[.int .i64 a0_0,.int .i64 a0_1,.int .i64 a0_2,.int .i64 a0_3,.int .i64 a0_4,.bool a0_5]] rfl (by (try simp only [List.map_toArray,List.map_cons,List.map_nil]);first | done | rfl | (simp only [List.length_drop,List.length_take];rfl)) ?_;(with_reducible refine (plan_Check.calls a0_0 a0_1 a0_2 a0_3 a0_4 a0_5 t269 _ A2.out).mono ?_);rintro e w15 ⟨rfl,hb⟩;refine ⟨_,rfl,?_⟩;have n0_:=Aside0.mk (zd (g:=gb268) (o:=.cells #[.int .i64 a0_0,.int .i64 a0_1,.int .i64 a0_2,.int .i64 a0_3,.int .i64 a0_4,.bool a0_5] 24 (0,0)) (by (with_reducible repeat (first | refine zn ?_ _ | refine zu ?_ | refine zm ?_ _));exact BK268.out) hb);have n1_:=Aside0.mk (zb (by repeat (first | (with_reducible first | exact HB.out | apply ze | apply zc | apply zg | refine zp ?_ GE268.out) | exact HB.out)) hb);clear BK268;clear HB;have BK268:=n0_;have HB:=n1_;clear n0_ n1_;(try clear hb);(try clear hb2);(try clear hk);(try clear hi)))
  go_ret2
  exact ⟨by first | rfl | (simp [zq,zt] <;> rfl) | (simp [*,zq,zt] <;> rfl),by repeat (first | (with_reducible first | exact HB.out | apply ze | apply zc | apply zg | refine zp ?_ GE268.out) | exact HB.out)⟩

end Go.Proofs.YteieahbadclppaaGreat.P

namespace Go.Proofs.YteieahbadclppaaGreat.P
open Go.RowKit Go.Proofs.YteieahbadclppaaGreatW.PrintWords Go.Proofs.YteieahbadclppaaGreatW.PrintLast Go.Proofs.YteieahbadclppaaGreatW.PrintMore
set_option linter.unusedVariables false
set_option linter.unusedSimpArgs false
section
variable {P:Program} {ops:Array Oper} {rest:List Oper} {o:Oper} {a:Act} {Q:Exit→Act→World→Prop} {α:Type}
theorem zgQ (w:World) (dT sT ty elem:TypeId) (size g dLen dCap:Nat) (ad:Addr) (sLen sCap:Nat) (cur:Array Value) (t:TypeId) (cs:List Value)
  (hu:P.underlying dT=some (.slice elem)) (hs:(P.info? elem).map (·.size)=some size)
  (hg:w.heap[g]?=some (.cells cur t (0,0))) (hn:cs.length=Nat.min sLen dLen*size)
  (hsrc:∀j v,cs[j]?=some v→w.cell? (ad.add j)=some v) (hfit:cs.length≤cur.size) (h1:∀v∈cs,v.oneCell'=true) :
  (Builtin.copy_ #[dT,sT] ty #[.slice (some ⟨g,0,none⟩) dLen dCap,.slice (some ad) sLen sCap]).run P w =
   .ok (goInt (Nat.min sLen dLen)) (w.setRow g (cur.toList.take 0++cs++cur.toList.drop (0+cs.length)).toArray):=by
 have hl:=run_loadCells_list (P:=P) w ad cs hsrc
 have hst:=run_storeCells_at P g 0 t cs 0 cur w hg (by simpa using hfit) h1
 cases hq:P.info? elem with
 | none=>simp [hq] at hs
 | some i =>
  have hi:i.size=size:=by simpa [hq] using hs
  rw [hn] at hl
  have hst':(storeCells ⟨g,0,none⟩ cs).run P w=.ok () (w.setRow g (cs++cur.toList.drop cs.length).toArray):=by simpa using hst
  simp [Builtin.copy_,run_underlying hu,Builtin.lenOf,Builtin.firstCells,sizeOf,typeInfo,hq,hi,hl,hst']
theorem zj2 (d:Kd α) {Rr:α→List Value→Prop} {w0 W:World} (base:Nat) (hgd:o.guard=none) (s x:Operand) (t e:TypeId) (z:Value) (bytes:Nat)
  (ho:o.op=.call { callee:=.builtin .copy,args:=#[s,x],argTypes:=#[t,t] })
  (ht:P.underlying t=some (.slice e)) (hinfo:(P.info? e).map (fun i=>(i.zero,i.size,i.bytes))=some (some z,d.sz,bytes)) (hz:z.cells.size=d.sz) (hs0:0 < d.sz) (hb0:0 < bytes)
  (v:Value) (xs ys:List α) (A:Option Addr) (m c:Nat) (ok okp:Nat→Prop) (hs:a.eval s=v) (hx:a.eval x=.slice A m c)
  (HO:d.R e W base ok v xs) (HR:zbw Rr d.sz W A m ys) (hKM:∀x cs,Rr x cs→d.M W base okp x cs) (hokp:∀k,okp k→ok k∧some k≠v.ownBlock) (hfresh:∀k,W.heap.size≤k→ok k)
  (HB:Below base w0 W) (hbase:base≤W.heap.size) (hl:xs.length=m)
  (h:∀w1,d.R e w1 base ok v ys→Below base w0 w1→W.grownBy w1 v.ownBlock→(v.ownBlock=v.ownBlock∨∃b,v.ownBlock=some b∧W.heap.size≤b)→wpList P ops Q rest (a.put o.dst (.int .i64 ((m:Nat):Int))) w1) :
  wpList P ops Q (o :: rest) a W:=by
 obtain ⟨i0,hi,hzz⟩:=Option.map_eq_some_iff.1 hinfo
 simp only [Prod.mk.injEq] at hzz
 obtain ⟨hz0,hz1,hz2⟩:=hzz
 have hm:ys.length=m:=HR.1
 obtain ⟨hok,inner,hown,hr⟩:=HO
 have hsz:(P.info? e).map (·.size)=some d.sz:=by rw [hi];simp [hz1]
 have fin:∀w1,(Builtin.copy_ #[t,t] o.type #[v,.slice A m c]).run P W=.ok (goInt ((m:Nat):Int)) w1→d.R e w1 base ok v ys→W.grownBy w1 v.ownBlock→wpList P ops Q (o :: rest) a W:=by
  intro w1 hr hrow hg
  refine wpList_plain hgd fun K hK=>?_
  unfold Oper.wp execOp
  simp only [ho,resolve,invoke,builtin,Sem.run_bind,Sem.run_pure,Result.andThen_ok,List.map_toArray,List.map_cons,List.map_nil,hs,hx,hr]
  exact hK _ _ (h w1 hrow (HB.grown hg hbase (zcB hown)) hg (.inl rfl))
 rcases Nat.eq_zero_or_pos m with h0 | hp
 ·subst h0
  obtain rfl:ys=[]:=List.eq_nil_of_length_eq_zero hm
  obtain rfl:xs=[]:=List.eq_nil_of_length_eq_zero hl
  refine fin W ?_ ⟨hok,inner,hown,hr⟩ (World.grownBy.refl W _)
  have hl0:∀(x:Addr),(loadCells x 0).run P W=.ok #[] W:=fun x=>by simpa using run_loadCells_list (P:=P) W x [] (by simp)
  obtain ⟨A',c',rfl⟩:=zjw hown
  cases A' <;> cases A <;> simp [Builtin.copy_,run_underlying ht,sizeOf,typeInfo,hi,Builtin.lenOf,Builtin.firstCells,storeCells,hl0]
 ·obtain ⟨ad,hA,_⟩:=HR.2.2 hp
  subst hA
  obtain ⟨news,hnr,hnc⟩:=zbw.inner_ HR
  have hnM:zat (d.M W base okp) d.sz ys news:=hnr.imp_ (fun p c hp=>hKM p c hp)
  have hone:∀u∈news,u.oneCell'=true:=by
   intro u hu
   obtain ⟨q,hq,rfl⟩:=List.mem_iff_getElem.1 hu
   have hql:q / d.sz < ys.length:=by
    rw [Nat.div_lt_iff_lt_mul hs0]
    rw [← hnM.1]
    exact hq
   have hc:=hnM.2 (q / d.sz) _ (List.getElem?_eq_getElem hql)
   refine d.K_one (d.K_of_M hc) _ ?_
   rw [List.mem_iff_getElem?]
   refine ⟨q % d.sz,?_⟩
   rw [List.getElem?_take,if_pos (Nat.mod_lt _ hs0),List.getElem?_drop,Nat.mul_comm,Nat.div_add_mod,List.getElem?_eq_getElem hq]
  have hnl:news.length=m*d.sz:=by rw [hnM.1,hm]
  rcases hown.2 with ⟨_,hx0⟩ | ⟨g,cap,cur,rfl,hb,hh,hnc2,hcm,hcs,htake⟩
  ·omega
  have hmin:Nat.min m xs.length=m:=by rw [hl];exact Nat.min_self m
  have hle:m*d.sz≤cap*d.sz:=Nat.mul_le_mul_right _ (by omega)
  have hrun:=zgQ (P:=P) W t t o.type e d.sz g xs.length cap ad m c cur e news ht hsz hh (by rw [hmin,hnl]) hnc (by rw [hcs,hnl];exact hle) hone
  rw [hmin] at hrun
  refine fin _ hrun ⟨hok,news,⟨by rw [hnl,hm],.inr ⟨g,cap,_,by rw [hm,hl],hb,setRow_heap W g cur _ e (0,0) hh,by omega,hcm,?_,?_⟩⟩,hnM.imp_ (fun p c hp=>d.M_mono (fun k hk=>hokp k hk) (d.M_move (fun k hk=>setRow_other W g k _ ?_) hp))⟩ ⟨rfl,rfl,rfl,by simp,fun k _ hk=>setRow_other W g k _ ?_⟩
  ·simp
   omega
  ·simp [hm,hnl]
  ·intro he
   have:=(hokp k hk).2
   rw [he] at this
   exact this rfl
  ·intro he
   subst he
   exact hk rfl
end
end Go.Proofs.YteieahbadclppaaGreat.P

