/- Part 8 of 18 of the proof: the texts that it reaches, one behind the other. No condition. -/
import Derived.Test.YteieahbadclppaaGreatKi7
import Derived.Deep.RegionLawGrows
namespace Go.Proofs.YteieahbadclppaaGreat.P
open Go.RowKit Go.Proofs.YteieahbadclppaaGreatW.PrintWords Go.Proofs.YteieahbadclppaaGreatW.PrintLast Go.Proofs.YteieahbadclppaaGreatW.PrintMore
attribute [local go_sem] zI zJ zO zP zX zY z8 z9
set_option linter.unusedVariables false
set_option linter.unusedSimpArgs false
mutual
def plan_Passes.l0:Nat→List (S59)→Int→Int→Int→Int→Int→Int→Bool→Option ((List (S59))×Int)
 | 0,_,_,_,_,_,_,_,_=>none
 | k+1,x5,x6,x216000,x216001,x216002,x216003,x216004,x216005=>if 0≤x216001 then (if x6 < (shl .i64 1 x216001) then (plan_Passes.j1 k x5 x6 (x216002 != 2) x216000 x216001 x216002 x216003 x216004 x216005) else (plan_Passes.j1 k x5 x6 false x216000 x216001 x216002 x216003 x216004 x216005)) else (none)
def plan_Passes.j1:Nat→List (S59)→Int→Bool→Int→Int→Int→Int→Int→Bool→Option ((List (S59))×Int)
 | 0,_,_,_,_,_,_,_,_,_=>none
 | k+1,x5,x6,x22,x216000,x216001,x216002,x216003,x216004,x216005=>if x22=true then (if x216002=1 then (if x6 > 1 then (if x5.length < 8796093022208 then (plan_Passes.l0 k (x5++[(⟨4,x6⟩:S59)]) (wrap64 (x6*4)) x216000 x216001 x216002 x216003 x216004 x216005) else (none)) else (if (Go.bits .and .i64 x216001 1)=0 then (if x5.length < 8796093022208 then (plan_Passes.l0 k (x5++[(⟨4,x6⟩:S59)]) (wrap64 (x6*4)) x216000 x216001 x216002 x216003 x216004 x216005) else (none)) else (if x5.length < 8796093022208 then (plan_Passes.l0 k (x5++[(⟨2,x6⟩:S59)]) (wrap64 (x6*2)) x216000 x216001 x216002 x216003 x216004 x216005) else (none)))) else (if x5.length < 8796093022208 then (plan_Passes.l0 k (x5++[(⟨2,x6⟩:S59)]) (wrap64 (x6*2)) x216000 x216001 x216002 x216003 x216004 x216005) else (none))) else (some (x5,0))
end
def plan_Passes.f (k:Nat) (a0_0:Int) (a0_1:Int) (a0_2:Int) (a0_3:Int) (a0_4:Int) (a0_5:Bool):Option ((List (S59))×Int):=(plan_Check.f a0_0 a0_1 a0_2 a0_3 a0_4 a0_5).bind fun t216=>(if t216=0 then (plan_Passes.l0 k ([]:List (S59)) 1 a0_0 a0_1 a0_2 a0_3 a0_4 a0_5) else (some (([]:List (S59)),t216)))
set_option maxHeartbeats 8000000 in
set_option maxRecDepth 100000 in
theorem plan_Passes.calls (k:Nat) (a0_0:Int) (a0_1:Int) (a0_2:Int) (a0_3:Int) (a0_4:Int) (a0_5:Bool) (r1:List (S59)) (r2:Int) (w:World) (h:plan_Passes.f k a0_0 a0_1 a0_2 a0_3 a0_4 a0_5=some (r1,r2)) :
  Calls Tryz.prog 18 #[.agg #[.int .i64 a0_0,.int .i64 a0_1,.int .i64 a0_2,.int .i64 a0_3,.int .i64 a0_4,.bool a0_5]] w fun e w'=>∃v0_:Value,e=.returned (.tuple #[v0_,.int .i64 r2])∧Kd.R k59 59 w' w.heap.size (fun _=>True) v0_ r1∧Below w.heap.size w w':=by
 have hu24:=Tryz.underlying24
 have hu59:=Tryz.underlying59
 have HB:=Aside0.mk (Below.refl w.heap.size w)
 have H:((plan_Check.f a0_0 a0_1 a0_2 a0_3 a0_4 a0_5).bind fun t216=>(if t216=0 then (plan_Passes.l0 k ([]:List (S59)) 1 a0_0 a0_1 a0_2 a0_3 a0_4 a0_5) else (some (([]:List (S59)),t216))))=some (r1,r2):=h
 clear h
 replace H:=Option.bind_eq_some_iff.mp H
 obtain ⟨t216,A20,H⟩:=H
 replace H:(if t216=0 then (plan_Passes.l0 k ([]:List (S59)) 1 a0_0 a0_1 a0_2 a0_3 a0_4 a0_5) else (some (([]:List (S59)),t216)))=some (r1,r2):=H
 have A2:=Aside0.mk A20
 clear A20
 by_cases c3:t216=0
 ·rw [if_pos c3] at H
  have c3b0:(t216 == 0)=true:=beq_iff_eq.mpr c3
  have c3b1:(t216 != 0)=false:=bne_eq_false_iff_eq.mpr c3
  clear c3
  have H':=Aside0.mk H
  clear H
  go_enter Tryz.func18,Tryz.ntmps18
  go_wp2_with (first | ((with_reducible refine zg (N:=1) rfl ?_);refine ba_ 1 #[.int .i64 a0_0,.int .i64 a0_1,.int .i64 a0_2,.int .i64 a0_3,.int .i64 a0_4,.bool a0_5] 24 ?_;intro gb215 hg w4 hbox hb;have n0_:=Aside0.mk (zb (by repeat (first | (with_reducible first | exact HB.out | apply ze | apply zd | apply zh) | exact HB.out)) hb);have n1_:=Aside0.mk (hbox);have n2_:=Aside0.mk ((by rw [hg];exact (zj (by repeat (first | (with_reducible first | exact HB.out | apply ze | apply zd | apply zh) | exact HB.out))):w.heap.size≤gb215));have n3_:=Aside0.mk ((by rw [hg];exact (zj (by repeat (first | (with_reducible first | exact HB.out | apply ze | apply zd | apply zh) | exact HB.out))):w.heap.size≤gb215));clear HB;have HB:=n0_;have BK215:=n1_;have GW215:=n2_;have GE215:=n3_;clear n0_ n1_ n2_ n3_;clear hb hbox hg;have hcz5_0:w4.cell? ⟨gb215,0,none⟩=some (.int .i64 a0_0):=(zc BK215.out 0).trans rfl;have hcz5_1:w4.cell? ⟨gb215,1,none⟩=some (.int .i64 a0_1):=(zc BK215.out 1).trans rfl;have hcz5_2:w4.cell? ⟨gb215,2,none⟩=some (.int .i64 a0_2):=(zc BK215.out 2).trans rfl;have hcz5_3:w4.cell? ⟨gb215,3,none⟩=some (.int .i64 a0_3):=(zc BK215.out 3).trans rfl;have hcz5_4:w4.cell? ⟨gb215,4,none⟩=some (.int .i64 a0_4):=(zc BK215.out 4).trans rfl;have hcz5_5:w4.cell? ⟨gb215,5,none⟩=some (.bool a0_5):=(zc BK215.out 5).trans rfl;have hfz5_0:=zi BK215.out 0;have hfz5_1:=zi BK215.out 1;have hfz5_2:=zi BK215.out 2;have hfz5_3:=zi BK215.out 3;have hfz5_4:=zi BK215.out 4;have hfz5_5:=zi BK215.out 5) | ((with_reducible refine zy (f:=37) rfl ?_);refine zQ (some 9) rfl rfl Tryz.func37 (by kernel_rfl) rfl #[.agg #[.int .i64 a0_0,.int .i64 a0_1,.int .i64 a0_2,.int .i64 a0_3,.int .i64 a0_4,.bool a0_5]] rfl (by (try simp only [List.map_toArray,List.map_cons,List.map_nil]);first | done | rfl | (simp only [List.length_drop,List.length_take];rfl)) ?_;(with_reducible refine (plan_Check.calls a0_0 a0_1 a0_2 a0_3 a0_4 a0_5 t216 _ A2.out).mono ?_);rintro e w6 ⟨rfl,hb⟩;refine ⟨_,rfl,?_⟩;have n0_:=Aside0.mk (za (g:=gb215) (o:=.cells #[.int .i64 a0_0,.int .i64 a0_1,.int .i64 a0_2,.int .i64 a0_3,.int .i64 a0_4,.bool a0_5] 24 (0,0)) (by (with_reducible repeat (first | refine zn ?_ _ | refine zq ?_ | refine zm ?_ _));exact BK215.out) hb);have n1_:=Aside0.mk (zb (by repeat (first | (with_reducible first | exact HB.out | apply ze | apply zd | apply zh | refine zp ?_ GE215.out) | exact HB.out)) hb);clear BK215;clear HB;have BK215:=n0_;have HB:=n1_;clear n0_ n1_;(try clear hb);(try clear hb2);(try clear hk);(try clear hi)))
  go_loopg [5,6] k (fun kq v5 v6 w'=>∃(x5_1:List (S59)) (x6_1:Int),v6=.int .i64 x6_1∧Aside0 (plan_Passes.l0 kq x5_1 x6_1 a0_0 a0_1 a0_2 a0_3 a0_4 a0_5=some (r1,r2))∧Aside0 (kq≤k)∧Aside0 (Kd.R k59 59 w' w.heap.size (fun _=>True) v5 x5_1)∧Aside0 (w'.heap[gb215]?=some (.cells #[.int .i64 a0_0,.int .i64 a0_1,.int .i64 a0_2,.int .i64 a0_3,.int .i64 a0_4,.bool a0_5] 24 (0,0)))∧Aside0 (Below w.heap.size w w'))
  case atStart=>exact ⟨(([]:List (S59))),(1),(by first | rfl | (simp;done) | (simp [*];done)),H',⟨Nat.le_refl _⟩,⟨by first | exact Kd.R_nil _ _ _ _ _ | exact Kd.N_nil _ _ _ _ _ | exact Kd.V_nil _ _ _ _ _ | exact Kd.Q_nil _ _ _ _ _ | exact Kd.S_nil _ _ _ _ _⟩,⟨by (with_reducible repeat (first | refine zn ?_ _ | refine zq ?_ | refine zm ?_ _));exact BK215.out⟩,⟨by repeat (first | (with_reducible first | exact HB.out | apply ze | apply zd | apply zh | refine zp ?_ GE215.out) | exact HB.out)⟩⟩
  case round =>
   clear H'
   try clear c1
   try clear p2
   try clear c3
   try clear c3b0
   try clear c3b1
   try clear hcz5_0
   try clear hcz5_1
   try clear hcz5_2
   try clear hcz5_3
   try clear hcz5_4
   try clear hcz5_5
   try clear hfz5_0
   try clear hfz5_1
   try clear hfz5_2
   try clear hfz5_3
   try clear hfz5_4
   try clear hfz5_5
   obtain ⟨x5_1,x6_1,rfl,HA,HK1,HO_5,BK215,HB⟩:=hrel
   cases gk with
   | zero=>exact absurd HA.out (by simp [plan_Passes.l0])
   | succ k1 =>
    have H:=HA.out
    clear HA
    simp only [plan_Passes.l0] at H
    have HC7:=Aside0.mk H
    clear H
    go_upto_region 6 with (fail)
    go_cut [22] (fun v22 wc=>∃(kq:Nat) (x22_6:Bool),v22=.bool x22_6∧Aside0 (plan_Passes.j1 kq x5_1 x6_1 x22_6 a0_0 a0_1 a0_2 a0_3 a0_4 a0_5=some (r1,r2))∧Aside0 (kq≤k1)∧Aside0 (Kd.R k59 59 wc w.heap.size (fun _=>True) u5 x5_1)∧Aside0 (wc.heap[gb215]?=some (.cells #[.int .i64 a0_0,.int .i64 a0_1,.int .i64 a0_2,.int .i64 a0_3,.int .i64 a0_4,.bool a0_5] 24 (0,0)))∧Aside0 (Below w.heap.size w wc))
    case first =>
     have H:=HC7.out
     clear HC7
     by_cases c8:0≤a0_1
     ·rw [if_pos c8] at H
      have c8b0:=eq_true c8
      have c8b1:decide (0≤a0_1)=true:=decide_eq_true c8
      clear c8
      obtain ⟨ji9,hji9⟩:∃j_:Int,(shl .i64 1 a0_1)=j_:=⟨_,rfl⟩
      replace H:(if x6_1 < (ji9) then (plan_Passes.j1 k1 x5_1 x6_1 (a0_2 != 2) a0_0 a0_1 a0_2 a0_3 a0_4 a0_5) else (plan_Passes.j1 k1 x5_1 x6_1 false a0_0 a0_1 a0_2 a0_3 a0_4 a0_5))=some (r1,r2):=by first | (rw [hji9] at H;exact H) | (simp only [hji9] at H ⊢;exact H)
      have hji9_:(IntKind.i64.wrap (1*2^min a0_1.toNat 64))=ji9:=hji9
      have hji9z:a0_1≤64→(IntKind.i64.wrap (1*2^a0_1.toNat))=ji9:=zcj hji9
      have hji9u:(IntKind.i64.wrap (2^min a0_1.toNat 64))=ji9:=by have h_:=hji9_;rw [Int.one_mul] at h_;exact h_
      have hji9v:a0_1≤64→(IntKind.i64.wrap (2^a0_1.toNat))=ji9:=fun hle_=>by have h_:=hji9z hle_;rw [Int.one_mul] at h_;exact h_
      have hji9y:(wrap64 (1*2^min a0_1.toNat 64))=ji9:=(zL _).symm.trans hji9_
      have hji9x:a0_1≤64→(wrap64 (1*2^a0_1.toNat))=ji9:=fun h_=>(zL _).symm.trans (hji9z h_)
      by_cases c10:x6_1 < (ji9)
      ·rw [if_pos c10] at H
       have c10b0:decide (x6_1 < (ji9))=true:=decide_eq_true c10
       clear c10
       (first | rw [c10b0] | (simp only [zL,zac];rw [c10b0]) | skip)
       have H':=Aside0.mk H
       clear H
       have hcz11_0:wr.cell? ⟨gb215,0,none⟩=some (.int .i64 a0_0):=(zc BK215.out 0).trans rfl
       have hcz11_1:wr.cell? ⟨gb215,1,none⟩=some (.int .i64 a0_1):=(zc BK215.out 1).trans rfl
       have hcz11_2:wr.cell? ⟨gb215,2,none⟩=some (.int .i64 a0_2):=(zc BK215.out 2).trans rfl
       have hcz11_3:wr.cell? ⟨gb215,3,none⟩=some (.int .i64 a0_3):=(zc BK215.out 3).trans rfl
       have hcz11_4:wr.cell? ⟨gb215,4,none⟩=some (.int .i64 a0_4):=(zc BK215.out 4).trans rfl
       have hcz11_5:wr.cell? ⟨gb215,5,none⟩=some (.bool a0_5):=(zc BK215.out 5).trans rfl
       have hfz11_0:=zi BK215.out 0
       have hfz11_1:=zi BK215.out 1
       have hfz11_2:=zi BK215.out 2
       have hfz11_3:=zi BK215.out 3
       have hfz11_4:=zi BK215.out 4
       have hfz11_5:=zi BK215.out 5
       go_wp2
       go_meet
       case rel=>exact ⟨_,((a0_2 != 2)),(by first | rfl | (simp;done) | (simp [*];done)),H',⟨by have:=HK1.out;first | omega | exact Nat.le_refl _⟩,⟨by (with_reducible repeat (first | apply Kd.R_alloc | apply Kd.R_drewN | apply Kd.R_drew));exact HO_5.out⟩,⟨by (with_reducible repeat (first | refine zn ?_ _ | refine zq ?_ | refine zm ?_ _));exact BK215.out⟩,⟨by repeat (first | (with_reducible first | exact HB.out | apply ze | apply zd | apply zh | refine zp ?_ GE215.out) | exact HB.out)⟩⟩
      ·rw [if_neg c10] at H
       have c10b0:decide (x6_1 < (ji9))=false:=decide_eq_false c10
       clear c10
       (first | rw [c10b0] | (simp only [zL,zac];rw [c10b0]) | skip)
       have H':=Aside0.mk H
       clear H
       have hcz12_0:wr.cell? ⟨gb215,0,none⟩=some (.int .i64 a0_0):=(zc BK215.out 0).trans rfl
       have hcz12_1:wr.cell? ⟨gb215,1,none⟩=some (.int .i64 a0_1):=(zc BK215.out 1).trans rfl
       have hcz12_2:wr.cell? ⟨gb215,2,none⟩=some (.int .i64 a0_2):=(zc BK215.out 2).trans rfl
       have hcz12_3:wr.cell? ⟨gb215,3,none⟩=some (.int .i64 a0_3):=(zc BK215.out 3).trans rfl
       have hcz12_4:wr.cell? ⟨gb215,4,none⟩=some (.int .i64 a0_4):=(zc BK215.out 4).trans rfl
       have hcz12_5:wr.cell? ⟨gb215,5,none⟩=some (.bool a0_5):=(zc BK215.out 5).trans rfl
       have hfz12_0:=zi BK215.out 0
       have hfz12_1:=zi BK215.out 1
       have hfz12_2:=zi BK215.out 2
       have hfz12_3:=zi BK215.out 3
       have hfz12_4:=zi BK215.out 4
       have hfz12_5:=zi BK215.out 5
       go_wp2
       go_meet
       case rel=>exact ⟨_,(false),(by first | rfl | (simp;done) | (simp [*];done)),H',⟨by have:=HK1.out;first | omega | exact Nat.le_refl _⟩,⟨by (with_reducible repeat (first | apply Kd.R_alloc | apply Kd.R_drewN | apply Kd.R_drew));exact HO_5.out⟩,⟨by (with_reducible repeat (first | refine zn ?_ _ | refine zq ?_ | refine zm ?_ _));exact BK215.out⟩,⟨by repeat (first | (with_reducible first | exact HB.out | apply ze | apply zd | apply zh | refine zp ?_ GE215.out) | exact HB.out)⟩⟩
     ·rw [if_neg c8] at H
      exact absurd H (by simp)
    case rest =>
     clear HC7
     try clear c1
     try clear p2
     try clear c3
     try clear c3b0
     try clear c3b1
     try clear p6
     try clear c8
     try clear c8b0
     try clear c8b1
     try clear c10
     try clear c10b0
     try clear hcz11_0
     try clear hcz11_1
     try clear hcz11_2
     try clear hcz11_3
     try clear hcz11_4
     try clear hcz11_5
     try clear hcz12_0
     try clear hcz12_1
     try clear hcz12_2
     try clear hcz12_3
     try clear hcz12_4
     try clear hcz12_5
     try clear hcz5_0
     try clear hcz5_1
     try clear hcz5_2
     try clear hcz5_3
     try clear hcz5_4
     try clear hcz5_5
     try clear hfz11_0
     try clear hfz11_1
     try clear hfz11_2
     try clear hfz11_3
     try clear hfz11_4
     try clear hfz11_5
     try clear hfz12_0
     try clear hfz12_1
     try clear hfz12_2
     try clear hfz12_3
     try clear hfz12_4
     try clear hfz12_5
     try clear hfz5_0
     try clear hfz5_1
     try clear hfz5_2
     try clear hfz5_3
     try clear hfz5_4
     try clear hfz5_5
     try clear p2
     obtain ⟨kq,x22_6,rfl,HA,HJ6,HO_5,BK215,HB⟩:=hcut
     cases kq with
     | zero=>exact absurd HA.out (by simp [plan_Passes.j1])
     | succ kj6 =>
      have H:=HA.out
      clear HA
      simp only [plan_Passes.j1] at H
      by_cases c13:x22_6=true
      ·subst c13
       have H1:(if a0_2=1 then (if x6_1 > 1 then (if x5_1.length < 8796093022208 then (plan_Passes.l0 kj6 (x5_1++[(⟨4,x6_1⟩:S59)]) (wrap64 (x6_1*4)) a0_0 a0_1 a0_2 a0_3 a0_4 a0_5) else (none)) else (if (Go.bits .and .i64 a0_1 1)=0 then (if x5_1.length < 8796093022208 then (plan_Passes.l0 kj6 (x5_1++[(⟨4,x6_1⟩:S59)]) (wrap64 (x6_1*4)) a0_0 a0_1 a0_2 a0_3 a0_4 a0_5) else (none)) else (if x5_1.length < 8796093022208 then (plan_Passes.l0 kj6 (x5_1++[(⟨2,x6_1⟩:S59)]) (wrap64 (x6_1*2)) a0_0 a0_1 a0_2 a0_3 a0_4 a0_5) else (none)))) else (if x5_1.length < 8796093022208 then (plan_Passes.l0 kj6 (x5_1++[(⟨2,x6_1⟩:S59)]) (wrap64 (x6_1*2)) a0_0 a0_1 a0_2 a0_3 a0_4 a0_5) else (none)))=some (r1,r2):=by rw [if_pos rfl] at H;exact H
       clear H
       have H:=H1
       clear H1
       by_cases c14:a0_2=1
       ·rw [if_pos c14] at H
        have c14b0:(a0_2 == 1)=true:=beq_iff_eq.mpr c14
        have c14b1:(a0_2 != 1)=false:=bne_eq_false_iff_eq.mpr c14
        clear c14
        by_cases c15:x6_1 > 1
        ·rw [if_pos c15] at H
         have c15b0:decide (1 < x6_1)=true:=decide_eq_true c15
         clear c15
         by_cases c16:x5_1.length < 8796093022208
         ·rw [if_pos c16] at H
          have LMc16:=Aside0.mk c16
          clear c16
          obtain ⟨y217,hy217⟩:∃y_:List (S59),y_=(x5_1++[(⟨4,x6_1⟩:S59)]):=⟨_,rfl⟩
          replace H:(plan_Passes.l0 kj6 y217 (wrap64 (x6_1*4)) a0_0 a0_1 a0_2 a0_3 a0_4 a0_5)=some (r1,r2):=by first | (rw [hy217];with_reducible exact H) | (have H2_:=(Option.bind_some _ _).symm.trans H;rw [hy217];with_reducible exact H2_) | (have H2_:=(Option.bind_some _ _).symm.trans H;with_reducible exact H2_) | with_reducible exact H | (rw [hy217];exact H) | exact H
          have Ny217:=Aside0.mk hy217
          clear hy217
          have H':=Aside0.mk H
          clear H
          have hcz17_0:wc.cell? ⟨gb215,0,none⟩=some (.int .i64 a0_0):=(zc BK215.out 0).trans rfl
          have hcz17_1:wc.cell? ⟨gb215,1,none⟩=some (.int .i64 a0_1):=(zc BK215.out 1).trans rfl
          have hcz17_2:wc.cell? ⟨gb215,2,none⟩=some (.int .i64 a0_2):=(zc BK215.out 2).trans rfl
          have hcz17_3:wc.cell? ⟨gb215,3,none⟩=some (.int .i64 a0_3):=(zc BK215.out 3).trans rfl
          have hcz17_4:wc.cell? ⟨gb215,4,none⟩=some (.int .i64 a0_4):=(zc BK215.out 4).trans rfl
          have hcz17_5:wc.cell? ⟨gb215,5,none⟩=some (.bool a0_5):=(zc BK215.out 5).trans rfl
          have hfz17_0:=zi BK215.out 0
          have hfz17_1:=zi BK215.out 1
          have hfz17_2:=zi BK215.out 2
          have hfz17_3:=zi BK215.out 3
          have hfz17_4:=zi BK215.out 4
          have hfz17_5:=zi BK215.out 5
          go_wp2_with (first | ((with_reducible refine zaC (b:=.append) (xs:=#[.tmp 36,.tmp 40]) rfl ?_);at_builtin;refine Kd.R_append k59 (w0:=w) w.heap.size rfl (.tmp 36) (.tmp 40) 50 59 (.agg #[(.int .i64 0),(.int .i64 0)]) 16 rfl Tryz.underlying50 zfw rfl (by decide) (by omega) u5 x5_1 (⟨4,x6_1⟩:S59) [.int .i64 4,.int .i64 x6_1] (fun _=>True) (fun _=>False) rfl rfl ?aP (fun _ hk=>hk.elim) ?aF ?aO ?aB ?aS ?aL ?_;(case aP=>exact zeO _ _ _ (⟨4,x6_1⟩:S59));(case aB=>exact (by repeat (first | (with_reducible first | exact HB.out | apply ze | apply zd | apply zh | refine zp ?_ GE215.out) | exact HB.out)));(case aF=>exact (fun _ _=>trivial));(case aO=>exact (by (with_reducible repeat (first | apply Kd.R_alloc | apply Kd.R_drewN | apply Kd.R_drew));exact HO_5.out));(case aS=>exact (zj (by repeat (first | (with_reducible first | exact HB.out | apply ze | apply zd | apply zh | refine zp ?_ GE215.out) | exact HB.out))));(case aL=>have:=LMc16.out;omega);intro v218 w18 ho hb hg hat;rw [← Ny217.out] at ho;have n0_:=Aside0.mk (zcO (g:=gb215) (o:=.cells #[.int .i64 a0_0,.int .i64 a0_1,.int .i64 a0_2,.int .i64 a0_3,.int .i64 a0_4,.bool a0_5] 24 (0,0)) (by (with_reducible repeat (first | refine zn ?_ _ | refine zq ?_ | refine zm ?_ _));exact BK215.out) hg (Kd.R_ne HO_5.out BK215.out (by decide)));have n1_:=Aside0.mk (hb);have n2_:=Aside0.mk (ho);clear BK215;clear HB;clear HO_5;have BK215:=n0_;have HB:=n1_;have HO219:=n2_;clear n0_ n1_ n2_;clear ho hb hg hat))
          go_roundg kj6
          case measure=>have:=HK1.out;have:=HJ6.out;omega
          case rel=>exact ⟨(y217),(wrap64 (x6_1*4)),(by first | rfl | (simp;done) | (simp [*];done)),H',⟨by have:=HK1.out;have:=HJ6.out;omega⟩,⟨by (with_reducible repeat (first | apply Kd.R_alloc | apply Kd.R_drewN | apply Kd.R_drew));exact HO219.out⟩,⟨by (with_reducible repeat (first | refine zn ?_ _ | refine zq ?_ | refine zm ?_ _));exact BK215.out⟩,⟨by repeat (first | (with_reducible first | exact HB.out | apply ze | apply zd | apply zh | refine zp ?_ GE215.out) | exact HB.out)⟩⟩
         ·rw [if_neg c16] at H
          exact absurd H (by simp)
        ·rw [if_neg c15] at H
         have c15b0:decide (1 < x6_1)=false:=decide_eq_false c15
         clear c15
         by_cases c19:(Go.bits .and .i64 a0_1 1)=0
         ·rw [if_pos c19] at H
          have c19b0:((Go.bits .and .i64 a0_1 1) == 0)=true:=beq_iff_eq.mpr c19
          have c19b1:((Go.bits .and .i64 a0_1 1) != 0)=false:=bne_eq_false_iff_eq.mpr c19
          clear c19
          by_cases c20:x5_1.length < 8796093022208
          ·rw [if_pos c20] at H
           have LMc20:=Aside0.mk c20
           clear c20
           obtain ⟨y220,hy220⟩:∃y_:List (S59),y_=(x5_1++[(⟨4,x6_1⟩:S59)]):=⟨_,rfl⟩
           replace H:(plan_Passes.l0 kj6 y220 (wrap64 (x6_1*4)) a0_0 a0_1 a0_2 a0_3 a0_4 a0_5)=some (r1,r2):=by first | (rw [hy220];with_reducible exact H) | (have H2_:=(Option.bind_some _ _).symm.trans H;rw [hy220];with_reducible exact H2_) | (have H2_:=(Option.bind_some _ _).symm.trans H;with_reducible exact H2_) | with_reducible exact H | (rw [hy220];exact H) | exact H
           have Ny220:=Aside0.mk hy220
           clear hy220
           have H':=Aside0.mk H
           clear H
           have hcz21_0:wc.cell? ⟨gb215,0,none⟩=some (.int .i64 a0_0):=(zc BK215.out 0).trans rfl
           have hcz21_1:wc.cell? ⟨gb215,1,none⟩=some (.int .i64 a0_1):=(zc BK215.out 1).trans rfl
           have hcz21_2:wc.cell? ⟨gb215,2,none⟩=some (.int .i64 a0_2):=(zc BK215.out 2).trans rfl
           have hcz21_3:wc.cell? ⟨gb215,3,none⟩=some (.int .i64 a0_3):=(zc BK215.out 3).trans rfl
           have hcz21_4:wc.cell? ⟨gb215,4,none⟩=some (.int .i64 a0_4):=(zc BK215.out 4).trans rfl
           have hcz21_5:wc.cell? ⟨gb215,5,none⟩=some (.bool a0_5):=(zc BK215.out 5).trans rfl
           have hfz21_0:=zi BK215.out 0
           have hfz21_1:=zi BK215.out 1
           have hfz21_2:=zi BK215.out 2
           have hfz21_3:=zi BK215.out 3
           have hfz21_4:=zi BK215.out 4
           have hfz21_5:=zi BK215.out 5
           go_wp2_with (first | ((with_reducible refine zaC (b:=.append) (xs:=#[.tmp 36,.tmp 40]) rfl ?_);at_builtin;refine Kd.R_append k59 (w0:=w) w.heap.size rfl (.tmp 36) (.tmp 40) 50 59 (.agg #[(.int .i64 0),(.int .i64 0)]) 16 rfl Tryz.underlying50 zfw rfl (by decide) (by omega) u5 x5_1 (⟨4,x6_1⟩:S59) [.int .i64 4,.int .i64 x6_1] (fun _=>True) (fun _=>False) rfl rfl ?aP (fun _ hk=>hk.elim) ?aF ?aO ?aB ?aS ?aL ?_;(case aP=>exact zeO _ _ _ (⟨4,x6_1⟩:S59));(case aB=>exact (by repeat (first | (with_reducible first | exact HB.out | apply ze | apply zd | apply zh | refine zp ?_ GE215.out) | exact HB.out)));(case aF=>exact (fun _ _=>trivial));(case aO=>exact (by (with_reducible repeat (first | apply Kd.R_alloc | apply Kd.R_drewN | apply Kd.R_drew));exact HO_5.out));(case aS=>exact (zj (by repeat (first | (with_reducible first | exact HB.out | apply ze | apply zd | apply zh | refine zp ?_ GE215.out) | exact HB.out))));(case aL=>have:=LMc20.out;omega);intro v221 w22 ho hb hg hat;rw [← Ny220.out] at ho;have n0_:=Aside0.mk (zcO (g:=gb215) (o:=.cells #[.int .i64 a0_0,.int .i64 a0_1,.int .i64 a0_2,.int .i64 a0_3,.int .i64 a0_4,.bool a0_5] 24 (0,0)) (by (with_reducible repeat (first | refine zn ?_ _ | refine zq ?_ | refine zm ?_ _));exact BK215.out) hg (Kd.R_ne HO_5.out BK215.out (by decide)));have n1_:=Aside0.mk (hb);have n2_:=Aside0.mk (ho);clear BK215;clear HB;clear HO_5;have BK215:=n0_;have HB:=n1_;have HO222:=n2_;clear n0_ n1_ n2_;clear ho hb hg hat))
           go_roundg kj6
           case measure=>have:=HK1.out;have:=HJ6.out;omega
           case rel=>exact ⟨(y220),(wrap64 (x6_1*4)),(by first | rfl | (simp;done) | (simp [*];done)),H',⟨by have:=HK1.out;have:=HJ6.out;omega⟩,⟨by (with_reducible repeat (first | apply Kd.R_alloc | apply Kd.R_drewN | apply Kd.R_drew));exact HO222.out⟩,⟨by (with_reducible repeat (first | refine zn ?_ _ | refine zq ?_ | refine zm ?_ _));exact BK215.out⟩,⟨by repeat (first | (with_reducible first | exact HB.out | apply ze | apply zd | apply zh | refine zp ?_ GE215.out) | exact HB.out)⟩⟩
          ·rw [if_neg c20] at H
           exact absurd H (by simp)
         ·rw [if_neg c19] at H
          have c19b0:((Go.bits .and .i64 a0_1 1) == 0)=false:=beq_eq_false_iff_ne.mpr c19
          have c19b1:((Go.bits .and .i64 a0_1 1) != 0)=true:=bne_iff_ne.mpr c19
          by_cases c23:x5_1.length < 8796093022208
          ·rw [if_pos c23] at H
           have LMc23:=Aside0.mk c23
           clear c23
           obtain ⟨y223,hy223⟩:∃y_:List (S59),y_=(x5_1++[(⟨2,x6_1⟩:S59)]):=⟨_,rfl⟩
           replace H:(plan_Passes.l0 kj6 y223 (wrap64 (x6_1*2)) a0_0 a0_1 a0_2 a0_3 a0_4 a0_5)=some (r1,r2):=by first | (rw [hy223];with_reducible exact H) | (have H2_:=(Option.bind_some _ _).symm.trans H;rw [hy223];with_reducible exact H2_) | (have H2_:=(Option.bind_some _ _).symm.trans H;with_reducible exact H2_) | with_reducible exact H | (rw [hy223];exact H) | exact H
           have Ny223:=Aside0.mk hy223
           clear hy223
           have H':=Aside0.mk H
           clear H
           have hcz24_0:wc.cell? ⟨gb215,0,none⟩=some (.int .i64 a0_0):=(zc BK215.out 0).trans rfl
           have hcz24_1:wc.cell? ⟨gb215,1,none⟩=some (.int .i64 a0_1):=(zc BK215.out 1).trans rfl
           have hcz24_2:wc.cell? ⟨gb215,2,none⟩=some (.int .i64 a0_2):=(zc BK215.out 2).trans rfl
           have hcz24_3:wc.cell? ⟨gb215,3,none⟩=some (.int .i64 a0_3):=(zc BK215.out 3).trans rfl
           have hcz24_4:wc.cell? ⟨gb215,4,none⟩=some (.int .i64 a0_4):=(zc BK215.out 4).trans rfl
           have hcz24_5:wc.cell? ⟨gb215,5,none⟩=some (.bool a0_5):=(zc BK215.out 5).trans rfl
           have hfz24_0:=zi BK215.out 0
           have hfz24_1:=zi BK215.out 1
           have hfz24_2:=zi BK215.out 2
           have hfz24_3:=zi BK215.out 3
           have hfz24_4:=zi BK215.out 4
           have hfz24_5:=zi BK215.out 5
           go_wp2_with (first | ((with_reducible refine zaC (b:=.append) (xs:=#[.tmp 36,.tmp 40]) rfl ?_);at_builtin;refine Kd.R_append k59 (w0:=w) w.heap.size rfl (.tmp 36) (.tmp 40) 50 59 (.agg #[(.int .i64 0),(.int .i64 0)]) 16 rfl Tryz.underlying50 zfw rfl (by decide) (by omega) u5 x5_1 (⟨2,x6_1⟩:S59) [.int .i64 2,.int .i64 x6_1] (fun _=>True) (fun _=>False) rfl rfl ?aP (fun _ hk=>hk.elim) ?aF ?aO ?aB ?aS ?aL ?_;(case aP=>exact zeO _ _ _ (⟨2,x6_1⟩:S59));(case aB=>exact (by repeat (first | (with_reducible first | exact HB.out | apply ze | apply zd | apply zh | refine zp ?_ GE215.out) | exact HB.out)));(case aF=>exact (fun _ _=>trivial));(case aO=>exact (by (with_reducible repeat (first | apply Kd.R_alloc | apply Kd.R_drewN | apply Kd.R_drew));exact HO_5.out));(case aS=>exact (zj (by repeat (first | (with_reducible first | exact HB.out | apply ze | apply zd | apply zh | refine zp ?_ GE215.out) | exact HB.out))));(case aL=>have:=LMc23.out;omega);intro v224 w25 ho hb hg hat;rw [← Ny223.out] at ho;have n0_:=Aside0.mk (zcO (g:=gb215) (o:=.cells #[.int .i64 a0_0,.int .i64 a0_1,.int .i64 a0_2,.int .i64 a0_3,.int .i64 a0_4,.bool a0_5] 24 (0,0)) (by (with_reducible repeat (first | refine zn ?_ _ | refine zq ?_ | refine zm ?_ _));exact BK215.out) hg (Kd.R_ne HO_5.out BK215.out (by decide)));have n1_:=Aside0.mk (hb);have n2_:=Aside0.mk (ho);clear BK215;clear HB;clear HO_5;have BK215:=n0_;have HB:=n1_;have HO225:=n2_;clear n0_ n1_ n2_;clear ho hb hg hat))
           go_roundg kj6
           case measure=>have:=HK1.out;have:=HJ6.out;omega
           case rel=>exact ⟨(y223),(wrap64 (x6_1*2)),(by first | rfl | (simp;done) | (simp [*];done)),H',⟨by have:=HK1.out;have:=HJ6.out;omega⟩,⟨by (with_reducible repeat (first | apply Kd.R_alloc | apply Kd.R_drewN | apply Kd.R_drew));exact HO225.out⟩,⟨by (with_reducible repeat (first | refine zn ?_ _ | refine zq ?_ | refine zm ?_ _));exact BK215.out⟩,⟨by repeat (first | (with_reducible first | exact HB.out | apply ze | apply zd | apply zh | refine zp ?_ GE215.out) | exact HB.out)⟩⟩
          ·rw [if_neg c23] at H
           exact absurd H (by simp)
       ·rw [if_neg c14] at H
        have c14b0:(a0_2 == 1)=false:=beq_eq_false_iff_ne.mpr c14
        have c14b1:(a0_2 != 1)=true:=bne_iff_ne.mpr c14
        by_cases c26:x5_1.length < 8796093022208
        ·rw [if_pos c26] at H
         have LMc26:=Aside0.mk c26
         clear c26
         obtain ⟨y226,hy226⟩:∃y_:List (S59),y_=(x5_1++[(⟨2,x6_1⟩:S59)]):=⟨_,rfl⟩
         replace H:(plan_Passes.l0 kj6 y226 (wrap64 (x6_1*2)) a0_0 a0_1 a0_2 a0_3 a0_4 a0_5)=some (r1,r2):=by first | (rw [hy226];with_reducible exact H) | (have H2_:=(Option.bind_some _ _).symm.trans H;rw [hy226];with_reducible exact H2_) | (have H2_:=(Option.bind_some _ _).symm.trans H;with_reducible exact H2_) | with_reducible exact H | (rw [hy226];exact H) | exact H
         have Ny226:=Aside0.mk hy226
         clear hy226
         have H':=Aside0.mk H
         clear H
         have hcz27_0:wc.cell? ⟨gb215,0,none⟩=some (.int .i64 a0_0):=(zc BK215.out 0).trans rfl
         have hcz27_1:wc.cell? ⟨gb215,1,none⟩=some (.int .i64 a0_1):=(zc BK215.out 1).trans rfl
         have hcz27_2:wc.cell? ⟨gb215,2,none⟩=some (.int .i64 a0_2):=(zc BK215.out 2).trans rfl
         have hcz27_3:wc.cell? ⟨gb215,3,none⟩=some (.int .i64 a0_3):=(zc BK215.out 3).trans rfl
         have hcz27_4:wc.cell? ⟨gb215,4,none⟩=some (.int .i64 a0_4):=(zc BK215.out 4).trans rfl
         have hcz27_5:wc.cell? ⟨gb215,5,none⟩=some (.bool a0_5):=(zc BK215.out 5).trans rfl
         have hfz27_0:=zi BK215.out 0
         have hfz27_1:=zi BK215.out 1
         have hfz27_2:=zi BK215.out 2
         have hfz27_3:=zi BK215.out 3
         have hfz27_4:=zi BK215.out 4
         have hfz27_5:=zi BK215.out 5
         go_wp2_with (first | ((with_reducible refine zaC (b:=.append) (xs:=#[.tmp 36,.tmp 40]) rfl ?_);at_builtin;refine Kd.R_append k59 (w0:=w) w.heap.size rfl (.tmp 36) (.tmp 40) 50 59 (.agg #[(.int .i64 0),(.int .i64 0)]) 16 rfl Tryz.underlying50 zfw rfl (by decide) (by omega) u5 x5_1 (⟨2,x6_1⟩:S59) [.int .i64 2,.int .i64 x6_1] (fun _=>True) (fun _=>False) rfl rfl ?aP (fun _ hk=>hk.elim) ?aF ?aO ?aB ?aS ?aL ?_;(case aP=>exact zeO _ _ _ (⟨2,x6_1⟩:S59));(case aB=>exact (by repeat (first | (with_reducible first | exact HB.out | apply ze | apply zd | apply zh | refine zp ?_ GE215.out) | exact HB.out)));(case aF=>exact (fun _ _=>trivial));(case aO=>exact (by (with_reducible repeat (first | apply Kd.R_alloc | apply Kd.R_drewN | apply Kd.R_drew));exact HO_5.out));(case aS=>exact (zj (by repeat (first | (with_reducible first | exact HB.out | apply ze | apply zd | apply zh | refine zp ?_ GE215.out) | exact HB.out))));(case aL=>have:=LMc26.out;omega);intro v227 w28 ho hb hg hat;rw [← Ny226.out] at ho;have n0_:=Aside0.mk (zcO (g:=gb215) (o:=.cells #[.int .i64 a0_0,.int .i64 a0_1,.int .i64 a0_2,.int .i64 a0_3,.int .i64 a0_4,.bool a0_5] 24 (0,0)) (by (with_reducible repeat (first | refine zn ?_ _ | refine zq ?_ | refine zm ?_ _));exact BK215.out) hg (Kd.R_ne HO_5.out BK215.out (by decide)));have n1_:=Aside0.mk (hb);have n2_:=Aside0.mk (ho);clear BK215;clear HB;clear HO_5;have BK215:=n0_;have HB:=n1_;have HO228:=n2_;clear n0_ n1_ n2_;clear ho hb hg hat))
         go_roundg kj6
         case measure=>have:=HK1.out;have:=HJ6.out;omega
         case rel=>exact ⟨(y226),(wrap64 (x6_1*2)),(by first | rfl | (simp;done) | (simp [*];done)),H',⟨by have:=HK1.out;have:=HJ6.out;omega⟩,⟨by (with_reducible repeat (first | apply Kd.R_alloc | apply Kd.R_drewN | apply Kd.R_drew));exact HO228.out⟩,⟨by (with_reducible repeat (first | refine zn ?_ _ | refine zq ?_ | refine zm ?_ _));exact BK215.out⟩,⟨by repeat (first | (with_reducible first | exact HB.out | apply ze | apply zd | apply zh | refine zp ?_ GE215.out) | exact HB.out)⟩⟩
        ·rw [if_neg c26] at H
         exact absurd H (by simp)
      ·replace c13:=Bool.eq_false_iff.mpr c13
       subst c13
       have H1:(some (x5_1,0))=some (r1,r2):=by rw [if_neg (show ¬(false=true) by decide)] at H;exact H
       clear H
       have H:=H1
       clear H1
       simp only [Option.some.injEq,Prod.mk.injEq] at H
       obtain ⟨rfl,rfl⟩:=H
       go_wp2
       go_ret2
       exact ⟨_,by first | rfl | (simp [zr,zt] <;> rfl) | (simp [*,zr,zt] <;> rfl),by (with_reducible repeat (first | apply Kd.R_alloc | apply Kd.R_drewN | apply Kd.R_drew));exact HO_5.out,by repeat (first | (with_reducible first | exact HB.out | apply ze | apply zd | apply zh | refine zp ?_ GE215.out) | exact HB.out)⟩
 ·rw [if_neg c3] at H
  have c3b0:(t216 == 0)=false:=beq_eq_false_iff_ne.mpr c3
  have c3b1:(t216 != 0)=true:=bne_iff_ne.mpr c3
  simp only [Option.some.injEq,Prod.mk.injEq] at H
  obtain ⟨rfl,rfl⟩:=H
  go_enter Tryz.func18,Tryz.ntmps18
  go_wp2_with (first | ((with_reducible refine zg (N:=1) rfl ?_);refine ba_ 1 #[.int .i64 a0_0,.int .i64 a0_1,.int .i64 a0_2,.int .i64 a0_3,.int .i64 a0_4,.bool a0_5] 24 ?_;intro gb215 hg w29 hbox hb;have n0_:=Aside0.mk (zb (by repeat (first | (with_reducible first | exact HB.out | apply ze | apply zd | apply zh) | exact HB.out)) hb);have n1_:=Aside0.mk (hbox);have n2_:=Aside0.mk ((by rw [hg];exact (zj (by repeat (first | (with_reducible first | exact HB.out | apply ze | apply zd | apply zh) | exact HB.out))):w.heap.size≤gb215));have n3_:=Aside0.mk ((by rw [hg];exact (zj (by repeat (first | (with_reducible first | exact HB.out | apply ze | apply zd | apply zh) | exact HB.out))):w.heap.size≤gb215));clear HB;have HB:=n0_;have BK215:=n1_;have GW215:=n2_;have GE215:=n3_;clear n0_ n1_ n2_ n3_;clear hb hbox hg;have hcz30_0:w29.cell? ⟨gb215,0,none⟩=some (.int .i64 a0_0):=(zc BK215.out 0).trans rfl;have hcz30_1:w29.cell? ⟨gb215,1,none⟩=some (.int .i64 a0_1):=(zc BK215.out 1).trans rfl;have hcz30_2:w29.cell? ⟨gb215,2,none⟩=some (.int .i64 a0_2):=(zc BK215.out 2).trans rfl;have hcz30_3:w29.cell? ⟨gb215,3,none⟩=some (.int .i64 a0_3):=(zc BK215.out 3).trans rfl;have hcz30_4:w29.cell? ⟨gb215,4,none⟩=some (.int .i64 a0_4):=(zc BK215.out 4).trans rfl;have hcz30_5:w29.cell? ⟨gb215,5,none⟩=some (.bool a0_5):=(zc BK215.out 5).trans rfl;have hfz30_0:=zi BK215.out 0;have hfz30_1:=zi BK215.out 1;have hfz30_2:=zi BK215.out 2;have hfz30_3:=zi BK215.out 3;have hfz30_4:=zi BK215.out 4;have hfz30_5:=zi BK215.out 5) | ((with_reducible refine zy (f:=37) rfl ?_);refine zQ (some 9) rfl rfl Tryz.func37 (by kernel_rfl) rfl #[.agg #[.int .i64 a0_0,.int .i64 a0_1,.int .i64 a0_2,.int .i64 a0_3,.int .i64 a0_4,.bool a0_5]] rfl (by (try simp only [List.map_toArray,List.map_cons,List.map_nil]);first | done | rfl | (simp only [List.length_drop,List.length_take];rfl)) ?_;(with_reducible refine (plan_Check.calls a0_0 a0_1 a0_2 a0_3 a0_4 a0_5 t216 _ A2.out).mono ?_);rintro e w31 ⟨rfl,hb⟩;refine ⟨_,rfl,?_⟩;have n0_:=Aside0.mk (za (g:=gb215) (o:=.cells #[.int .i64 a0_0,.int .i64 a0_1,.int .i64 a0_2,.int .i64 a0_3,.int .i64 a0_4,.bool a0_5] 24 (0,0)) (by (with_reducible repeat (first | refine zn ?_ _ | refine zq ?_ | refine zm ?_ _));exact BK215.out) hb);have n1_:=Aside0.mk (zb (by repeat (first | (with_reducible first | exact HB.out | apply ze | apply zd | apply zh | refine zp ?_ GE215.out) | exact HB.out)) hb);clear BK215;clear HB;have BK215:=n0_;have HB:=n1_;clear n0_ n1_;(try clear hb);(try clear hb2);(try clear hk);(try clear hi)))
  go_ret2
  exact ⟨_,by first | rfl | (simp [zr,zt] <;> rfl) | (simp [*,zr,zt] <;> rfl),by first | exact Kd.R_nil _ _ _ _ _ | exact Kd.N_nil _ _ _ _ _ | exact Kd.V_nil _ _ _ _ _ | exact Kd.Q_nil _ _ _ _ _ | exact Kd.S_nil _ _ _ _ _,by repeat (first | (with_reducible first | exact HB.out | apply ze | apply zd | apply zh | refine zp ?_ GE215.out) | exact HB.out)⟩

end Go.Proofs.YteieahbadclppaaGreat.P

namespace Go.Proofs.YteieahbadclppaaGreat.P
open Go.RowKit Go.Proofs.YteieahbadclppaaGreatW.PrintWords Go.Proofs.YteieahbadclppaaGreatW.PrintLast Go.Proofs.YteieahbadclppaaGreatW.PrintMore
attribute [local go_sem] zI zJ zO zP
set_option linter.unusedVariables false
set_option linter.unusedSimpArgs false
theorem zeV (a b:Value):(Tryz.prog.info? 59).map (·.size)=some (#[a,b]:Array Value).size:=by kernel_rfl
def zb9 (RUN:Option Addr→Nat→Array Value) (L:List S38) (n k:Nat) (Y Y':List S38) (e e':Int) (ps:S59):Prop :=
 ∀(W:World) (Ax:Option Addr) (cx:Nat) (As:Option Addr) (cs:Nat) (sh:List Int) (Aw:Option Addr) (cw:Nat),Kd.C k38 W Ax Y.length Y→Y.length≤cx→Kd.C (Kd.int .i64) W As sh.length sh→sh.length≤cs→sh.length=k→Kd.C k38 W Aw L.length L→L.length≤cw →
  Calls Tryz.prog 20 #[.agg (RUN Aw cw),.agg #[.slice Ax n cx,.int .i64 e,.bool false,.slice As k cs],.agg #[.int .i64 ps.f0,.int .i64 ps.f1]] W fun r w'=>∃A' c' As' cs' sh',r=.returned (.agg #[.slice A' n c',.int .i64 e',.bool false,.slice As' (k+1) cs'])∧Kd.R k38 38 w' W.heap.size (fun _=>True) (.slice A' n c') Y'∧Kd.R (Kd.int .i64) 3 w' W.heap.size (fun _=>True) (.slice As' (k+1) cs') sh'∧Below W.heap.size W w'
theorem zdV {e base:Nat} {ok:Nat→Prop} {w:World} {A:Option Addr} {n c:Nat} {xs:List Int} (h:Kd.R (Kd.int .i64) e w base ok (.slice A n c) xs):xs.length=n∧xs.length≤c∧Kd.C (Kd.int .i64) w A xs.length xs:=by
 obtain ⟨A',c',hv,h1,h2⟩:=Kd.R_reads h
 injection hv with e1 e2 e3
 subst e1;subst e3
 exact ⟨e2.symm,h1,h2⟩
theorem zj1 {α:Type} {d:Kd α} (hE:d.E=[]) {e base g:Nat} {ok:Nat→Prop} {W w1:World} {v:Value} {xs:List α} (h:d.R e W base ok v xs) (hw:∀k,k≠g→w1.heap[k]?=W.heap[k]?) (hne:some g≠v.ownBlock):d.R e w1 base ok v xs :=
 Kd.R_mono (Kd.R_step (Kd.R_tight hE h) (fun k hk _=>hw k (fun e_=>hne (by rw [← e_];exact hk)))) (fun k hk=>h.1 k hk.symm)
theorem zlF {e base:Nat} {ok:Nat→Prop} {w:World} {A:Option Addr} {n c:Nat} {xs:List S59} (h:Kd.R k59 e w base ok (.slice A n c) xs):Kd.C k59 w A xs.length xs:=by
 obtain ⟨A',c',hv,h1,h2⟩:=Kd.R_reads h
 injection hv with e1 e2 e3
 subst e1
 exact h2
theorem zlG {e base:Nat} {ok:Nat→Prop} {w:World} {A:Option Addr} {n c:Nat} {xs:List S38} (h:Kd.R k38 e w base ok (.slice A n c) xs):xs.length=n:=by
 obtain ⟨A',c',hv,h1,h2⟩:=Kd.R_reads h
 injection hv with e1 e2 e3
 exact e2.symm
theorem zb9.go {RUN:Option Addr→Nat→Array Value} {L:List S38} {n k:Nat} {Y Y':List S38} {e e':Int} {ps:S59} (h:zb9 RUN L n k Y Y' e e' ps) {b1 b2 b3 cx cs cw:Nat} {o1 o2 o3:Nat→Prop} {W:World} {Ax As Aw:Option Addr} {sh:List Int}
  (hy:Kd.R k38 38 W b1 o1 (.slice Ax n cx) Y) (hs:Kd.R (Kd.int .i64) 3 W b2 o2 (.slice As k cs) sh) (hw:Kd.R k38 38 W b3 o3 (.slice Aw L.length cw) L) :
  Calls Tryz.prog 20 #[.agg (RUN Aw cw),.agg #[.slice Ax n cx,.int .i64 e,.bool false,.slice As k cs],.agg #[.int .i64 ps.f0,.int .i64 ps.f1]] W fun r w'=>∃A' c' As' cs' sh',r=.returned (.agg #[.slice A' n c',.int .i64 e',.bool false,.slice As' (k+1) cs'])∧Kd.R k38 38 w' W.heap.size (fun _=>True) (.slice A' n c') Y'∧Kd.R (Kd.int .i64) 3 w' W.heap.size (fun _=>True) (.slice As' (k+1) cs') sh'∧Below W.heap.size W w' :=
 h W Ax cx As cs sh Aw cw (R_C hy).2 (R_C hy).1 (zdV hs).2.2 (zdV hs).2.1 (zdV hs).1 (R_C hw).2 (R_C hw).1
set_option maxRecDepth 100000 in
set_option maxHeartbeats 4000000 in
theorem zfD (p0 b:Int) (hbt:sat_Bits.f p0=some (b,0)) (p1 p2 p4:Int) (p5:Bool) (L:List S38) (A:Option Addr) (c:Nat) (l:List S38) (n kp:Nat) (ps:List S59) (Y:Nat→List S38) (EX:Nat→Int) (h2:(p2 == 2)=false) (w:World) (hr:Kd.C k38 w A l.length l) (hm:ps.length≤10) (hE:EX 0=1)
  (htw:roots_Twiddles.f p1 p0=some (L,0)) (hps:plan_Passes.f kp p0 p1 p2 0 p4 p5=some (ps,0))
  (hrd:∀W:World,Kd.C k38 W A l.length l→Calls Tryz.prog 16 #[.slice A l.length c,.agg #[.int .i64 p0,.int .i64 p1,.int .i64 p2,.int .i64 0,.int .i64 p4,.bool p5]] W fun e w'=>∃A' c',e=.returned (.tuple #[.agg #[.slice A' n c',.int .i64 1,.bool false,.slice none 0 0],.int .i64 0])∧Kd.R k38 38 w' W.heap.size (fun _=>True) (.slice A' n c') (Y 0)∧Below W.heap.size W w')
  (hnx:∀k,k < ps.length→zb9 (fun Aw cw=>#[.int .i64 p0,.int .i64 p1,.int .i64 p2,.int .i64 0,.int .i64 p4,.bool p5,.iface 97 (.agg #[]),.int .i64 b,.slice Aw L.length cw]) L n k (Y k) (Y (k+1)) (EX k) (EX (k+1)) (ps.getD k z59)) :
  Calls Tryz.prog 7 #[.slice A l.length c,.agg (zaj p0 p1 p2 0 p4 p5)] w fun e w'=>∃A' c' As' cs',e=.returned (.tuple #[.agg #[.slice A' n c',.int .i64 (EX ps.length),.bool false,.slice As' ps.length cs'],.int .i64 0])∧Kd.R k38 38 w' w.heap.size (fun _=>True) (.slice A' n c') (Y ps.length)∧Below w.heap.size w w':=by
 have HR:=hhd hr
 have HRD:=hhd hrd
 have HNXA:=hhd hnx
 have HBI:=hhd (hbt)
 have HTW:=hhd htw
 have HPS:=hhd hps
 have HE:=hhd hE
 have HB0:=hhd (Below.refl w.heap.size w)
 clear hr hrd hnx htw hps hE
 unfold zaj
 go_enter Tryz.func7,Tryz.ntmps7
 go_wp2_with (first
  | ((with_reducible refine zg (N:=3) rfl ?_);refine ba_ 3 #[.int .i64 p0,.int .i64 p1,.int .i64 p2,.int .i64 0,.int .i64 p4,.bool p5] 24 ?_;intro g3 hg W1 hbox hbl;have L3:=gf_ hg HB0.out;have B3_1:=hhd hbox;have HB_1:=hhd (zb HB0.out hbl);have Cx_1:=hhd (Kd.C_below HR.out HB_1.out);obtain ⟨k3_0_1,k3_1_1,k3_2_1,k3_3_1,k3_4_1,k3_5_1⟩:=bk6 B3_1.out;clear hbox hbl hg)
  | ((with_reducible refine zg (N:=4) rfl ?_);refine ba_ 4 #[.slice none 0 0,.int .i64 0,.bool false,.slice none 0 0] 28 ?_;intro g4 hg W2 hbox hbl;have L4:=gf_ hg HB_1.out;have B4_2:=hhd hbox;have HB_2:=hhd (zb HB_1.out hbl);have B3_2:=hhd (za B3_1.out hbl);have Cx_2:=hhd (Kd.C_below HR.out HB_2.out);obtain ⟨k3_0_2,k3_1_2,k3_2_2,k3_3_2,k3_4_2,k3_5_2⟩:=bk6 B3_2.out;clear k3_0_1 k3_1_1 k3_2_1 k3_3_1 k3_4_1 k3_5_1;obtain ⟨k4_0_2,k4_1_2,k4_2_2,k4_3_2⟩:=bk4 B4_2.out;have NE3_4:=hhd (show g3≠g4 from fun e=>by have:=zf B3_1.out;omega);clear hbox hbl hg)
  | ((with_reducible refine zg (N:=15) rfl ?_);refine wpList_load_row rfl 24 _ rfl g3 rfl 24 #[.int .i64 p0,.int .i64 p1,.int .i64 p2,.int .i64 0,.int .i64 p4,.bool p5] (0,0) _ B3_2.out Tryz.underlying24 rfl (zat _ _ _ _ _ _) ?_)
  | (go_at_call 16;refine (HRD.out _ Cx_2.out).mono ?_;rintro e W3 ⟨A1,c1,rfl,ho,hb⟩;have Ry_3:=hhd (Kd.R_lower ho (zj HB_2.out));have HB_3:=hhd (zb HB_2.out hb);have B3_3:=hhd (za B3_2.out hb);have B4_3:=hhd (za B4_2.out hb);have Cx_3:=hhd (Kd.C_below HR.out HB_3.out);obtain ⟨k3_0_3,k3_1_3,k3_2_3,k3_3_3,k3_4_3,k3_5_3⟩:=bk6 B3_3.out;obtain ⟨k4_0_3,k4_1_3,k4_2_3,k4_3_3⟩:=bk4 B4_3.out;clear k3_0_2 k3_1_2 k3_2_2 k3_3_2 k3_4_2 k3_5_2 k4_0_2 k4_1_2 k4_2_2 k4_3_2;clear hb ho)
  | ((with_reducible refine zg (N:=6) rfl ?_);refine ba_ 6 #[.slice none 0 0,.int .i64 0,.bool false,.slice none 0 0] 28 ?_;intro g6 hg W4 hbox hbl;have L6:=gf_ hg HB_3.out;have B6_4:=hhd hbox;have HB_4:=hhd (zb HB_3.out hbl);have B3_4:=hhd (za B3_3.out hbl);have B4_4:=hhd (za B4_3.out hbl);have Ry_4:=hhd (Kd.R_below Ry_3.out hbl);have Cx_4:=hhd (Kd.C_below HR.out HB_4.out);obtain ⟨k3_0_4,k3_1_4,k3_2_4,k3_3_4,k3_4_4,k3_5_4⟩:=bk6 B3_4.out;obtain ⟨k4_0_4,k4_1_4,k4_2_4,k4_3_4⟩:=bk4 B4_4.out;clear k3_0_3 k3_1_3 k3_2_3 k3_3_3 k3_4_3 k3_5_3 k4_0_3 k4_1_3 k4_2_3 k4_3_3;obtain ⟨k6_0_4,k6_1_4,k6_2_4,k6_3_4⟩:=bk4 B6_4.out;have NE3_6:=hhd (show g3≠g6 from fun e=>by have:=zf B3_3.out;omega);have NE4_6:=hhd (show g4≠g6 from fun e=>by have:=zf B4_3.out;omega);clear hbox hbl hg)
  | ((with_reducible refine zo (t:=28) (p:=6) rfl ?_);refine zv rfl 28 _ _ rfl g6 #[.slice A1 n c1,.int .i64 1,.bool false,.slice none 0 0] rfl rfl 28 #[.slice none 0 0,.int .i64 0,.bool false,.slice none 0 0] B6_4.out (zD _ _ _ _) rfl (z7 _ _ _ _ _ _ _ _) ?_;intro W5 hq hoth hbel;have B6_5:=hhd hq;have HB_5:=hhd (hbel _ _ L6 HB_4.out);have B3_5:=hhd ((hoth _ NE3_6.out).trans B3_4.out);have B4_5:=hhd ((hoth _ NE4_6.out).trans B4_4.out);have Ry_5:=hhd (zE rfl Ry_4.out B6_4.out (by decide) hoth);obtain ⟨k3_0_5,k3_1_5,k3_2_5,k3_3_5,k3_4_5,k3_5_5⟩:=bk6 B3_5.out;obtain ⟨k4_0_5,k4_1_5,k4_2_5,k4_3_5⟩:=bk4 B4_5.out;clear k3_0_4 k3_1_4 k3_2_4 k3_3_4 k3_4_4 k3_5_4 k4_0_4 k4_1_4 k4_2_4 k4_3_4 k6_0_4 k6_1_4 k6_2_4 k6_3_4;obtain ⟨k6_0_5,k6_1_5,k6_2_5,k6_3_5⟩:=bk4 B6_5.out;have Cx_5:=hhd (Kd.C_below HR.out HB_5.out);clear hq hoth hbel)
  | ((with_reducible refine zg (N:=47) rfl ?_);refine wpList_load_row rfl 24 _ rfl g3 rfl 24 #[.int .i64 p0,.int .i64 p1,.int .i64 p2,.int .i64 0,.int .i64 p4,.bool p5] (0,0) _ B3_5.out Tryz.underlying24 rfl (zat _ _ _ _ _ _) ?_)
  | (go_at_call 18;(with_reducible refine (plan_Passes.calls kp p0 p1 p2 0 p4 p5 ps 0 _ HPS.out).mono ?_);rintro e W6 ⟨vp,rfl,ho,hb⟩;obtain ⟨Ap,cp,ev⟩:=Kd.R_slice ho;subst ev;have Rp_6:=hhd (Kd.R_lower ho (zj HB_5.out));have HB_6:=hhd (zb HB_5.out hb);have B3_6:=hhd (za B3_5.out hb);have B4_6:=hhd (za B4_5.out hb);have B6_6:=hhd (za B6_5.out hb);have Ry_6:=hhd (Kd.R_below Ry_5.out hb);have Cx_6:=hhd (Kd.C_below HR.out HB_6.out);obtain ⟨k3_0_6,k3_1_6,k3_2_6,k3_3_6,k3_4_6,k3_5_6⟩:=bk6 B3_6.out;obtain ⟨k4_0_6,k4_1_6,k4_2_6,k4_3_6⟩:=bk4 B4_6.out;obtain ⟨k6_0_6,k6_1_6,k6_2_6,k6_3_6⟩:=bk4 B6_6.out;clear k3_0_5 k3_1_5 k3_2_5 k3_3_5 k3_4_5 k3_5_5 k4_0_5 k4_1_5 k4_2_5 k4_3_5 k6_0_5 k6_1_5 k6_2_5 k6_3_5;clear hb ho)
  | ((with_reducible refine zg (N:=51) rfl ?_);refine wpList_load_row rfl 24 _ rfl g3 rfl 24 #[.int .i64 p0,.int .i64 p1,.int .i64 p2,.int .i64 0,.int .i64 p4,.bool p5] (0,0) _ B3_6.out Tryz.underlying24 rfl (zat _ _ _ _ _ _) ?_)
  | (go_at_call 19;refine (zeR p0 p1 p2 p4 b p5 L HBI.out HTW.out _).mono ?_;rintro e W7 ⟨Aw,cw,rfl,ho,hb⟩;have Rw_7:=hhd (Kd.R_lower ho (zj HB_6.out));have HB_7:=hhd (zb HB_6.out hb);have B3_7:=hhd (za B3_6.out hb);have B4_7:=hhd (za B4_6.out hb);have B6_7:=hhd (za B6_6.out hb);have Ry_7:=hhd (Kd.R_below Ry_6.out hb);have Rp_7:=hhd (Kd.R_below Rp_6.out hb);have Cx_7:=hhd (Kd.C_below HR.out HB_7.out);obtain ⟨k3_0_7,k3_1_7,k3_2_7,k3_3_7,k3_4_7,k3_5_7⟩:=bk6 B3_7.out;obtain ⟨k4_0_7,k4_1_7,k4_2_7,k4_3_7⟩:=bk4 B4_7.out;obtain ⟨k6_0_7,k6_1_7,k6_2_7,k6_3_7⟩:=bk4 B6_7.out;clear k3_0_6 k3_1_6 k3_2_6 k3_3_6 k3_4_6 k3_5_6 k4_0_6 k4_1_6 k4_2_6 k4_3_6 k6_0_6 k6_1_6 k6_2_6 k6_3_6;clear hb ho)
  | ((with_reducible refine zg (N:=10) rfl ?_);refine ba_ 10 #[.int .i64 0,.int .i64 0,.int .i64 0,.int .i64 0,.int .i64 0,.bool false,.nilIface,.int .i64 0,.slice none 0 0] 56 ?_;intro g10 hg W8 hbox hbl;have L10:=gf_ hg HB_7.out;have B10_8:=hhd hbox;have HB_8:=hhd (zb HB_7.out hbl);have B3_8:=hhd (za B3_7.out hbl);have B4_8:=hhd (za B4_7.out hbl);have B6_8:=hhd (za B6_7.out hbl);have Ry_8:=hhd (Kd.R_below Ry_7.out hbl);have Rp_8:=hhd (Kd.R_below Rp_7.out hbl);have Rw_8:=hhd (Kd.R_below Rw_7.out hbl);have Cx_8:=hhd (Kd.C_below HR.out HB_8.out);obtain ⟨k3_0_8,k3_1_8,k3_2_8,k3_3_8,k3_4_8,k3_5_8⟩:=bk6 B3_8.out;obtain ⟨k4_0_8,k4_1_8,k4_2_8,k4_3_8⟩:=bk4 B4_8.out;obtain ⟨k6_0_8,k6_1_8,k6_2_8,k6_3_8⟩:=bk4 B6_8.out;clear k3_0_7 k3_1_7 k3_2_7 k3_3_7 k3_4_7 k3_5_7 k4_0_7 k4_1_7 k4_2_7 k4_3_7 k6_0_7 k6_1_7 k6_2_7 k6_3_7;obtain ⟨k10_0_8,k10_1_8,k10_2_8,k10_3_8,k10_4_8,k10_5_8,k10_6_8,k10_7_8,k10_8_8⟩:=bk9 B10_8.out;have NE3_10:=hhd (show g3≠g10 from fun e=>by have:=zf B3_7.out;omega);have NE4_10:=hhd (show g4≠g10 from fun e=>by have:=zf B4_7.out;omega);have NE6_10:=hhd (show g6≠g10 from fun e=>by have:=zf B6_7.out;omega);clear hbox hbl hg)
  | ((with_reducible refine zo (t:=56) (p:=10) rfl ?_);refine zv rfl 56 _ _ rfl g10 #[.int .i64 p0,.int .i64 p1,.int .i64 p2,.int .i64 0,.int .i64 p4,.bool p5,.iface 97 (.agg #[]),.int .i64 b,.slice Aw L.length cw] rfl rfl 56 #[.int .i64 0,.int .i64 0,.int .i64 0,.int .i64 0,.int .i64 0,.bool false,.nilIface,.int .i64 0,.slice none 0 0] B10_8.out (za9 _ _ _ _ _ _ _ _ _) rfl (zdU _ _ _ _ _ _ _ _ _) ?_;intro W9 hq hoth hbel;have B10_9:=hhd hq;have HB_9:=hhd (hbel _ _ L10 HB_8.out);have B3_9:=hhd ((hoth _ NE3_10.out).trans B3_8.out);have B4_9:=hhd ((hoth _ NE4_10.out).trans B4_8.out);have B6_9:=hhd ((hoth _ NE6_10.out).trans B6_8.out);have Ry_9:=hhd (zE rfl Ry_8.out B10_8.out (by decide) hoth);have Rp_9:=hhd (zE rfl Rp_8.out B10_8.out (by decide) hoth);have Rw_9:=hhd (zE rfl Rw_8.out B10_8.out (by decide) hoth);obtain ⟨k3_0_9,k3_1_9,k3_2_9,k3_3_9,k3_4_9,k3_5_9⟩:=bk6 B3_9.out;obtain ⟨k4_0_9,k4_1_9,k4_2_9,k4_3_9⟩:=bk4 B4_9.out;obtain ⟨k6_0_9,k6_1_9,k6_2_9,k6_3_9⟩:=bk4 B6_9.out;clear k3_0_8 k3_1_8 k3_2_8 k3_3_8 k3_4_8 k3_5_8 k4_0_8 k4_1_8 k4_2_8 k4_3_8 k6_0_8 k6_1_8 k6_2_8 k6_3_8 k10_0_8 k10_1_8 k10_2_8 k10_3_8 k10_4_8 k10_5_8 k10_6_8 k10_7_8 k10_8_8;obtain ⟨k10_0_9,k10_1_9,k10_2_9,k10_3_9,k10_4_9,k10_5_9,k10_6_9,k10_7_9,k10_8_9⟩:=bk9 B10_9.out;have Cx_9:=hhd (Kd.C_below HR.out HB_9.out);clear hq hoth hbel))
 have N36:=NE3_6
 have N46:=NE4_6
 have N106:=hhd (show g10≠g6 from fun e=>NE6_10.out e.symm)
 have ER0:=hhd (Kd.R_nil (Kd.int .i64) 3 W9 w.heap.size (fun _=>True))
 go_loopw [55] (fun s55 wr=>∃k:Nat,k≤ps.length∧s55=.int .i64 k∧∃Ax cx As cs sh,wr.heap[g3]?=some (.cells #[.int .i64 p0,.int .i64 p1,.int .i64 p2,.int .i64 0,.int .i64 p4,.bool p5] 24 (0,0))∧wr.heap[g4]?=some (.cells #[.slice none 0 0,.int .i64 0,.bool false,.slice none 0 0] 28 (0,0))∧wr.heap[g10]?=some (.cells #[.int .i64 p0,.int .i64 p1,.int .i64 p2,.int .i64 0,.int .i64 p4,.bool p5,.iface 97 (.agg #[]),.int .i64 b,.slice Aw L.length cw] 56 (0,0))∧wr.heap[g6]?=some (.cells #[.slice Ax n cx,.int .i64 (EX k),.bool false,.slice As k cs] 28 (0,0))∧Kd.R k38 38 wr w.heap.size (fun _=>True) (.slice Ax n cx) (Y k)∧Kd.R (Kd.int .i64) 3 wr w.heap.size (fun _=>True) (.slice As k cs) sh∧Kd.R k59 59 wr w.heap.size (fun _=>True) (.slice Ap ps.length cp) ps∧Kd.R k38 38 wr w.heap.size (fun _=>True) (.slice Aw L.length cw) L∧Below w.heap.size w wr) (fun i _=>ps.length - (intOf i).toNat)
 case atStart=>exact ⟨0,by omega,rfl,A1,c1,none,0,[],B3_9.out,B4_9.out,B10_9.out,by rw [HE.out];exact B6_9.out,Ry_9.out,ER0.out,Rp_9.out,Rw_9.out,HB_9.out⟩
 case round =>
  obtain ⟨k,hk,rfl,Ax,cx,As,cs,sh,e3,e4,e10,e6,ry,rs,rp,rw_,hb⟩:=hrel
  have E3:=hhd e3
  have E4:=hhd e4
  have E10:=hhd e10
  have E6:=hhd e6
  have ERy:=hhd ry
  have ERs:=hhd rs
  have ERp:=hhd rp
  have ERw:=hhd rw_
  have HBr:=hhd hb
  clear e3 e4 e10 e6 ry rs rp rw_ hb B3_9 B4_9 B10_9 B6_9 Ry_9 Rp_9 Rw_9 HB_9 k3_0_9 k3_1_9 k3_2_9 k3_3_9 k3_4_9 k3_5_9 k4_0_9 k4_1_9 k4_2_9 k4_3_9 k6_0_9 k6_1_9 k6_2_9 k6_3_9 k10_0_9 k10_1_9 k10_2_9 k10_3_9 k10_4_9 k10_5_9 k10_6_9 k10_7_9 k10_8_9 ER0
  by_cases hlt:k < ps.length
  ·have HNX:=hhd (HNXA.out k hlt)
   obtain ⟨ad,rfl,h0,h1⟩:=zfx (zlF ERp.out) (k:Int) (by omega) (by omega)
   rw [Int.toNat_natCast] at h0 h1
   have hx:zb4 ps k=ps.getD k z59:=by unfold zb4;rw [Int.toNat_natCast]
   rw [hx] at h0 h1
   generalize ps.getD k z59=x at *
   clear hx
   go_wp2_with (first
    | ((with_reducible refine zg (N:=12) rfl ?_);refine ba_ 12 #[.int .i64 0,.int .i64 0] 59 ?_;intro g12 hg W1 hbox hbl;have L12:=gf_ hg HBr.out;have B12_1:=hhd hbox;have HB_1:=hhd (zb HBr.out hbl);have B3_1:=hhd (za E3.out hbl);have B4_1:=hhd (za E4.out hbl);have B6_1:=hhd (za E6.out hbl);have B10_1:=hhd (za E10.out hbl);have Ry_1:=hhd (Kd.R_below ERy.out hbl);have Rp_1:=hhd (Kd.R_below ERp.out hbl);have Rw_1:=hhd (Kd.R_below ERw.out hbl);have Rs_1:=hhd (Kd.R_below ERs.out hbl);obtain ⟨k3_0_1,k3_1_1,k3_2_1,k3_3_1,k3_4_1,k3_5_1⟩:=bk6 B3_1.out;obtain ⟨k4_0_1,k4_1_1,k4_2_1,k4_3_1⟩:=bk4 B4_1.out;obtain ⟨k6_0_1,k6_1_1,k6_2_1,k6_3_1⟩:=bk4 B6_1.out;obtain ⟨k10_0_1,k10_1_1,k10_2_1,k10_3_1,k10_4_1,k10_5_1,k10_6_1,k10_7_1,k10_8_1⟩:=bk9 B10_1.out;obtain ⟨k12_0_1,k12_1_1⟩:=bk2 B12_1.out;have NE3_12:=hhd (show g3≠g12 from fun e=>by have:=zf E3.out;omega);have NE4_12:=hhd (show g4≠g12 from fun e=>by have:=zf E4.out;omega);have NRp12:=hhd (show some g12≠_ from by rw [hg];exact Kd.R_ne_new ERp.out 0);have N126:=hhd (show g12≠g6 from fun e=>by have:=zf E6.out;omega);have NRp12:=hhd (show some g12≠_ from by rw [hg];exact Kd.R_ne_new ERp.out 0);have N126:=hhd (show g12≠g6 from fun e=>by have:=zf E6.out;omega);have NE6_12:=hhd (show g6≠g12 from fun e=>by have:=zf E6.out;omega);have NE10_12:=hhd (show g10≠g12 from fun e=>by have:=zf E10.out;omega);clear hbox hbl hg)
    | ((with_reducible refine zo (t:=59) (p:=12) rfl ?_);refine zv rfl 59 _ _ rfl g12 #[.int .i64 x.f0,.int .i64 x.f1] rfl rfl 59 #[.int .i64 0,.int .i64 0] B12_1.out (zeV _ _) rfl (zG _ _) ?_;intro W2 hq hoth hbel;have B12_2:=hhd hq;have HB_2:=hhd (hbel _ _ L12 HB_1.out);have B3_2:=hhd ((hoth _ NE3_12.out).trans B3_1.out);have B4_2:=hhd ((hoth _ NE4_12.out).trans B4_1.out);have B6_2:=hhd ((hoth _ NE6_12.out).trans B6_1.out);have B10_2:=hhd ((hoth _ NE10_12.out).trans B10_1.out);have Ry_2:=hhd (zE rfl Ry_1.out B12_1.out (by decide) hoth);have Rp_2:=hhd (zj1 rfl Rp_1.out hoth NRp12.out);have Rw_2:=hhd (zE rfl Rw_1.out B12_1.out (by decide) hoth);have Rs_2:=hhd (zE rfl Rs_1.out B12_1.out (by decide) hoth);obtain ⟨k3_0_2,k3_1_2,k3_2_2,k3_3_2,k3_4_2,k3_5_2⟩:=bk6 B3_2.out;obtain ⟨k4_0_2,k4_1_2,k4_2_2,k4_3_2⟩:=bk4 B4_2.out;obtain ⟨k6_0_2,k6_1_2,k6_2_2,k6_3_2⟩:=bk4 B6_2.out;obtain ⟨k10_0_2,k10_1_2,k10_2_2,k10_3_2,k10_4_2,k10_5_2,k10_6_2,k10_7_2,k10_8_2⟩:=bk9 B10_2.out;clear k3_0_1 k3_1_1 k3_2_1 k3_3_1 k3_4_1 k3_5_1 k4_0_1 k4_1_1 k4_2_1 k4_3_1 k6_0_1 k6_1_1 k6_2_1 k6_3_1 k10_0_1 k10_1_1 k10_2_1 k10_3_1 k10_4_1 k10_5_1 k10_6_1 k10_7_1 k10_8_1 k12_0_1 k12_1_1;obtain ⟨k12_0_2,k12_1_2⟩:=bk2 B12_2.out;clear hq hoth hbel)
    | ((with_reducible refine zg (N:=59) rfl ?_);refine wpList_load_row rfl 56 _ rfl g10 rfl 56 #[.int .i64 p0,.int .i64 p1,.int .i64 p2,.int .i64 0,.int .i64 p4,.bool p5,.iface 97 (.agg #[]),.int .i64 b,.slice Aw L.length cw] (0,0) _ B10_2.out Tryz.underlying56 rfl (za9 _ _ _ _ _ _ _ _ _) ?_)
    | ((with_reducible refine zg (N:=60) rfl ?_);refine wpList_load_row rfl 28 _ rfl g6 rfl 28 #[.slice Ax n cx,.int .i64 (EX k),.bool false,.slice As k cs] (0,0) _ B6_2.out Tryz.underlying28 rfl (zD _ _ _ _) ?_)
    | ((with_reducible refine zg (N:=61) rfl ?_);refine wpList_load_row rfl 59 _ rfl g12 rfl 59 #[.int .i64 x.f0,.int .i64 x.f1] (0,0) _ B12_2.out Tryz.underlying59 rfl (zeV _ _) ?_)
    | (go_at_call 20;refine (HNX.out.go Ry_2.out Rs_2.out Rw_2.out).mono ?_;rintro e W3 ⟨A3,c3,A4,c4,sh4,rfl,ho,hs,hb⟩;have Ry_3:=hhd (Kd.R_lower ho (zj HB_2.out));have Rs_3:=hhd (Kd.R_lower hs (zj HB_2.out));have HB_3:=hhd (zb HB_2.out hb);have B3_3:=hhd (za B3_2.out hb);have B4_3:=hhd (za B4_2.out hb);have B6_3:=hhd (za B6_2.out hb);have B10_3:=hhd (za B10_2.out hb);have B12_3:=hhd (za B12_2.out hb);have Rp_3:=hhd (Kd.R_below Rp_2.out hb);have Rw_3:=hhd (Kd.R_below Rw_2.out hb);obtain ⟨k3_0_3,k3_1_3,k3_2_3,k3_3_3,k3_4_3,k3_5_3⟩:=bk6 B3_3.out;obtain ⟨k4_0_3,k4_1_3,k4_2_3,k4_3_3⟩:=bk4 B4_3.out;obtain ⟨k6_0_3,k6_1_3,k6_2_3,k6_3_3⟩:=bk4 B6_3.out;obtain ⟨k10_0_3,k10_1_3,k10_2_3,k10_3_3,k10_4_3,k10_5_3,k10_6_3,k10_7_3,k10_8_3⟩:=bk9 B10_3.out;obtain ⟨k12_0_3,k12_1_3⟩:=bk2 B12_3.out;clear k3_0_2 k3_1_2 k3_2_2 k3_3_2 k3_4_2 k3_5_2 k4_0_2 k4_1_2 k4_2_2 k4_3_2 k6_0_2 k6_1_2 k6_2_2 k6_3_2 k10_0_2 k10_1_2 k10_2_2 k10_3_2 k10_4_2 k10_5_2 k10_6_2 k10_7_2 k10_8_2 k12_0_2 k12_1_2;clear hb ho hs)
    | ((with_reducible refine zo (t:=28) (p:=6) rfl ?_);refine zv rfl 28 _ _ rfl g6 #[.slice A3 n c3,.int .i64 (EX (k+1)),.bool false,.slice A4 (k+1) c4] rfl rfl 28 #[.slice Ax n cx,.int .i64 (EX k),.bool false,.slice As k cs] B6_3.out (zD _ _ _ _) rfl (z7 _ _ _ _ _ _ _ _) ?_;intro W4 hq hoth hbel;have B6_4:=hhd hq;have HB_4:=hhd (hbel _ _ L6 HB_3.out);have B3_4:=hhd ((hoth _ N36.out).trans B3_3.out);have B4_4:=hhd ((hoth _ N46.out).trans B4_3.out);have B10_4:=hhd ((hoth _ N106.out).trans B10_3.out);have B12_4:=hhd ((hoth _ N126.out).trans B12_3.out);have Rp_4:=hhd (zE rfl Rp_3.out B6_3.out (by decide) hoth);have Rw_4:=hhd (zE rfl Rw_3.out B6_3.out (by decide) hoth);have Ry_4:=hhd (zE rfl Ry_3.out B6_3.out (by decide) hoth);have Rs_4:=hhd (zE rfl Rs_3.out B6_3.out (by decide) hoth);obtain ⟨k3_0_4,k3_1_4,k3_2_4,k3_3_4,k3_4_4,k3_5_4⟩:=bk6 B3_4.out;obtain ⟨k4_0_4,k4_1_4,k4_2_4,k4_3_4⟩:=bk4 B4_4.out;obtain ⟨k10_0_4,k10_1_4,k10_2_4,k10_3_4,k10_4_4,k10_5_4,k10_6_4,k10_7_4,k10_8_4⟩:=bk9 B10_4.out;obtain ⟨k12_0_4,k12_1_4⟩:=bk2 B12_4.out;clear k3_0_3 k3_1_3 k3_2_3 k3_3_3 k3_4_3 k3_5_3 k4_0_3 k4_1_3 k4_2_3 k4_3_3 k6_0_3 k6_1_3 k6_2_3 k6_3_3 k10_0_3 k10_1_3 k10_2_3 k10_3_3 k10_4_3 k10_5_3 k10_6_3 k10_7_3 k10_8_3 k12_0_3 k12_1_3;obtain ⟨k6_0_4,k6_1_4,k6_2_4,k6_3_4⟩:=bk4 B6_4.out;clear hq hoth hbel))
   go_roundw
   case rel=>exact ⟨k+1,by omega,by go_num,A3,c3,A4,c4,sh4,B3_4.out,B4_4.out,B10_4.out,B6_4.out,Ry_4.out,Rs_4.out,Rp_4.out,Rw_4.out,HB_4.out⟩
   case measure=>simp [intOf];omega
  ·obtain rfl:k=ps.length:=by omega
   have j6:=E6
   go_wp2_with (first
    | ((with_reducible refine zg (N:=64) rfl ?_);refine wpList_load_row rfl 28 _ rfl g6 rfl 28 #[.slice Ax n cx,.int .i64 (EX ps.length),.bool false,.slice As ps.length cs] (0,0) _ E6.out Tryz.underlying28 rfl (zD _ _ _ _) ?_)
    | ((with_reducible refine zo (t:=28) (p:=4) rfl ?_);refine zv rfl 28 _ _ rfl g4 #[.slice Ax n cx,.int .i64 (EX ps.length),.bool false,.slice As ps.length cs] rfl rfl 28 #[.slice none 0 0,.int .i64 0,.bool false,.slice none 0 0] E4.out (zD _ _ _ _) rfl (z7 _ _ _ _ _ _ _ _) ?_;intro We hq hoth hbel;have B4e:=hhd hq;have HBe:=hhd (hbel _ _ L4 HBr.out);have Rye:=hhd (zE rfl ERy.out E4.out (by decide) hoth);clear hq hoth hbel))
   refine bodyPost_ret (zZ rfl _ _ g4 28 #[.slice Ax n cx,.int .i64 (EX ps.length),.bool false,.slice As ps.length cs] (0,0) _ rfl B4e.out Tryz.underlying28 rfl (zD _ _ _ _)) rfl ?_
   exact ⟨Ax,cx,As,cs,rfl,Rye.out,HBe.out⟩
set_option maxRecDepth 100000 in
set_option maxHeartbeats 4000000 in
theorem zic (p1 p2 p4:Int) (p5:Bool) (L:List S38) (A:Option Addr) (c:Nat) (l:List S38) (n kp:Nat) (ps:List S59) (Y:Nat→List S38) (EX:Nat→Int) (h2:(p2 == 2)=false) (w:World) (hr:Kd.C k38 w A l.length l) (hm:ps.length≤10) (hE:EX 0=0)
  (htw:roots_Twiddles.f p1 0=some (L,0)) (hps:plan_Passes.f kp 0 p1 p2 2 p4 p5=some (ps,0))
  (hrd:∀W:World,Kd.C k38 W A l.length l→Calls Tryz.prog 16 #[.slice A l.length c,.agg #[.int .i64 0,.int .i64 p1,.int .i64 p2,.int .i64 2,.int .i64 p4,.bool p5]] W fun e w'=>∃A' c',e=.returned (.tuple #[.agg #[.slice A' n c',.int .i64 0,.bool false,.slice none 0 0],.int .i64 0])∧Kd.R k38 38 w' W.heap.size (fun _=>True) (.slice A' n c') (Y 0)∧Below W.heap.size W w')
  (hnx:∀k,k < ps.length→zb9 (fun Aw cw=>#[.int .i64 0,.int .i64 p1,.int .i64 p2,.int .i64 2,.int .i64 p4,.bool p5,.iface 100 (.agg #[]),.int .i64 15,.slice Aw L.length cw]) L n k (Y k) (Y (k+1)) (EX k) (EX (k+1)) (ps.getD k z59)) :
  Calls Tryz.prog 7 #[.slice A l.length c,.agg (zaj 0 p1 p2 2 p4 p5)] w fun e w'=>∃A' c' As' cs',e=.returned (.tuple #[.agg #[.slice A' n c',.int .i64 (EX ps.length),.bool false,.slice As' ps.length cs'],.int .i64 0])∧Kd.R k38 38 w' w.heap.size (fun _=>True) (.slice A' n c') (Y ps.length)∧Below w.heap.size w w':=by
 have HR:=hhd hr
 have HRD:=hhd hrd
 have HNXA:=hhd hnx
 have HBI:=hhd (show sat_Bits.f 0=some (15,0) from rfl)
 have HTW:=hhd htw
 have HPS:=hhd hps
 have HE:=hhd hE
 have HB0:=hhd (Below.refl w.heap.size w)
 clear hr hrd hnx htw hps hE
 unfold zaj
 go_enter Tryz.func7,Tryz.ntmps7
 go_wp2_with (first
  | ((with_reducible refine zg (N:=3) rfl ?_);refine ba_ 3 #[.int .i64 0,.int .i64 p1,.int .i64 p2,.int .i64 2,.int .i64 p4,.bool p5] 24 ?_;intro g3 hg W1 hbox hbl;have L3:=gf_ hg HB0.out;have B3_1:=hhd hbox;have HB_1:=hhd (zb HB0.out hbl);have Cx_1:=hhd (Kd.C_below HR.out HB_1.out);obtain ⟨k3_0_1,k3_1_1,k3_2_1,k3_3_1,k3_4_1,k3_5_1⟩:=bk6 B3_1.out;clear hbox hbl hg)
  | ((with_reducible refine zg (N:=4) rfl ?_);refine ba_ 4 #[.slice none 0 0,.int .i64 0,.bool false,.slice none 0 0] 28 ?_;intro g4 hg W2 hbox hbl;have L4:=gf_ hg HB_1.out;have B4_2:=hhd hbox;have HB_2:=hhd (zb HB_1.out hbl);have B3_2:=hhd (za B3_1.out hbl);have Cx_2:=hhd (Kd.C_below HR.out HB_2.out);obtain ⟨k3_0_2,k3_1_2,k3_2_2,k3_3_2,k3_4_2,k3_5_2⟩:=bk6 B3_2.out;clear k3_0_1 k3_1_1 k3_2_1 k3_3_1 k3_4_1 k3_5_1;obtain ⟨k4_0_2,k4_1_2,k4_2_2,k4_3_2⟩:=bk4 B4_2.out;have NE3_4:=hhd (show g3≠g4 from fun e=>by have:=zf B3_1.out;omega);clear hbox hbl hg)
  | ((with_reducible refine zg (N:=15) rfl ?_);refine wpList_load_row rfl 24 _ rfl g3 rfl 24 #[.int .i64 0,.int .i64 p1,.int .i64 p2,.int .i64 2,.int .i64 p4,.bool p5] (0,0) _ B3_2.out Tryz.underlying24 rfl (zat _ _ _ _ _ _) ?_)
  | (go_at_call 16;refine (HRD.out _ Cx_2.out).mono ?_;rintro e W3 ⟨A1,c1,rfl,ho,hb⟩;have Ry_3:=hhd (Kd.R_lower ho (zj HB_2.out));have HB_3:=hhd (zb HB_2.out hb);have B3_3:=hhd (za B3_2.out hb);have B4_3:=hhd (za B4_2.out hb);have Cx_3:=hhd (Kd.C_below HR.out HB_3.out);obtain ⟨k3_0_3,k3_1_3,k3_2_3,k3_3_3,k3_4_3,k3_5_3⟩:=bk6 B3_3.out;obtain ⟨k4_0_3,k4_1_3,k4_2_3,k4_3_3⟩:=bk4 B4_3.out;clear k3_0_2 k3_1_2 k3_2_2 k3_3_2 k3_4_2 k3_5_2 k4_0_2 k4_1_2 k4_2_2 k4_3_2;clear hb ho)
  | ((with_reducible refine zg (N:=6) rfl ?_);refine ba_ 6 #[.slice none 0 0,.int .i64 0,.bool false,.slice none 0 0] 28 ?_;intro g6 hg W4 hbox hbl;have L6:=gf_ hg HB_3.out;have B6_4:=hhd hbox;have HB_4:=hhd (zb HB_3.out hbl);have B3_4:=hhd (za B3_3.out hbl);have B4_4:=hhd (za B4_3.out hbl);have Ry_4:=hhd (Kd.R_below Ry_3.out hbl);have Cx_4:=hhd (Kd.C_below HR.out HB_4.out);obtain ⟨k3_0_4,k3_1_4,k3_2_4,k3_3_4,k3_4_4,k3_5_4⟩:=bk6 B3_4.out;obtain ⟨k4_0_4,k4_1_4,k4_2_4,k4_3_4⟩:=bk4 B4_4.out;clear k3_0_3 k3_1_3 k3_2_3 k3_3_3 k3_4_3 k3_5_3 k4_0_3 k4_1_3 k4_2_3 k4_3_3;obtain ⟨k6_0_4,k6_1_4,k6_2_4,k6_3_4⟩:=bk4 B6_4.out;have NE3_6:=hhd (show g3≠g6 from fun e=>by have:=zf B3_3.out;omega);have NE4_6:=hhd (show g4≠g6 from fun e=>by have:=zf B4_3.out;omega);clear hbox hbl hg)
  | ((with_reducible refine zo (t:=28) (p:=6) rfl ?_);refine zv rfl 28 _ _ rfl g6 #[.slice A1 n c1,.int .i64 0,.bool false,.slice none 0 0] rfl rfl 28 #[.slice none 0 0,.int .i64 0,.bool false,.slice none 0 0] B6_4.out (zD _ _ _ _) rfl (z7 _ _ _ _ _ _ _ _) ?_;intro W5 hq hoth hbel;have B6_5:=hhd hq;have HB_5:=hhd (hbel _ _ L6 HB_4.out);have B3_5:=hhd ((hoth _ NE3_6.out).trans B3_4.out);have B4_5:=hhd ((hoth _ NE4_6.out).trans B4_4.out);have Ry_5:=hhd (zE rfl Ry_4.out B6_4.out (by decide) hoth);obtain ⟨k3_0_5,k3_1_5,k3_2_5,k3_3_5,k3_4_5,k3_5_5⟩:=bk6 B3_5.out;obtain ⟨k4_0_5,k4_1_5,k4_2_5,k4_3_5⟩:=bk4 B4_5.out;clear k3_0_4 k3_1_4 k3_2_4 k3_3_4 k3_4_4 k3_5_4 k4_0_4 k4_1_4 k4_2_4 k4_3_4 k6_0_4 k6_1_4 k6_2_4 k6_3_4;obtain ⟨k6_0_5,k6_1_5,k6_2_5,k6_3_5⟩:=bk4 B6_5.out;have Cx_5:=hhd (Kd.C_below HR.out HB_5.out);clear hq hoth hbel)
  | ((with_reducible refine zg (N:=47) rfl ?_);refine wpList_load_row rfl 24 _ rfl g3 rfl 24 #[.int .i64 0,.int .i64 p1,.int .i64 p2,.int .i64 2,.int .i64 p4,.bool p5] (0,0) _ B3_5.out Tryz.underlying24 rfl (zat _ _ _ _ _ _) ?_)
  | (go_at_call 18;(with_reducible refine (plan_Passes.calls kp 0 p1 p2 2 p4 p5 ps 0 _ HPS.out).mono ?_);rintro e W6 ⟨vp,rfl,ho,hb⟩;obtain ⟨Ap,cp,ev⟩:=Kd.R_slice ho;subst ev;have Rp_6:=hhd (Kd.R_lower ho (zj HB_5.out));have HB_6:=hhd (zb HB_5.out hb);have B3_6:=hhd (za B3_5.out hb);have B4_6:=hhd (za B4_5.out hb);have B6_6:=hhd (za B6_5.out hb);have Ry_6:=hhd (Kd.R_below Ry_5.out hb);have Cx_6:=hhd (Kd.C_below HR.out HB_6.out);obtain ⟨k3_0_6,k3_1_6,k3_2_6,k3_3_6,k3_4_6,k3_5_6⟩:=bk6 B3_6.out;obtain ⟨k4_0_6,k4_1_6,k4_2_6,k4_3_6⟩:=bk4 B4_6.out;obtain ⟨k6_0_6,k6_1_6,k6_2_6,k6_3_6⟩:=bk4 B6_6.out;clear k3_0_5 k3_1_5 k3_2_5 k3_3_5 k3_4_5 k3_5_5 k4_0_5 k4_1_5 k4_2_5 k4_3_5 k6_0_5 k6_1_5 k6_2_5 k6_3_5;clear hb ho)
  | ((with_reducible refine zg (N:=51) rfl ?_);refine wpList_load_row rfl 24 _ rfl g3 rfl 24 #[.int .i64 0,.int .i64 p1,.int .i64 p2,.int .i64 2,.int .i64 p4,.bool p5] (0,0) _ B3_6.out Tryz.underlying24 rfl (zat _ _ _ _ _ _) ?_)
  | (go_at_call 19;refine (zir 0 p1 p2 p4 15 p5 L HBI.out HTW.out _).mono ?_;rintro e W7 ⟨Aw,cw,rfl,ho,hb⟩;have Rw_7:=hhd (Kd.R_lower ho (zj HB_6.out));have HB_7:=hhd (zb HB_6.out hb);have B3_7:=hhd (za B3_6.out hb);have B4_7:=hhd (za B4_6.out hb);have B6_7:=hhd (za B6_6.out hb);have Ry_7:=hhd (Kd.R_below Ry_6.out hb);have Rp_7:=hhd (Kd.R_below Rp_6.out hb);have Cx_7:=hhd (Kd.C_below HR.out HB_7.out);obtain ⟨k3_0_7,k3_1_7,k3_2_7,k3_3_7,k3_4_7,k3_5_7⟩:=bk6 B3_7.out;obtain ⟨k4_0_7,k4_1_7,k4_2_7,k4_3_7⟩:=bk4 B4_7.out;obtain ⟨k6_0_7,k6_1_7,k6_2_7,k6_3_7⟩:=bk4 B6_7.out;clear k3_0_6 k3_1_6 k3_2_6 k3_3_6 k3_4_6 k3_5_6 k4_0_6 k4_1_6 k4_2_6 k4_3_6 k6_0_6 k6_1_6 k6_2_6 k6_3_6;clear hb ho)
  | ((with_reducible refine zg (N:=10) rfl ?_);refine ba_ 10 #[.int .i64 0,.int .i64 0,.int .i64 0,.int .i64 0,.int .i64 0,.bool false,.nilIface,.int .i64 0,.slice none 0 0] 56 ?_;intro g10 hg W8 hbox hbl;have L10:=gf_ hg HB_7.out;have B10_8:=hhd hbox;have HB_8:=hhd (zb HB_7.out hbl);have B3_8:=hhd (za B3_7.out hbl);have B4_8:=hhd (za B4_7.out hbl);have B6_8:=hhd (za B6_7.out hbl);have Ry_8:=hhd (Kd.R_below Ry_7.out hbl);have Rp_8:=hhd (Kd.R_below Rp_7.out hbl);have Rw_8:=hhd (Kd.R_below Rw_7.out hbl);have Cx_8:=hhd (Kd.C_below HR.out HB_8.out);obtain ⟨k3_0_8,k3_1_8,k3_2_8,k3_3_8,k3_4_8,k3_5_8⟩:=bk6 B3_8.out;obtain ⟨k4_0_8,k4_1_8,k4_2_8,k4_3_8⟩:=bk4 B4_8.out;obtain ⟨k6_0_8,k6_1_8,k6_2_8,k6_3_8⟩:=bk4 B6_8.out;clear k3_0_7 k3_1_7 k3_2_7 k3_3_7 k3_4_7 k3_5_7 k4_0_7 k4_1_7 k4_2_7 k4_3_7 k6_0_7 k6_1_7 k6_2_7 k6_3_7;obtain ⟨k10_0_8,k10_1_8,k10_2_8,k10_3_8,k10_4_8,k10_5_8,k10_6_8,k10_7_8,k10_8_8⟩:=bk9 B10_8.out;have NE3_10:=hhd (show g3≠g10 from fun e=>by have:=zf B3_7.out;omega);have NE4_10:=hhd (show g4≠g10 from fun e=>by have:=zf B4_7.out;omega);have NE6_10:=hhd (show g6≠g10 from fun e=>by have:=zf B6_7.out;omega);clear hbox hbl hg)
  | ((with_reducible refine zo (t:=56) (p:=10) rfl ?_);refine zv rfl 56 _ _ rfl g10 #[.int .i64 0,.int .i64 p1,.int .i64 p2,.int .i64 2,.int .i64 p4,.bool p5,.iface 100 (.agg #[]),.int .i64 15,.slice Aw L.length cw] rfl rfl 56 #[.int .i64 0,.int .i64 0,.int .i64 0,.int .i64 0,.int .i64 0,.bool false,.nilIface,.int .i64 0,.slice none 0 0] B10_8.out (za9 _ _ _ _ _ _ _ _ _) rfl (zf2 _ _ _ _ _ _ _ _ _) ?_;intro W9 hq hoth hbel;have B10_9:=hhd hq;have HB_9:=hhd (hbel _ _ L10 HB_8.out);have B3_9:=hhd ((hoth _ NE3_10.out).trans B3_8.out);have B4_9:=hhd ((hoth _ NE4_10.out).trans B4_8.out);have B6_9:=hhd ((hoth _ NE6_10.out).trans B6_8.out);have Ry_9:=hhd (zE rfl Ry_8.out B10_8.out (by decide) hoth);have Rp_9:=hhd (zE rfl Rp_8.out B10_8.out (by decide) hoth);have Rw_9:=hhd (zE rfl Rw_8.out B10_8.out (by decide) hoth);obtain ⟨k3_0_9,k3_1_9,k3_2_9,k3_3_9,k3_4_9,k3_5_9⟩:=bk6 B3_9.out;obtain ⟨k4_0_9,k4_1_9,k4_2_9,k4_3_9⟩:=bk4 B4_9.out;obtain ⟨k6_0_9,k6_1_9,k6_2_9,k6_3_9⟩:=bk4 B6_9.out;clear k3_0_8 k3_1_8 k3_2_8 k3_3_8 k3_4_8 k3_5_8 k4_0_8 k4_1_8 k4_2_8 k4_3_8 k6_0_8 k6_1_8 k6_2_8 k6_3_8 k10_0_8 k10_1_8 k10_2_8 k10_3_8 k10_4_8 k10_5_8 k10_6_8 k10_7_8 k10_8_8;obtain ⟨k10_0_9,k10_1_9,k10_2_9,k10_3_9,k10_4_9,k10_5_9,k10_6_9,k10_7_9,k10_8_9⟩:=bk9 B10_9.out;have Cx_9:=hhd (Kd.C_below HR.out HB_9.out);clear hq hoth hbel))
 have N36:=NE3_6
 have N46:=NE4_6
 have N106:=hhd (show g10≠g6 from fun e=>NE6_10.out e.symm)
 have ER0:=hhd (Kd.R_nil (Kd.int .i64) 3 W9 w.heap.size (fun _=>True))
 go_loopw [55] (fun s55 wr=>∃k:Nat,k≤ps.length∧s55=.int .i64 k∧∃Ax cx As cs sh,wr.heap[g3]?=some (.cells #[.int .i64 0,.int .i64 p1,.int .i64 p2,.int .i64 2,.int .i64 p4,.bool p5] 24 (0,0))∧wr.heap[g4]?=some (.cells #[.slice none 0 0,.int .i64 0,.bool false,.slice none 0 0] 28 (0,0))∧wr.heap[g10]?=some (.cells #[.int .i64 0,.int .i64 p1,.int .i64 p2,.int .i64 2,.int .i64 p4,.bool p5,.iface 100 (.agg #[]),.int .i64 15,.slice Aw L.length cw] 56 (0,0))∧wr.heap[g6]?=some (.cells #[.slice Ax n cx,.int .i64 (EX k),.bool false,.slice As k cs] 28 (0,0))∧Kd.R k38 38 wr w.heap.size (fun _=>True) (.slice Ax n cx) (Y k)∧Kd.R (Kd.int .i64) 3 wr w.heap.size (fun _=>True) (.slice As k cs) sh∧Kd.R k59 59 wr w.heap.size (fun _=>True) (.slice Ap ps.length cp) ps∧Kd.R k38 38 wr w.heap.size (fun _=>True) (.slice Aw L.length cw) L∧Below w.heap.size w wr) (fun i _=>ps.length - (intOf i).toNat)
 case atStart=>exact ⟨0,by omega,rfl,A1,c1,none,0,[],B3_9.out,B4_9.out,B10_9.out,by rw [HE.out];exact B6_9.out,Ry_9.out,ER0.out,Rp_9.out,Rw_9.out,HB_9.out⟩
 case round =>
  obtain ⟨k,hk,rfl,Ax,cx,As,cs,sh,e3,e4,e10,e6,ry,rs,rp,rw_,hb⟩:=hrel
  have E3:=hhd e3
  have E4:=hhd e4
  have E10:=hhd e10
  have E6:=hhd e6
  have ERy:=hhd ry
  have ERs:=hhd rs
  have ERp:=hhd rp
  have ERw:=hhd rw_
  have HBr:=hhd hb
  clear e3 e4 e10 e6 ry rs rp rw_ hb B3_9 B4_9 B10_9 B6_9 Ry_9 Rp_9 Rw_9 HB_9 k3_0_9 k3_1_9 k3_2_9 k3_3_9 k3_4_9 k3_5_9 k4_0_9 k4_1_9 k4_2_9 k4_3_9 k6_0_9 k6_1_9 k6_2_9 k6_3_9 k10_0_9 k10_1_9 k10_2_9 k10_3_9 k10_4_9 k10_5_9 k10_6_9 k10_7_9 k10_8_9 ER0
  by_cases hlt:k < ps.length
  ·have HNX:=hhd (HNXA.out k hlt)
   obtain ⟨ad,rfl,h0,h1⟩:=zfx (zlF ERp.out) (k:Int) (by omega) (by omega)
   rw [Int.toNat_natCast] at h0 h1
   have hx:zb4 ps k=ps.getD k z59:=by unfold zb4;rw [Int.toNat_natCast]
   rw [hx] at h0 h1
   generalize ps.getD k z59=x at *
   clear hx
   go_wp2_with (first
    | ((with_reducible refine zg (N:=12) rfl ?_);refine ba_ 12 #[.int .i64 0,.int .i64 0] 59 ?_;intro g12 hg W1 hbox hbl;have L12:=gf_ hg HBr.out;have B12_1:=hhd hbox;have HB_1:=hhd (zb HBr.out hbl);have B3_1:=hhd (za E3.out hbl);have B4_1:=hhd (za E4.out hbl);have B6_1:=hhd (za E6.out hbl);have B10_1:=hhd (za E10.out hbl);have Ry_1:=hhd (Kd.R_below ERy.out hbl);have Rp_1:=hhd (Kd.R_below ERp.out hbl);have Rw_1:=hhd (Kd.R_below ERw.out hbl);have Rs_1:=hhd (Kd.R_below ERs.out hbl);obtain ⟨k3_0_1,k3_1_1,k3_2_1,k3_3_1,k3_4_1,k3_5_1⟩:=bk6 B3_1.out;obtain ⟨k4_0_1,k4_1_1,k4_2_1,k4_3_1⟩:=bk4 B4_1.out;obtain ⟨k6_0_1,k6_1_1,k6_2_1,k6_3_1⟩:=bk4 B6_1.out;obtain ⟨k10_0_1,k10_1_1,k10_2_1,k10_3_1,k10_4_1,k10_5_1,k10_6_1,k10_7_1,k10_8_1⟩:=bk9 B10_1.out;obtain ⟨k12_0_1,k12_1_1⟩:=bk2 B12_1.out;have NE3_12:=hhd (show g3≠g12 from fun e=>by have:=zf E3.out;omega);have NE4_12:=hhd (show g4≠g12 from fun e=>by have:=zf E4.out;omega);have NRp12:=hhd (show some g12≠_ from by rw [hg];exact Kd.R_ne_new ERp.out 0);have N126:=hhd (show g12≠g6 from fun e=>by have:=zf E6.out;omega);have NE6_12:=hhd (show g6≠g12 from fun e=>by have:=zf E6.out;omega);have NE10_12:=hhd (show g10≠g12 from fun e=>by have:=zf E10.out;omega);clear hbox hbl hg)
    | ((with_reducible refine zo (t:=59) (p:=12) rfl ?_);refine zv rfl 59 _ _ rfl g12 #[.int .i64 x.f0,.int .i64 x.f1] rfl rfl 59 #[.int .i64 0,.int .i64 0] B12_1.out (zeV _ _) rfl (zG _ _) ?_;intro W2 hq hoth hbel;have B12_2:=hhd hq;have HB_2:=hhd (hbel _ _ L12 HB_1.out);have B3_2:=hhd ((hoth _ NE3_12.out).trans B3_1.out);have B4_2:=hhd ((hoth _ NE4_12.out).trans B4_1.out);have B6_2:=hhd ((hoth _ NE6_12.out).trans B6_1.out);have B10_2:=hhd ((hoth _ NE10_12.out).trans B10_1.out);have Ry_2:=hhd (zE rfl Ry_1.out B12_1.out (by decide) hoth);have Rp_2:=hhd (zj1 rfl Rp_1.out hoth NRp12.out);have Rw_2:=hhd (zE rfl Rw_1.out B12_1.out (by decide) hoth);have Rs_2:=hhd (zE rfl Rs_1.out B12_1.out (by decide) hoth);obtain ⟨k3_0_2,k3_1_2,k3_2_2,k3_3_2,k3_4_2,k3_5_2⟩:=bk6 B3_2.out;obtain ⟨k4_0_2,k4_1_2,k4_2_2,k4_3_2⟩:=bk4 B4_2.out;obtain ⟨k6_0_2,k6_1_2,k6_2_2,k6_3_2⟩:=bk4 B6_2.out;obtain ⟨k10_0_2,k10_1_2,k10_2_2,k10_3_2,k10_4_2,k10_5_2,k10_6_2,k10_7_2,k10_8_2⟩:=bk9 B10_2.out;clear k3_0_1 k3_1_1 k3_2_1 k3_3_1 k3_4_1 k3_5_1 k4_0_1 k4_1_1 k4_2_1 k4_3_1 k6_0_1 k6_1_1 k6_2_1 k6_3_1 k10_0_1 k10_1_1 k10_2_1 k10_3_1 k10_4_1 k10_5_1 k10_6_1 k10_7_1 k10_8_1 k12_0_1 k12_1_1;obtain ⟨k12_0_2,k12_1_2⟩:=bk2 B12_2.out;clear hq hoth hbel)
    | ((with_reducible refine zg (N:=59) rfl ?_);refine wpList_load_row rfl 56 _ rfl g10 rfl 56 #[.int .i64 0,.int .i64 p1,.int .i64 p2,.int .i64 2,.int .i64 p4,.bool p5,.iface 100 (.agg #[]),.int .i64 15,.slice Aw L.length cw] (0,0) _ B10_2.out Tryz.underlying56 rfl (za9 _ _ _ _ _ _ _ _ _) ?_)
    | ((with_reducible refine zg (N:=60) rfl ?_);refine wpList_load_row rfl 28 _ rfl g6 rfl 28 #[.slice Ax n cx,.int .i64 (EX k),.bool false,.slice As k cs] (0,0) _ B6_2.out Tryz.underlying28 rfl (zD _ _ _ _) ?_)
    | ((with_reducible refine zg (N:=61) rfl ?_);refine wpList_load_row rfl 59 _ rfl g12 rfl 59 #[.int .i64 x.f0,.int .i64 x.f1] (0,0) _ B12_2.out Tryz.underlying59 rfl (zeV _ _) ?_)
    | (go_at_call 20;refine (HNX.out.go Ry_2.out Rs_2.out Rw_2.out).mono ?_;rintro e W3 ⟨A3,c3,A4,c4,sh4,rfl,ho,hs,hb⟩;have Ry_3:=hhd (Kd.R_lower ho (zj HB_2.out));have Rs_3:=hhd (Kd.R_lower hs (zj HB_2.out));have HB_3:=hhd (zb HB_2.out hb);have B3_3:=hhd (za B3_2.out hb);have B4_3:=hhd (za B4_2.out hb);have B6_3:=hhd (za B6_2.out hb);have B10_3:=hhd (za B10_2.out hb);have B12_3:=hhd (za B12_2.out hb);have Rp_3:=hhd (Kd.R_below Rp_2.out hb);have Rw_3:=hhd (Kd.R_below Rw_2.out hb);obtain ⟨k3_0_3,k3_1_3,k3_2_3,k3_3_3,k3_4_3,k3_5_3⟩:=bk6 B3_3.out;obtain ⟨k4_0_3,k4_1_3,k4_2_3,k4_3_3⟩:=bk4 B4_3.out;obtain ⟨k6_0_3,k6_1_3,k6_2_3,k6_3_3⟩:=bk4 B6_3.out;obtain ⟨k10_0_3,k10_1_3,k10_2_3,k10_3_3,k10_4_3,k10_5_3,k10_6_3,k10_7_3,k10_8_3⟩:=bk9 B10_3.out;obtain ⟨k12_0_3,k12_1_3⟩:=bk2 B12_3.out;clear k3_0_2 k3_1_2 k3_2_2 k3_3_2 k3_4_2 k3_5_2 k4_0_2 k4_1_2 k4_2_2 k4_3_2 k6_0_2 k6_1_2 k6_2_2 k6_3_2 k10_0_2 k10_1_2 k10_2_2 k10_3_2 k10_4_2 k10_5_2 k10_6_2 k10_7_2 k10_8_2 k12_0_2 k12_1_2;clear hb ho hs)
    | ((with_reducible refine zo (t:=28) (p:=6) rfl ?_);refine zv rfl 28 _ _ rfl g6 #[.slice A3 n c3,.int .i64 (EX (k+1)),.bool false,.slice A4 (k+1) c4] rfl rfl 28 #[.slice Ax n cx,.int .i64 (EX k),.bool false,.slice As k cs] B6_3.out (zD _ _ _ _) rfl (z7 _ _ _ _ _ _ _ _) ?_;intro W4 hq hoth hbel;have B6_4:=hhd hq;have HB_4:=hhd (hbel _ _ L6 HB_3.out);have B3_4:=hhd ((hoth _ N36.out).trans B3_3.out);have B4_4:=hhd ((hoth _ N46.out).trans B4_3.out);have B10_4:=hhd ((hoth _ N106.out).trans B10_3.out);have B12_4:=hhd ((hoth _ N126.out).trans B12_3.out);have Rp_4:=hhd (zE rfl Rp_3.out B6_3.out (by decide) hoth);have Rw_4:=hhd (zE rfl Rw_3.out B6_3.out (by decide) hoth);have Ry_4:=hhd (zE rfl Ry_3.out B6_3.out (by decide) hoth);have Rs_4:=hhd (zE rfl Rs_3.out B6_3.out (by decide) hoth);obtain ⟨k3_0_4,k3_1_4,k3_2_4,k3_3_4,k3_4_4,k3_5_4⟩:=bk6 B3_4.out;obtain ⟨k4_0_4,k4_1_4,k4_2_4,k4_3_4⟩:=bk4 B4_4.out;obtain ⟨k10_0_4,k10_1_4,k10_2_4,k10_3_4,k10_4_4,k10_5_4,k10_6_4,k10_7_4,k10_8_4⟩:=bk9 B10_4.out;obtain ⟨k12_0_4,k12_1_4⟩:=bk2 B12_4.out;clear k3_0_3 k3_1_3 k3_2_3 k3_3_3 k3_4_3 k3_5_3 k4_0_3 k4_1_3 k4_2_3 k4_3_3 k6_0_3 k6_1_3 k6_2_3 k6_3_3 k10_0_3 k10_1_3 k10_2_3 k10_3_3 k10_4_3 k10_5_3 k10_6_3 k10_7_3 k10_8_3 k12_0_3 k12_1_3;obtain ⟨k6_0_4,k6_1_4,k6_2_4,k6_3_4⟩:=bk4 B6_4.out;clear hq hoth hbel))
   go_roundw
   case rel=>exact ⟨k+1,by omega,by go_num,A3,c3,A4,c4,sh4,B3_4.out,B4_4.out,B10_4.out,B6_4.out,Ry_4.out,Rs_4.out,Rp_4.out,Rw_4.out,HB_4.out⟩
   case measure=>simp [intOf];omega
  ·obtain rfl:k=ps.length:=by omega
   have j6:=E6
   go_wp2_with (first
    | ((with_reducible refine zg (N:=64) rfl ?_);refine wpList_load_row rfl 28 _ rfl g6 rfl 28 #[.slice Ax n cx,.int .i64 (EX ps.length),.bool false,.slice As ps.length cs] (0,0) _ E6.out Tryz.underlying28 rfl (zD _ _ _ _) ?_)
    | ((with_reducible refine zo (t:=28) (p:=4) rfl ?_);refine zv rfl 28 _ _ rfl g4 #[.slice Ax n cx,.int .i64 (EX ps.length),.bool false,.slice As ps.length cs] rfl rfl 28 #[.slice none 0 0,.int .i64 0,.bool false,.slice none 0 0] E4.out (zD _ _ _ _) rfl (z7 _ _ _ _ _ _ _ _) ?_;intro We hq hoth hbel;have B4e:=hhd hq;have HBe:=hhd (hbel _ _ L4 HBr.out);have Rye:=hhd (zE rfl ERy.out E4.out (by decide) hoth);clear hq hoth hbel))
   refine bodyPost_ret (zZ rfl _ _ g4 28 #[.slice Ax n cx,.int .i64 (EX ps.length),.bool false,.slice As ps.length cs] (0,0) _ rfl B4e.out Tryz.underlying28 rfl (zD _ _ _ _)) rfl ?_
   exact ⟨Ax,cx,As,cs,rfl,Rye.out,HBe.out⟩
set_option maxRecDepth 100000 in
set_option maxHeartbeats 4000000 in
theorem zl8 (p0 p1 p2 p4 b:Int) (p5:Bool) (Aw:Option Addr) (wl:List S38) (cw:Nat) (Ax:Option Addr) (cx:Nat) (l y:List S38) (exp h:Int) (As:Option Addr) (cs:Nat) (sh:List Int) (w:World) (hy0:0 < y.length) (hy1:y.length≤64) (hyy:∀x,x∈y→zcV x=true)
  (hx:Kd.C k38 w Ax l.length l) (hw:Kd.C k38 w Aw wl.length wl) (hs:Kd.C (Kd.int .i64) w As sh.length sh) (hcs:sh.length≤cs) (hls:sh.length≤100) (hly:y.length=l.length) (he0:-1000≤exp) (he1:exp≤1000) (hb0:2≤b) (hb1:b≤31)
  (hp:∀W:World,Kd.C k38 W Ax l.length l→Kd.C k38 W Aw wl.length wl→Calls Tryz.prog 49 #[.slice Ax l.length cx,.slice Aw wl.length cw,.int .i64 h,.int .i64 (b - 2),.int .i64 0,.int .i64 p4,.bool p5] W fun e w'=>∃v,e=.returned (.tuple #[v,.int .i64 0])∧Kd.R k38 38 w' W.heap.size (fun _=>True) v y∧Below W.heap.size W w') :
  Calls Tryz.prog 20 #[.agg #[.int .i64 0,.int .i64 p1,.int .i64 p2,.int .i64 2,.int .i64 p4,.bool p5,.iface 100 (.agg #[]),.int .i64 b,.slice Aw wl.length cw],.agg #[.slice Ax l.length cx,.int .i64 0,.bool false,.slice As sh.length cs],.agg #[.int .i64 2,.int .i64 h]] w fun e w'=>∃A' c' As' cs',e=.returned (.agg #[.slice A' l.length c',.int .i64 0,.bool false,.slice As' (sh.length+1) cs'])∧Kd.R k38 38 w' w.heap.size (fun _=>True) (.slice A' l.length c') y∧Kd.R (Kd.int .i64) 3 w' w.heap.size (fun _=>True) (.slice As' (sh.length+1) cs') (sh++[0])∧Below w.heap.size w w':=by
 have hmx:Tryz.prog.follows .mixedOrders=true:=by kernel_rfl
 have hm : ∀ w, (method 294 100 (.agg #[]) "headroom/fft.pass").run Tryz.prog w = .ok (152, .agg #[]) w := fun _ => by kernel_rfl
 have HR:=hhd hx
 have HS:=hhd hw
 have HT:=hhd hs
 have HCS:=hhd hcs
 have HLS:=hhd (show sh.length≤1000 by omega)
 have HLY:=hhd hly
 have HP:=hhd hp
 have HEX:=hhd (show wrap64 0=0 by unfold wrap64;omega)
 have HB0:=hhd (Below.refl w.heap.size w)
 have HK:=hhd (fun (A:Option Addr) (c:Nat) (W:World) (hr:Kd.C k38 W A y.length y) (hc:y.length≤c)=>hly ▸ zi1 p1 p2 p4 b p5 Aw wl.length cw A c y W hr hc hy0 hy1 hyy)
 clear hyy
 clear hx hw hs hcs hls hly hp
 go_enter Tryz.func20,Tryz.ntmps20
 go_wp2_with (first
  | ((with_reducible refine zg (N:=3) rfl ?_);refine ba_ 3 #[.int .i64 0,.int .i64 p1,.int .i64 p2,.int .i64 2,.int .i64 p4,.bool p5,.iface 100 (.agg #[]),.int .i64 b,.slice Aw wl.length cw] 56 ?_;intro g3 hg W1 hbox hbl;have L3:=gf_ hg HB0.out;have B3_1:=hhd hbox;have HB_1:=hhd (zb HB0.out hbl);have Cx_1:=hhd (Kd.C_below HR.out HB_1.out);have Cw_1:=hhd (Kd.C_below HS.out HB_1.out);have Cs_1:=hhd (Kd.C_below HT.out HB_1.out);obtain ⟨k3_0_1,k3_1_1,k3_2_1,k3_3_1,k3_4_1,k3_5_1,k3_6_1,k3_7_1,k3_8_1⟩:=bk9 B3_1.out;clear hbox hbl hg)
  | ((with_reducible refine zg (N:=4) rfl ?_);refine ba_ 4 #[.slice Ax l.length cx,.int .i64 0,.bool false,.slice As sh.length cs] 28 ?_;intro g4 hg W2 hbox hbl;have L4:=gf_ hg HB_1.out;have B4_2:=hhd hbox;have HB_2:=hhd (zb HB_1.out hbl);have B3_2:=hhd (za B3_1.out hbl);have Cx_2:=hhd (Kd.C_below HR.out HB_2.out);have Cw_2:=hhd (Kd.C_below HS.out HB_2.out);have Cs_2:=hhd (Kd.C_below HT.out HB_2.out);obtain ⟨k3_0_2,k3_1_2,k3_2_2,k3_3_2,k3_4_2,k3_5_2,k3_6_2,k3_7_2,k3_8_2⟩:=bk9 B3_2.out;clear k3_0_1 k3_1_1 k3_2_1 k3_3_1 k3_4_1 k3_5_1 k3_6_1 k3_7_1 k3_8_1;obtain ⟨k4_0_2,k4_1_2,k4_2_2,k4_3_2⟩:=bk4 B4_2.out;clear hbox hbl hg)
  | ((with_reducible refine zg (N:=5) rfl ?_);refine ba_ 5 #[.int .i64 2,.int .i64 h] 59 ?_;intro g5 hg W3 hbox hbl;have L5:=gf_ hg HB_2.out;have B5_3:=hhd hbox;have HB_3:=hhd (zb HB_2.out hbl);have B3_3:=hhd (za B3_2.out hbl);have B4_3:=hhd (za B4_2.out hbl);have Cx_3:=hhd (Kd.C_below HR.out HB_3.out);have Cw_3:=hhd (Kd.C_below HS.out HB_3.out);have Cs_3:=hhd (Kd.C_below HT.out HB_3.out);obtain ⟨k3_0_3,k3_1_3,k3_2_3,k3_3_3,k3_4_3,k3_5_3,k3_6_3,k3_7_3,k3_8_3⟩:=bk9 B3_3.out;obtain ⟨k4_0_3,k4_1_3,k4_2_3,k4_3_3⟩:=bk4 B4_3.out;clear k3_0_2 k3_1_2 k3_2_2 k3_3_2 k3_4_2 k3_5_2 k3_6_2 k3_7_2 k3_8_2 k4_0_2 k4_1_2 k4_2_2 k4_3_2;obtain ⟨k5_0_3,k5_1_3⟩:=bk2 B5_3.out;clear hbox hbl hg)
  | ((with_reducible refine zg (N:=6) rfl ?_);refine ba_ 6 #[.slice none 0 0,.int .i64 0,.bool false,.slice none 0 0] 28 ?_;intro g6 hg W4 hbox hbl;have L6:=gf_ hg HB_3.out;have B6_4:=hhd hbox;have HB_4:=hhd (zb HB_3.out hbl);have B3_4:=hhd (za B3_3.out hbl);have B4_4:=hhd (za B4_3.out hbl);have B5_4:=hhd (za B5_3.out hbl);have Cx_4:=hhd (Kd.C_below HR.out HB_4.out);have Cw_4:=hhd (Kd.C_below HS.out HB_4.out);have Cs_4:=hhd (Kd.C_below HT.out HB_4.out);obtain ⟨k3_0_4,k3_1_4,k3_2_4,k3_3_4,k3_4_4,k3_5_4,k3_6_4,k3_7_4,k3_8_4⟩:=bk9 B3_4.out;obtain ⟨k4_0_4,k4_1_4,k4_2_4,k4_3_4⟩:=bk4 B4_4.out;obtain ⟨k5_0_4,k5_1_4⟩:=bk2 B5_4.out;clear k3_0_3 k3_1_3 k3_2_3 k3_3_3 k3_4_3 k3_5_3 k3_6_3 k3_7_3 k3_8_3 k4_0_3 k4_1_3 k4_2_3 k4_3_3 k5_0_3 k5_1_3;obtain ⟨k6_0_4,k6_1_4,k6_2_4,k6_3_4⟩:=bk4 B6_4.out;have NE36:=hhd (show g3≠g6 from fun e=>by have:=zf B3_3.out;omega);have NE46:=hhd (show g4≠g6 from fun e=>by have:=zf B4_3.out;omega);have NE56:=hhd (show g5≠g6 from fun e=>by have:=zf B5_3.out;omega);clear hbox hbl hg)
  | (go_at_call 152;(with_reducible refine (zkU 2 Ax l.length cx _).mono ?_);rintro e W5 ⟨rfl,hb⟩;have HB_5:=hhd (zb HB_4.out hb);have B3_5:=hhd (za B3_4.out hb);have B4_5:=hhd (za B4_4.out hb);have B5_5:=hhd (za B5_4.out hb);have B6_5:=hhd (za B6_4.out hb);have Cx_5:=hhd (Kd.C_below HR.out HB_5.out);have Cw_5:=hhd (Kd.C_below HS.out HB_5.out);have Cs_5:=hhd (Kd.C_below HT.out HB_5.out);obtain ⟨k3_0_5,k3_1_5,k3_2_5,k3_3_5,k3_4_5,k3_5_5,k3_6_5,k3_7_5,k3_8_5⟩:=bk9 B3_5.out;obtain ⟨k4_0_5,k4_1_5,k4_2_5,k4_3_5⟩:=bk4 B4_5.out;obtain ⟨k5_0_5,k5_1_5⟩:=bk2 B5_5.out;obtain ⟨k6_0_5,k6_1_5,k6_2_5,k6_3_5⟩:=bk4 B6_5.out;clear k3_0_4 k3_1_4 k3_2_4 k3_3_4 k3_4_4 k3_5_4 k3_6_4 k3_7_4 k3_8_4 k4_0_4 k4_1_4 k4_2_4 k4_3_4 k5_0_4 k5_1_4 k6_0_4 k6_1_4 k6_2_4 k6_3_4;clear hb)
  | (go_at_call 49;refine (HP.out _ Cx_5.out Cw_5.out).mono ?_;rintro e W6 ⟨vt,rfl,ho,hb⟩;obtain ⟨A2,c2,ev⟩:=Kd.R_slice ho;rw [HLY.out] at ev;subst ev;have Ry_6:=hhd (Kd.R_lower ho (zj HB_5.out));have NR6:=hhd (show some g6≠(Value.slice A2 _ c2).ownBlock from fun e=>Nat.lt_irrefl _ (Nat.lt_of_lt_of_le (zf B6_5.out) (Kd.R_base ho g6 e.symm)));have HB_6:=hhd (zb HB_5.out hb);have B3_6:=hhd (za B3_5.out hb);have B4_6:=hhd (za B4_5.out hb);have B5_6:=hhd (za B5_5.out hb);have B6_6:=hhd (za B6_5.out hb);have Cx_6:=hhd (Kd.C_below HR.out HB_6.out);have Cw_6:=hhd (Kd.C_below HS.out HB_6.out);have Cs_6:=hhd (Kd.C_below HT.out HB_6.out);obtain ⟨k3_0_6,k3_1_6,k3_2_6,k3_3_6,k3_4_6,k3_5_6,k3_6_6,k3_7_6,k3_8_6⟩:=bk9 B3_6.out;obtain ⟨k4_0_6,k4_1_6,k4_2_6,k4_3_6⟩:=bk4 B4_6.out;obtain ⟨k5_0_6,k5_1_6⟩:=bk2 B5_6.out;obtain ⟨k6_0_6,k6_1_6,k6_2_6,k6_3_6⟩:=bk4 B6_6.out;clear k3_0_5 k3_1_5 k3_2_5 k3_3_5 k3_4_5 k3_5_5 k3_6_5 k3_7_5 k3_8_5 k4_0_5 k4_1_5 k4_2_5 k4_3_5 k5_0_5 k5_1_5 k6_0_5 k6_1_5 k6_2_5 k6_3_5;clear hb ho))
 refine zae (S:=fun w'=>Below W6.heap.size W6 w') (ds:=[]) (fl 16 0) hmx rfl rfl (Below.refl _ _).drew (fun hHeld=>?_)
 refine px_ 0 (some 44) (fl 16 1) rfl rfl ?_
 refine px_ 1 (some 45) (fl 16 3) rfl rfl ?_
 refine px_ 3 (some 47) (fl 16 11) rfl rfl ?_
 refine px_ 5 (some 49) (fl 16 43) rfl rfl ?_
 refine px_ 7 (some 51) (fl 16 171) rfl rfl ?_
 refine px_ 10 (some 54) (fl 16 1195) rfl rfl ?_
 refine tx_ 2 (some 46) (fl 16 1199) rfl rfl hHeld (by rintro w' hs;obtain ⟨j_k4_0_6,j_k4_1_6,j_k4_2_6,j_k4_3_6⟩:=bg4 hs k4_0_6 k4_1_6 k4_2_6 k4_3_6;go_simp;with_reducible rfl) ?_
 refine px_ 4 (some 48) (fl 16 1215) rfl rfl ?_
 refine tx_ 6 (some 50) (fl 16 1279) rfl rfl hHeld (by rintro w' hs;obtain ⟨j_k4_0_6,j_k4_1_6,j_k4_2_6,j_k4_3_6⟩:=bg4 hs k4_0_6 k4_1_6 k4_2_6 k4_3_6;go_simp;with_reducible rfl) ?_
 refine tx_ 8 (some 52) (fl 16 1535) rfl rfl hHeld (by rintro w' hs;obtain ⟨j_k4_0_6,j_k4_1_6,j_k4_2_6,j_k4_3_6⟩:=bg4 hs k4_0_6 k4_1_6 k4_2_6 k4_3_6;go_simp;with_reducible rfl) ?_
 refine zev (i:=9) (j:=11) (k:=14) (Ni:=some 53) (Nj:=some 55) (Nk:=some 11) (fl 16 2047) (fl 16 3583) (fl 16 17919) rfl rfl rfl rfl rfl rfl (by kernel_rfl) (by decide) (by decide) (by decide) (fun K hK=>?e1_9) (fun K hK=>?e1_11) (fun K hK=>?e1_14)
 case' e1_9 =>
  refine zN Tryz.func51 (by kernel_rfl) rfl #[.slice As sh.length cs] (by rfl) rfl rfl (by go_simp) ?_
  refine (zaO As sh.length cs HCS.out HLS.out _).mono ?_
  rintro e Wc ⟨rfl,rfl⟩
  refine ⟨_,rfl,?_⟩
  refine hK.out _ _ hHeld (fun _=>?_)
  clear hK K
  refine nx_ (some 53) ?_
  refine zaM (i:=11) (j:=14) (Ni:=some 55) (Nj:=some 11) (fl 16 4095) (fl 16 18431) rfl rfl rfl rfl (by kernel_rfl) (by decide) (by decide) (fun K hK=>?e2_11) (fun K hK=>?e2_14)
  case' e2_11 =>
   refine zaD rfl rfl 0 (by first | (go_simp;done) | (go_simp;rfl)) ?_
   intro g55 hg Wc hbox hbl
   refine hK.out _ _ (zb hHeld hbl) (fun hHeld2=>?_)
   have B55:=hhd hbox
   clear hK K hHeld hbl hbox hg
   have hHeld:=hHeld2
   clear hHeld2
   refine nx_ (some 55) ?_
   refine zaM (i:=12) (j:=14) (Ni:=some 56) (Nj:=some 11) (fl 16 8191) (fl 16 20479) rfl rfl rfl rfl (by kernel_rfl) (by decide) (by decide) (fun K hK=>?e3_12) (fun K hK=>?e3_14)
   case' e3_12 =>
    refine zad rfl rfl rfl _ _ rfl As sh g55 0 rfl rfl (Kd.C_below Cs_6.out hHeld) B55.out HLS.out ?_
    intro v56 Wc hrow hbl
    obtain ⟨A56,c56,ev⟩:=Kd.R_slice hrow
    rw [List.length_append,List.length_singleton] at ev
    subst ev
    refine hK.out _ _ (zb hHeld hbl) (fun hHeld2=>?_)
    replace B55:=hhd (za B55.out hbl)
    have L56:W6.heap.size≤_:=hHeld.size
    have R56:=hhd (Kd.R_lower hrow hHeld.size)
    clear hK K hHeld hbl hrow
    have hHeld:=hHeld2
    clear hHeld2
    refine nx_ (some 56) ?_
    refine px_ 13 (some 57) (fl 16 16383) rfl rfl ?_
    refine zA (i:=14) (N:=some 11) (fl 16 32767) rfl rfl (by kernel_rfl) (by decide) (fun K hK=>?_)
    refine box_step rfl rfl (cs:=#[.slice none 0 0,.int .i64 0,.bool false,.slice none 0 0]) (t:=28) (by first | (go_simp;done) | (go_simp;rfl)) ?_
    intro g11 hg Wc hbox hbl
    refine hK.out _ _ (zb hHeld hbl) (fun hHeld2=>?_)
    replace B55:=hhd (za B55.out hbl)
    replace R56:=hhd (Kd.R_below R56.out hbl)
    have L11:W6.heap.size≤g11:=by rw [hg];exact hHeld.size
    have B11:=hhd hbox
    clear hK K hHeld hbl hbox hg
    have hHeld:=hHeld2
    clear hHeld2
    refine nx_ (some 11) ?_
    refine zA (i:=15) (N:=none) (fl 16 65535) rfl rfl (by kernel_rfl) (by decide) (fun K hK=>?_)
    refine zC rfl rfl 28 _ _ rfl g11 #[.slice A2 l.length c2,.int .i64 (wrap64 0),.bool false,.slice A56 (sh.length+1) c56] rfl rfl 28 #[.slice none 0 0,.int .i64 0,.bool false,.slice none 0 0] B11.out (zD _ _ _ _) rfl (z7 _ _ _ _ _ _ _ _) ?_
    intro Wd hq hoth hbel
    have HBd:=hhd (hbel _ _ (Nat.le_trans (zj HB_6.out) L11) (zb HB_6.out hHeld))
    have D3_d:=hhd ((hoth _ (fun e=>by have:=zf B3_6.out;omega)).trans (za B3_6.out hHeld))
    have D4_d:=hhd ((hoth _ (fun e=>by have:=zf B4_6.out;omega)).trans (za B4_6.out hHeld))
    have D6_d:=hhd ((hoth _ (fun e=>by have:=zf B6_6.out;omega)).trans (za B6_6.out hHeld))
    have N6:=hhd (show g6≠g11 from fun e=>by have:=zf B6_6.out;omega)
    have N4:=hhd (show g4≠g11 from fun e=>by have:=zf B4_6.out;omega)
    have Ry_d:=hhd (zK (Kd.R_below Ry_6.out hHeld) hoth (fun e=>by have h1:=Kd.R_lt Ry_6.out g11 e.symm;omega))
    have R56_d:=hhd (zE rfl R56.out B11.out (by decide) hoth)
    refine hK.out _ _ (hbel _ _ L11 hHeld) (fun hHeld2=>?_)
    replace B11:=hhd hq
    clear hK K hq hoth hbel hHeld
    have hHeld:=hHeld2
    clear hHeld2
    refine zM (by kernel_rfl) ?_
   case' e3_14 =>
    refine box_step rfl rfl (cs:=#[.slice none 0 0,.int .i64 0,.bool false,.slice none 0 0]) (t:=28) (by first | (go_simp;done) | (go_simp;rfl)) ?_
    intro g11 hg Wc hbox hbl
    refine hK.out _ _ (zb hHeld hbl) (fun hHeld2=>?_)
    replace B55:=hhd (za B55.out hbl)
    have L11:W6.heap.size≤g11:=by rw [hg];exact hHeld.size
    have B11:=hhd hbox
    clear hK K hHeld hbl hbox hg
    have hHeld:=hHeld2
    clear hHeld2
    refine nx_ (some 11) ?_
    refine zA (i:=12) (N:=some 56) (fl 16 24575) rfl rfl (by kernel_rfl) (by decide) (fun K hK=>?_)
    refine zad rfl rfl rfl _ _ rfl As sh g55 0 rfl rfl (Kd.C_below Cs_6.out hHeld) B55.out HLS.out ?_
    intro v56 Wc hrow hbl
    obtain ⟨A56,c56,ev⟩:=Kd.R_slice hrow
    rw [List.length_append,List.length_singleton] at ev
    subst ev
    refine hK.out _ _ (zb hHeld hbl) (fun hHeld2=>?_)
    replace B55:=hhd (za B55.out hbl)
    replace B11:=hhd (za B11.out hbl)
    have L56:W6.heap.size≤_:=hHeld.size
    have R56:=hhd (Kd.R_lower hrow hHeld.size)
    clear hK K hHeld hbl hrow
    have hHeld:=hHeld2
    clear hHeld2
    refine nx_ (some 56) ?_
    refine px_ 13 (some 57) (fl 16 32767) rfl rfl ?_
    refine zA (i:=15) (N:=none) (fl 16 65535) rfl rfl (by kernel_rfl) (by decide) (fun K hK=>?_)
    refine zC rfl rfl 28 _ _ rfl g11 #[.slice A2 l.length c2,.int .i64 (wrap64 0),.bool false,.slice A56 (sh.length+1) c56] rfl rfl 28 #[.slice none 0 0,.int .i64 0,.bool false,.slice none 0 0] B11.out (zD _ _ _ _) rfl (z7 _ _ _ _ _ _ _ _) ?_
    intro Wd hq hoth hbel
    have HBd:=hhd (hbel _ _ (Nat.le_trans (zj HB_6.out) L11) (zb HB_6.out hHeld))
    have D3_d:=hhd ((hoth _ (fun e=>by have:=zf B3_6.out;omega)).trans (za B3_6.out hHeld))
    have D4_d:=hhd ((hoth _ (fun e=>by have:=zf B4_6.out;omega)).trans (za B4_6.out hHeld))
    have D6_d:=hhd ((hoth _ (fun e=>by have:=zf B6_6.out;omega)).trans (za B6_6.out hHeld))
    have N6:=hhd (show g6≠g11 from fun e=>by have:=zf B6_6.out;omega)
    have N4:=hhd (show g4≠g11 from fun e=>by have:=zf B4_6.out;omega)
    have Ry_d:=hhd (zK (Kd.R_below Ry_6.out hHeld) hoth (fun e=>by have h1:=Kd.R_lt Ry_6.out g11 e.symm;omega))
    have R56_d:=hhd (zE rfl R56.out B11.out (by decide) hoth)
    refine hK.out _ _ (hbel _ _ L11 hHeld) (fun hHeld2=>?_)
    replace B11:=hhd hq
    clear hK K hq hoth hbel hHeld
    have hHeld:=hHeld2
    clear hHeld2
    refine zM (by kernel_rfl) ?_
  case' e2_14 =>
   refine box_step rfl rfl (cs:=#[.slice none 0 0,.int .i64 0,.bool false,.slice none 0 0]) (t:=28) (by first | (go_simp;done) | (go_simp;rfl)) ?_
   intro g11 hg Wc hbox hbl
   refine hK.out _ _ (zb hHeld hbl) (fun hHeld2=>?_)
   have L11:W6.heap.size≤g11:=by rw [hg];exact hHeld.size
   have B11:=hhd hbox
   clear hK K hHeld hbl hbox hg
   have hHeld:=hHeld2
   clear hHeld2
   refine nx_ (some 11) ?_
   refine zA (i:=11) (N:=some 55) (fl 16 20479) rfl rfl (by kernel_rfl) (by decide) (fun K hK=>?_)
   refine zaD rfl rfl 0 (by first | (go_simp;done) | (go_simp;rfl)) ?_
   intro g55 hg Wc hbox hbl
   refine hK.out _ _ (zb hHeld hbl) (fun hHeld2=>?_)
   replace B11:=hhd (za B11.out hbl)
   have B55:=hhd hbox
   clear hK K hHeld hbl hbox hg
   have hHeld:=hHeld2
   clear hHeld2
   refine nx_ (some 55) ?_
   refine zA (i:=12) (N:=some 56) (fl 16 24575) rfl rfl (by kernel_rfl) (by decide) (fun K hK=>?_)
   refine zad rfl rfl rfl _ _ rfl As sh g55 0 rfl rfl (Kd.C_below Cs_6.out hHeld) B55.out HLS.out ?_
   intro v56 Wc hrow hbl
   obtain ⟨A56,c56,ev⟩:=Kd.R_slice hrow
   rw [List.length_append,List.length_singleton] at ev
   subst ev
   refine hK.out _ _ (zb hHeld hbl) (fun hHeld2=>?_)
   replace B11:=hhd (za B11.out hbl)
   replace B55:=hhd (za B55.out hbl)
   have L56:W6.heap.size≤_:=hHeld.size
   have R56:=hhd (Kd.R_lower hrow hHeld.size)
   clear hK K hHeld hbl hrow
   have hHeld:=hHeld2
   clear hHeld2
   refine nx_ (some 56) ?_
   refine px_ 13 (some 57) (fl 16 32767) rfl rfl ?_
   refine zA (i:=15) (N:=none) (fl 16 65535) rfl rfl (by kernel_rfl) (by decide) (fun K hK=>?_)
   refine zC rfl rfl 28 _ _ rfl g11 #[.slice A2 l.length c2,.int .i64 (wrap64 0),.bool false,.slice A56 (sh.length+1) c56] rfl rfl 28 #[.slice none 0 0,.int .i64 0,.bool false,.slice none 0 0] B11.out (zD _ _ _ _) rfl (z7 _ _ _ _ _ _ _ _) ?_
   intro Wd hq hoth hbel
   have HBd:=hhd (hbel _ _ (Nat.le_trans (zj HB_6.out) L11) (zb HB_6.out hHeld))
   have D3_d:=hhd ((hoth _ (fun e=>by have:=zf B3_6.out;omega)).trans (za B3_6.out hHeld))
   have D4_d:=hhd ((hoth _ (fun e=>by have:=zf B4_6.out;omega)).trans (za B4_6.out hHeld))
   have D6_d:=hhd ((hoth _ (fun e=>by have:=zf B6_6.out;omega)).trans (za B6_6.out hHeld))
   have N6:=hhd (show g6≠g11 from fun e=>by have:=zf B6_6.out;omega)
   have N4:=hhd (show g4≠g11 from fun e=>by have:=zf B4_6.out;omega)
   have Ry_d:=hhd (zK (Kd.R_below Ry_6.out hHeld) hoth (fun e=>by have h1:=Kd.R_lt Ry_6.out g11 e.symm;omega))
   have R56_d:=hhd (zE rfl R56.out B11.out (by decide) hoth)
   refine hK.out _ _ (hbel _ _ L11 hHeld) (fun hHeld2=>?_)
   replace B11:=hhd hq
   clear hK K hq hoth hbel hHeld
   have hHeld:=hHeld2
   clear hHeld2
   refine zM (by kernel_rfl) ?_
 case' e1_11 =>
  refine zaD rfl rfl 0 (by first | (go_simp;done) | (go_simp;rfl)) ?_
  intro g55 hg Wc hbox hbl
  refine hK.out _ _ (zb hHeld hbl) (fun hHeld2=>?_)
  have B55:=hhd hbox
  clear hK K hHeld hbl hbox hg
  have hHeld:=hHeld2
  clear hHeld2
  refine nx_ (some 55) ?_
  refine zaM (i:=9) (j:=14) (Ni:=some 53) (Nj:=some 11) (fl 16 4095) (fl 16 19967) rfl rfl rfl rfl (by kernel_rfl) (by decide) (by decide) (fun K hK=>?e4_9) (fun K hK=>?e4_14)
  case' e4_9 =>
   refine zN Tryz.func51 (by kernel_rfl) rfl #[.slice As sh.length cs] (by rfl) rfl rfl (by go_simp) ?_
   refine (zaO As sh.length cs HCS.out HLS.out _).mono ?_
   rintro e Wc ⟨rfl,rfl⟩
   refine ⟨_,rfl,?_⟩
   refine hK.out _ _ hHeld (fun _=>?_)
   clear hK K
   refine nx_ (some 53) ?_
   refine zaM (i:=12) (j:=14) (Ni:=some 56) (Nj:=some 11) (fl 16 8191) (fl 16 20479) rfl rfl rfl rfl (by kernel_rfl) (by decide) (by decide) (fun K hK=>?e5_12) (fun K hK=>?e5_14)
   case' e5_12 =>
    refine zad rfl rfl rfl _ _ rfl As sh g55 0 rfl rfl (Kd.C_below Cs_6.out hHeld) B55.out HLS.out ?_
    intro v56 Wc hrow hbl
    obtain ⟨A56,c56,ev⟩:=Kd.R_slice hrow
    rw [List.length_append,List.length_singleton] at ev
    subst ev
    refine hK.out _ _ (zb hHeld hbl) (fun hHeld2=>?_)
    replace B55:=hhd (za B55.out hbl)
    have L56:W6.heap.size≤_:=hHeld.size
    have R56:=hhd (Kd.R_lower hrow hHeld.size)
    clear hK K hHeld hbl hrow
    have hHeld:=hHeld2
    clear hHeld2
    refine nx_ (some 56) ?_
    refine px_ 13 (some 57) (fl 16 16383) rfl rfl ?_
    refine zA (i:=14) (N:=some 11) (fl 16 32767) rfl rfl (by kernel_rfl) (by decide) (fun K hK=>?_)
    refine box_step rfl rfl (cs:=#[.slice none 0 0,.int .i64 0,.bool false,.slice none 0 0]) (t:=28) (by first | (go_simp;done) | (go_simp;rfl)) ?_
    intro g11 hg Wc hbox hbl
    refine hK.out _ _ (zb hHeld hbl) (fun hHeld2=>?_)
    replace B55:=hhd (za B55.out hbl)
    replace R56:=hhd (Kd.R_below R56.out hbl)
    have L11:W6.heap.size≤g11:=by rw [hg];exact hHeld.size
    have B11:=hhd hbox
    clear hK K hHeld hbl hbox hg
    have hHeld:=hHeld2
    clear hHeld2
    refine nx_ (some 11) ?_
    refine zA (i:=15) (N:=none) (fl 16 65535) rfl rfl (by kernel_rfl) (by decide) (fun K hK=>?_)
    refine zC rfl rfl 28 _ _ rfl g11 #[.slice A2 l.length c2,.int .i64 (wrap64 0),.bool false,.slice A56 (sh.length+1) c56] rfl rfl 28 #[.slice none 0 0,.int .i64 0,.bool false,.slice none 0 0] B11.out (zD _ _ _ _) rfl (z7 _ _ _ _ _ _ _ _) ?_
    intro Wd hq hoth hbel
    have HBd:=hhd (hbel _ _ (Nat.le_trans (zj HB_6.out) L11) (zb HB_6.out hHeld))
    have D3_d:=hhd ((hoth _ (fun e=>by have:=zf B3_6.out;omega)).trans (za B3_6.out hHeld))
    have D4_d:=hhd ((hoth _ (fun e=>by have:=zf B4_6.out;omega)).trans (za B4_6.out hHeld))
    have D6_d:=hhd ((hoth _ (fun e=>by have:=zf B6_6.out;omega)).trans (za B6_6.out hHeld))
    have N6:=hhd (show g6≠g11 from fun e=>by have:=zf B6_6.out;omega)
    have N4:=hhd (show g4≠g11 from fun e=>by have:=zf B4_6.out;omega)
    have Ry_d:=hhd (zK (Kd.R_below Ry_6.out hHeld) hoth (fun e=>by have h1:=Kd.R_lt Ry_6.out g11 e.symm;omega))
    have R56_d:=hhd (zE rfl R56.out B11.out (by decide) hoth)
    refine hK.out _ _ (hbel _ _ L11 hHeld) (fun hHeld2=>?_)
    replace B11:=hhd hq
    clear hK K hq hoth hbel hHeld
    have hHeld:=hHeld2
    clear hHeld2
    refine zM (by kernel_rfl) ?_
   case' e5_14 =>
    refine box_step rfl rfl (cs:=#[.slice none 0 0,.int .i64 0,.bool false,.slice none 0 0]) (t:=28) (by first | (go_simp;done) | (go_simp;rfl)) ?_
    intro g11 hg Wc hbox hbl
    refine hK.out _ _ (zb hHeld hbl) (fun hHeld2=>?_)
    replace B55:=hhd (za B55.out hbl)
    have L11:W6.heap.size≤g11:=by rw [hg];exact hHeld.size
    have B11:=hhd hbox
    clear hK K hHeld hbl hbox hg
    have hHeld:=hHeld2
    clear hHeld2
    refine nx_ (some 11) ?_
    refine zA (i:=12) (N:=some 56) (fl 16 24575) rfl rfl (by kernel_rfl) (by decide) (fun K hK=>?_)
    refine zad rfl rfl rfl _ _ rfl As sh g55 0 rfl rfl (Kd.C_below Cs_6.out hHeld) B55.out HLS.out ?_
    intro v56 Wc hrow hbl
    obtain ⟨A56,c56,ev⟩:=Kd.R_slice hrow
    rw [List.length_append,List.length_singleton] at ev
    subst ev
    refine hK.out _ _ (zb hHeld hbl) (fun hHeld2=>?_)
    replace B55:=hhd (za B55.out hbl)
    replace B11:=hhd (za B11.out hbl)
    have L56:W6.heap.size≤_:=hHeld.size
    have R56:=hhd (Kd.R_lower hrow hHeld.size)
    clear hK K hHeld hbl hrow
    have hHeld:=hHeld2
    clear hHeld2
    refine nx_ (some 56) ?_
    refine px_ 13 (some 57) (fl 16 32767) rfl rfl ?_
    refine zA (i:=15) (N:=none) (fl 16 65535) rfl rfl (by kernel_rfl) (by decide) (fun K hK=>?_)
    refine zC rfl rfl 28 _ _ rfl g11 #[.slice A2 l.length c2,.int .i64 (wrap64 0),.bool false,.slice A56 (sh.length+1) c56] rfl rfl 28 #[.slice none 0 0,.int .i64 0,.bool false,.slice none 0 0] B11.out (zD _ _ _ _) rfl (z7 _ _ _ _ _ _ _ _) ?_
    intro Wd hq hoth hbel
    have HBd:=hhd (hbel _ _ (Nat.le_trans (zj HB_6.out) L11) (zb HB_6.out hHeld))
    have D3_d:=hhd ((hoth _ (fun e=>by have:=zf B3_6.out;omega)).trans (za B3_6.out hHeld))
    have D4_d:=hhd ((hoth _ (fun e=>by have:=zf B4_6.out;omega)).trans (za B4_6.out hHeld))
    have D6_d:=hhd ((hoth _ (fun e=>by have:=zf B6_6.out;omega)).trans (za B6_6.out hHeld))
    have N6:=hhd (show g6≠g11 from fun e=>by have:=zf B6_6.out;omega)
    have N4:=hhd (show g4≠g11 from fun e=>by have:=zf B4_6.out;omega)
    have Ry_d:=hhd (zK (Kd.R_below Ry_6.out hHeld) hoth (fun e=>by have h1:=Kd.R_lt Ry_6.out g11 e.symm;omega))
    have R56_d:=hhd (zE rfl R56.out B11.out (by decide) hoth)
    refine hK.out _ _ (hbel _ _ L11 hHeld) (fun hHeld2=>?_)
    replace B11:=hhd hq
    clear hK K hq hoth hbel hHeld
    have hHeld:=hHeld2
    clear hHeld2
    refine zM (by kernel_rfl) ?_
  case' e4_14 =>
   refine box_step rfl rfl (cs:=#[.slice none 0 0,.int .i64 0,.bool false,.slice none 0 0]) (t:=28) (by first | (go_simp;done) | (go_simp;rfl)) ?_
   intro g11 hg Wc hbox hbl
   refine hK.out _ _ (zb hHeld hbl) (fun hHeld2=>?_)
   replace B55:=hhd (za B55.out hbl)
   have L11:W6.heap.size≤g11:=by rw [hg];exact hHeld.size
   have B11:=hhd hbox
   clear hK K hHeld hbl hbox hg
   have hHeld:=hHeld2
   clear hHeld2
   refine nx_ (some 11) ?_
   refine zA (i:=9) (N:=some 53) (fl 16 20479) rfl rfl (by kernel_rfl) (by decide) (fun K hK=>?_)
   refine zN Tryz.func51 (by kernel_rfl) rfl #[.slice As sh.length cs] (by rfl) rfl rfl (by go_simp) ?_
   refine (zaO As sh.length cs HCS.out HLS.out _).mono ?_
   rintro e Wc ⟨rfl,rfl⟩
   refine ⟨_,rfl,?_⟩
   refine hK.out _ _ hHeld (fun _=>?_)
   clear hK K
   refine nx_ (some 53) ?_
   refine zA (i:=12) (N:=some 56) (fl 16 24575) rfl rfl (by kernel_rfl) (by decide) (fun K hK=>?_)
   refine zad rfl rfl rfl _ _ rfl As sh g55 0 rfl rfl (Kd.C_below Cs_6.out hHeld) B55.out HLS.out ?_
   intro v56 Wc hrow hbl
   obtain ⟨A56,c56,ev⟩:=Kd.R_slice hrow
   rw [List.length_append,List.length_singleton] at ev
   subst ev
   refine hK.out _ _ (zb hHeld hbl) (fun hHeld2=>?_)
   replace B55:=hhd (za B55.out hbl)
   replace B11:=hhd (za B11.out hbl)
   have L56:W6.heap.size≤_:=hHeld.size
   have R56:=hhd (Kd.R_lower hrow hHeld.size)
   clear hK K hHeld hbl hrow
   have hHeld:=hHeld2
   clear hHeld2
   refine nx_ (some 56) ?_
   refine px_ 13 (some 57) (fl 16 32767) rfl rfl ?_
   refine zA (i:=15) (N:=none) (fl 16 65535) rfl rfl (by kernel_rfl) (by decide) (fun K hK=>?_)
   refine zC rfl rfl 28 _ _ rfl g11 #[.slice A2 l.length c2,.int .i64 (wrap64 0),.bool false,.slice A56 (sh.length+1) c56] rfl rfl 28 #[.slice none 0 0,.int .i64 0,.bool false,.slice none 0 0] B11.out (zD _ _ _ _) rfl (z7 _ _ _ _ _ _ _ _) ?_
   intro Wd hq hoth hbel
   have HBd:=hhd (hbel _ _ (Nat.le_trans (zj HB_6.out) L11) (zb HB_6.out hHeld))
   have D3_d:=hhd ((hoth _ (fun e=>by have:=zf B3_6.out;omega)).trans (za B3_6.out hHeld))
   have D4_d:=hhd ((hoth _ (fun e=>by have:=zf B4_6.out;omega)).trans (za B4_6.out hHeld))
   have D6_d:=hhd ((hoth _ (fun e=>by have:=zf B6_6.out;omega)).trans (za B6_6.out hHeld))
   have N6:=hhd (show g6≠g11 from fun e=>by have:=zf B6_6.out;omega)
   have N4:=hhd (show g4≠g11 from fun e=>by have:=zf B4_6.out;omega)
   have Ry_d:=hhd (zK (Kd.R_below Ry_6.out hHeld) hoth (fun e=>by have h1:=Kd.R_lt Ry_6.out g11 e.symm;omega))
   have R56_d:=hhd (zE rfl R56.out B11.out (by decide) hoth)
   refine hK.out _ _ (hbel _ _ L11 hHeld) (fun hHeld2=>?_)
   replace B11:=hhd hq
   clear hK K hq hoth hbel hHeld
   have hHeld:=hHeld2
   clear hHeld2
   refine zM (by kernel_rfl) ?_
 case' e1_14 =>
  refine box_step rfl rfl (cs:=#[.slice none 0 0,.int .i64 0,.bool false,.slice none 0 0]) (t:=28) (by first | (go_simp;done) | (go_simp;rfl)) ?_
  intro g11 hg Wc hbox hbl
  refine hK.out _ _ (zb hHeld hbl) (fun hHeld2=>?_)
  have L11:W6.heap.size≤g11:=by rw [hg];exact hHeld.size
  have B11:=hhd hbox
  clear hK K hHeld hbl hbox hg
  have hHeld:=hHeld2
  clear hHeld2
  refine nx_ (some 11) ?_
  refine zaM (i:=9) (j:=11) (Ni:=some 53) (Nj:=some 55) (fl 16 18431) (fl 16 19967) rfl rfl rfl rfl (by kernel_rfl) (by decide) (by decide) (fun K hK=>?e6_9) (fun K hK=>?e6_11)
  case' e6_9 =>
   refine zN Tryz.func51 (by kernel_rfl) rfl #[.slice As sh.length cs] (by rfl) rfl rfl (by go_simp) ?_
   refine (zaO As sh.length cs HCS.out HLS.out _).mono ?_
   rintro e Wc ⟨rfl,rfl⟩
   refine ⟨_,rfl,?_⟩
   refine hK.out _ _ hHeld (fun _=>?_)
   clear hK K
   refine nx_ (some 53) ?_
   refine zA (i:=11) (N:=some 55) (fl 16 20479) rfl rfl (by kernel_rfl) (by decide) (fun K hK=>?_)
   refine zaD rfl rfl 0 (by first | (go_simp;done) | (go_simp;rfl)) ?_
   intro g55 hg Wc hbox hbl
   refine hK.out _ _ (zb hHeld hbl) (fun hHeld2=>?_)
   replace B11:=hhd (za B11.out hbl)
   have B55:=hhd hbox
   clear hK K hHeld hbl hbox hg
   have hHeld:=hHeld2
   clear hHeld2
   refine nx_ (some 55) ?_
   refine zA (i:=12) (N:=some 56) (fl 16 24575) rfl rfl (by kernel_rfl) (by decide) (fun K hK=>?_)
   refine zad rfl rfl rfl _ _ rfl As sh g55 0 rfl rfl (Kd.C_below Cs_6.out hHeld) B55.out HLS.out ?_
   intro v56 Wc hrow hbl
   obtain ⟨A56,c56,ev⟩:=Kd.R_slice hrow
   rw [List.length_append,List.length_singleton] at ev
   subst ev
   refine hK.out _ _ (zb hHeld hbl) (fun hHeld2=>?_)
   replace B11:=hhd (za B11.out hbl)
   replace B55:=hhd (za B55.out hbl)
   have L56:W6.heap.size≤_:=hHeld.size
   have R56:=hhd (Kd.R_lower hrow hHeld.size)
   clear hK K hHeld hbl hrow
   have hHeld:=hHeld2
   clear hHeld2
   refine nx_ (some 56) ?_
   refine px_ 13 (some 57) (fl 16 32767) rfl rfl ?_
   refine zA (i:=15) (N:=none) (fl 16 65535) rfl rfl (by kernel_rfl) (by decide) (fun K hK=>?_)
   refine zC rfl rfl 28 _ _ rfl g11 #[.slice A2 l.length c2,.int .i64 (wrap64 0),.bool false,.slice A56 (sh.length+1) c56] rfl rfl 28 #[.slice none 0 0,.int .i64 0,.bool false,.slice none 0 0] B11.out (zD _ _ _ _) rfl (z7 _ _ _ _ _ _ _ _) ?_
   intro Wd hq hoth hbel
   have HBd:=hhd (hbel _ _ (Nat.le_trans (zj HB_6.out) L11) (zb HB_6.out hHeld))
   have D3_d:=hhd ((hoth _ (fun e=>by have:=zf B3_6.out;omega)).trans (za B3_6.out hHeld))
   have D4_d:=hhd ((hoth _ (fun e=>by have:=zf B4_6.out;omega)).trans (za B4_6.out hHeld))
   have D6_d:=hhd ((hoth _ (fun e=>by have:=zf B6_6.out;omega)).trans (za B6_6.out hHeld))
   have N6:=hhd (show g6≠g11 from fun e=>by have:=zf B6_6.out;omega)
   have N4:=hhd (show g4≠g11 from fun e=>by have:=zf B4_6.out;omega)
   have Ry_d:=hhd (zK (Kd.R_below Ry_6.out hHeld) hoth (fun e=>by have h1:=Kd.R_lt Ry_6.out g11 e.symm;omega))
   have R56_d:=hhd (zE rfl R56.out B11.out (by decide) hoth)
   refine hK.out _ _ (hbel _ _ L11 hHeld) (fun hHeld2=>?_)
   replace B11:=hhd hq
   clear hK K hq hoth hbel hHeld
   have hHeld:=hHeld2
   clear hHeld2
   refine zM (by kernel_rfl) ?_
  case' e6_11 =>
   refine zaD rfl rfl 0 (by first | (go_simp;done) | (go_simp;rfl)) ?_
   intro g55 hg Wc hbox hbl
   refine hK.out _ _ (zb hHeld hbl) (fun hHeld2=>?_)
   replace B11:=hhd (za B11.out hbl)
   have B55:=hhd hbox
   clear hK K hHeld hbl hbox hg
   have hHeld:=hHeld2
   clear hHeld2
   refine nx_ (some 55) ?_
   refine zA (i:=9) (N:=some 53) (fl 16 20479) rfl rfl (by kernel_rfl) (by decide) (fun K hK=>?_)
   refine zN Tryz.func51 (by kernel_rfl) rfl #[.slice As sh.length cs] (by rfl) rfl rfl (by go_simp) ?_
   refine (zaO As sh.length cs HCS.out HLS.out _).mono ?_
   rintro e Wc ⟨rfl,rfl⟩
   refine ⟨_,rfl,?_⟩
   refine hK.out _ _ hHeld (fun _=>?_)
   clear hK K
   refine nx_ (some 53) ?_
   refine zA (i:=12) (N:=some 56) (fl 16 24575) rfl rfl (by kernel_rfl) (by decide) (fun K hK=>?_)
   refine zad rfl rfl rfl _ _ rfl As sh g55 0 rfl rfl (Kd.C_below Cs_6.out hHeld) B55.out HLS.out ?_
   intro v56 Wc hrow hbl
   obtain ⟨A56,c56,ev⟩:=Kd.R_slice hrow
   rw [List.length_append,List.length_singleton] at ev
   subst ev
   refine hK.out _ _ (zb hHeld hbl) (fun hHeld2=>?_)
   replace B11:=hhd (za B11.out hbl)
   replace B55:=hhd (za B55.out hbl)
   have L56:W6.heap.size≤_:=hHeld.size
   have R56:=hhd (Kd.R_lower hrow hHeld.size)
   clear hK K hHeld hbl hrow
   have hHeld:=hHeld2
   clear hHeld2
   refine nx_ (some 56) ?_
   refine px_ 13 (some 57) (fl 16 32767) rfl rfl ?_
   refine zA (i:=15) (N:=none) (fl 16 65535) rfl rfl (by kernel_rfl) (by decide) (fun K hK=>?_)
   refine zC rfl rfl 28 _ _ rfl g11 #[.slice A2 l.length c2,.int .i64 (wrap64 0),.bool false,.slice A56 (sh.length+1) c56] rfl rfl 28 #[.slice none 0 0,.int .i64 0,.bool false,.slice none 0 0] B11.out (zD _ _ _ _) rfl (z7 _ _ _ _ _ _ _ _) ?_
   intro Wd hq hoth hbel
   have HBd:=hhd (hbel _ _ (Nat.le_trans (zj HB_6.out) L11) (zb HB_6.out hHeld))
   have D3_d:=hhd ((hoth _ (fun e=>by have:=zf B3_6.out;omega)).trans (za B3_6.out hHeld))
   have D4_d:=hhd ((hoth _ (fun e=>by have:=zf B4_6.out;omega)).trans (za B4_6.out hHeld))
   have D6_d:=hhd ((hoth _ (fun e=>by have:=zf B6_6.out;omega)).trans (za B6_6.out hHeld))
   have N6:=hhd (show g6≠g11 from fun e=>by have:=zf B6_6.out;omega)
   have N4:=hhd (show g4≠g11 from fun e=>by have:=zf B4_6.out;omega)
   have Ry_d:=hhd (zK (Kd.R_below Ry_6.out hHeld) hoth (fun e=>by have h1:=Kd.R_lt Ry_6.out g11 e.symm;omega))
   have R56_d:=hhd (zE rfl R56.out B11.out (by decide) hoth)
   refine hK.out _ _ (hbel _ _ L11 hHeld) (fun hHeld2=>?_)
   replace B11:=hhd hq
   clear hK K hq hoth hbel hHeld
   have hHeld:=hHeld2
   clear hHeld2
   refine zM (by kernel_rfl) ?_
 all_goals
  have kk:=(zc D3_d.out 3).trans rfl
  clear hHeld
  go_wp2_with (first
   | ((with_reducible refine zg (N:=63) rfl ?_);refine wpList_load_row rfl 56 _ rfl g3 rfl 56 #[.int .i64 0,.int .i64 p1,.int .i64 p2,.int .i64 2,.int .i64 p4,.bool p5,.iface 100 (.agg #[]),.int .i64 b,.slice Aw wl.length cw] (0,0) _ D3_d.out Tryz.underlying56 rfl (za9 _ _ _ _ _ _ _ _ _) ?_)
   | (go_at_call 52;refine (HK.out _ _ _ (R_C Ry_d.out).2 (R_C Ry_d.out).1).mono ?_;rintro e We ⟨A3,c3,rfl,ho,hb⟩;have Ry_1:=hhd (Kd.R_lower ho (zj HBd.out));have B11_1:=hhd (za B11.out hb);have D6_1:=hhd (za D6_d.out hb);have D3_1:=hhd (za D3_d.out hb);have B4_1:=hhd (za D4_d.out hb);have R56_1:=hhd (Kd.R_below R56_d.out hb);have HB_1:=hhd (zb HBd.out hb);have q41:=(zc B4_1.out 2).trans rfl;have q31:=(zc D3_1.out 3).trans rfl;clear ho hb)
   | ((with_reducible refine zo (t:=22) (p:=68) rfl ?_);refine zbq rfl rfl 22 _ _ rfl g11 0 (.slice A3 l.length c3) rfl rfl 28 _ B11_1.out (show (0:Nat) < 4 from by decide) zgp rfl rfl #[.slice A3 l.length c3,.int .i64 (wrap64 0),.bool false,.slice A56 (sh.length+1) c56] rfl ?_;intro Wf hq hoth hbel;have B11_2:=hhd hq;have D6_2:=hhd ((hoth _ (N6.out)).trans D6_1.out);have q42:Wf.cell? ⟨g4,2,none⟩=some (.bool false):=(zc ((hoth _ (N4.out)).trans B4_1.out) 2).trans rfl;have R56_2:=hhd (zE rfl R56_1.out B11_1.out (by decide) hoth);have Ry_2:=hhd (zE rfl Ry_1.out B11_1.out (by decide) hoth);have HB_2:=hhd (hbel _ _ (Nat.le_trans (zj HB_6.out) L11) HB_1.out);clear q41 q31 hq hoth hbel)
   | ((with_reducible refine zo (t:=4) (p:=74) rfl ?_);refine zbq rfl rfl 4 _ _ rfl g11 2 (.bool false) rfl rfl 28 _ B11_2.out (show (2:Nat) < 4 from by decide) zit rfl rfl #[.slice A3 l.length c3,.int .i64 (wrap64 0),.bool false,.slice A56 (sh.length+1) c56] rfl ?_;intro Wg hq hoth hbel;have B11_3:=hhd hq;have D6_3:=hhd ((hoth _ (N6.out)).trans D6_2.out);have R56_3:=hhd (zE rfl R56_2.out B11_2.out (by decide) hoth);have Ry_3:=hhd (zE rfl Ry_2.out B11_2.out (by decide) hoth);have HB_3:=hhd (hbel _ _ (Nat.le_trans (zj HB_6.out) L11) HB_2.out);clear q42 hq hoth hbel)
   | ((with_reducible refine zg (N:=75) rfl ?_);refine wpList_load_row rfl 28 _ rfl g11 rfl 28 #[.slice A3 l.length c3,.int .i64 (wrap64 0),.bool false,.slice A56 (sh.length+1) c56] (0,0) _ B11_3.out Tryz.underlying28 rfl (zD _ _ _ _) ?_)
   | ((with_reducible refine zo (t:=28) (p:=6) rfl ?_);refine zv rfl 28 _ _ rfl g6 #[.slice A3 l.length c3,.int .i64 (wrap64 0),.bool false,.slice A56 (sh.length+1) c56] rfl rfl 28 #[.slice none 0 0,.int .i64 0,.bool false,.slice none 0 0] D6_3.out (zD _ _ _ _) rfl (z7 _ _ _ _ _ _ _ _) ?_;intro Wh hq hoth hbel;have D6_e:=hhd hq;have HB_e:=hhd (hbel _ _ L6 HB_3.out);have Ry_e:=hhd (zE rfl Ry_3.out D6_3.out (by decide) hoth);have R56_e:=hhd (zE rfl R56_3.out D6_3.out (by decide) hoth);clear hq hoth hbel))
  have HV:=hhd HEX.out
  clear kk
  refine bodyPost_ret (results_cell_row rfl _ _ g6 28 #[.slice A3 l.length c3,.int .i64 (wrap64 0),.bool false,.slice A56 (sh.length+1) c56] (0,0) _ rfl D6_e.out Tryz.underlying28 rfl (zD _ _ _ _)) rfl ?_
  refine ⟨A3,c3,A56,c56,?_,Ry_e.out,Kd.R_lower R56_e.out (zj HB_6.out),HB_e.out⟩
  rw [HEX.out]
end Go.Proofs.YteieahbadclppaaGreat.P

namespace Go.Proofs.YteieahbadclppaaGreat.P
open Go.RowKit Go.Proofs.YteieahbadclppaaGreatW.PrintWords Go.Proofs.YteieahbadclppaaGreatW.PrintLast Go.Proofs.YteieahbadclppaaGreatW.PrintMore
set_option linter.unusedVariables false
set_option linter.unusedSimpArgs false
def zT (x y:S38):S38:=⟨x.f0*y.f0 - x.f1*y.f1,x.f0*y.f1+x.f1*y.f0⟩
def upC (bits:Int) (x:S38):S38:=⟨x.f0*2^bits.toNat,x.f1*2^bits.toNat⟩
def zak (x y:S38):S38:=⟨x.f0+y.f0,x.f1+y.f1⟩
def zay (x y:S38):S38:=⟨x.f0 - y.f0,x.f1 - y.f1⟩
theorem zaL {a b m n:Int} (hm:0≤m) (ha:a≤m) (ha':-m≤a) (hb:b≤n) (hb':-n≤b) (hn:0≤n):a*b≤m*n∧-(m*n)≤a*b:=by
 have h1:0≤(m - a)*(n - b):=Int.mul_nonneg (by omega) (by omega)
 have h2:0≤(m+a)*(n+b):=Int.mul_nonneg (by omega) (by omega)
 have h3:0≤(m - a)*(n+b):=Int.mul_nonneg (by omega) (by omega)
 have h4:0≤(m+a)*(n - b):=Int.mul_nonneg (by omega) (by omega)
 constructor <;> grind
theorem zw {x:Int} (h0:-9223372036854775808≤x) (h1:x≤9223372036854775807):wrap64 x=x:=by unfold wrap64;omega
theorem zf6 (x y:S38) (hx:inB 2147483648 x=true) (hy:inB 1073741824 y=true):(⟨zbz x y,zbA x y⟩:S38)=zT x y:=by
 obtain ⟨a1,a2,a3,a4⟩:=zan hx
 obtain ⟨b1,b2,b3,b4⟩:=zan hy
 have m1:=zaL (by decide) a1 a3 b1 b3 (by decide)
 have m2:=zaL (by decide) a2 a4 b2 b4 (by decide)
 have m3:=zaL (by decide) a1 a3 b2 b4 (by decide)
 have m4:=zaL (by decide) a2 a4 b1 b3 (by decide)
 unfold zbz zbA zT
 rw [zw (x:=x.f0*y.f0) (by omega) (by omega),zw (x:=x.f1*y.f1) (by omega) (by omega),zw (x:=x.f0*y.f1) (by omega) (by omega),zw (x:=x.f1*y.f0) (by omega) (by omega),zw (by omega) (by omega),zw (by omega) (by omega)]
theorem zd8 {bits:Int} (h0:0≤bits) (h1:bits≤29):1≤(2:Int)^bits.toNat∧(2:Int)^bits.toNat≤536870912:=by
 constructor
 ·have:=zau (a:=0) (b:=bits.toNat) (by omega);simpa using this
 ·have:=zau (a:=bits.toNat) (b:=29) (by omega)
  have e:(2:Int)^29=536870912:=by decide
  omega
theorem zk2 (a b w:S38) (bits s mode:Int) (ha:inB 2147483648 a=true) (hb:inB 2147483648 b=true) (hw:inB 1073741824 w=true) (h0:0≤bits) (h1:bits≤29) (h2:0≤s) (h3:s≤3) (h4:0≤mode) (h5:mode < 3) :
  zao a b w bits s mode=(shC (bits+s) mode (zak (upC bits a) (zT b w)),shC (bits+s) mode (zay (upC bits a) (zT b w))):=by
 obtain ⟨p0,p1⟩:=zd8 h0 h1
 obtain ⟨a1,a2,a3,a4⟩:=zan ha
 obtain ⟨b1,b2,b3,b4⟩:=zan hb
 obtain ⟨w1,w2,w3,w4⟩:=zan hw
 have m1:=zaL (by decide) b1 b3 w1 w3 (by decide)
 have m2:=zaL (by decide) b2 b4 w2 w4 (by decide)
 have m3:=zaL (by decide) b1 b3 w2 w4 (by decide)
 have m4:=zaL (by decide) b2 b4 w1 w3 (by decide)
 have n1:=zaL (by decide) a1 a3 p1 (by omega) (by decide)
 have n2:=zaL (by decide) a2 a4 p1 (by omega) (by decide)
 have e:wrap64 (bits+s)=bits+s:=zw (by omega) (by omega)
 have hS:∀x y:Int,cx_Shift.f x y (bits+s) mode=some (shV x (bits+s) mode,shV y (bits+s) mode,0):=fun x y=>zbo ⟨x,y⟩ (bits+s) mode (by omega) (by omega) h4 h5
 have hmin:min bits.toNat IntKind.i64.bits=bits.toNat:=by
  have:IntKind.i64.bits=64:=rfl
  omega
 have q1:shl .i64 a.f0 bits=a.f0*2^bits.toNat:=by unfold shl;rw [hmin,zL];exact zw (by omega) (by omega)
 have q2:shl .i64 a.f1 bits=a.f1*2^bits.toNat:=by unfold shl;rw [hmin,zL];exact zw (by omega) (by omega)
 have hm:=zf6 b w hb hw
 have r1:zbz b w=(zT b w).f0:=congrArg S38.f0 hm
 have r2:zbA b w=(zT b w).f1:=congrArg S38.f1 hm
 have h:two_pair.f a.f0 a.f1 b.f0 b.f1 w.f0 w.f1 bits s mode=some ((shC (bits+s) mode (zak (upC bits a) (zT b w))).f0,(shC (bits+s) mode (zak (upC bits a) (zT b w))).f1,(shC (bits+s) mode (zay (upC bits a) (zT b w))).f0,(shC (bits+s) mode (zay (upC bits a) (zT b w))).f1):=by
  unfold two_pair.f cx_Times.f
  rw [show inB 2147483648 ⟨b.f0,b.f1⟩=true from hb,show inB 1073741824 ⟨w.f0,w.f1⟩=true from hw,if_pos rfl,if_pos rfl,Option.bind_some,if_pos h0,e,hS,Option.bind_some,hS,Option.bind_some]
  show some _=_
  rw [q1,q2,show (zbz ⟨b.f0,b.f1⟩ ⟨w.f0,w.f1⟩)=(zT b w).f0 from r1,show (zbA ⟨b.f0,b.f1⟩ ⟨w.f0,w.f1⟩)=(zT b w).f1 from r2]
  unfold shC zak zay upC zT
  dsimp only
  rw [zw (by omega) (by omega),zw (by omega) (by omega),zw (by omega) (by omega),zw (by omega) (by omega)]
 unfold zao
 rw [h]
theorem zhn (x mode:Int):shV x 0 mode=x:=by
 unfold shV
 rw [if_pos rfl]
theorem zk3 (mode:Int) (x:S38):shC 0 mode x=x:=by
 unfold shC
 rw [zhn,zhn]
def tw2:List S38:=[⟨8192,0⟩,⟨0,-8192⟩,⟨-8192,0⟩,⟨0,8192⟩]
theorem zlH:roots_Twiddles.f 2 0=some (tw2,0):=by kernel_rfl
theorem znm:plan_Passes.f 10 0 2 0 2 0 false=some ([⟨2,1⟩,⟨2,2⟩],0):=by kernel_rfl
theorem znn:plan_Check.f 0 2 0 2 0 false=some 0:=by kernel_rfl
theorem zno (a b c d:S38):flip_Flip.f 10 [a,b,c,d]=some ([a,c,b,d],0):=by kernel_rfl
theorem znp:flip_Log.f 10 4=some (2,0):=by kernel_rfl
theorem znq:two_settings.f 13 0 0=some true:=by kernel_rfl
theorem zmP {x:S38} (h:zcV x=true):inB 2147483648 x=true:=by
 obtain ⟨h0,h1,h2,h3⟩:=zf3 h
 exact zbe (by omega)
theorem znQ:∀p∈zU 1 2 4,0≤p.1∧p.1+1 < ((4:Nat):Int)∧0≤p.2∧p.2 < ((4:Nat):Int):=by decide +kernel
theorem znR:∀p∈zU 2 1 4,0≤p.1∧p.1+2 < ((4:Nat):Int)∧0≤p.2∧p.2 < ((4:Nat):Int):=by decide +kernel
theorem zmQ:∀x,x∈tw2→inB 8192 x=true:=by decide +kernel
theorem zj2 (y:List S38) (h m:Int) (k:Nat) (hk:k≤10) (hl:y.length=4) (hy:∀x,x∈y→zcV x=true) (hh:h=1∧m=2∨h=2∧m=1) (hy2:∀x,x∈zdl y tw2 h 13 0 0 false m 4→zcV x=true) :
  zb9 (fun Aw cw=>#[.int .i64 0,.int .i64 2,.int .i64 0,.int .i64 2,.int .i64 0,.bool false,.iface 100 (.agg #[]),.int .i64 15,.slice Aw tw2.length cw]) tw2 4 k y (zdl y tw2 h 13 0 0 false m 4) 0 0 ⟨2,h⟩:=by
 intro W Ax cx As cs sh Aw cw hx hcx hs hcs hks hw hcw
 subst hks
 have hlen:(zdl y tw2 h 13 0 0 false m 4).length=y.length:=zdL y tw2 h 13 0 0 false (zU h m 4) y
 have hp:∀W:World,Kd.C k38 W Ax y.length y→Kd.C k38 W Aw tw2.length tw2→Calls Tryz.prog 49 #[.slice Ax y.length cx,.slice Aw tw2.length cw,.int .i64 h,.int .i64 (15 - 2),.int .i64 0,.int .i64 0,.bool false] W fun e w'=>∃v,e=.returned (.tuple #[v,.int .i64 0])∧Kd.R k38 38 w' W.heap.size (fun _=>True) v (zdl y tw2 h 13 0 0 false m 4)∧Below W.heap.size W w':=by
  intro W2 h1 h2
  have hq:=ze5 Ax Aw cx cw y tw2 h 13 0 0 m 8192 2 false W2 h1 hcx h2 hcw hl.symm (by omega) (by omega) (by rw [hl];exact znp) (by omega) (by rw [hl];omega) (by rcases hh with ⟨rfl,_⟩ | ⟨rfl,_⟩ <;> decide +kernel) znq (by decide) (by decide) (by decide) (by decide) (by decide) (by decide) (by decide) (by decide) (fun x hx=>zmP (hy x hx)) zmQ (by rw [hl];rcases hh with ⟨rfl,rfl⟩ | ⟨rfl,rfl⟩ <;> decide) (by rw [hl];rcases hh with ⟨rfl,rfl⟩ | ⟨rfl,rfl⟩;exact znQ;exact znR)
  rw [hl] at hq
  rw [hl]
  exact hq
 have hn:=zl8 0 2 0 0 15 false Aw tw2 cw Ax cx y (zdl y tw2 h 13 0 0 false m 4) 0 h As cs sh W (by rw [hlen];omega) (by rw [hlen];omega) hy2 hx hw hs hcs (by omega) hlen (by decide) (by decide) (by decide) (by decide) hp
 rw [hl] at hn
 refine hn.mono ?_
 rintro e w' ⟨A',c',As',cs',rfl,q1,q2,q3⟩
 exact ⟨A',c',As',cs',_,rfl,q1,q2,q3⟩
def zc5 (a b c d:S38):Nat→List S38
 | 0=>[a,c,b,d]
 | 1=>zdl [a,c,b,d] tw2 1 13 0 0 false 2 4
 | _=>zdl (zdl [a,c,b,d] tw2 1 13 0 0 false 2 4) tw2 2 13 0 0 false 1 4
theorem znS (a b c d:S38) (A:Option Addr) (cc:Nat) (hcc:4≤cc) (h0:∀x,x∈[a,b,c,d]→zcV x=true) (h1:∀x,x∈zc5 a b c d 1→zcV x=true) (h2:∀x,x∈zc5 a b c d 2→zcV x=true) (w:World) (hr:Kd.C k38 w A 4 [a,b,c,d]) :
  Calls Tryz.prog 7 #[.slice A 4 cc,.agg (zaj 0 2 0 2 0 false)] w fun e w'=>∃A' c' As' cs',e=.returned (.tuple #[.agg #[.slice A' 4 c',.int .i64 0,.bool false,.slice As' 2 cs'],.int .i64 0])∧Kd.R k38 38 w' w.heap.size (fun _=>True) (.slice A' 4 c') (zc5 a b c d 2)∧Below w.heap.size w w':=by
 have hlen:(zc5 a b c d 1).length=4:=zdL _ tw2 1 13 0 0 false (zU 1 2 4) [a,c,b,d]
 have hodd:[a,b,c,d].any (zaG (-32768) 32767)=false:=by
  rw [List.any_eq_false]
  intro x hx
  obtain ⟨q0,q1,q2,q3⟩:=zf3 (h0 x hx)
  unfold zaG
  simp
  omega
 have hmap:[a,c,b,d].map (shC 0 0)=[a,c,b,d]:=by simp [zk3]
 refine zic 2 0 0 false tw2 A cc [a,b,c,d] 4 10 [⟨2,1⟩,⟨2,2⟩] (zc5 a b c d) (fun _=>0) (by decide) w hr (by decide) rfl zlH znm ?_ ?_
 ·intro W hC
  have h:=zj0 2 0 0 false tw2 A cc [a,b,c,d] [a,c,b,d] 10 (by decide) (by decide) (by decide) (by decide) W hC hcc (by simp) (by simp) znn zlH rfl hodd (zno a b c d) (by decide)
  rw [hmap] at h
  exact h
 ·intro k hk
  have hk2:k=0∨k=1:=by simp at hk;omega
  rcases hk2 with rfl | rfl
  ·exact zj2 [a,c,b,d] 1 2 0 (by decide) rfl (fun x hx=>h0 x (by simp at hx ⊢;rcases hx with h | h | h | h <;> simp [h])) (.inl ⟨rfl,rfl⟩) h1
  ·exact zj2 (zc5 a b c d 1) 2 1 1 (by decide) hlen h1 (.inr ⟨rfl,rfl⟩) h2
theorem znr (n:Nat) (w:World) (a b c d:Int):(Op.equalIn (n+2) 38 (.agg #[.int .i64 a,.int .i64 b]) (.agg #[.int .i64 c,.int .i64 d])).run Tryz.prog w=.ok (a == c && (b == d)) w:=by
 refine zju Tryz.underlying38 (by kernel_rfl) ?_
 refine zgV (by rfl) (by go_simp;rfl) (by go_simp;rfl) (by go_simp) ?_
 exact zgU (by rfl) (by go_simp;rfl) (by go_simp;rfl) (by go_simp)
def zi2:List S38:=[⟨1,0⟩,⟨2,0⟩,⟨3,0⟩,⟨4,0⟩]
theorem zi3 (W:World) (base:Nat):zas (k38.M W base fun _=>True) k38.sz zi2 [.int .i64 1,.int .i64 0,.int .i64 2,.int .i64 0,.int .i64 3,.int .i64 0,.int .i64 4,.int .i64 0]:=by
 refine ⟨rfl,fun j p hj=>?_⟩
 match j,hj with
 | 0,hj=>obtain rfl:=Option.some.inj hj;exact zaF W base _ ⟨1,0⟩
 | 1,hj=>obtain rfl:=Option.some.inj hj;exact zaF W base _ ⟨2,0⟩
 | 2,hj=>obtain rfl:=Option.some.inj hj;exact zaF W base _ ⟨3,0⟩
 | 3,hj=>obtain rfl:=Option.some.inj hj;exact zaF W base _ ⟨4,0⟩
 | n+4,hj=>simp [zi2] at hj
theorem zns {base:Nat} {ok:Nat→Prop} {W:World} {A:Option Addr} {c:Nat} {p q r s:S38} (h:Kd.R k38 38 W base ok (.slice A 4 c) [p,q,r,s]):∃g,A=some ⟨g,0,none⟩:=by
 obtain ⟨g,cap,hv,_⟩:=Kd.R_form h (Nat.succ_pos _)
 injection hv with h1 h2 h3
 exact ⟨g,h1⟩
theorem zmR {base:Nat} {ok:Nat→Prop} {W:World} {g c:Nat} {p q r s:S38} (h:Kd.R k38 38 W base ok (.slice (some ⟨g,0,none⟩) 4 c) [p,q,r,s]) :
  W.cell? ⟨g,0,none⟩=some (.int .i64 p.f0)∧W.cell? ⟨g,1,none⟩=some (.int .i64 p.f1)∧W.cell? ⟨g,2,none⟩=some (.int .i64 q.f0)∧W.cell? ⟨g,3,none⟩=some (.int .i64 q.f1)∧W.cell? ⟨g,4,none⟩=some (.int .i64 r.f0)∧W.cell? ⟨g,5,none⟩=some (.int .i64 r.f1)∧W.cell? ⟨g,6,none⟩=some (.int .i64 s.f0)∧W.cell? ⟨g,7,none⟩=some (.int .i64 s.f1) :=
 ⟨(zbc h 0 (by simp)).1,(zbc h 0 (by simp)).2,(zbc h 1 (by simp)).1,(zbc h 1 (by simp)).2,(zbc h 2 (by simp)).1,(zbc h 2 (by simp)).2,(zbc h 3 (by simp)).1,(zbc h 3 (by simp)).2⟩
theorem al0:∀x,x∈([⟨1,0⟩,⟨2,0⟩,⟨3,0⟩,⟨4,0⟩]:List S38)→zcV x=true:=by decide +kernel
theorem al1:∀x,x∈zc5 ⟨1,0⟩ ⟨2,0⟩ ⟨3,0⟩ ⟨4,0⟩ 1→zcV x=true:=by decide +kernel
theorem al2:∀x,x∈zc5 ⟨1,0⟩ ⟨2,0⟩ ⟨3,0⟩ ⟨4,0⟩ 2→zcV x=true:=by decide +kernel
theorem al3:zc5 ⟨1,0⟩ ⟨2,0⟩ ⟨3,0⟩ ⟨4,0⟩ 2=[⟨10,0⟩,⟨-2,2⟩,⟨-2,0⟩,⟨-2,-2⟩]:=by kernel_rfl
attribute [local go_sem high] znr
set_option maxRecDepth 100000 in
set_option maxHeartbeats 4000000 in
theorem zgq (w:World):Calls Tryz.prog 8 #[] w fun e w'=>e=.returned (.bool true)∧Below w.heap.size w w':=by
 have HB0:=hhd (Below.refl w.heap.size w)
 go_enter Tryz.func8,Tryz.ntmps8
 go_wp2_with (first
  | ((with_reducible refine zg (N:=8) rfl ?_);refine Kd.R_lit k38 _ 38 ?hg (N:=8) ?hd (xs:=zi2) (inner:=[.int .i64 1,.int .i64 0,.int .i64 2,.int .i64 0,.int .i64 3,.int .i64 0,.int .i64 4,.int .i64 0]) (ok:=fun _=>True) (okp:=fun _=>True) ?hr (zi3 _ _) (fun _ hk=>hk) trivial (Below.refl _ _) (Nat.le_refl _) (by decide) ?_;(case hd=>rfl);(case hg=>rfl);(case hr=>first | (go_simp;done) | (go_simp;rfl));intro v8 W1 ho hb hg_ hnew_;clear hg_ hnew_;obtain ⟨A8,c8,ev,hc8,hC8⟩:=Kd.R_reads ho;subst ev;have R8:=hhd hC8;have HC8:=hhd hc8;have HB_1:=hhd hb;clear ho hb hc8 hC8)
  | (go_at_call 7;refine (znS ⟨1,0⟩ ⟨2,0⟩ ⟨3,0⟩ ⟨4,0⟩ A8 c8 HC8.out al0 al1 al2 _ R8.out).mono ?_;rintro e W2 ⟨A2,c2,As,cs,he,ho,hb⟩;rw [al3] at ho;obtain ⟨gq,hA⟩:=zns ho;subst hA;subst he;have Rr_2:=hhd (Kd.R_lower ho (zj HB_1.out));have HB_2:=hhd (zb HB_1.out hb);clear ho hb)
  | ((with_reducible refine zg (N:=1) rfl ?_);refine ba_ 1 #[.slice none 0 0,.int .i64 0,.bool false,.slice none 0 0] 28 ?_;intro g1 hg W3 hbox hbl;have L1:=gf_ hg HB_2.out;have B1_3:=hhd hbox;have HB_3:=hhd (zb HB_2.out hbl);have Rr_3:=hhd (Kd.R_below Rr_2.out hbl);obtain ⟨k1_0_3,k1_1_3,k1_2_3,k1_3_3⟩:=bk4 B1_3.out;clear hbox hbl hg)
  | ((with_reducible refine zo (t:=28) (p:=1) rfl ?_);refine zv rfl 28 _ _ rfl g1 #[.slice (some ⟨gq,0,none⟩) 4 c2,.int .i64 0,.bool false,.slice As 2 cs] rfl rfl 28 #[.slice none 0 0,.int .i64 0,.bool false,.slice none 0 0] B1_3.out (zD _ _ _ _) rfl (z7 _ _ _ _ _ _ _ _) ?_;intro W4 hq hoth hbel;have B1_4:=hhd hq;have HB_4:=hhd (hbel _ _ L1 HB_3.out);have Rr_4:=hhd (zE rfl Rr_3.out B1_3.out (by decide) hoth);clear k1_0_3 k1_1_3 k1_2_3 k1_3_3;obtain ⟨k1_0_4,k1_1_4,k1_2_4,k1_3_4⟩:=bk4 B1_4.out;clear hq hoth hbel;obtain ⟨y0,y1,y2,y3,_⟩:=zmR Rr_4.out;dsimp only at y0 y1 y2 y3))
 go_ret
 exact ⟨rfl,HB_4.out⟩
end Go.Proofs.YteieahbadclppaaGreat.P

namespace Go.Proofs.YteieahbadclppaaGreat.P
open Go.RowKit Go.Proofs.YteieahbadclppaaGreatW.PrintWords Go.Proofs.YteieahbadclppaaGreatW.PrintLast Go.Proofs.YteieahbadclppaaGreatW.PrintMore
set_option linter.unusedVariables false
set_option linter.unusedSimpArgs false
def z6 (x:S38) (r:Int):Prop:=0≤r∧x.f0*x.f0+x.f1*x.f1≤r*r
def zaw (x y:S38):S38:=⟨x.f0+y.f0,x.f1+y.f1⟩
def zaS (x y:S38):S38:=⟨x.f0*y.f0 - x.f1*y.f1,x.f0*y.f1+x.f1*y.f0⟩
def zaq (n:Int) (x:S38):S38:=⟨n*x.f0,n*x.f1⟩
theorem zco (a:Int):0≤a*a:=by
 rcases Int.le_total 0 a with h | h
 ·exact Int.mul_nonneg h h
 ·have:=Int.mul_nonneg (a:=-a) (b:=-a) (by omega) (by omega);grind
theorem zdn {a b:Int} (hb:0≤b) (h:a*a≤b*b):a≤b:=by
 rcases Int.lt_or_le b a with h1 | h1
 ·exfalso
  have h2:0 < (a - b)*(a+b):=Int.mul_pos (by omega) (by omega)
  grind
 ·exact h1
theorem z6.add {x y:S38} {r s:Int} (hx:z6 x r) (hy:z6 y s):z6 (zaw x y) (r+s):=by
 obtain ⟨a0,a1⟩:=x
 obtain ⟨b0,b1⟩:=y
 obtain ⟨hr,hx⟩:=hx
 obtain ⟨hs,hy⟩:=hy
 simp only [zaw,z6] at *
 refine ⟨by omega,?_⟩
 have h1:(a0*b0+a1*b1)*(a0*b0+a1*b1)≤(r*s)*(r*s):=by
  have e:(a0*b0+a1*b1)*(a0*b0+a1*b1)+(a0*b1 - a1*b0)*(a0*b1 - a1*b0)=(a0*a0+a1*a1)*(b0*b0+b1*b1):=by grind
  have p:=zco (a0*b1 - a1*b0)
  have b0n:=zco b0
  have b1n:=zco b1
  have rn:=zco r
  have q:(a0*a0+a1*a1)*(b0*b0+b1*b1)≤(r*r)*(s*s):=Int.mul_le_mul hx hy (by omega) rn
  grind
 have h2:a0*b0+a1*b1≤r*s:=zdn (Int.mul_nonneg hr hs) h1
 grind
theorem z6.mul {x y:S38} {r s:Int} (hx:z6 x r) (hy:z6 y s):z6 (zaS x y) (r*s):=by
 obtain ⟨a0,a1⟩:=x
 obtain ⟨b0,b1⟩:=y
 obtain ⟨hr,hx⟩:=hx
 obtain ⟨hs,hy⟩:=hy
 simp only [zaS,z6] at *
 refine ⟨Int.mul_nonneg hr hs,?_⟩
 have b0n:=zco b0
 have b1n:=zco b1
 have rn:=zco r
 have q:(a0*a0+a1*a1)*(b0*b0+b1*b1)≤(r*r)*(s*s):=Int.mul_le_mul hx hy (by omega) rn
 grind
theorem z6.scl {x:S38} {r:Int} (n:Int) (hn:0≤n) (hx:z6 x r):z6 (zaq n x) (n*r):=by
 obtain ⟨a0,a1⟩:=x
 obtain ⟨hr,hx⟩:=hx
 simp only [zaq,z6] at *
 refine ⟨Int.mul_nonneg hn hr,?_⟩
 have q:=Int.mul_le_mul_of_nonneg_left hx (zco n)
 grind
theorem z6.up {x:S38} {r s:Int} (hx:z6 x r) (h:r≤s):z6 x s:=by
 obtain ⟨hr,hx⟩:=hx
 exact ⟨by omega,Int.le_trans hx (Int.mul_le_mul h h hr (by omega))⟩
theorem z6.part {x:S38} {r:Int} (hx:z6 x r):(x.f0≤r∧-r≤x.f0)∧x.f1≤r∧-r≤x.f1:=by
 obtain ⟨hr,hx⟩:=hx
 have p0:=zco x.f0
 have p1:=zco x.f1
 have h0:=zdn (a:=x.f0) hr (by omega)
 have h1:=zdn (a:=x.f1) hr (by omega)
 have h2:=zdn (a:=-x.f0) hr (by grind)
 have h3:=zdn (a:=-x.f1) hr (by grind)
 omega
theorem z6.zero:z6 z38 0:=⟨by decide,by decide⟩
theorem z6.box {x:S38} {m:Int} (hm:0≤m) (h0:x.f0≤m) (h1:-m≤x.f0) (h2:x.f1≤m) (h3:-m≤x.f1):z6 (zaq 64 x) (91*m):=by
 obtain ⟨a0,a1⟩:=x
 simp only [zaq,z6] at *
 refine ⟨by omega,?_⟩
 have s0:a0*a0≤m*m:=by
  have:0≤(m - a0)*(m+a0):=Int.mul_nonneg (by omega) (by omega)
  grind
 have s1:a1*a1≤m*m:=by
  have:0≤(m - a1)*(m+a1):=Int.mul_nonneg (by omega) (by omega)
  grind
 have mm:=zco m
 grind
abbrev Row:=List (S38×Int×Nat)
def dot (x:List S38):Row→S38
 | []=>z38
 | t :: r=>zaw (zaS t.1 (x.getD t.2.2 z38)) (dot x r)
def zaE:Row→Int
 | []=>0
 | t :: r=>t.2.1+zaE r
def zbB (n:Nat):Row→Bool
 | []=>true
 | t :: r=>decide (0≤t.2.1) && (decide (t.1.f0*t.1.f0+t.1.f1*t.1.f1≤t.2.1*t.2.1) && (decide (t.2.2 < n) && zbB n r))
theorem zi4 {n:Nat} {t:S38×Int×Nat} {r:Row} (h:zbB n (t :: r)=true):z6 t.1 t.2.1∧t.2.2 < n∧zbB n r=true:=by
 simp only [zbB,Bool.and_eq_true,decide_eq_true_eq] at h
 exact ⟨⟨h.1,h.2.1⟩,h.2.2.1,h.2.2.2⟩
theorem zdo {x:List S38} {e:Int} (he:0≤e):∀(r:Row),zbB x.length r=true→(∀k,k < x.length→z6 (x.getD k z38) e)→z6 (dot x r) (zaE r*e)
 | [],_,_=>by simp only [dot,zaE,Int.zero_mul];exact z6.zero
 | t :: r,h,hx=>by
  obtain ⟨h1,h2,h3⟩:=zi4 h
  have h4:=(h1.mul (hx _ h2)).add (zdo he r h3 hx)
  simp only [dot,zaE]
  rw [Int.add_mul]
  exact h4
def zaz (x y:List S38):List S38:=List.zipWith zaw x y
def zho (c:S38) (x:List S38):List S38:=x.map (zaS c)
theorem zd9 {x y:List S38} (h:x.length=y.length):(zaz x y).length=x.length:=by simp [zaz,h]
theorem zbT {x y:List S38} (h:x.length=y.length) (k:Nat):(zaz x y).getD k z38=zaw (x.getD k z38) (y.getD k z38):=by
 simp only [zaz,List.getD_eq_getElem?_getD,List.getElem?_zipWith]
 by_cases hk:k < x.length
 ·rw [List.getElem?_eq_getElem hk,List.getElem?_eq_getElem (by omega)];rfl
 ·rw [List.getElem?_eq_none (by omega),List.getElem?_eq_none (by omega)];rfl
theorem zaH {x y:S38} (h0:x.f0=y.f0) (h1:x.f1=y.f1):x=y:=by
 cases x;cases y;simp_all
theorem zf7 {x y:List S38} (h:x.length=y.length):∀r:Row,dot (zaz x y) r=zaw (dot x r) (dot y r)
 | []=>rfl
 | t :: r=>by
  simp only [dot]
  rw [zbT h,zf7 h r]
  apply zaH <;> simp only [zaw,zaS] <;> grind
structure Lin (n m:Nat) (F:List S38→List S38):Prop where
 len:∀x,x.length=n→(F x).length=m
 add:∀x y,x.length=n→y.length=n→F (zaz x y)=zaz (F x) (F y)
 scl:∀c x,x.length=n→F (zho c x)=zho c (F x)
def zal (rows:List Row) (x:List S38):List S38:=rows.map (dot x)
theorem Lin.comp {n m k:Nat} {F G:List S38→List S38} (hG:Lin m k G) (hF:Lin n m F):Lin n k (fun x=>G (F x)) where
 len x hx:=hG.len _ (hF.len x hx)
 add x y hx hy:=by
  show G (F _)=_
  rw [hF.add x y hx hy,hG.add _ _ (hF.len x hx) (hF.len y hy)]
 scl c x hx:=by
  show G (F _)=_
  rw [hF.scl c x hx,hG.scl c _ (hF.len x hx)]
theorem Lin.sum {n m:Nat} {F G:List S38→List S38} (hF:Lin n m F) (hG:Lin n m G):Lin n m (fun x=>zaz (F x) (G x)) where
 len x hx:=by
  show (zaz _ _).length=_
  rw [zd9 (by rw [hF.len x hx,hG.len x hx]),hF.len x hx]
 add x y hx hy:=by
  show zaz (F _) (G _)=zaz (zaz _ _) (zaz _ _)
  rw [hF.add x y hx hy,hG.add x y hx hy]
  have a:=hF.len x hx
  have b:=hF.len y hy
  have c:=hG.len x hx
  have d:=hG.len y hy
  apply List.ext_getElem
  ·simp only [zaz,List.length_zipWith,a,b,c,d,Nat.min_self]
  ·intro i h1 h2
   simp only [zaz,List.getElem_zipWith]
   apply zaH <;> simp only [zaw] <;> omega
 scl c x hx:=by
  show zaz (F _) (G _)=zho c (zaz _ _)
  rw [hF.scl c x hx,hG.scl c x hx]
  apply List.ext_getElem
  ·simp [zaz,zho]
  ·intro i h1 h2
   simp only [zaz,zho,List.getElem_zipWith,List.getElem_map]
   apply zaH <;> simp only [zaw,zaS] <;> grind
def pre (x:List S38) (k:Nat):List S38:=x.take k++List.replicate (x.length - k) z38
def zbf (z:S38) (b:Int):Prop:=(z.f0≤b∧-b≤z.f0)∧z.f1≤b∧-b≤z.f1
theorem zbf.add {x y:S38} {a b:Int} (hx:zbf x a) (hy:zbf y b):zbf (zaw x y) (a+b):=by
 unfold zbf zaw at *;simp only;omega
theorem zcp {a b m:Int} (ha:a≤m∧-m≤a):a*b≤m*b.natAbs∧-(m*b.natAbs)≤a*b:=by
 rcases Int.le_total 0 b with h | h
 ·have e:((b.natAbs:Nat):Int)=b:=by omega
  rw [e]
  have h1:=Int.mul_le_mul_of_nonneg_right ha.1 h
  have h2:=Int.mul_le_mul_of_nonneg_right ha.2 h
  rw [Int.neg_mul] at h2
  exact ⟨h1,h2⟩
 ·have e:((b.natAbs:Nat):Int)=-b:=by omega
  rw [e]
  have h1:=Int.mul_le_mul_of_nonneg_right ha.1 (c:=-b) (by omega)
  have h2:=Int.mul_le_mul_of_nonneg_right ha.2 (c:=-b) (by omega)
  rw [Int.mul_neg,Int.mul_neg] at *
  rw [Int.neg_mul] at h2
  omega
theorem zbf.mul {x y:S38} {m:Int} (hx:zbf x m):zbf (zaS x y) (m*((y.f0.natAbs+y.f1.natAbs:Nat):Int)):=by
 obtain ⟨hx0,hx1⟩:=hx
 have h1:=zcp (b:=y.f0) hx0
 have h2:=zcp (b:=y.f1) hx0
 have h3:=zcp (b:=y.f0) hx1
 have h4:=zcp (b:=y.f1) hx1
 unfold zbf zaS
 simp only
 rw [Int.natCast_add,Int.mul_add]
 omega
def zcW (x y:List Int):List Int:=List.zipWith (·+·) x y
def zca (c:Int) (x:List Int):List Int:=x.map (c*·)
theorem zk4 {x y:List Int} (h:x.length=y.length) (k:Nat):(zcW x y).getD k 0=x.getD k 0+y.getD k 0:=by
 simp only [zcW,List.getD_eq_getElem?_getD,List.getElem?_zipWith]
 by_cases hk:k < x.length
 ·rw [List.getElem?_eq_getElem hk,List.getElem?_eq_getElem (by omega)];rfl
 ·rw [List.getElem?_eq_none (by omega),List.getElem?_eq_none (by omega)];rfl
theorem zk5 (c:Int) (x:List Int) (k:Nat):(zca c x).getD k 0=c*x.getD k 0:=by
 simp only [zca,List.getD_eq_getElem?_getD,List.getElem?_map]
 by_cases hk:k < x.length
 ·rw [List.getElem?_eq_getElem hk];rfl
 ·rw [List.getElem?_eq_none (by omega)];simp
def lsc (n:Int) (x:List S38):List S38:=x.map (zaq n)
theorem zaI (n:Int) (x:List S38):(lsc n x).length=x.length:=by simp [lsc]
theorem zbt (c:Int) (x:List S38) (k:Nat):(lsc c x).getD k z38=zaq c (x.getD k z38):=by
 simp only [lsc,List.getD_eq_getElem?_getD,List.getElem?_map]
 by_cases hk:k < x.length
 ·rw [List.getElem?_eq_getElem hk];rfl
 ·rw [List.getElem?_eq_none (by omega)];simp [zaq,z38]
theorem zde (c:Int) (x:List S38):∀r:Row,dot (lsc c x) r=zaq c (dot x r)
 | []=>by simp [dot,zaq,z38]
 | t :: r=>by
  simp only [dot]
  rw [zbt,zde c x r]
  apply zaH <;> simp only [zaw,zaS,zaq] <;> grind
structure ZL (n m:Nat) (F:List Int→List S38):Prop where
 len:∀x,x.length=n→(F x).length=m
 add:∀x y,x.length=n→y.length=n→F (zcW x y)=zaz (F x) (F y)
 scl:∀c x,x.length=n→F (zca c x)=lsc c (F x)
theorem zea {x y:List S38} (h:x.length=y.length) (hk:∀k,k < x.length→x.getD k z38=y.getD k z38):x=y:=by
 apply List.ext_getElem h
 intro i h1 h2
 have:=hk i h1
 rw [List.getD_eq_getElem?_getD,List.getD_eq_getElem?_getD,List.getElem?_eq_getElem h1,List.getElem?_eq_getElem h2] at this
 exact this
theorem ZL.of {n m:Nat} {F:List Int→List S38} {f:List Int→Nat→S38} (hl:∀x,x.length=n→(F x).length=m) (hf:∀x k,x.length=n→k < m→(F x).getD k z38=f x k)
  (ha:∀x y k,x.length=n→y.length=n→k < m→f (zcW x y) k=zaw (f x k) (f y k)) (hs:∀c x k,x.length=n→k < m→f (zca c x) k=zaq c (f x k)):ZL n m F where
 len:=hl
 add x y hx hy:=by
  have hxy:(zcW x y).length=n:=by simp [zcW,hx,hy]
  refine zea (by rw [hl _ hxy,zd9 (by rw [hl _ hx,hl _ hy]),hl _ hx]) fun k hk=>?_
  rw [hl _ hxy] at hk
  rw [zbT (by rw [hl _ hx,hl _ hy]),hf _ _ hxy hk,hf _ _ hx hk,hf _ _ hy hk,ha _ _ _ hx hy hk]
 scl c x hx:=by
  have hcx:(zca c x).length=n:=by simp [zca,hx]
  refine zea (by rw [hl _ hcx,zaI,hl _ hx]) fun k hk=>?_
  rw [hl _ hcx] at hk
  rw [zbt,hf _ _ hcx hk,hf _ _ hx hk,hs _ _ _ hx hk]
theorem ZL.get_add {n m:Nat} {F:List Int→List S38} (h:ZL n m F) {x y:List Int} (hx:x.length=n) (hy:y.length=n) (k:Nat):(F (zcW x y)).getD k z38=zaw ((F x).getD k z38) ((F y).getD k z38):=by
 rw [h.add x y hx hy,zbT (by rw [h.len x hx,h.len y hy])]
theorem ZL.get_scl {n m:Nat} {F:List Int→List S38} (h:ZL n m F) (c:Int) {x:List Int} (hx:x.length=n) (k:Nat):(F (zca c x)).getD k z38=zaq c ((F x).getD k z38):=by
 rw [h.scl c x hx,zbt]
theorem ZL.rows {n m:Nat} {F:List Int→List S38} (h:ZL n m F) (rs:List Row):ZL n rs.length (fun x=>zal rs (F x)) where
 len x _:=by simp [zal]
 add x y hx hy:=by
  show zal rs (F _)=zaz (zal rs _) (zal rs _)
  rw [h.add x y hx hy]
  simp only [zal,zaz]
  rw [List.zipWith_map,List.zipWith_self]
  exact List.map_congr_left fun r _=>zf7 (by rw [h.len x hx,h.len y hy]) r
 scl c x hx:=by
  show zal rs (F _)=lsc c (zal rs _)
  rw [h.scl c x hx]
  simp only [zal,lsc,List.map_map]
  exact List.map_congr_left fun r _=>zde c _ r
theorem zid {a b c d:List S38} (h:a.length=c.length):zaz (a++b) (c++d)=zaz a c++zaz b d:=by
 simp only [zaz]
 exact List.zipWith_append h
theorem ZL.append {n m k:Nat} {F G:List Int→List S38} (h:ZL n m F) (g:ZL n k G):ZL n (m+k) (fun x=>F x++G x) where
 len x hx:=by
  show (F x++G x).length=_
  rw [List.length_append,h.len x hx,g.len x hx]
 add x y hx hy:=by
  show F _++G _=zaz (F _++G _) (F _++G _)
  rw [h.add x y hx hy,g.add x y hx hy,zid (by rw [h.len x hx,h.len y hy])]
 scl c x hx:=by
  show F _++G _=lsc c (F _++G _)
  rw [h.scl c x hx,g.scl c x hx]
  simp [lsc]
theorem ZL.scaled {n m:Nat} {F:List Int→List S38} (h:ZL n m F) (d:Int):ZL n m (fun x=>lsc d (F x)) where
 len x hx:=by
  show (lsc d (F x)).length=_
  rw [zaI,h.len x hx]
 add x y hx hy:=by
  show lsc d (F _)=zaz (lsc d (F _)) (lsc d (F _))
  rw [h.add x y hx hy]
  simp only [zaz,lsc,List.zipWith_map,List.map_zipWith]
  congr 1
  funext a b
  apply zaH <;> simp only [zaw,zaq] <;> grind
 scl c x hx:=by
  show lsc d (F _)=lsc c (lsc d (F _))
  rw [h.scl c x hx]
  simp only [lsc,List.map_map]
  refine List.map_congr_left fun a _=>?_
  apply zaH <;> simp only [zaq,Function.comp] <;> grind
theorem ZL.sum {n m:Nat} {F G:List Int→List S38} (h:ZL n m F) (g:ZL n m G):ZL n m (fun x=>zaz (F x) (G x)) :=
 ZL.of (f:=fun x k=>zaw ((F x).getD k z38) ((G x).getD k z38)) (fun x hx=>by show (zaz (F x) (G x)).length=_;rw [zd9 (by rw [h.len x hx,g.len x hx]),h.len x hx])
  (fun x k hx _=>by show (zaz (F x) (G x)).getD k z38=_;rw [zbT (by rw [h.len x hx,g.len x hx])])
  (fun x y k hx hy _=>by
   simp only [h.get_add hx hy,g.get_add hx hy]
   apply zaH <;> simp only [zaw] <;> omega)
  (fun c x k hx _=>by
   simp only [h.get_scl c hx,g.get_scl c hx]
   apply zaH <;> simp only [zaw,zaq] <;> grind)
def zaP:List Int→List S38
 | a :: b :: r=>⟨a,b⟩ :: zaP r
 | _=>[]
theorem zgr:∀(m:Nat) (x:List Int),x.length=2*m→(zaP x).length=m
 | 0,[],_=>rfl
 | m+1,a :: b :: r,h=>by
  have:=zgr m r (by simp at h;omega)
  simp [zaP,this]
theorem zcb (m:Nat):ZL (2*m) m zaP where
 len x hx:=zgr m x hx
 add:=by
  induction m with
  | zero=>intro x y hx hy;obtain rfl:=List.length_eq_zero_iff.1 hx;obtain rfl:=List.length_eq_zero_iff.1 hy;rfl
  | succ m ih =>
   intro x y hx hy
   match x,y,hx,hy with
   | a :: b :: r,c :: d :: s,hx,hy =>
    have:=ih r s (by simp at hx;omega) (by simp at hy;omega)
    show (⟨a+c,b+d⟩:S38) :: zaP (zcW r s)=_
    rw [this]
    rfl
 scl:=by
  induction m with
  | zero=>intro c x hx;obtain rfl:=List.length_eq_zero_iff.1 hx;rfl
  | succ m ih =>
   intro c x hx
   match x,hx with
   | a :: b :: r,hx =>
    have:=ih c r (by simp at hx;omega)
    show (⟨c*a,c*b⟩:S38) :: zaP (zca c r)=_
    rw [this]
    rfl
def zcC (x:List Int) (k:Nat):List Int:=x.take k++List.replicate (x.length - k) 0
def zaB (n j:Nat):List Int:=(List.replicate n 0).set j 1
theorem zcQ (n j:Nat):(zaB n j).length=n:=by simp [zaB]
theorem zk6 (x:List Int) (k:Nat) (h:k≤x.length):(zcC x k).length=x.length:=by simp [zcC];omega
theorem zj3 (x:List Int) (k:Nat) (h:k < x.length):zcC x (k+1)=zcW (zcC x k) (zca (x.getD k 0) (zaB x.length k)):=by
 apply List.ext_getElem
 ·simp [zcW,zca,zcC,zaB];omega
 ·intro i h1 h2
  simp only [zcW,zca,zaB,zcC,List.getElem_zipWith,List.getElem_map,List.getElem_append,List.getElem_set,List.getElem_replicate,List.length_take,List.getElem_take]
  rw [List.getD_eq_getElem?_getD,List.getElem?_eq_getElem h]
  by_cases e:i=k
  ·subst e
   rw [dif_pos (by omega),dif_neg (by omega),if_pos rfl]
   simp
  ·rw [if_neg (fun h=>e h.symm)]
   by_cases l:i < k
   ·rw [dif_pos (by omega),dif_pos (by omega)]
    simp
   ·rw [dif_neg (by omega),dif_neg (by omega)]
    simp
def zar (x:List Int) (c:Nat→Int):Nat→Int
 | 0=>0
 | k+1=>zar x c k+x.getD k 0*c k
theorem zhp {n m:Nat} {F:List Int→List S38} (h:ZL n m F) (x:List Int) (hx:x.length=n) (i:Nat):∀k,k≤n→(F (zcC x k)).getD i z38=⟨zar x (fun j=>((F (zaB n j)).getD i z38).f0) k,zar x (fun j=>((F (zaB n j)).getD i z38).f1) k⟩
 | 0,_=>by
  have e:zcC x 0=zca 0 x:=by
   simp only [zcC,zca,List.take_zero,List.nil_append,Nat.sub_zero]
   apply List.ext_getElem
   ·simp
   ·intro i h1 h2;simp
  rw [e,h.get_scl 0 hx]
  simp [zaq,zar]
 | k+1,hk=>by
  have ih:=zhp h x hx i k (by omega)
  rw [zj3 x k (by omega),hx,h.get_add (by rw [zk6 _ _ (by omega),hx]) (by simp [zca,zaB]),h.get_scl _ (zcQ n k),ih]
  rfl
theorem zhq (x:List Int):zcC x x.length=x:=by simp [zcC]
def zeb (H:Int):Nat→Int→List Int
 | 0,_=>[]
 | k+1,y=>((y+H) % (2*H) - H) :: zeb H k ((y+H) / (2*H))
def zcq (B:Int):Nat→Int→List Int
 | 0,_=>[]
 | k+1,p=>p :: zcq B k (p*B)
def zbU (B:Int) (c:Nat→Int):Nat→Int
 | 0=>0
 | k+1=>c 0+B*zbU B (fun j=>c (j+1)) k
theorem zeC (H:Int) (hH:0 < H):∀(n:Nat) (c:Nat→Int),(∀j,j < n→-H≤c j∧c j < H)→zeb H n (zbU (2*H) c n)=(List.range n).map c
 | 0,_,_=>rfl
 | n+1,c,hc=>by
  have h0:=hc 0 (by omega)
  have ih:=zeC H hH n (fun j=>c (j+1)) (fun j hj=>hc (j+1) (by omega))
  have e1:(c 0+2*H*zbU (2*H) (fun j=>c (j+1)) n+H) % (2*H)=c 0+H:=by
   have:c 0+2*H*zbU (2*H) (fun j=>c (j+1)) n+H=(c 0+H)+2*H*zbU (2*H) (fun j=>c (j+1)) n:=by omega
   rw [this,Int.add_mul_emod_self_left]
   exact Int.emod_eq_of_lt (by omega) (by omega)
  have e2:(c 0+2*H*zbU (2*H) (fun j=>c (j+1)) n+H) / (2*H)=zbU (2*H) (fun j=>c (j+1)) n:=by
   have:c 0+2*H*zbU (2*H) (fun j=>c (j+1)) n+H=(c 0+H)+2*H*zbU (2*H) (fun j=>c (j+1)) n:=by omega
   rw [this,Int.add_mul_ediv_left _ _ (by omega),Int.ediv_eq_zero_of_lt (by omega) (by omega),Int.zero_add]
  show ((c 0+2*H*_+H) % (2*H) - H) :: zeb H n ((c 0+2*H*_+H) / (2*H))=_
  rw [e1,e2,ih,List.range_succ_eq_map,List.map_cons,List.map_map]
  congr 1
  omega
theorem zfh (B:Int):∀n p,(zcq B n p).length=n
 | 0,_=>rfl
 | n+1,p=>by simp [zcq,zfh B n]
theorem zgs (p:Int) (x:List Int) (c:Nat→Int):∀k,zar (p :: x) c (k+1)=p*c 0+zar x (fun j=>c (j+1)) k
 | 0=>by simp [zar]
 | k+1=>by
  rw [show zar (p :: x) c (k+1+1)=zar (p :: x) c (k+1)+(p :: x).getD (k+1) 0*c (k+1) from rfl,zgs p x c k]
  simp only [zar,List.getD_cons_succ]
  omega
theorem zec (B:Int):∀(n:Nat) (p:Int) (c:Nat→Int),zar (zcq B n p) c n=p*zbU B c n
 | 0,_,_=>by simp [zar,zbU]
 | n+1,p,c=>by
  show zar (p :: zcq B n (p*B)) c (n+1)=_
  rw [zgs,zec B n (p*B)]
  simp only [zbU]
  grind
def zcr:List Int→Nat
 | []=>0
 | a :: r=>a.natAbs+zcr r
def zcs (c:Nat→Int):Nat→Nat
 | 0=>0
 | k+1=>zcs c k+(c k).natAbs
theorem zie (x y:List Int):zcr (x++y)=zcr x+zcr y:=by
 induction x with
 | nil=>simp [zcr]
 | cons a r ih=>simp [zcr,ih];omega
theorem zfi (c:Nat→Int):∀n,zcr ((List.range n).map c)=zcs c n
 | 0=>rfl
 | n+1=>by rw [List.range_succ,List.map_append,zie,zfi c n];simp [zcr,zcs]
theorem zeW {x:List Int} {X:Int} (hX:∀k,x.getD k 0≤X∧-X≤x.getD k 0) (c:Nat→Int):∀n,zar x c n≤X*zcs c n∧-(X*zcs c n)≤zar x c n
 | 0=>by simp [zar,zcs]
 | n+1=>by
  have ih:=zeW hX c n
  have h:=zcp (b:=c n) (hX n)
  simp only [zar,zcs]
  rw [Int.natCast_add,Int.mul_add]
  omega
theorem zk7 {n m:Nat} {F:List Int→List S38} (h:ZL n m F) {H:Int} (hH:0 < H) {B:Nat} (i:Nat)
  (hM:∀j,j < n→-H≤((F (zaB n j)).getD i z38).f0∧((F (zaB n j)).getD i z38).f0 < H∧-H≤((F (zaB n j)).getD i z38).f1∧((F (zaB n j)).getD i z38).f1 < H)
  (hB:zcr (zeb H n ((F (zcq (2*H) n 1)).getD i z38).f0)≤B∧zcr (zeb H n ((F (zcq (2*H) n 1)).getD i z38).f1)≤B)
  {x:List Int} (hx:x.length=n) {X:Int} (hX0:0≤X) (hX:∀k,x.getD k 0≤X∧-X≤x.getD k 0):zbf ((F x).getD i z38) (X*B):=by
 have e1:=zhp h x hx i n (Nat.le_refl _)
 have hp:=zfh (2*H) n 1
 have e2:=zhp h (zcq (2*H) n 1) hp i n (Nat.le_refl _)
 rw [show zcC x n=x from by rw [← hx];exact zhq x] at e1
 rw [show zcC (zcq (2*H) n 1) n=zcq (2*H) n 1 from by have:=zhq (zcq (2*H) n 1);rwa [hp] at this] at e2
 rw [e2] at hB
 dsimp only at hB
 rw [zec,zec,Int.one_mul,Int.one_mul,zeC H hH n _ (fun j hj=>⟨(hM j hj).1,(hM j hj).2.1⟩),zeC H hH n _ (fun j hj=>⟨(hM j hj).2.2.1,(hM j hj).2.2.2⟩),zfi,zfi] at hB
 have b0:=zeW hX (fun j=>((F (zaB n j)).getD i z38).f0) n
 have b1:=zeW hX (fun j=>((F (zaB n j)).getD i z38).f1) n
 have c0:X*(zcs (fun j=>((F (zaB n j)).getD i z38).f0) n:Nat)≤X*B:=Int.mul_le_mul_of_nonneg_left (by omega) hX0
 have c1:X*(zcs (fun j=>((F (zaB n j)).getD i z38).f1) n:Nat)≤X*B:=Int.mul_le_mul_of_nonneg_left (by omega) hX0
 rw [e1]
 unfold zbf
 dsimp only
 omega

theorem zed (x how:Int) (c:Nat) (h62:c≤62) (h0:-4611686018427387904≤x) (h1:x≤4611686018427387904):-(2^c:Int)≤2^c*shV x c how - x∧2^c*shV x c how - x≤2^c:=by
 have e:((c:Int)).toNat=c:=by omega
 have hp:(1:Int)≤2^c:=by
  have h:(0:Int) < 2^c:=Int.pow_pos (by decide)
  omega
 unfold shV
 rw [e]
 by_cases hc:(c:Int)=0
 ·rw [if_pos hc]
  have:c=0:=by omega
  subst this
  simp
 ·rw [if_neg hc]
  have m1:=Int.mul_ediv_self_le (x:=x) (k:=2^c) (by omega)
  have m2:=Int.lt_mul_ediv_self_add (x:=x) (k:=2^c) (by omega)
  have q1:x / 2^c≤4611686018427387904:=by
   rcases Int.le_total 0 x with h | h
   ·exact Int.le_trans (Int.ediv_le_self _ h) h1
   ·have:=Int.ediv_neg_of_neg_of_pos (a:=x) (b:=2^c)
    rcases Int.lt_or_eq_of_le h with h' | h'
    ·have:=this h' (by omega);omega
    ·rw [h'];simp
  have q0:-4611686018427387905≤x / 2^c:=by
   have:-4611686018427387904 / (2:Int)^c≤x / 2^c:=Int.ediv_le_ediv (by omega) h0
   have h3:-4611686018427387904≤-4611686018427387904 / (2:Int)^c:=by
    apply Int.le_ediv_of_mul_le (by omega)
    have:(4611686018427387904:Int)*1≤4611686018427387904*2^c:=Int.mul_le_mul_of_nonneg_left hp (by decide)
    omega
   omega
  generalize x / 2^c=q at *
  generalize (2:Int)^c=p at *
  by_cases hu:upV x c how=true
  ·rw [if_pos hu]
   have w:wrap64 (q+1)=q+1:=by unfold wrap64;omega
   rw [w,Int.mul_add,Int.mul_one]
   omega
  ·rw [if_neg hu]
   omega
def zcc (D:Nat) (u v:S38):S38:=zaw (zaq (64*2^D) u) (zaq (-64) v)
def zfj (D:Nat) (x v:List S38):List S38:=zaz (lsc (64*2^D) x) (lsc (-64) v)
theorem zk8 {D:Nat} {x v:List S38} (h:x.length=v.length) (k:Nat):(zfj D x v).getD k z38=zcc D (x.getD k z38) (v.getD k z38):=by
 unfold zfj zcc
 rw [zbT (by rw [zaI,zaI,h]),zbt,zbt]
theorem zhr {D:Nat} {x v:List S38} (h:x.length=v.length):(zfj D x v).length=x.length:=by
 unfold zfj
 rw [zd9 (by rw [zaI,zaI,h]),zaI]
theorem zl9 {D:Nat} {x v:List S38} (h:x.length=v.length) (r:Row):dot (zfj D x v) r=zcc D (dot x r) (dot v r):=by
 unfold zfj zcc
 rw [zf7 (by rw [zaI,zaI,h]),zde,zde]
def zaJ (D:Nat) (E:Int) (x v:List S38):Prop:=x.length=v.length∧0≤E∧∀k,k < x.length→z6 (zcc D (x.getD k z38) (v.getD k z38)) (E*2^D)
def zfE (z:S38) (b:Int):Prop:=(-b≤z.f0∧z.f0≤b)∧-b≤z.f1∧z.f1≤b
theorem zj4 {x v:List S38} {D c:Nat} {E:Int} {r:Row} {mode:Int} (h:zaJ D E x v) (hr:zbB x.length r=true) (hN:zaE r*E≤2^c*(E+1)) (hc:c≤62) (hb:zfE (dot x r) 4611686018427387904) :
  z6 (zcc (D+c) (shC c mode (dot x r)) (dot v r)) ((E+92)*2^(D+c)):=by
 obtain ⟨hl,hE,hk⟩:=h
 have h1:=zdo (x:=zfj D x v) (e:=E*2^D) (Int.mul_nonneg hE (Int.le_of_lt (Int.pow_pos (by decide)))) r (by rw [zhr hl];exact hr) (fun k hk2=>by rw [zk8 hl];exact hk k (by rw [zhr hl] at hk2;exact hk2))
 rw [zl9 hl] at h1
 have s0:=zed (dot x r).f0 mode c hc hb.1.1 hb.1.2
 have s1:=zed (dot x r).f1 mode c hc hb.2.1 hb.2.2
 have hp:(0:Int) < 2^D:=Int.pow_pos (by decide)
 have hpc:(0:Int) < 2^c:=Int.pow_pos (by decide)
 have h2:=z6.box (x:=⟨2^c*shV (dot x r).f0 c mode - (dot x r).f0,2^c*shV (dot x r).f1 c mode - (dot x r).f1⟩) (m:=2^c) (by omega) s0.2 s0.1 s1.2 s1.1
 have h3:=(z6.scl (2^D) (by omega) h2).add h1
 have e:zaw (zaq (2^D) (zaq 64 ⟨2^c*shV (dot x r).f0 c mode - (dot x r).f0,2^c*shV (dot x r).f1 c mode - (dot x r).f1⟩)) (zcc D (dot x r) (dot v r))=zcc (D+c) (shC c mode (dot x r)) (dot v r):=by
  unfold zcc zaw zaq shC
  rw [Int.pow_add]
  apply zaH <;> dsimp only <;> grind
 rw [e] at h3
 refine h3.up ?_
 rw [Int.pow_add]
 have h4:=Int.mul_le_mul_of_nonneg_right hN (Int.le_of_lt hp)
 generalize (2:Int)^D=p at *
 generalize (2:Int)^c=q at *
 generalize zaE r=n at *
 grind
def zag (c:Nat) (mode:Int) (rows:List Row) (x:List S38):List S38:=rows.map fun r=>shC c mode (dot x r)
theorem zi5 {x v:List S38} {D c:Nat} {E:Int} {rows:List Row} {mode:Int} (h:zaJ D E x v) (hr:∀r,r∈rows→zbB x.length r=true∧zaE r*E≤2^c*(E+1)∧zfE (dot x r) 4611686018427387904) (hc:c≤62):zaJ (D+c) (E+92) (zag c mode rows x) (zal rows v):=by
 refine ⟨by simp [zag,zal],by have:=h.2.1;omega,fun k hk=>?_⟩
 have hk2:k < rows.length:=by simpa [zag] using hk
 have e1:(zag c mode rows x).getD k z38=shC c mode (dot x rows[k]):=by
  simp [zag,List.getD_eq_getElem?_getD,List.getElem?_map,List.getElem?_eq_getElem hk2]
 have e2:(zal rows v).getD k z38=dot v rows[k]:=by
  simp [zal,List.getD_eq_getElem?_getD,List.getElem?_map,List.getElem?_eq_getElem hk2]
 rw [e1,e2]
 obtain ⟨a1,a2,a3⟩:=hr _ (List.getElem_mem hk2)
 exact zj4 h a1 a2 hc a3
theorem zi6 {x:List S38} {c:Nat} {M M':Int} {r:Row} {mode:Int} (hM:0≤M) (h:∀k,k < x.length→z6 (zaq 64 (x.getD k z38)) M) (hr:zbB x.length r=true) (hN:zaE r*M+91*2^c≤2^c*M') (hc:c≤62) (hb:zfE (dot x r) 4611686018427387904):z6 (zaq (2^c) (zaq 64 (shC c mode (dot x r)))) (2^c*M'):=by
 have h1:=zdo (x:=lsc 64 x) hM r (by rw [zaI];exact hr) (fun k hk=>by rw [zbt];rw [zaI] at hk;exact h k hk)
 rw [zde] at h1
 have s0:=zed (dot x r).f0 mode c hc hb.1.1 hb.1.2
 have s1:=zed (dot x r).f1 mode c hc hb.2.1 hb.2.2
 have hpc:(0:Int) < 2^c:=Int.pow_pos (by decide)
 have h2:=z6.box (x:=⟨2^c*shV (dot x r).f0 c mode - (dot x r).f0,2^c*shV (dot x r).f1 c mode - (dot x r).f1⟩) (m:=2^c) (by omega) s0.2 s0.1 s1.2 s1.1
 have h3:=h2.add h1
 have e:zaw (zaq 64 ⟨2^c*shV (dot x r).f0 c mode - (dot x r).f0,2^c*shV (dot x r).f1 c mode - (dot x r).f1⟩) (zaq 64 (dot x r))=zaq (2^c) (zaq 64 (shC c mode (dot x r))):=by
  unfold zaw zaq shC
  apply zaH <;> dsimp only <;> grind
 rw [e] at h3
 exact h3.up (by omega)
def zaT (o:List S38):List (Nat×S38)→List S38
 | []=>o
 | p :: l=>zaT (o.set p.1 p.2) l
theorem zeD:∀(l:List (Nat×S38)) (o:List S38),(zaT o l).length=o.length
 | [],_=>rfl
 | p :: l,o=>by rw [zaT,zeD l,List.length_set]
theorem zdy:∀(l:List (Nat×S38)) (o:List S38) (i:Nat),(∀p,p∈l→p.1≠i)→(zaT o l).getD i z38=o.getD i z38
 | [],_,_,_=>rfl
 | p :: l,o,i,h=>by
  rw [zaT,zdy l _ i (fun q hq=>h q (List.mem_cons_of_mem _ hq))]
  have:=h p (List.mem_cons_self ..)
  simp [List.getD_eq_getElem?_getD,List.getElem?_set,this]
theorem zgt:∀(l:List (Nat×S38)) (o:List S38),(l.map (·.1)).Nodup→(∀p,p∈l→p.1 < o.length)→∀p,p∈l→(zaT o l).getD p.1 z38=p.2
 | [],_,_,_,_,h=>by cases h
 | q :: l,o,hn,hlt,p,h=>by
  rw [List.map_cons,List.nodup_cons] at hn
  rw [zaT]
  rcases List.mem_cons.1 h with rfl | h
  ·rw [zdy l _ _ (fun r hr e=>hn.1 (by rw [← e];exact List.mem_map_of_mem hr))]
   have:=hlt p (List.mem_cons_self ..)
   simp [List.getD_eq_getElem?_getD,List.getElem?_set,this]
  ·exact zgt l _ hn.2 (fun r hr=>by rw [List.length_set];exact hlt r (List.mem_cons_of_mem _ hr)) p h
theorem zct:∀(l m:List (Nat×S38)) (o:List S38),zaT o (l++m)=zaT (zaT o l) m
 | [],_,_=>rfl
 | p :: l,m,o=>by rw [List.cons_append,zaT,zct l m];rfl
theorem zfk {l:List (Nat×S38)} {o r:List S38} (hn:(l.map (·.1)).Nodup) (hlt:∀p,p∈l→p.1 < o.length) (hlen:r.length=o.length) (hall:∀i,i < o.length→∃p,p∈l∧p.1=i) (hv:∀p,p∈l→r.getD p.1 z38=p.2):zaT o l=r:=by
 refine zea (by rw [zeD,hlen]) fun k hk=>?_
 rw [zeD] at hk
 obtain ⟨p,hp,rfl⟩:=hall k hk
 rw [zgt l o hn hlt p hp,hv p hp]
structure Grp where
 pl:List Nat
 f:List S38→List S38
def Grp.asg (g:Grp) (o:List S38):List (Nat×S38):=g.pl.zip (g.f (g.pl.map fun p=>o.getD p z38))
def zdz (o:List S38) (gs:List Grp):List S38:=gs.foldl (fun o g=>zaT o (g.asg o)) o
theorem ze6 {α β:Type}:∀(a:List α) (b:List β) (p:α×β),p∈a.zip b→p.1∈a
 | a,b,p,h=>(List.of_mem_zip h).1
theorem zhs:∀(gs:List Grp) (o:List S38),(gs.flatMap (·.pl)).Nodup→zdz o gs=zaT o (gs.flatMap fun g=>g.asg o)
 | [],_,_=>rfl
 | g :: gs,o,hn=>by
  rw [List.flatMap_cons,List.nodup_append] at hn
  obtain ⟨h1,h2,h3⟩:=hn
  have ih:=zhs gs (zaT o (g.asg o)) h2
  have hr:∀g'∈gs,g'.asg (zaT o (g.asg o))=g'.asg o:=by
   intro g' hg'
   unfold Grp.asg
   congr 2
   refine List.map_congr_left fun p hp=>?_
   refine zdy _ _ _ fun q hq e=>?_
   have:=ze6 _ _ _ hq
   rw [e] at this
   exact h3 p this p (List.mem_flatMap.2 ⟨g',hg',hp⟩) rfl
  show zdz (zaT o (g.asg o)) gs=_
  rw [ih,List.flatMap_cons,zct]
  congr 1
  rw [List.flatMap_def,List.flatMap_def]
  congr 1
  exact List.map_congr_left hr
def bN (fm:Nat):Nat:=if fm=0 then 13 else 29
def twL (fm g:Nat):List S38:=match roots_Twiddles.f g fm with
 | some (L,_)=>L
 | none=>[]
def twB (fm g:Nat):Bool:=match roots_Twiddles.f g fm with
 | some (L,e)=>(e == 0) && ((L.length == 2^g) && L.all fun z=>decide (z.f0*z.f0+z.f1*z.f1≤(2^bN fm+1)*(2^bN fm+1)) && inB (2^bN fm) z)
 | none=>false
set_option maxRecDepth 100000 in
theorem zmS:([0,1].all fun fm=>[2,3,4,5,6].all fun g=>twB fm g)=true:=by decide +kernel
theorem zbH {fm:Nat} (h:fm < 2):fm∈[0,1]:=by simp;omega
theorem zbZ {g:Nat} (h2:2≤g) (h6:g≤6):g∈[2,3,4,5,6]:=by simp;omega
theorem zbC {fm g:Nat} (hf:fm < 2) (h2:2≤g) (h6:g≤6):roots_Twiddles.f g fm=some (twL fm g,0)∧(twL fm g).length=2^g∧∀z,z∈twL fm g→z6 z (2^bN fm+1)∧inB (2^bN fm) z=true:=by
 have h:=List.all_eq_true.1 (List.all_eq_true.1 zmS fm (zbH hf)) g (zbZ h2 h6)
 have hp:(0:Int) < 2^bN fm:=Int.pow_pos (by decide)
 unfold twB at h
 unfold twL
 split at h
 ·next L e he =>
  rw [he]
  simp only [Bool.and_eq_true,beq_iff_eq,List.all_eq_true,decide_eq_true_eq] at h
  obtain ⟨a1,a2,a3⟩:=h
  exact ⟨by rw [a1],a2,fun z hz=>⟨⟨by omega,(a3 z hz).1⟩,(a3 z hz).2⟩⟩
 ·cases h
def pcL (ker g:Nat):List (Bool×Nat):=if ker=0 then (List.range g).map fun t=>(false,t) else if g % 2=0 then (List.range (g / 2)).map fun i=>(true,2*i) else (false,0) :: (List.range (g / 2)).map fun i=>(true,2*i+1)
def zi7 (p:Bool×Nat):S59:=⟨if p.1 then 4 else 2,2^p.2⟩
def psL (ker g:Nat):List S59:=(pcL ker g).map zi7
def psB (fm g ker mode:Nat) (inv:Bool):Bool:=match plan_Passes.f 40 fm g ker 0 mode inv with
 | some (l,e)=>(e == 0) && ((l.map fun s=>(s.f0,s.f1)) == ((psL ker g).map fun s=>(s.f0,s.f1)))
 | none=>false
theorem zmT:([0,1].all fun fm=>[2,3,4,5,6].all fun g=>[0,1].all fun ker=>[0,1,2].all fun mode=>[true,false].all fun inv=>psB fm g ker mode inv)=true:=by decide +kernel
theorem znt {a b:List S59} (h:(a.map fun s=>(s.f0,s.f1))=(b.map fun s=>(s.f0,s.f1))):a=b:=by
 have e:∀l:List S59,((l.map fun s=>(s.f0,s.f1)).map fun p=>(⟨p.1,p.2⟩:S59))=l:=fun l=>by rw [List.map_map];exact (List.map_congr_left fun _ _=>rfl).trans (List.map_id l)
 rw [← e a,h,e b]
theorem zfl {fm g ker mode:Nat} (inv:Bool) (hf:fm < 2) (h2:2≤g) (h6:g≤6) (hk:ker < 2) (hm:mode < 3):plan_Passes.f 40 fm g ker 0 mode inv=some (psL ker g,0):=by
 have h:=List.all_eq_true.1 (List.all_eq_true.1 (List.all_eq_true.1 (List.all_eq_true.1 (List.all_eq_true.1 zmT fm (zbH hf)) g (zbZ h2 h6)) ker (zbH hk)) mode (by simp;omega)) inv (by cases inv <;> simp)
 unfold psB at h
 split at h
 ·next l e he =>
  rw [Bool.and_eq_true,beq_iff_eq,beq_iff_eq] at h
  rw [he,h.1,znt h.2]
 ·cases h
def pcB (g:Nat) (p:Bool×Nat):Bool :=
 let h:Nat:=2^p.2
 if p.1 then decide (p.2 < g - 1) && (decide (2^g / (4*h)*(4*h)=2^g) && (decide (((2^g:Nat):Int).tdiv (4*(h:Int))=((2^g / (4*h):Nat):Int)) && (decide ((h:Int)≤((2^g:Nat):Int) / 4) && decide (Go.bits .and .i64 h (h - 1)=0))))
 else decide (p.2 < g) && (decide (2*h≤2^g) && decide (Go.bits .and .i64 h (h - 1)=0))
theorem zmU:([2,3,4,5,6].all fun g=>[0,1].all fun ker=>(pcL ker g).all (pcB g))=true:=by decide +kernel
theorem zfm {g ker:Nat} (h2:2≤g) (h6:g≤6) (hk:ker < 2):∀p,p∈pcL ker g→pcB g p=true :=
 List.all_eq_true.1 (List.all_eq_true.1 (List.all_eq_true.1 zmU g (zbZ h2 h6)) ker (zbH hk))
theorem zfF {g ker:Nat} (h2:2≤g) (h6:g≤6) (hk:ker < 2):(pcL ker g).length≤6:=by
 have h:([2,3,4,5,6].all fun g=>[0,1].all fun ker=>decide ((pcL ker g).length≤6))=true:=by decide +kernel
 exact of_decide_eq_true (List.all_eq_true.1 (List.all_eq_true.1 h g (zbZ h2 h6)) ker (zbH hk))
def zcX (ker g:Nat):Nat→Int
 | 0=>1
 | k+1=>zcX ker g k+(if ((pcL ker g).getD k (false,0)).1 then 2 else 1)
theorem zmV {g ker:Nat} (h2:2≤g) (h6:g≤6) (hk:ker < 2):zcX ker g (pcL ker g).length=1+g:=by
 have h:([2,3,4,5,6].all fun g=>[0,1].all fun ker=>decide (zcX ker g (pcL ker g).length=1+g))=true:=by decide +kernel
 exact of_decide_eq_true (List.all_eq_true.1 (List.all_eq_true.1 h g (zbZ h2 h6)) ker (zbH hk))
def zbu:Nat→Nat→Nat
 | 0,_=>0
 | g+1,k=>k % 2*2^g+zbu g (k / 2)
def zb6 (g:Nat) (x:List S38):List S38:=(List.range (2^g)).map fun k=>x.getD (zbu g k) z38
set_option maxRecDepth 100000 in
theorem znu (f:Nat→S38):flip_Flip.f 80 ((List.range 4).map f)=some ((List.range 4).map (fun k=>f (zbu 2 k)),0):=by kernel_rfl
set_option maxRecDepth 100000 in
theorem znv (f:Nat→S38):flip_Flip.f 80 ((List.range 8).map f)=some ((List.range 8).map (fun k=>f (zbu 3 k)),0):=by kernel_rfl
set_option maxRecDepth 100000 in
theorem znw (f:Nat→S38):flip_Flip.f 80 ((List.range 16).map f)=some ((List.range 16).map (fun k=>f (zbu 4 k)),0):=by kernel_rfl
set_option maxRecDepth 100000 in
theorem znx (f:Nat→S38):flip_Flip.f 80 ((List.range 32).map f)=some ((List.range 32).map (fun k=>f (zbu 5 k)),0):=by kernel_rfl
set_option maxRecDepth 100000 in
theorem zny (f:Nat→S38):flip_Flip.f 80 ((List.range 64).map f)=some ((List.range 64).map (fun k=>f (zbu 6 k)),0):=by kernel_rfl
theorem zfG (x:List S38):x=(List.range x.length).map fun k=>x.getD k z38 :=
 zea (by simp) fun k hk=>by simp [List.getD_eq_getElem?_getD,hk]
theorem zma {g:Nat} (h2:2≤g) (h6:g≤6) (x:List S38) (hx:x.length=2^g):flip_Flip.f 80 x=some (zb6 g x,0):=by
 have e:=zfG x
 rw [hx] at e
 unfold zb6
 have h:g=2∨g=3∨g=4∨g=5∨g=6:=by omega
 rcases h with rfl | rfl | rfl | rfl | rfl
 ·conv=>lhs;rw [e]
  exact znu _
 ·conv=>lhs;rw [e]
  exact znv _
 ·conv=>lhs;rw [e]
  exact znw _
 ·conv=>lhs;rw [e]
  exact znx _
 ·conv=>lhs;rw [e]
  exact zny _
theorem zht {g:Nat} (h2:2≤g) (h6:g≤6):flip_Log.f 10 ((2^g:Nat):Int)=some ((g:Int),0):=by
 have h:g=2∨g=3∨g=4∨g=5∨g=6:=by omega
 rcases h with rfl | rfl | rfl | rfl | rfl <;> decide +kernel
end Go.Proofs.YteieahbadclppaaGreat.P

namespace Go.Proofs.YteieahbadclppaaGreat.P
open Go.RowKit Go.Shelf Go.Proofs.YteieahbadclppaaGreatW.PrintWords Go.Proofs.YteieahbadclppaaGreatW.PrintLast Go.Proofs.YteieahbadclppaaGreatW.PrintMore
set_option linter.unusedVariables false
set_option linter.unusedSimpArgs false
section
variable {P:Program} {ops:Array Oper} {rest:List Oper} {o:Oper} {a:Act} {Q:Exit→Act→World→Prop} {K:Act→World→Prop}
theorem zhu {W:World} (ty:TypeId) (g j:Nat) (u v x:Value) (t:TypeId) (old:Array Value) (hg:W.heap[g]?=some (.cells old t (0,0))) (hj:j+2≤old.size) (hi:(P.info? ty).map (·.size)=some 2) (hx:x.cells.toList=[u,v]) (hu:u.oneCell'=true) (hv:v.oneCell'=true) :
  (Instr.storeAt ty (.pointer (some ⟨g,j,none⟩)) x).run P W=.ok () ((W.setCell ⟨g,j,none⟩ u).setCell ⟨g,j+1,none⟩ v) :=
 za8 ty x [u,v] hg hx hi (by simpa using hj) (by simp [hu,hv])
theorem zc6 {W:World} (hgd:o.guard=none) (hN:o.dst=none) (ty:TypeId) (x y:Operand) (ho:o.op=.store ty x y) (g j:Nat) (u v:Value) (hx:a.eval x=.pointer (some ⟨g,j,none⟩)) (hy:a.eval y=.agg #[u,v])
  (t:TypeId) (old:Array Value) (hg:W.heap[g]?=some (.cells old t (0,0))) (hj:j+2≤old.size) (hi:(P.info? ty).map (·.size)=some 2) (hu:u.oneCell'=true) (hv:v.oneCell'=true) (new:Array Value) (hnew:(old.setIfInBounds j u).setIfInBounds (j+1) v=new)
  (h:∀w1,w1.heap[g]?=some (.cells new t (0,0))→(∀k,k≠g→w1.heap[k]?=W.heap[k]?)→(∀B w0,B≤g→Below B w0 W→Below B w0 w1)→wpList P ops Q rest a w1):wpList P ops Q (o :: rest) a W:=by
 have hr:=zhu (P:=P) (W:=W) ty g j u v (.agg #[u,v]) t old hg hj hi rfl hu hv
 refine wpList_plain hgd fun K hK=>?_
 unfold Oper.wp execOp
 simp only [ho,hx,hy,Sem.run_bind,Sem.run_pure,Result.andThen_ok,hr]
 show K (a.put o.dst undef) _
 rw [hN]
 exact hK _ _ (h _ (zS (zS hg j u rfl) (j+1) v hnew) (fun k hk=>(Below.heap_setCell _ ⟨g,j+1,none⟩ v k hk).trans (Below.heap_setCell W ⟨g,j,none⟩ u k hk)) (fun B w0 hB hb=>(hb.setCell (p:=⟨g,j,none⟩) hB u).setCell (p:=⟨g,j+1,none⟩) hB v))
theorem zeE {W:World} (hw:Region.wanted o (yielded ops a.tmps)=true) (hN:o.dst=none) (ty:TypeId) (x y:Operand) (ho:o.op=.store ty x y) (g j:Nat) (u v:Value) (hx:a.eval x=.pointer (some ⟨g,j,none⟩)) (hy:a.eval y=.agg #[u,v])
  (t:TypeId) (old:Array Value) (hg:W.heap[g]?=some (.cells old t (0,0))) (hj:j+2≤old.size) (hi:(P.info? ty).map (·.size)=some 2) (hu:u.oneCell'=true) (hv:v.oneCell'=true) (new:Array Value) (hnew:(old.setIfInBounds j u).setIfInBounds (j+1) v=new)
  (h:∀w1,w1.heap[g]?=some (.cells new t (0,0))→(∀k,k≠g→w1.heap[k]?=W.heap[k]?)→(∀B w0,B≤g→Below B w0 W→Below B w0 w1)→K a w1) :
  if Region.wanted o (yielded ops a.tmps)=true then Oper.wp P o a W K Q else K (a.put none undef) W:=by
 rw [if_pos hw]
 have hr:=zhu (P:=P) (W:=W) ty g j u v (.agg #[u,v]) t old hg hj hi rfl hu hv
 unfold Oper.wp execOp
 simp only [ho,hx,hy,Sem.run_bind,Sem.run_pure,Result.andThen_ok,hr]
 show K (a.put o.dst undef) _
 rw [hN]
 exact h _ (zS (zS hg j u rfl) (j+1) v hnew) (fun k hk=>(Below.heap_setCell _ ⟨g,j+1,none⟩ v k hk).trans (Below.heap_setCell W ⟨g,j,none⟩ u k hk)) (fun B w0 hB hb=>(hb.setCell (p:=⟨g,j,none⟩) hB u).setCell (p:=⟨g,j+1,none⟩) hB v)
end
theorem zdW (a b c d:Value):(Tryz.prog.info? 164).map (·.size)=some (#[a,b,c,d]:Array Value).size:=by kernel_rfl
theorem zhv (a b c d:Int):(#[.int .i64 a,.int .i64 b,.int .i64 c,.int .i64 d]:Array Value).all (·.oneCell')=true:=by simp [Value.oneCell']
theorem zbK (a b c d e f g h:Value):(Tryz.prog.info? 136).map (·.size)=some (#[a,b,c,d,e,f,g,h]:Array Value).size:=by kernel_rfl
theorem zeF (a b c d e f g h:Int):(#[.int .i64 a,.int .i64 b,.int .i64 c,.int .i64 d,.int .i64 e,.int .i64 f,.int .i64 g,.int .i64 h]:Array Value).all (·.oneCell')=true:=by simp [Value.oneCell']
def byV (inv:Bool):Nat→Int
 | 0=>0
 | 1=>if inv then 1 else 3
 | 2=>2
 | _=>if inv then 3 else 1
set_option maxRecDepth 100000 in
set_option maxHeartbeats 4000000 in
theorem zj5 (inv:Bool) (w:World) :
  Calls Tryz.prog 113 #[.bool inv] w fun e w'=>e=.returned (.agg #[.int .i64 (byV inv 0),.int .i64 (byV inv 1),.int .i64 (byV inv 2),.int .i64 (byV inv 3)])∧Below w.heap.size w w':=by
 have HB0:=hhd (Below.refl w.heap.size w)
 cases inv
 ·go_enter Tryz.func113,Tryz.ntmps113
  go_wp2_with (first
  | ((with_reducible refine zg (N:=2) rfl ?_);refine ba_ 2 #[.int .i64 0,.int .i64 0,.int .i64 0,.int .i64 0] 164 ?_;intro g2 hg W1 hbox hbl;have L2:=gf_ hg HB0.out;have B2_1:=hhd hbox;have HB_1:=hhd (zb HB0.out hbl);obtain ⟨k2_0_1,k2_1_1,k2_2_1,k2_3_1⟩:=bk4 B2_1.out;clear hbox hbl hg)
  | ((with_reducible refine zo (t:=164) (p:=2) rfl ?_);refine zv rfl 164 _ _ rfl g2 #[.int .i64 0,.int .i64 3,.int .i64 2,.int .i64 1] rfl rfl 164 #[.int .i64 0,.int .i64 0,.int .i64 0,.int .i64 0] B2_1.out (zdW _ _ _ _) rfl (zhv _ _ _ _) ?_;intro W2 hq hoth hbel;have B2_2:=hhd hq;have HB_2:=hhd (hbel _ _ L2 HB_1.out);clear k2_0_1 k2_1_1 k2_2_1 k2_3_1;obtain ⟨k2_0_2,k2_1_2,k2_2_2,k2_3_2⟩:=bk4 B2_2.out;clear hq hoth hbel))
  refine bodyPost_ret (results_cell_row rfl _ _ g2 164 #[.int .i64 0,.int .i64 3,.int .i64 2,.int .i64 1] (0,0) _ rfl B2_2.out Tryz.underlying164 rfl (zdW _ _ _ _)) rfl ?_
  exact ⟨rfl,HB_2.out⟩
 ·go_enter Tryz.func113,Tryz.ntmps113
  go_wp2_with (first
  | ((with_reducible refine zg (N:=2) rfl ?_);refine ba_ 2 #[.int .i64 0,.int .i64 0,.int .i64 0,.int .i64 0] 164 ?_;intro g2 hg W1 hbox hbl;have L2:=gf_ hg HB0.out;have B2_1:=hhd hbox;have HB_1:=hhd (zb HB0.out hbl);obtain ⟨k2_0_1,k2_1_1,k2_2_1,k2_3_1⟩:=bk4 B2_1.out;clear hbox hbl hg)
  | ((with_reducible refine zo (t:=164) (p:=2) rfl ?_);refine zv rfl 164 _ _ rfl g2 #[.int .i64 0,.int .i64 1,.int .i64 2,.int .i64 3] rfl rfl 164 #[.int .i64 0,.int .i64 0,.int .i64 0,.int .i64 0] B2_1.out (zdW _ _ _ _) rfl (zhv _ _ _ _) ?_;intro W2 hq hoth hbel;have B2_2:=hhd hq;have HB_2:=hhd (hbel _ _ L2 HB_1.out);clear k2_0_1 k2_1_1 k2_2_1 k2_3_1;obtain ⟨k2_0_2,k2_1_2,k2_2_2,k2_3_2⟩:=bk4 B2_2.out;clear hq hoth hbel))
  refine bodyPost_ret (results_cell_row rfl _ _ g2 164 #[.int .i64 0,.int .i64 1,.int .i64 2,.int .i64 3] (0,0) _ rfl B2_2.out Tryz.underlying164 rfl (zdW _ _ _ _)) rfl ?_
  exact ⟨rfl,HB_2.out⟩
end Go.Proofs.YteieahbadclppaaGreat.P

