/- Part 16 of 36 of the proof: the texts that it reaches, one behind the other. No condition. -/
import Derived.Test.YteieahbadclppaaGreatKr9
namespace Go.Proofs.YteieahbadclppaaGreat.P
open Go.RowKit Go.Proofs.YteieahbadclppaaGreatW.PrintWords Go.Proofs.YteieahbadclppaaGreatW.PrintLast Go.Proofs.YteieahbadclppaaGreatW.PrintMore
attribute [local go_sem] zF zG zK zL zY zZ z9 zaa
set_option linter.unusedVariables false
set_option linter.unusedSimpArgs false
mutual
def plan_Passes.l0:Nat→List (S59)→Int→Int→Int→Int→Int→Int→Bool→Option ((List (S59))×Int)
 | 0,_,_,_,_,_,_,_,_=>none
 | k+1,x5,x6,x216000,x216001,x216002,x216003,x216004,x216005=>if 0≤x216001 then (if x6 < (shl .i64 1 x216001) then (plan_Passes.j1 k x5 x6 (x216002 != 2) x216000 x216001 x216002 x216003 x216004 x216005) else (plan_Passes.j1 k x5 x6 false x216000 x216001 x216002 x216003 x216004 x216005)) else (none)
def plan_Passes.j1:Nat→List (S59)→Int→Bool→Int→Int→Int→Int→Int→Bool→Option ((List (S59))×Int)
 | 0,_,_,_,_,_,_,_,_,_=>none
 | k+1,x5,x6,x22,x216000,x216001,x216002,x216003,x216004,x216005=>if x22=true then (if x216002=1 then (if x6 > 1 then (if x5.length < 8796093022208 then (plan_Passes.l0 k (x5++[(⟨4,x6⟩:S59)]) (wrap64 (x6*4)) x216000 x216001 x216002 x216003 x216004 x216005) else (none)) else (if (Go.bits .and .i64 x216001 1)=0 then (if x5.length < 8796093022208 then (plan_Passes.l0 k (x5++[(⟨4,x6⟩:S59)]) (wrap64 (x6*4)) x216000 x216001 x216002 x216003 x216004 x216005) else (none)) else (if x5.length < 8796093022208 then (plan_Passes.l0 k (x5++[(⟨2,x6⟩:S59)]) (wrap64 (x6*2)) x216000 x216001 x216002 x216003 x216004 x216005) else (none)))) else (if x5.length < 8796093022208 then (plan_Passes.l0 k (x5++[(⟨2,x6⟩:S59)]) (wrap64 (x6*2)) x216000 x216001 x216002 x216003 x216004 x216005) else (none))) else (some (x5,0))
end
def plan_Passes.f (k:Nat) (a0_0:Int) (a0_1:Int) (a0_2:Int) (a0_3:Int) (a0_4:Int) (a0_5:Bool):Option ((List (S59))×Int):=(plan_Check.f a0_0 a0_1 a0_2 a0_3 a0_4 a0_5).bind fun t216=>(if t216=0 then (plan_Passes.l0 k ([]:List (S59)) 1 a0_0 a0_1 a0_2 a0_3 a0_4 a0_5) else (some (([]:List (S59)),t216)))
set_option maxHeartbeats 8000000 in
set_option maxRecDepth 100000 in
theorem plan_Passes.calls (k:Nat) (a0_0:Int) (a0_1:Int) (a0_2:Int) (a0_3:Int) (a0_4:Int) (a0_5:Bool) (r1:List (S59)) (r2:Int) (w:World) (h:plan_Passes.f k a0_0 a0_1 a0_2 a0_3 a0_4 a0_5=some (r1,r2)) :
  Calls Tryz.prog 18 #[.agg #[.int .i64 a0_0,.int .i64 a0_1,.int .i64 a0_2,.int .i64 a0_3,.int .i64 a0_4,.bool a0_5]] w fun e w'=>∃v0_:Value,e=.returned (.tuple #[v0_,.int .i64 r2])∧Kd.R k59 59 w' w.heap.size (fun _=>True) v0_ r1∧Below w.heap.size w w':=by
 have hu24:=Tryz.underlying24
 have hu59:=Tryz.underlying59
 have HB:=Aside0.mk (Below.refl w.heap.size w)
 have H:((plan_Check.f a0_0 a0_1 a0_2 a0_3 a0_4 a0_5).bind fun t216=>(if t216=0 then (plan_Passes.l0 k ([]:List (S59)) 1 a0_0 a0_1 a0_2 a0_3 a0_4 a0_5) else (some (([]:List (S59)),t216))))=some (r1,r2):=h
 clear h
 replace H:=Option.bind_eq_some_iff.mp H
 obtain ⟨t216,A20,H⟩:=H
 replace H:(if t216=0 then (plan_Passes.l0 k ([]:List (S59)) 1 a0_0 a0_1 a0_2 a0_3 a0_4 a0_5) else (some (([]:List (S59)),t216)))=some (r1,r2):=H
 have A2:=Aside0.mk A20
 clear A20
 by_cases c3:t216=0
 ·rw [if_pos c3] at H
  have c3b0:(t216 == 0)=true:=beq_iff_eq.mpr c3
  have c3b1:(t216 != 0)=false:=bne_eq_false_iff_eq.mpr c3
  clear c3
  have H':=Aside0.mk H
  clear H
  go_enter Tryz.func18,Tryz.ntmps18
  go_wp2_with (first | ((with_reducible refine zf (N:=1) rfl ?_);refine ba_ 1 rfl #[.int .i64 a0_0,.int .i64 a0_1,.int .i64 a0_2,.int .i64 a0_3,.int .i64 a0_4,.bool a0_5] 24 ?_;intro gb215 hg w4 I hb;have n0_:=Aside0.mk (zb (by repeat (first | (with_reducible first | exact HB.out | apply ze | apply zc | apply zg) | exact HB.out)) hb);have n1_:=Aside0.mk (I);have n2_:=Aside0.mk ((by rw [hg];exact (zi (by repeat (first | (with_reducible first | exact HB.out | apply ze | apply zc | apply zg) | exact HB.out))):w.heap.size≤gb215));have n3_:=Aside0.mk ((by rw [hg];exact (zi (by repeat (first | (with_reducible first | exact HB.out | apply ze | apply zc | apply zg) | exact HB.out))):w.heap.size≤gb215));clear HB;have HB:=n0_;have BK215:=n1_;have GW215:=n2_;have GE215:=n3_;clear n0_ n1_ n2_ n3_;clear hb I hg;have hcz5_0:w4.cell? ⟨gb215,0,none⟩=some (.int .i64 a0_0):=(za BK215.out 0).trans rfl;have hcz5_1:w4.cell? ⟨gb215,1,none⟩=some (.int .i64 a0_1):=(za BK215.out 1).trans rfl;have hcz5_2:w4.cell? ⟨gb215,2,none⟩=some (.int .i64 a0_2):=(za BK215.out 2).trans rfl;have hcz5_3:w4.cell? ⟨gb215,3,none⟩=some (.int .i64 a0_3):=(za BK215.out 3).trans rfl;have hcz5_4:w4.cell? ⟨gb215,4,none⟩=some (.int .i64 a0_4):=(za BK215.out 4).trans rfl;have hcz5_5:w4.cell? ⟨gb215,5,none⟩=some (.bool a0_5):=(za BK215.out 5).trans rfl;have hfz5_0:=zh BK215.out 0;have hfz5_1:=zh BK215.out 1;have hfz5_2:=zh BK215.out 2;have hfz5_3:=zh BK215.out 3;have hfz5_4:=zh BK215.out 4;have hfz5_5:=zh BK215.out 5) | ((with_reducible refine zy (f:=37) rfl ?_);refine zO (some 9) rfl rfl Tryz.func37 (by kernel_rfl) rfl #[.agg #[.int .i64 a0_0,.int .i64 a0_1,.int .i64 a0_2,.int .i64 a0_3,.int .i64 a0_4,.bool a0_5]] rfl (by (try simp only [List.map_toArray,List.map_cons,List.map_nil]);first | done | rfl | (simp only [List.length_drop,List.length_take];rfl)) ?_;(with_reducible refine (plan_Check.calls a0_0 a0_1 a0_2 a0_3 a0_4 a0_5 t216 _ A2.out).mono ?_);rintro e w6 ⟨rfl,hb⟩;refine ⟨_,rfl,?_⟩;have n0_:=Aside0.mk (zd (g:=gb215) (o:=.cells #[.int .i64 a0_0,.int .i64 a0_1,.int .i64 a0_2,.int .i64 a0_3,.int .i64 a0_4,.bool a0_5] 24 (0,0)) (by (with_reducible repeat (first | refine zn ?_ _ | refine zu ?_ | refine zm ?_ _));exact BK215.out) hb);have n1_:=Aside0.mk (zb (by repeat (first | (with_reducible first | exact HB.out | apply ze | apply zc | apply zg | refine zp ?_ GE215.out) | exact HB.out)) hb);clear BK215;clear HB;have BK215:=n0_;have HB:=n1_;clear n0_ n1_;(try clear hb);(try clear hb2);(try clear hk);(try clear hi)))
  go_loopg [5,6] k (fun kq v5 v6 w'=>∃(x5_1:List (S59)) (x6_1:Int),v6=.int .i64 x6_1∧Aside0 (plan_Passes.l0 kq x5_1 x6_1 a0_0 a0_1 a0_2 a0_3 a0_4 a0_5=some (r1,r2))∧Aside0 (kq≤k)∧Aside0 (Kd.R k59 59 w' w.heap.size (fun _=>True) v5 x5_1)∧Aside0 (w'.heap[gb215]?=some (.cells #[.int .i64 a0_0,.int .i64 a0_1,.int .i64 a0_2,.int .i64 a0_3,.int .i64 a0_4,.bool a0_5] 24 (0,0)))∧Aside0 (Below w.heap.size w w'))
  case atStart=>exact ⟨(([]:List (S59))),(1),(by first | rfl | (simp;done) | (simp [*];done)),H',⟨Nat.le_refl _⟩,⟨by first | exact Kd.R_nil _ _ _ _ _ | exact Kd.N_nil _ _ _ _ _ | exact Kd.V_nil _ _ _ _ _ | exact Kd.Q_nil _ _ _ _ _ | exact Kd.S_nil _ _ _ _ _⟩,⟨by (with_reducible repeat (first | refine zn ?_ _ | refine zu ?_ | refine zm ?_ _));exact BK215.out⟩,⟨by repeat (first | (with_reducible first | exact HB.out | apply ze | apply zc | apply zg | refine zp ?_ GE215.out) | exact HB.out)⟩⟩
  case round =>
   clear H'
   try clear c1
   try clear p2
   try clear c3
   try clear c3b0
   try clear c3b1
   try clear hcz5_0
   try clear hcz5_1
   try clear hcz5_2
   try clear hcz5_3
   try clear hcz5_4
   try clear hcz5_5
   try clear hfz5_0
   try clear hfz5_1
   try clear hfz5_2
   try clear hfz5_3
   try clear hfz5_4
   try clear hfz5_5
   obtain ⟨x5_1,x6_1,rfl,HA,HK1,HO_5,BK215,HB⟩:=hrel
   cases gk with
   | zero=>exact absurd HA.out (by simp [plan_Passes.l0])
   | succ k1 =>
    have H:=HA.out
    clear HA
    simp only [plan_Passes.l0] at H
    have HC7:=Aside0.mk H
    clear H
    go_upto_region 6 with (fail)
    go_cut [22] (fun v22 wc=>∃(kq:Nat) (x22_6:Bool),v22=.bool x22_6∧Aside0 (plan_Passes.j1 kq x5_1 x6_1 x22_6 a0_0 a0_1 a0_2 a0_3 a0_4 a0_5=some (r1,r2))∧Aside0 (kq≤k1)∧Aside0 (Kd.R k59 59 wc w.heap.size (fun _=>True) u5 x5_1)∧Aside0 (wc.heap[gb215]?=some (.cells #[.int .i64 a0_0,.int .i64 a0_1,.int .i64 a0_2,.int .i64 a0_3,.int .i64 a0_4,.bool a0_5] 24 (0,0)))∧Aside0 (Below w.heap.size w wc))
    case first =>
     have H:=HC7.out
     clear HC7
     by_cases c8:0≤a0_1
     ·rw [if_pos c8] at H
      have c8b0:=eq_true c8
      have c8b1:decide (0≤a0_1)=true:=decide_eq_true c8
      clear c8
      obtain ⟨ji9,hji9⟩:∃j_:Int,(shl .i64 1 a0_1)=j_:=⟨_,rfl⟩
      replace H:(if x6_1 < (ji9) then (plan_Passes.j1 k1 x5_1 x6_1 (a0_2 != 2) a0_0 a0_1 a0_2 a0_3 a0_4 a0_5) else (plan_Passes.j1 k1 x5_1 x6_1 false a0_0 a0_1 a0_2 a0_3 a0_4 a0_5))=some (r1,r2):=by first | (rw [hji9] at H;exact H) | (simp only [hji9] at H ⊢;exact H)
      have hji9_:(IntKind.i64.wrap (1*2^min a0_1.toNat 64))=ji9:=hji9
      have hji9z:a0_1≤64→(IntKind.i64.wrap (1*2^a0_1.toNat))=ji9:=zci hji9
      have hji9u:(IntKind.i64.wrap (2^min a0_1.toNat 64))=ji9:=by have h_:=hji9_;rw [Int.one_mul] at h_;exact h_
      have hji9v:a0_1≤64→(IntKind.i64.wrap (2^a0_1.toNat))=ji9:=fun hle_=>by have h_:=hji9z hle_;rw [Int.one_mul] at h_;exact h_
      have hji9y:(wrap64 (1*2^min a0_1.toNat 64))=ji9:=(zD _).symm.trans hji9_
      have hji9x:a0_1≤64→(wrap64 (1*2^a0_1.toNat))=ji9:=fun h_=>(zD _).symm.trans (hji9z h_)
      by_cases c10:x6_1 < (ji9)
      ·rw [if_pos c10] at H
       have c10b0:decide (x6_1 < (ji9))=true:=decide_eq_true c10
       clear c10
       (first | rw [c10b0] | (simp only [zD,zU];rw [c10b0]) | skip)
       have H':=Aside0.mk H
       clear H
       have hcz11_0:wr.cell? ⟨gb215,0,none⟩=some (.int .i64 a0_0):=(za BK215.out 0).trans rfl
       have hcz11_1:wr.cell? ⟨gb215,1,none⟩=some (.int .i64 a0_1):=(za BK215.out 1).trans rfl
       have hcz11_2:wr.cell? ⟨gb215,2,none⟩=some (.int .i64 a0_2):=(za BK215.out 2).trans rfl
       have hcz11_3:wr.cell? ⟨gb215,3,none⟩=some (.int .i64 a0_3):=(za BK215.out 3).trans rfl
       have hcz11_4:wr.cell? ⟨gb215,4,none⟩=some (.int .i64 a0_4):=(za BK215.out 4).trans rfl
       have hcz11_5:wr.cell? ⟨gb215,5,none⟩=some (.bool a0_5):=(za BK215.out 5).trans rfl
       have hfz11_0:=zh BK215.out 0
       have hfz11_1:=zh BK215.out 1
       have hfz11_2:=zh BK215.out 2
       have hfz11_3:=zh BK215.out 3
       have hfz11_4:=zh BK215.out 4
       have hfz11_5:=zh BK215.out 5
       go_wp2
       go_meet
       case rel=>exact ⟨_,((a0_2 != 2)),(by first | rfl | (simp;done) | (simp [*];done)),H',⟨by have:=HK1.out;first | omega | exact Nat.le_refl _⟩,⟨by (with_reducible repeat (first | apply Kd.R_alloc | apply Kd.R_drewN | apply Kd.R_drew));exact HO_5.out⟩,⟨by (with_reducible repeat (first | refine zn ?_ _ | refine zu ?_ | refine zm ?_ _));exact BK215.out⟩,⟨by repeat (first | (with_reducible first | exact HB.out | apply ze | apply zc | apply zg | refine zp ?_ GE215.out) | exact HB.out)⟩⟩
      ·rw [if_neg c10] at H
       have c10b0:decide (x6_1 < (ji9))=false:=decide_eq_false c10
       clear c10
       (first | rw [c10b0] | (simp only [zD,zU];rw [c10b0]) | skip)
       have H':=Aside0.mk H
       clear H
       have hcz12_0:wr.cell? ⟨gb215,0,none⟩=some (.int .i64 a0_0):=(za BK215.out 0).trans rfl
       have hcz12_1:wr.cell? ⟨gb215,1,none⟩=some (.int .i64 a0_1):=(za BK215.out 1).trans rfl
       have hcz12_2:wr.cell? ⟨gb215,2,none⟩=some (.int .i64 a0_2):=(za BK215.out 2).trans rfl
       have hcz12_3:wr.cell? ⟨gb215,3,none⟩=some (.int .i64 a0_3):=(za BK215.out 3).trans rfl
       have hcz12_4:wr.cell? ⟨gb215,4,none⟩=some (.int .i64 a0_4):=(za BK215.out 4).trans rfl
       have hcz12_5:wr.cell? ⟨gb215,5,none⟩=some (.bool a0_5):=(za BK215.out 5).trans rfl
       have hfz12_0:=zh BK215.out 0
       have hfz12_1:=zh BK215.out 1
       have hfz12_2:=zh BK215.out 2
       have hfz12_3:=zh BK215.out 3
       have hfz12_4:=zh BK215.out 4
       have hfz12_5:=zh BK215.out 5
       go_wp2
       go_meet
       case rel=>exact ⟨_,(false),(by first | rfl | (simp;done) | (simp [*];done)),H',⟨by have:=HK1.out;first | omega | exact Nat.le_refl _⟩,⟨by (with_reducible repeat (first | apply Kd.R_alloc | apply Kd.R_drewN | apply Kd.R_drew));exact HO_5.out⟩,⟨by (with_reducible repeat (first | refine zn ?_ _ | refine zu ?_ | refine zm ?_ _));exact BK215.out⟩,⟨by repeat (first | (with_reducible first | exact HB.out | apply ze | apply zc | apply zg | refine zp ?_ GE215.out) | exact HB.out)⟩⟩
     ·rw [if_neg c8] at H
      exact absurd H (by simp)
    case rest =>
     clear HC7
     try clear c1
     try clear p2
     try clear c3
     try clear c3b0
     try clear c3b1
     try clear p6
     try clear c8
     try clear c8b0
     try clear c8b1
     try clear c10
     try clear c10b0
     try clear hcz11_0
     try clear hcz11_1
     try clear hcz11_2
     try clear hcz11_3
     try clear hcz11_4
     try clear hcz11_5
     try clear hcz12_0
     try clear hcz12_1
     try clear hcz12_2
     try clear hcz12_3
     try clear hcz12_4
     try clear hcz12_5
     try clear hcz5_0
     try clear hcz5_1
     try clear hcz5_2
     try clear hcz5_3
     try clear hcz5_4
     try clear hcz5_5
     try clear hfz11_0
     try clear hfz11_1
     try clear hfz11_2
     try clear hfz11_3
     try clear hfz11_4
     try clear hfz11_5
     try clear hfz12_0
     try clear hfz12_1
     try clear hfz12_2
     try clear hfz12_3
     try clear hfz12_4
     try clear hfz12_5
     try clear hfz5_0
     try clear hfz5_1
     try clear hfz5_2
     try clear hfz5_3
     try clear hfz5_4
     try clear hfz5_5
     try clear p2
     obtain ⟨kq,x22_6,rfl,HA,HJ6,HO_5,BK215,HB⟩:=hcut
     cases kq with
     | zero=>exact absurd HA.out (by simp [plan_Passes.j1])
     | succ kj6 =>
      have H:=HA.out
      clear HA
      simp only [plan_Passes.j1] at H
      by_cases c13:x22_6=true
      ·subst c13
       have H1:(if a0_2=1 then (if x6_1 > 1 then (if x5_1.length < 8796093022208 then (plan_Passes.l0 kj6 (x5_1++[(⟨4,x6_1⟩:S59)]) (wrap64 (x6_1*4)) a0_0 a0_1 a0_2 a0_3 a0_4 a0_5) else (none)) else (if (Go.bits .and .i64 a0_1 1)=0 then (if x5_1.length < 8796093022208 then (plan_Passes.l0 kj6 (x5_1++[(⟨4,x6_1⟩:S59)]) (wrap64 (x6_1*4)) a0_0 a0_1 a0_2 a0_3 a0_4 a0_5) else (none)) else (if x5_1.length < 8796093022208 then (plan_Passes.l0 kj6 (x5_1++[(⟨2,x6_1⟩:S59)]) (wrap64 (x6_1*2)) a0_0 a0_1 a0_2 a0_3 a0_4 a0_5) else (none)))) else (if x5_1.length < 8796093022208 then (plan_Passes.l0 kj6 (x5_1++[(⟨2,x6_1⟩:S59)]) (wrap64 (x6_1*2)) a0_0 a0_1 a0_2 a0_3 a0_4 a0_5) else (none)))=some (r1,r2):=by rw [if_pos rfl] at H;exact H
       clear H
       have H:=H1
       clear H1
       by_cases c14:a0_2=1
       ·rw [if_pos c14] at H
        have c14b0:(a0_2 == 1)=true:=beq_iff_eq.mpr c14
        have c14b1:(a0_2 != 1)=false:=bne_eq_false_iff_eq.mpr c14
        clear c14
        by_cases c15:x6_1 > 1
        ·rw [if_pos c15] at H
         have c15b0:decide (1 < x6_1)=true:=decide_eq_true c15
         clear c15
         by_cases c16:x5_1.length < 8796093022208
         ·rw [if_pos c16] at H
          have LMc16:=Aside0.mk c16
          clear c16
          obtain ⟨y217,hy217⟩:∃y_:List (S59),y_=(x5_1++[(⟨4,x6_1⟩:S59)]):=⟨_,rfl⟩
          replace H:(plan_Passes.l0 kj6 y217 (wrap64 (x6_1*4)) a0_0 a0_1 a0_2 a0_3 a0_4 a0_5)=some (r1,r2):=by first | (rw [hy217];with_reducible exact H) | (have H2_:=(Option.bind_some _ _).symm.trans H;rw [hy217];with_reducible exact H2_) | (have H2_:=(Option.bind_some _ _).symm.trans H;with_reducible exact H2_) | with_reducible exact H | (rw [hy217];exact H) | exact H
          have Ny217:=Aside0.mk hy217
          clear hy217
          have H':=Aside0.mk H
          clear H
          have hcz17_0:wc.cell? ⟨gb215,0,none⟩=some (.int .i64 a0_0):=(za BK215.out 0).trans rfl
          have hcz17_1:wc.cell? ⟨gb215,1,none⟩=some (.int .i64 a0_1):=(za BK215.out 1).trans rfl
          have hcz17_2:wc.cell? ⟨gb215,2,none⟩=some (.int .i64 a0_2):=(za BK215.out 2).trans rfl
          have hcz17_3:wc.cell? ⟨gb215,3,none⟩=some (.int .i64 a0_3):=(za BK215.out 3).trans rfl
          have hcz17_4:wc.cell? ⟨gb215,4,none⟩=some (.int .i64 a0_4):=(za BK215.out 4).trans rfl
          have hcz17_5:wc.cell? ⟨gb215,5,none⟩=some (.bool a0_5):=(za BK215.out 5).trans rfl
          have hfz17_0:=zh BK215.out 0
          have hfz17_1:=zh BK215.out 1
          have hfz17_2:=zh BK215.out 2
          have hfz17_3:=zh BK215.out 3
          have hfz17_4:=zh BK215.out 4
          have hfz17_5:=zh BK215.out 5
          go_wp2_with (first | ((with_reducible refine zaw (b:=.append) (xs:=#[.tmp 36,.tmp 40]) rfl ?_);at_builtin;refine Kd.R_append k59 (w0:=w) w.heap.size rfl (.tmp 36) (.tmp 40) 50 59 (.agg #[(.int .i64 0),(.int .i64 0)]) 16 rfl Tryz.underlying50 zfH rfl (by decide) (by omega) u5 x5_1 (⟨4,x6_1⟩:S59) [.int .i64 4,.int .i64 x6_1] (fun _=>True) (fun _=>False) rfl rfl ?aP (fun _ hk=>hk.elim) ?aF ?aO ?aB ?aS ?aL ?_;(case aP=>exact zeX _ _ _ (⟨4,x6_1⟩:S59));(case aB=>exact (by repeat (first | (with_reducible first | exact HB.out | apply ze | apply zc | apply zg | refine zp ?_ GE215.out) | exact HB.out)));(case aF=>exact (fun _ _=>trivial));(case aO=>exact (by (with_reducible repeat (first | apply Kd.R_alloc | apply Kd.R_drewN | apply Kd.R_drew));exact HO_5.out));(case aS=>exact (zi (by repeat (first | (with_reducible first | exact HB.out | apply ze | apply zc | apply zg | refine zp ?_ GE215.out) | exact HB.out))));(case aL=>have:=LMc16.out;omega);intro v218 w18 ho hb hg hat;rw [← Ny217.out] at ho;have n0_:=Aside0.mk (zc1 (g:=gb215) (o:=.cells #[.int .i64 a0_0,.int .i64 a0_1,.int .i64 a0_2,.int .i64 a0_3,.int .i64 a0_4,.bool a0_5] 24 (0,0)) (by (with_reducible repeat (first | refine zn ?_ _ | refine zu ?_ | refine zm ?_ _));exact BK215.out) hg (Kd.R_ne HO_5.out BK215.out (by decide)));have n1_:=Aside0.mk (hb);have n2_:=Aside0.mk (ho);clear BK215;clear HB;clear HO_5;have BK215:=n0_;have HB:=n1_;have aA:=n2_;clear n0_ n1_ n2_;clear ho hb hg hat))
          go_roundg kj6
          case measure=>have:=HK1.out;have:=HJ6.out;omega
          case rel=>exact ⟨(y217),(wrap64 (x6_1*4)),(by first | rfl | (simp;done) | (simp [*];done)),H',⟨by have:=HK1.out;have:=HJ6.out;omega⟩,⟨by (with_reducible repeat (first | apply Kd.R_alloc | apply Kd.R_drewN | apply Kd.R_drew));exact aA.out⟩,⟨by (with_reducible repeat (first | refine zn ?_ _ | refine zu ?_ | refine zm ?_ _));exact BK215.out⟩,⟨by repeat (first | (with_reducible first | exact HB.out | apply ze | apply zc | apply zg | refine zp ?_ GE215.out) | exact HB.out)⟩⟩
         ·rw [if_neg c16] at H
          exact absurd H (by simp)
        ·rw [if_neg c15] at H
         have c15b0:decide (1 < x6_1)=false:=decide_eq_false c15
         clear c15
         by_cases c19:(Go.bits .and .i64 a0_1 1)=0
         ·rw [if_pos c19] at H
          have c19b0:((Go.bits .and .i64 a0_1 1) == 0)=true:=beq_iff_eq.mpr c19
          have c19b1:((Go.bits .and .i64 a0_1 1) != 0)=false:=bne_eq_false_iff_eq.mpr c19
          clear c19
          by_cases c20:x5_1.length < 8796093022208
          ·rw [if_pos c20] at H
           have LMc20:=Aside0.mk c20
           clear c20
           obtain ⟨y220,hy220⟩:∃y_:List (S59),y_=(x5_1++[(⟨4,x6_1⟩:S59)]):=⟨_,rfl⟩
           replace H:(plan_Passes.l0 kj6 y220 (wrap64 (x6_1*4)) a0_0 a0_1 a0_2 a0_3 a0_4 a0_5)=some (r1,r2):=by first | (rw [hy220];with_reducible exact H) | (have H2_:=(Option.bind_some _ _).symm.trans H;rw [hy220];with_reducible exact H2_) | (have H2_:=(Option.bind_some _ _).symm.trans H;with_reducible exact H2_) | with_reducible exact H | (rw [hy220];exact H) | exact H
           have Ny220:=Aside0.mk hy220
           clear hy220
           have H':=Aside0.mk H
           clear H
           have hcz21_0:wc.cell? ⟨gb215,0,none⟩=some (.int .i64 a0_0):=(za BK215.out 0).trans rfl
           have hcz21_1:wc.cell? ⟨gb215,1,none⟩=some (.int .i64 a0_1):=(za BK215.out 1).trans rfl
           have hcz21_2:wc.cell? ⟨gb215,2,none⟩=some (.int .i64 a0_2):=(za BK215.out 2).trans rfl
           have hcz21_3:wc.cell? ⟨gb215,3,none⟩=some (.int .i64 a0_3):=(za BK215.out 3).trans rfl
           have hcz21_4:wc.cell? ⟨gb215,4,none⟩=some (.int .i64 a0_4):=(za BK215.out 4).trans rfl
           have hcz21_5:wc.cell? ⟨gb215,5,none⟩=some (.bool a0_5):=(za BK215.out 5).trans rfl
           have hfz21_0:=zh BK215.out 0
           have hfz21_1:=zh BK215.out 1
           have hfz21_2:=zh BK215.out 2
           have hfz21_3:=zh BK215.out 3
           have hfz21_4:=zh BK215.out 4
           have hfz21_5:=zh BK215.out 5
           go_wp2_with (first | ((with_reducible refine zaw (b:=.append) (xs:=#[.tmp 36,.tmp 40]) rfl ?_);at_builtin;refine Kd.R_append k59 (w0:=w) w.heap.size rfl (.tmp 36) (.tmp 40) 50 59 (.agg #[(.int .i64 0),(.int .i64 0)]) 16 rfl Tryz.underlying50 zfH rfl (by decide) (by omega) u5 x5_1 (⟨4,x6_1⟩:S59) [.int .i64 4,.int .i64 x6_1] (fun _=>True) (fun _=>False) rfl rfl ?aP (fun _ hk=>hk.elim) ?aF ?aO ?aB ?aS ?aL ?_;(case aP=>exact zeX _ _ _ (⟨4,x6_1⟩:S59));(case aB=>exact (by repeat (first | (with_reducible first | exact HB.out | apply ze | apply zc | apply zg | refine zp ?_ GE215.out) | exact HB.out)));(case aF=>exact (fun _ _=>trivial));(case aO=>exact (by (with_reducible repeat (first | apply Kd.R_alloc | apply Kd.R_drewN | apply Kd.R_drew));exact HO_5.out));(case aS=>exact (zi (by repeat (first | (with_reducible first | exact HB.out | apply ze | apply zc | apply zg | refine zp ?_ GE215.out) | exact HB.out))));(case aL=>have:=LMc20.out;omega);intro v221 w22 ho hb hg hat;rw [← Ny220.out] at ho;have n0_:=Aside0.mk (zc1 (g:=gb215) (o:=.cells #[.int .i64 a0_0,.int .i64 a0_1,.int .i64 a0_2,.int .i64 a0_3,.int .i64 a0_4,.bool a0_5] 24 (0,0)) (by (with_reducible repeat (first | refine zn ?_ _ | refine zu ?_ | refine zm ?_ _));exact BK215.out) hg (Kd.R_ne HO_5.out BK215.out (by decide)));have n1_:=Aside0.mk (hb);have n2_:=Aside0.mk (ho);clear BK215;clear HB;clear HO_5;have BK215:=n0_;have HB:=n1_;have aC:=n2_;clear n0_ n1_ n2_;clear ho hb hg hat))
           go_roundg kj6
           case measure=>have:=HK1.out;have:=HJ6.out;omega
           case rel=>exact ⟨(y220),(wrap64 (x6_1*4)),(by first | rfl | (simp;done) | (simp [*];done)),H',⟨by have:=HK1.out;have:=HJ6.out;omega⟩,⟨by (with_reducible repeat (first | apply Kd.R_alloc | apply Kd.R_drewN | apply Kd.R_drew));exact aC.out⟩,⟨by (with_reducible repeat (first | refine zn ?_ _ | refine zu ?_ | refine zm ?_ _));exact BK215.out⟩,⟨by repeat (first | (with_reducible first | exact HB.out | apply ze | apply zc | apply zg | refine zp ?_ GE215.out) | exact HB.out)⟩⟩
          ·rw [if_neg c20] at H
           exact absurd H (by simp)
         ·rw [if_neg c19] at H
          have c19b0:((Go.bits .and .i64 a0_1 1) == 0)=false:=beq_eq_false_iff_ne.mpr c19
          have c19b1:((Go.bits .and .i64 a0_1 1) != 0)=true:=bne_iff_ne.mpr c19
          by_cases c23:x5_1.length < 8796093022208
          ·rw [if_pos c23] at H
           have LMc23:=Aside0.mk c23
           clear c23
           obtain ⟨y223,hy223⟩:∃y_:List (S59),y_=(x5_1++[(⟨2,x6_1⟩:S59)]):=⟨_,rfl⟩
           replace H:(plan_Passes.l0 kj6 y223 (wrap64 (x6_1*2)) a0_0 a0_1 a0_2 a0_3 a0_4 a0_5)=some (r1,r2):=by first | (rw [hy223];with_reducible exact H) | (have H2_:=(Option.bind_some _ _).symm.trans H;rw [hy223];with_reducible exact H2_) | (have H2_:=(Option.bind_some _ _).symm.trans H;with_reducible exact H2_) | with_reducible exact H | (rw [hy223];exact H) | exact H
           have Ny223:=Aside0.mk hy223
           clear hy223
           have H':=Aside0.mk H
           clear H
           have hcz24_0:wc.cell? ⟨gb215,0,none⟩=some (.int .i64 a0_0):=(za BK215.out 0).trans rfl
           have hcz24_1:wc.cell? ⟨gb215,1,none⟩=some (.int .i64 a0_1):=(za BK215.out 1).trans rfl
           have hcz24_2:wc.cell? ⟨gb215,2,none⟩=some (.int .i64 a0_2):=(za BK215.out 2).trans rfl
           have hcz24_3:wc.cell? ⟨gb215,3,none⟩=some (.int .i64 a0_3):=(za BK215.out 3).trans rfl
           have hcz24_4:wc.cell? ⟨gb215,4,none⟩=some (.int .i64 a0_4):=(za BK215.out 4).trans rfl
           have hcz24_5:wc.cell? ⟨gb215,5,none⟩=some (.bool a0_5):=(za BK215.out 5).trans rfl
           have hfz24_0:=zh BK215.out 0
           have hfz24_1:=zh BK215.out 1
           have hfz24_2:=zh BK215.out 2
           have hfz24_3:=zh BK215.out 3
           have hfz24_4:=zh BK215.out 4
           have hfz24_5:=zh BK215.out 5
           go_wp2_with (first | ((with_reducible refine zaw (b:=.append) (xs:=#[.tmp 36,.tmp 40]) rfl ?_);at_builtin;refine Kd.R_append k59 (w0:=w) w.heap.size rfl (.tmp 36) (.tmp 40) 50 59 (.agg #[(.int .i64 0),(.int .i64 0)]) 16 rfl Tryz.underlying50 zfH rfl (by decide) (by omega) u5 x5_1 (⟨2,x6_1⟩:S59) [.int .i64 2,.int .i64 x6_1] (fun _=>True) (fun _=>False) rfl rfl ?aP (fun _ hk=>hk.elim) ?aF ?aO ?aB ?aS ?aL ?_;(case aP=>exact zeX _ _ _ (⟨2,x6_1⟩:S59));(case aB=>exact (by repeat (first | (with_reducible first | exact HB.out | apply ze | apply zc | apply zg | refine zp ?_ GE215.out) | exact HB.out)));(case aF=>exact (fun _ _=>trivial));(case aO=>exact (by (with_reducible repeat (first | apply Kd.R_alloc | apply Kd.R_drewN | apply Kd.R_drew));exact HO_5.out));(case aS=>exact (zi (by repeat (first | (with_reducible first | exact HB.out | apply ze | apply zc | apply zg | refine zp ?_ GE215.out) | exact HB.out))));(case aL=>have:=LMc23.out;omega);intro v224 w25 ho hb hg hat;rw [← Ny223.out] at ho;have n0_:=Aside0.mk (zc1 (g:=gb215) (o:=.cells #[.int .i64 a0_0,.int .i64 a0_1,.int .i64 a0_2,.int .i64 a0_3,.int .i64 a0_4,.bool a0_5] 24 (0,0)) (by (with_reducible repeat (first | refine zn ?_ _ | refine zu ?_ | refine zm ?_ _));exact BK215.out) hg (Kd.R_ne HO_5.out BK215.out (by decide)));have n1_:=Aside0.mk (hb);have n2_:=Aside0.mk (ho);clear BK215;clear HB;clear HO_5;have BK215:=n0_;have HB:=n1_;have aD:=n2_;clear n0_ n1_ n2_;clear ho hb hg hat))
           go_roundg kj6
           case measure=>have:=HK1.out;have:=HJ6.out;omega
           case rel=>exact ⟨(y223),(wrap64 (x6_1*2)),(by first | rfl | (simp;done) | (simp [*];done)),H',⟨by have:=HK1.out;have:=HJ6.out;omega⟩,⟨by (with_reducible repeat (first | apply Kd.R_alloc | apply Kd.R_drewN | apply Kd.R_drew));exact aD.out⟩,⟨by (with_reducible repeat (first | refine zn ?_ _ | refine zu ?_ | refine zm ?_ _));exact BK215.out⟩,⟨by repeat (first | (with_reducible first | exact HB.out | apply ze | apply zc | apply zg | refine zp ?_ GE215.out) | exact HB.out)⟩⟩
          ·rw [if_neg c23] at H
           exact absurd H (by simp)
       ·rw [if_neg c14] at H
        have c14b0:(a0_2 == 1)=false:=beq_eq_false_iff_ne.mpr c14
        have c14b1:(a0_2 != 1)=true:=bne_iff_ne.mpr c14
        by_cases c26:x5_1.length < 8796093022208
        ·rw [if_pos c26] at H
         have LMc26:=Aside0.mk c26
         clear c26
         obtain ⟨y226,hy226⟩:∃y_:List (S59),y_=(x5_1++[(⟨2,x6_1⟩:S59)]):=⟨_,rfl⟩
         replace H:(plan_Passes.l0 kj6 y226 (wrap64 (x6_1*2)) a0_0 a0_1 a0_2 a0_3 a0_4 a0_5)=some (r1,r2):=by first | (rw [hy226];with_reducible exact H) | (have H2_:=(Option.bind_some _ _).symm.trans H;rw [hy226];with_reducible exact H2_) | (have H2_:=(Option.bind_some _ _).symm.trans H;with_reducible exact H2_) | with_reducible exact H | (rw [hy226];exact H) | exact H
         have Ny226:=Aside0.mk hy226
         clear hy226
         have H':=Aside0.mk H
         clear H
         have hcz27_0:wc.cell? ⟨gb215,0,none⟩=some (.int .i64 a0_0):=(za BK215.out 0).trans rfl
         have hcz27_1:wc.cell? ⟨gb215,1,none⟩=some (.int .i64 a0_1):=(za BK215.out 1).trans rfl
         have hcz27_2:wc.cell? ⟨gb215,2,none⟩=some (.int .i64 a0_2):=(za BK215.out 2).trans rfl
         have hcz27_3:wc.cell? ⟨gb215,3,none⟩=some (.int .i64 a0_3):=(za BK215.out 3).trans rfl
         have hcz27_4:wc.cell? ⟨gb215,4,none⟩=some (.int .i64 a0_4):=(za BK215.out 4).trans rfl
         have hcz27_5:wc.cell? ⟨gb215,5,none⟩=some (.bool a0_5):=(za BK215.out 5).trans rfl
         have hfz27_0:=zh BK215.out 0
         have hfz27_1:=zh BK215.out 1
         have hfz27_2:=zh BK215.out 2
         have hfz27_3:=zh BK215.out 3
         have hfz27_4:=zh BK215.out 4
         have hfz27_5:=zh BK215.out 5
         go_wp2_with (first | ((with_reducible refine zaw (b:=.append) (xs:=#[.tmp 36,.tmp 40]) rfl ?_);at_builtin;refine Kd.R_append k59 (w0:=w) w.heap.size rfl (.tmp 36) (.tmp 40) 50 59 (.agg #[(.int .i64 0),(.int .i64 0)]) 16 rfl Tryz.underlying50 zfH rfl (by decide) (by omega) u5 x5_1 (⟨2,x6_1⟩:S59) [.int .i64 2,.int .i64 x6_1] (fun _=>True) (fun _=>False) rfl rfl ?aP (fun _ hk=>hk.elim) ?aF ?aO ?aB ?aS ?aL ?_;(case aP=>exact zeX _ _ _ (⟨2,x6_1⟩:S59));(case aB=>exact (by repeat (first | (with_reducible first | exact HB.out | apply ze | apply zc | apply zg | refine zp ?_ GE215.out) | exact HB.out)));(case aF=>exact (fun _ _=>trivial));(case aO=>exact (by (with_reducible repeat (first | apply Kd.R_alloc | apply Kd.R_drewN | apply Kd.R_drew));exact HO_5.out));(case aS=>exact (zi (by repeat (first | (with_reducible first | exact HB.out | apply ze | apply zc | apply zg | refine zp ?_ GE215.out) | exact HB.out))));(case aL=>have:=LMc26.out;omega);intro v227 w28 ho hb hg hat;rw [← Ny226.out] at ho;have n0_:=Aside0.mk (zc1 (g:=gb215) (o:=.cells #[.int .i64 a0_0,.int .i64 a0_1,.int .i64 a0_2,.int .i64 a0_3,.int .i64 a0_4,.bool a0_5] 24 (0,0)) (by (with_reducible repeat (first | refine zn ?_ _ | refine zu ?_ | refine zm ?_ _));exact BK215.out) hg (Kd.R_ne HO_5.out BK215.out (by decide)));have n1_:=Aside0.mk (hb);have n2_:=Aside0.mk (ho);clear BK215;clear HB;clear HO_5;have BK215:=n0_;have HB:=n1_;have aE:=n2_;clear n0_ n1_ n2_;clear ho hb hg hat))
         go_roundg kj6
         case measure=>have:=HK1.out;have:=HJ6.out;omega
         case rel=>exact ⟨(y226),(wrap64 (x6_1*2)),(by first | rfl | (simp;done) | (simp [*];done)),H',⟨by have:=HK1.out;have:=HJ6.out;omega⟩,⟨by (with_reducible repeat (first | apply Kd.R_alloc | apply Kd.R_drewN | apply Kd.R_drew));exact aE.out⟩,⟨by (with_reducible repeat (first | refine zn ?_ _ | refine zu ?_ | refine zm ?_ _));exact BK215.out⟩,⟨by repeat (first | (with_reducible first | exact HB.out | apply ze | apply zc | apply zg | refine zp ?_ GE215.out) | exact HB.out)⟩⟩
        ·rw [if_neg c26] at H
         exact absurd H (by simp)
      ·replace c13:=Bool.eq_false_iff.mpr c13
       subst c13
       have H1:(some (x5_1,0))=some (r1,r2):=by rw [if_neg (show ¬(false=true) by decide)] at H;exact H
       clear H
       have H:=H1
       clear H1
       simp only [Option.some.injEq,Prod.mk.injEq] at H
       obtain ⟨rfl,rfl⟩:=H
       go_wp2
       go_ret2
       exact ⟨_,by first | rfl | (simp [zq,zt] <;> rfl) | (simp [*,zq,zt] <;> rfl),by (with_reducible repeat (first | apply Kd.R_alloc | apply Kd.R_drewN | apply Kd.R_drew));exact HO_5.out,by repeat (first | (with_reducible first | exact HB.out | apply ze | apply zc | apply zg | refine zp ?_ GE215.out) | exact HB.out)⟩
 ·rw [if_neg c3] at H
  have c3b0:(t216 == 0)=false:=beq_eq_false_iff_ne.mpr c3
  have c3b1:(t216 != 0)=true:=bne_iff_ne.mpr c3
  simp only [Option.some.injEq,Prod.mk.injEq] at H
  obtain ⟨rfl,rfl⟩:=H
  go_enter Tryz.func18,Tryz.ntmps18
  go_wp2_with (first | ((with_reducible refine zf (N:=1) rfl ?_);refine ba_ 1 rfl #[.int .i64 a0_0,.int .i64 a0_1,.int .i64 a0_2,.int .i64 a0_3,.int .i64 a0_4,.bool a0_5] 24 ?_;intro gb215 hg w29 I hb;have n0_:=Aside0.mk (zb (by repeat (first | (with_reducible first | exact HB.out | apply ze | apply zc | apply zg) | exact HB.out)) hb);have n1_:=Aside0.mk (I);have n2_:=Aside0.mk ((by rw [hg];exact (zi (by repeat (first | (with_reducible first | exact HB.out | apply ze | apply zc | apply zg) | exact HB.out))):w.heap.size≤gb215));have n3_:=Aside0.mk ((by rw [hg];exact (zi (by repeat (first | (with_reducible first | exact HB.out | apply ze | apply zc | apply zg) | exact HB.out))):w.heap.size≤gb215));clear HB;have HB:=n0_;have BK215:=n1_;have GW215:=n2_;have GE215:=n3_;clear n0_ n1_ n2_ n3_;clear hb I hg;have hcz30_0:w29.cell? ⟨gb215,0,none⟩=some (.int .i64 a0_0):=(za BK215.out 0).trans rfl;have hcz30_1:w29.cell? ⟨gb215,1,none⟩=some (.int .i64 a0_1):=(za BK215.out 1).trans rfl;have hcz30_2:w29.cell? ⟨gb215,2,none⟩=some (.int .i64 a0_2):=(za BK215.out 2).trans rfl;have hcz30_3:w29.cell? ⟨gb215,3,none⟩=some (.int .i64 a0_3):=(za BK215.out 3).trans rfl;have hcz30_4:w29.cell? ⟨gb215,4,none⟩=some (.int .i64 a0_4):=(za BK215.out 4).trans rfl;have hcz30_5:w29.cell? ⟨gb215,5,none⟩=some (.bool a0_5):=(za BK215.out 5).trans rfl;have hfz30_0:=zh BK215.out 0;have hfz30_1:=zh BK215.out 1;have hfz30_2:=zh BK215.out 2;have hfz30_3:=zh BK215.out 3;have hfz30_4:=zh BK215.out 4;have hfz30_5:=zh BK215.out 5) | ((with_reducible refine zy (f:=37) rfl ?_);refine zO (some 9) rfl rfl Tryz.func37 (by kernel_rfl) rfl #[.agg #[.int .i64 a0_0,.int .i64 a0_1,.int .i64 a0_2,.int .i64 a0_3,.int .i64 a0_4,.bool a0_5]] rfl (by (try simp only [List.map_toArray,List.map_cons,List.map_nil]);first | done | rfl | (simp only [List.length_drop,List.length_take];rfl)) ?_;(with_reducible refine (plan_Check.calls a0_0 a0_1 a0_2 a0_3 a0_4 a0_5 t216 _ A2.out).mono ?_);rintro e w31 ⟨rfl,hb⟩;refine ⟨_,rfl,?_⟩;have n0_:=Aside0.mk (zd (g:=gb215) (o:=.cells #[.int .i64 a0_0,.int .i64 a0_1,.int .i64 a0_2,.int .i64 a0_3,.int .i64 a0_4,.bool a0_5] 24 (0,0)) (by (with_reducible repeat (first | refine zn ?_ _ | refine zu ?_ | refine zm ?_ _));exact BK215.out) hb);have n1_:=Aside0.mk (zb (by repeat (first | (with_reducible first | exact HB.out | apply ze | apply zc | apply zg | refine zp ?_ GE215.out) | exact HB.out)) hb);clear BK215;clear HB;have BK215:=n0_;have HB:=n1_;clear n0_ n1_;(try clear hb);(try clear hb2);(try clear hk);(try clear hi)))
  go_ret2
  exact ⟨_,by first | rfl | (simp [zq,zt] <;> rfl) | (simp [*,zq,zt] <;> rfl),by first | exact Kd.R_nil _ _ _ _ _ | exact Kd.N_nil _ _ _ _ _ | exact Kd.V_nil _ _ _ _ _ | exact Kd.Q_nil _ _ _ _ _ | exact Kd.S_nil _ _ _ _ _,by repeat (first | (with_reducible first | exact HB.out | apply ze | apply zc | apply zg | refine zp ?_ GE215.out) | exact HB.out)⟩

end Go.Proofs.YteieahbadclppaaGreat.P

