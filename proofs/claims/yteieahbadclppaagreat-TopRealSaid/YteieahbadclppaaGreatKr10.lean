/- Part 10 of 36 of the proof: the texts that it reaches, one behind the other. No condition. -/
import Derived.Test.YteieahbadclppaaGreatKr8
import Derived.Test.YteieahbadclppaaGreatKr9
namespace Go.Proofs.YteieahbadclppaaGreat.P
open Go.RowKit Go.Proofs.YteieahbadclppaaGreatW.PrintWords Go.Proofs.YteieahbadclppaaGreatW.PrintLast Go.Proofs.YteieahbadclppaaGreatW.PrintMore
attribute [local go_sem] zF zG zK zL zY zZ z9 zaa
set_option linter.unusedVariables false
set_option linter.unusedSimpArgs false
def flip_Flip.l0:Nat→List (S38)→List Int→Int→Int→Option ((List (S38))×Int)
 | 0,_,_,_,_=>none
 | k+1,x8,x31,x32,x33=>if x33 < x32 then (if 0≤x33 then (if x33 < (x31.length:Int) then (if x33 < (rd x31 x33) then (if 0≤(rd x31 x33) then (if (rd x31 x33) < (x8.length:Int) then (if x33 < (x8.length:Int) then (flip_Flip.l0 k ((x8.set (x33:Int).toNat (⟨(zk x8 (rd x31 x33)).f0,(zk x8 (rd x31 x33)).f1⟩:S38)).set ((rd x31 x33):Int).toNat (⟨(zk x8 x33).f0,(zk x8 x33).f1⟩:S38)) x31 x32 (wrap64 (x33+1))) else (none)) else (none)) else (none)) else (flip_Flip.l0 k x8 x31 x32 (wrap64 (x33+1)))) else (none)) else (none)) else (some (x8,0))
def flip_Flip.f (k:Nat) (l0:List (S38)):Option ((List (S38))×Int):=(flip_Log.f k (l0.length:Int)).bind fun bt163=>(if bt163.2=0 then ((flip_Row.f k bt163.1).bind fun bt165=>(if 0≤(l0.length:Int) then (if ((l0.length:Int):Int).toNat≤17592186044416 then (if (List.replicate ((l0.length:Int):Int).toNat z38).length=l0.length then (flip_Flip.l0 k (l0) bt165.1 (bt165.1.length:Int) 0) else (none)) else (none)) else (none))) else (some (([]:List (S38)),bt163.2)))
def flip_Flip.T11:Bool×List (List Nat×List Nat):=(true,[([],[]),([],[]),([],[]),([],[]),([],[]),([],[]),([4,5],[4,5]),([6],[6]),([],[]),([],[]),([8,9],[8,9]),([10],[10]),([0,1,0,1,4,5,6,7,11],[0,1]),([12,7,0,1,4,5,6,7,11],[7,12]),([2,3,0,1,2,3,4,5,6,7,8,9,10,11,12,13],[2,3]),([14,11,13,0,1,2,3,4,5,6,7,8,9,10,11,12,13],[11,14])])
def flip_Flip.B11:List Nat:=[0,0,0,0,0,0,48,112,0,0,768,1792,4083,8179,16383,32767]
theorem flip_Flip.tab11:zbe .any (zi1 Tryz.f66 11)=flip_Flip.T11:=by kernel_rfl
theorem flip_Flip.bits11:zcD flip_Flip.T11.2 flip_Flip.B11=true:=by kernel_rfl
set_option maxHeartbeats 8000000 in
set_option maxRecDepth 100000 in
theorem flip_Flip.calls (k:Nat) (A0:Option Addr) (c0:Nat) (l0:List (S38)) (r1:List (S38)) (r2:Int) (w:World) (hr0:Kd.C k38 w A0 l0.length l0) (hc0:l0.length≤c0) (h:flip_Flip.f k l0=some (r1,r2)) :
  Calls Tryz.prog 66 #[.slice A0 l0.length c0] w fun e w'=>∃v0_:Value,e=.returned (.tuple #[v0_,.int .i64 r2])∧Kd.R k38 38 w' w.heap.size (fun _=>True) v0_ r1∧Below w.heap.size w w':=by
 have hu38:=Tryz.underlying38
 have HR0:=Aside0.mk hr0
 have HC0:=Aside0.mk hc0
 clear hr0 hc0
 have HB:=Aside0.mk (Below.refl w.heap.size w)
 have H:((flip_Log.f k (l0.length:Int)).bind fun bt163=>(if bt163.2=0 then ((flip_Row.f k bt163.1).bind fun bt165=>(if 0≤(l0.length:Int) then (if ((l0.length:Int):Int).toNat≤17592186044416 then (if (List.replicate ((l0.length:Int):Int).toNat z38).length=l0.length then (flip_Flip.l0 k (l0) bt165.1 (bt165.1.length:Int) 0) else (none)) else (none)) else (none))) else (some (([]:List (S38)),bt163.2))))=some (r1,r2):=h
 clear h
 replace H:=Option.bind_eq_some_iff.mp H
 obtain ⟨⟨t163,t164⟩,A20,H⟩:=H
 replace H:(if t164=0 then ((flip_Row.f k t163).bind fun bt165=>(if 0≤(l0.length:Int) then (if ((l0.length:Int):Int).toNat≤17592186044416 then (if (List.replicate ((l0.length:Int):Int).toNat z38).length=l0.length then (flip_Flip.l0 k (l0) bt165.1 (bt165.1.length:Int) 0) else (none)) else (none)) else (none))) else (some (([]:List (S38)),t164)))=some (r1,r2):=H
 have A2:=Aside0.mk A20
 clear A20
 by_cases c3:t164=0
 ·rw [if_pos c3] at H
  have c3b0:(t164 == 0)=true:=beq_iff_eq.mpr c3
  have c3b1:(t164 != 0)=false:=bne_eq_false_iff_eq.mpr c3
  clear c3
  replace H:=Option.bind_eq_some_iff.mp H
  obtain ⟨⟨t165,t166⟩,A40,H⟩:=H
  replace H:(if 0≤(l0.length:Int) then (if ((l0.length:Int):Int).toNat≤17592186044416 then (if (List.replicate ((l0.length:Int):Int).toNat z38).length=l0.length then (flip_Flip.l0 k (l0) t165 (t165.length:Int) 0) else (none)) else (none)) else (none))=some (r1,r2):=H
  have A4:=Aside0.mk A40
  clear A40
  by_cases c5:0≤(l0.length:Int)
  ·rw [if_pos c5] at H
   have c5b0:=eq_true c5
   have c5b1:decide (0≤(l0.length:Int))=true:=decide_eq_true c5
   clear c5
   by_cases c6:((l0.length:Int):Int).toNat≤17592186044416
   ·rw [if_pos c6] at H
    have c6b0:=eq_true c6
    have c6b1:decide (((l0.length:Int):Int).toNat≤17592186044416)=true:=decide_eq_true c6
    clear c6
    obtain ⟨y169,hy169⟩:∃y_:List (S38),y_=(List.replicate ((l0.length:Int):Int).toNat z38):=⟨_,rfl⟩
    replace H:(if y169.length=l0.length then (flip_Flip.l0 k (l0) t165 (t165.length:Int) 0) else (none))=some (r1,r2):=by first | (rw [hy169];with_reducible exact H) | (have H2_:=(Option.bind_some _ _).symm.trans H;rw [hy169];with_reducible exact H2_) | (have H2_:=(Option.bind_some _ _).symm.trans H;with_reducible exact H2_) | with_reducible exact H | (rw [hy169];exact H) | exact H
    have Ny169:=Aside0.mk hy169
    clear hy169
    by_cases c7:y169.length=l0.length
    ·rw [if_pos c7] at H
     have LMc7:=Aside0.mk c7
     clear c7
     obtain ⟨y172,hy172⟩:∃y_:List (S38),y_=(l0):=⟨_,rfl⟩
     replace H:(flip_Flip.l0 k y172 t165 (t165.length:Int) 0)=some (r1,r2):=by first | (rw [hy172];with_reducible exact H) | (have H2_:=(Option.bind_some _ _).symm.trans H;rw [hy172];with_reducible exact H2_) | (have H2_:=(Option.bind_some _ _).symm.trans H;with_reducible exact H2_) | with_reducible exact H | (rw [hy172];exact H) | exact H
     have Ny172:=Aside0.mk hy172
     clear hy172
     have H':=Aside0.mk H
     clear H
     go_enter Tryz.func66,Tryz.ntmps66
     go_wp2_with (first | ((with_reducible refine zy (f:=40) rfl ?_);refine zO (some 14) rfl rfl Tryz.func40 (by kernel_rfl) rfl #[.int .i64 (l0.length:Int)] rfl (by (try simp only [List.map_toArray,List.map_cons,List.map_nil]);first | done | rfl | (simp only [List.length_drop,List.length_take];rfl)) ?_;(with_reducible refine (flip_Log.calls k (l0.length:Int) t163 t164 _ A2.out).mono ?_);rintro e w' ⟨rfl,⟨nd,rfl⟩⟩;refine ⟨_,rfl,?_⟩) | ((with_reducible refine zy (f:=97) rfl ?_);refine zO (some 22) rfl rfl Tryz.func97 (by kernel_rfl) rfl #[.int .i64 t163] rfl (by (try simp only [List.map_toArray,List.map_cons,List.map_nil]);first | done | rfl | (simp only [List.length_drop,List.length_take];rfl)) ?_;(with_reducible refine (flip_Row.calls k t163 t165 t166 _ A4.out).mono ?_);rintro e w8 ⟨v167,rfl,ho0,hb⟩;refine ⟨_,rfl,?_⟩;have n0_:=Aside0.mk (Kd.R_lower ho0 (zi (by repeat (first | (with_reducible first | exact HB.out | apply ze | apply zc | apply zg) | exact HB.out))));have n1_:=Aside0.mk (zb (by repeat (first | (with_reducible first | exact HB.out | apply ze | apply zc | apply zg) | exact HB.out)) hb);clear HB;have I:=n0_;have HB:=n1_;clear n0_ n1_;(try clear hb);(try clear hb2);(try clear hk);(try clear hi);(try clear ho0)) | ((with_reducible refine zf (N:=27) rfl ?_);refine Kd.R_make k38 _ 38 rfl (N:=27) rfl 22 _ _ rfl (l0.length:Int) rfl rfl Tryz.underlying22 (.agg #[(.int .i64 0),(.int .i64 0)]) 16 zbF rfl (by decide) (by omega) z38 (ok:=fun _=>True) (okp:=fun _=>True) (zaA _ _ _ z38 ) (fun _ hk=>hk) trivial (of_decide_eq_true (by first | (with_reducible assumption) | assumption)) (Nat.le_trans (Nat.mul_le_mul_right _ (of_decide_eq_true (by first | (with_reducible assumption) | assumption):(l0.length:Int).toNat≤17592186044416)) (by omega)) (Below.refl _ _) (Nat.le_refl _) ?_;intro v170 w9 ho10 hb hg_ hnew_;clear hg_ hnew_;(first | rw [← Ny169.out] at ho10 | (simp only [Int.reduceToNat] at ho10;rw [← Ny169.out] at ho10));have n0_:=Aside0.mk (Kd.R_below (by (with_reducible repeat (first | apply Kd.R_alloc | apply Kd.R_drewN | apply Kd.R_drew));exact I.out) hb);have n1_:=Aside0.mk (Kd.R_lower ho10 (zi (by repeat (first | (with_reducible first | exact HB.out | apply ze | apply zc | apply zg) | exact HB.out))));have n2_:=Aside0.mk (zb (by repeat (first | (with_reducible first | exact HB.out | apply ze | apply zc | apply zg) | exact HB.out)) hb);clear I;clear HB;have I:=n0_;have aA:=n1_;have HB:=n2_;clear n0_ n1_ n2_;clear hb ho10) | ((with_reducible refine zaw (b:=.copy) (xs:=#[.tmp 28,.tmp 29]) rfl ?_);refine zj2 k38 (w0:=w) w.heap.size rfl (.tmp 28) (.tmp 29) 22 38 (.agg #[(.int .i64 0),(.int .i64 0)]) 16 rfl Tryz.underlying22 zbF rfl (by decide) (by omega) v170 y169 l0 _ _ _ (fun _=>True) (fun _=>False) rfl rfl ?aO ?aR (fun _ _ h=>h) (fun _ h=>h.elim) ?aF ?aB ?aS ?aL ?_;(case aR=>repeat (first | exact (Kd.C_below HR0.out HB.out) | (with_reducible refine Kd.C_alloc ?_ _) | (with_reducible refine Kd.C_drewN ?_ _) | (with_reducible refine Kd.C_drew ?_)));(case aB=>exact (by repeat (first | (with_reducible first | exact HB.out | apply ze | apply zc | apply zg) | exact HB.out)));(case aF=>exact (fun _ _=>trivial));(case aO=>exact (by (with_reducible repeat (first | apply Kd.R_alloc | apply Kd.R_drewN | apply Kd.R_drew));exact aA.out));(case aS=>exact (zi (by repeat (first | (with_reducible first | exact HB.out | apply ze | apply zc | apply zg) | exact HB.out))));(case aL=>have:=LMc7.out;omega);intro w11 ho hb hg hat;rw [← Ny172.out] at ho;have n0_:=Aside0.mk (Kd.R_over' (by (with_reducible repeat (first | apply Kd.R_alloc | apply Kd.R_drewN | apply Kd.R_drew));exact I.out) (Kd.R_typed (by (with_reducible repeat (first | apply Kd.R_alloc | apply Kd.R_drewN | apply Kd.R_drew));exact aA.out)) (by decide) hg);have n1_:=Aside0.mk (hb);have n2_:=Aside0.mk (ho);clear I;clear HB;clear aA;have I:=n0_;have HB:=n1_;have aD:=n2_;clear n0_ n1_ n2_;clear ho hb hg hat;obtain ⟨Ao12,co12,eo12⟩:=Kd.R_slice I.out;subst eo12))
     go_loopg [33] k (fun kq v33 w'=>∃(x8_1:List (S38)) (x33_1:Int),v33=.int .i64 x33_1∧Aside0 (flip_Flip.l0 kq x8_1 t165 (t165.length:Int) x33_1=some (r1,r2))∧Aside0 (kq≤k)∧Aside0 (Kd.R k38 38 w' w.heap.size (fun _=>True) v170 x8_1)∧Aside0 (Kd.R (Kd.int .i64) 3 w' w.heap.size (fun _=>True) (.slice Ao12 t165.length co12) t165)∧Aside0 (Below w.heap.size w w'))
     case atStart=>exact ⟨(y172),(0),(by first | rfl | (simp;done) | (simp [*];done)),H',⟨Nat.le_refl _⟩,⟨by (with_reducible repeat (first | apply Kd.R_alloc | apply Kd.R_drewN | apply Kd.R_drew));exact aD.out⟩,⟨by (with_reducible repeat (first | apply Kd.R_alloc | apply Kd.R_drewN | apply Kd.R_drew));exact I.out⟩,⟨by repeat (first | (with_reducible first | exact HB.out | apply ze | apply zc | apply zg) | exact HB.out)⟩⟩
     case round =>
      clear H'
      try clear p2
      try clear c3
      try clear c3b0
      try clear c3b1
      try clear c4
      try clear c5
      try clear c5b0
      try clear c5b1
      try clear c6
      try clear c6b0
      try clear c6b1
      try clear c7
      try clear c9
      obtain ⟨x8_1,x33_1,rfl,HA,HK1,HO_8,HO_31,HB⟩:=hrel
      cases gk with
      | zero=>exact absurd HA.out (by simp [flip_Flip.l0])
      | succ k1 =>
       have H:=HA.out
       clear HA
       simp only [flip_Flip.l0] at H
       by_cases c13:x33_1 < (t165.length:Int)
       ·rw [if_pos c13] at H
        have c13b0:decide (x33_1 < (t165.length:Int))=true:=decide_eq_true c13
        clear c13
        by_cases c14:0≤x33_1
        ·rw [if_pos c14] at H
         have c14b0:decide (0≤x33_1)=true:=decide_eq_true c14
         clear c14
         by_cases c15:x33_1 < (t165.length:Int)
         ·rw [if_pos c15] at H
          have c15b0:decide (x33_1 < (t165.length:Int))=true:=decide_eq_true c15
          clear c15
          by_cases c16:x33_1 < (rd t165 x33_1)
          ·rw [if_pos c16] at H
           have c16b0:decide (x33_1 < (rd t165 x33_1))=true:=decide_eq_true c16
           clear c16
           by_cases c17:0≤(rd t165 x33_1)
           ·rw [if_pos c17] at H
            have c17b0:decide (0≤(rd t165 x33_1))=true:=decide_eq_true c17
            clear c17
            by_cases c18:(rd t165 x33_1) < (x8_1.length:Int)
            ·rw [if_pos c18] at H
             have c18b0:decide ((rd t165 x33_1) < (x8_1.length:Int))=true:=decide_eq_true c18
             clear c18
             by_cases c19:x33_1 < (x8_1.length:Int)
             ·rw [if_pos c19] at H
              have c19b0:decide (x33_1 < (x8_1.length:Int))=true:=decide_eq_true c19
              clear c19
              obtain ⟨y177,hy177⟩:∃y_:List (S38),y_=(x8_1.set (x33_1:Int).toNat (⟨(zk x8_1 (rd t165 x33_1)).f0,(zk x8_1 (rd t165 x33_1)).f1⟩:S38)):=⟨_,rfl⟩
              replace H:(flip_Flip.l0 k1 (y177.set ((rd t165 x33_1):Int).toNat (⟨(zk x8_1 x33_1).f0,(zk x8_1 x33_1).f1⟩:S38)) t165 (t165.length:Int) (wrap64 (x33_1+1)))=some (r1,r2):=by first | (rw [hy177];with_reducible exact H) | (have H2_:=(Option.bind_some _ _).symm.trans H;rw [hy177];with_reducible exact H2_) | (have H2_:=(Option.bind_some _ _).symm.trans H;with_reducible exact H2_) | with_reducible exact H | (rw [hy177];exact H) | exact H
              have Ny177:=Aside0.mk hy177
              clear hy177
              obtain ⟨y178,hy178⟩:∃y_:List (S38),y_=(y177.set ((rd t165 x33_1):Int).toNat (⟨(zk x8_1 x33_1).f0,(zk x8_1 x33_1).f1⟩:S38)):=⟨_,rfl⟩
              replace H:(flip_Flip.l0 k1 y178 t165 (t165.length:Int) (wrap64 (x33_1+1)))=some (r1,r2):=by first | (rw [hy178];with_reducible exact H) | (have H2_:=(Option.bind_some _ _).symm.trans H;rw [hy178];with_reducible exact H2_) | (have H2_:=(Option.bind_some _ _).symm.trans H;with_reducible exact H2_) | with_reducible exact H | (rw [hy178];exact H) | exact H
              have Ny178:=Aside0.mk hy178
              clear hy178
              have H':=Aside0.mk H
              clear H
              have p174:0≤(x33_1:Int):=of_decide_eq_true (by first | (with_reducible assumption) | assumption)
              have q174:x33_1 < (t165.length:Int):=of_decide_eq_true (by first | (with_reducible assumption) | assumption)
              obtain ⟨ad174,e174,hx174_0⟩:=Kd.at_int (Kd.R_reads' HO_31.out).2.2 x33_1 p174 q174
              cases e174
              replace p174:=eq_true p174
              replace q174:=eq_true q174
              try go_wp2
              have n0_:=Aside0.mk (Kd.R_drew HO_8.out)
              have n1_:=Aside0.mk (Kd.R_drew HO_31.out)
              have n2_:=Aside0.mk (zg HB.out)
              clear HO_8
              clear HO_31
              clear HB
              have HO_8:=n0_
              have HO_31:=n1_
              have HB:=n2_
              clear n0_ n1_ n2_
              obtain ⟨Ao23,co23,eo23⟩:=Kd.R_slice HO_8.out
              (first | subst eo23 | (injection eo23 with f1_ f2_ f3_;have f4_:=f1_.symm;have f5_:=f3_.symm;clear f1_ f2_ f3_;subst f4_;subst f5_))
              have p175:0≤((rd t165 x33_1):Int):=of_decide_eq_true (by first | (with_reducible assumption) | assumption)
              have q175:(rd t165 x33_1) < (x8_1.length:Int):=of_decide_eq_true (by first | (with_reducible assumption) | assumption)
              obtain ⟨ad175,e175,hx175_0,hx175_1⟩:=zag (Kd.R_reads' HO_8.out).2.2 (rd t165 x33_1) p175 q175
              cases e175
              replace p175:=eq_true p175
              replace q175:=eq_true q175
              have p176:0≤(x33_1:Int):=of_decide_eq_true (by first | (with_reducible assumption) | assumption)
              have q176:x33_1 < (x8_1.length:Int):=of_decide_eq_true (by first | (with_reducible assumption) | assumption)
              obtain ⟨ad176,e176,hx176_0,hx176_1⟩:=zag (Kd.R_reads' HO_8.out).2.2 x33_1 p176 q176
              obtain rfl:ad175=ad176:=(by injection e176)
              replace p176:=eq_true p176
              replace q176:=eq_true q176
              have p20:0≤(x33_1:Int):=of_decide_eq_true (by first | (with_reducible assumption) | assumption)
              have q20:(x33_1:Int) < ((x8_1.length:Int):Int):=of_decide_eq_true (by first | (with_reducible assumption) | assumption)
              obtain ⟨go20,co20,eo20,gb20,gl20,cl20,HG20⟩:=Kd.R_form HO_8.out (by omega)
              (first | cases eo20 | (injection eo20 with ea_ en_ ec_;(first | subst ea_ | (injection ea_ with ea_;subst ea_));subst ec_;clear en_))
              have GB20:=Aside0.mk gb20
              have GG20:=Aside0.mk HG20
              clear gb20 gl20 HG20
              (first | simp only [zcZ] at hx175_0 | skip)
              (first | simp only [zcZ] at hx175_1 | skip)
              (first | simp only [zcZ] at hx176_0 | skip)
              (first | simp only [zcZ] at hx176_1 | skip)
              obtain ⟨ce20,hcl20,hM20,hcc20,hfr20⟩:=Kd.R_elem HO_8.out z38 (x33_1:Int) p20 q20
              obtain rfl:=zbk hM20
              have hx20_0:World.cell? _ ⟨go20,(x33_1:Int).toNat*2,none⟩=some (.int .i64 ((zk x8_1 x33_1).f0)):=hcc20 0 _ rfl
              have hx20_1:World.cell? _ ⟨go20,(x33_1:Int).toNat*2+1,none⟩=some (.int .i64 ((zk x8_1 x33_1).f1)):=hcc20 1 _ rfl
              have hf20_0:World.frozen? _ ⟨go20,(x33_1:Int).toNat*2,none⟩=false:=hfr20 0
              have hf20_1:World.frozen? _ ⟨go20,(x33_1:Int).toNat*2+1,none⟩=false:=hfr20 1
              clear hcl20 hcc20 hfr20 hM20
              replace p20:=eq_true p20
              replace q20:=eq_true q20
              obtain ⟨ce24,hcl24,hM24,hcc24,hfr24⟩:=Kd.R_elem HO_8.out z38 (x33_1:Int) (of_decide_eq_true (by first | (with_reducible assumption) | assumption)) (by have h_:(x33_1:Int) < ((x8_1.length:Int):Int):=of_decide_eq_true (by first | (with_reducible assumption) | assumption);first | exact h_ | (have e_:=(Kd.R_reads' HO_8.out).1;omega) | simpa using h_)
              obtain rfl:=zbk hM24
              have HP24:=(Kd.R_seg HO_8.out (x33_1:Int) (of_decide_eq_true (by first | (with_reducible assumption) | assumption)) (by have h_:(x33_1:Int) < ((x8_1.length:Int):Int):=of_decide_eq_true (by first | (with_reducible assumption) | assumption);first | exact h_ | (have e_:=(Kd.R_reads' HO_8.out).1;omega) | simpa using h_) (seg:=[.int .i64 ((zk x8_1 (rd t165 x33_1)).f0),.int .i64 ((zk x8_1 (rd t165 x33_1)).f1)]) (j:=0) hcl24 hcc24 (show 2≤2 from by decide) (x':=(⟨(zk x8_1 (rd t165 x33_1)).f0,(zk x8_1 (rd t165 x33_1)).f1⟩:S38)) (zaA _ _ _ (⟨(zk x8_1 (rd t165 x33_1)).f0,(zk x8_1 (rd t165 x33_1)).f1⟩:S38) ) (fun _ hk=>hk)).1
              rw [← Ny177.out] at HP24
              have HQ24:=Aside0.mk HP24
              clear hcl24 hcc24 hfr24 hM24 HP24
              have p21:0≤((rd t165 x33_1):Int):=of_decide_eq_true (by first | (with_reducible assumption) | assumption)
              have q21:((rd t165 x33_1):Int) < ((x8_1.length:Int):Int):=of_decide_eq_true (by first | (with_reducible assumption) | assumption)
              obtain ⟨ce21,hcl21,hM21,hcc21,hfr21⟩:=Kd.R_elem HQ24.out z38 ((rd t165 x33_1):Int) p21 q21
              obtain rfl:=zbk hM21
              have hx21_0:World.cell? _ ⟨go20,((rd t165 x33_1):Int).toNat*2,none⟩=some (.int .i64 ((zk y177 (rd t165 x33_1)).f0)):=hcc21 0 _ rfl
              have hx21_1:World.cell? _ ⟨go20,((rd t165 x33_1):Int).toNat*2+1,none⟩=some (.int .i64 ((zk y177 (rd t165 x33_1)).f1)):=hcc21 1 _ rfl
              have hf21_0:World.frozen? _ ⟨go20,((rd t165 x33_1):Int).toNat*2,none⟩=false:=hfr21 0
              have hf21_1:World.frozen? _ ⟨go20,((rd t165 x33_1):Int).toNat*2+1,none⟩=false:=hfr21 1
              clear hcl21 hcc21 hfr21 hM21
              replace p21:=eq_true p21
              replace q21:=eq_true q21
              obtain ⟨ce25,hcl25,hM25,hcc25,hfr25⟩:=Kd.R_elem HQ24.out z38 ((rd t165 x33_1):Int) (of_decide_eq_true (by first | (with_reducible assumption) | assumption)) (by have h_:((rd t165 x33_1):Int) < ((x8_1.length:Int):Int):=of_decide_eq_true (by first | (with_reducible assumption) | assumption);first | exact h_ | (have e_:=(Kd.R_reads' HO_8.out).1;omega) | simpa using h_)
              obtain rfl:=zbk hM25
              have HP25:=(Kd.R_seg HQ24.out ((rd t165 x33_1):Int) (of_decide_eq_true (by first | (with_reducible assumption) | assumption)) (by have h_:((rd t165 x33_1):Int) < ((x8_1.length:Int):Int):=of_decide_eq_true (by first | (with_reducible assumption) | assumption);first | exact h_ | (have e_:=(Kd.R_reads' HO_8.out).1;omega) | simpa using h_) (seg:=[.int .i64 ((zk x8_1 x33_1).f0),.int .i64 ((zk x8_1 x33_1).f1)]) (j:=0) hcl25 hcc25 (show 2≤2 from by decide) (x':=(⟨(zk x8_1 x33_1).f0,(zk x8_1 x33_1).f1⟩:S38)) (zaA _ _ _ (⟨(zk x8_1 x33_1).f0,(zk x8_1 x33_1).f1⟩:S38) ) (fun _ hk=>hk)).1
              rw [← Ny178.out] at HP25
              have HQ25:=Aside0.mk HP25
              clear hcl25 hcc25 hfr25 hM25 HP25
              refine z7 (n:=16) (S:=fun w'=>w'.cell? ⟨go20,(((rd t165 x33_1)).toNat*2),none⟩=some (.int .i64 ((zk x8_1 (rd t165 x33_1)).f0))∧w'.cell? ⟨go20,(((rd t165 x33_1)).toNat*2)+1,none⟩=some (.int .i64 ((zk x8_1 (rd t165 x33_1)).f1))∧w'.cell? ⟨go20,((x33_1).toNat*2),none⟩=some (.int .i64 ((zk x8_1 x33_1).f0))∧w'.cell? ⟨go20,((x33_1).toNat*2)+1,none⟩=some (.int .i64 ((zk x8_1 x33_1).f1))) (ds:=[13,15]) (fl 16 0) (by kernel_rfl) rfl rfl ⟨hx175_0,hx175_1,hx176_0,hx176_1⟩ (fun aC=>?_);refine zeC flip_Flip.tab11 flip_Flip.bits11 (fun HT_ HW_=>?_)
              generalize wr.drew=w22 at HO_8 HO_31 HB GG20 HQ24 HQ25 hf20_0 hf20_1 hf21_0 hf21_1 hx175_0 hx175_1 hx176_0 hx176_1 hx20_0 hx20_1 hx21_0 hx21_1 aC ⊢
              refine zaD (i:=0) (N:=some 41) (v:=?_) (a':=?_) (fl 16 1) rfl rfl (zar HT_.out (by kernel_rfl)) (fun _ _ _ h=>h) (Or.inl ⟨by rfl,?_⟩) ?_ ?_
              rotate_left
              ·intro w'
               go_simp
               with_reducible rfl
              rotate_left
              ·simp only [Act.put,zzA,zzB,zzC,zD,zU]
               rfl
              refine zaD (i:=1) (N:=some 42) (v:=?_) (a':=?_) (fl 16 3) rfl rfl (zar HT_.out (by kernel_rfl)) (fun _ _ _ h=>h) (Or.inl ⟨by rfl,?_⟩) ?_ ?_
              rotate_left
              ·intro w'
               go_simp
               with_reducible rfl
              rotate_left
              ·simp only [Act.put,zzA,zzB,zzC,zD,zU]
               rfl
              refine zaD (i:=2) (N:=some 43) (v:=?_) (a':=?_) (fl 16 7) rfl rfl (zar HT_.out (by kernel_rfl)) (fun _ _ _ h=>h) (Or.inl ⟨by rfl,?_⟩) ?_ ?_
              rotate_left
              ·intro w'
               go_simp
               with_reducible rfl
              rotate_left
              ·simp only [Act.put,zzA,zzB,zzC,zD,zU]
               rfl
              refine zaD (i:=3) (N:=some 44) (v:=?_) (a':=?_) (fl 16 15) rfl rfl (zar HT_.out (by kernel_rfl)) (fun _ _ _ h=>h) (Or.inl ⟨by rfl,?_⟩) ?_ ?_
              rotate_left
              ·intro w'
               go_simp
               with_reducible rfl
              rotate_left
              ·simp only [Act.put,zzA,zzB,zzC,zD,zU]
               rfl
              refine zaD (i:=4) (N:=some 45) (v:=?_) (a':=?_) (fl 16 31) rfl rfl (zar HT_.out (by kernel_rfl)) (fun _ _ _ h=>h) (Or.inl ⟨by rfl,?_⟩) ?_ ?_
              rotate_left
              ·intro w'
               go_simp
               with_reducible rfl
              rotate_left
              ·simp only [Act.put,zzA,zzB,zzC,zD,zU]
               rfl
              refine zaD (i:=5) (N:=some 46) (v:=?_) (a':=?_) (fl 16 63) rfl rfl (zar HT_.out (by kernel_rfl)) (fun _ _ _ h=>h) (Or.inl ⟨by rfl,?_⟩) ?_ ?_
              rotate_left
              ·intro w'
               go_simp
               with_reducible rfl
              rotate_left
              ·simp only [Act.put,zzA,zzB,zzC,zD,zU]
               rfl
              refine zaD (i:=6) (N:=some 47) (v:=?_) (a':=?_) (fl 16 127) rfl rfl (zar HT_.out (by kernel_rfl)) (fun _ _ _ h=>h) (Or.inl ⟨by rfl,?_⟩) ?_ ?_
              rotate_left
              ·intro w'
               go_simp
               with_reducible rfl
              rotate_left
              ·simp only [Act.put,zzA,zzB,zzC,zD,zU]
               rfl
              refine zaD (i:=8) (N:=some 49) (v:=?_) (a':=?_) (fl 16 383) rfl rfl (zar HT_.out (by kernel_rfl)) (fun _ _ _ h=>h) (Or.inl ⟨by rfl,?_⟩) ?_ ?_
              rotate_left
              ·intro w'
               go_simp
               with_reducible rfl
              rotate_left
              ·simp only [Act.put,zzA,zzB,zzC,zD,zU]
               rfl
              refine zaD (i:=9) (N:=some 50) (v:=?_) (a':=?_) (fl 16 895) rfl rfl (zar HT_.out (by kernel_rfl)) (fun _ _ _ h=>h) (Or.inl ⟨by rfl,?_⟩) ?_ ?_
              rotate_left
              ·intro w'
               go_simp
               with_reducible rfl
              rotate_left
              ·simp only [Act.put,zzA,zzB,zzC,zD,zU]
               rfl
              refine zaD (i:=10) (N:=some 51) (v:=?_) (a':=?_) (fl 16 1919) rfl rfl (zar HT_.out (by kernel_rfl)) (fun _ _ _ h=>h) (Or.inl ⟨by rfl,?_⟩) ?_ ?_
              rotate_left
              ·intro w'
               go_simp
               with_reducible rfl
              rotate_left
              ·simp only [Act.put,zzA,zzB,zzC,zD,zU]
               rfl
              refine take_ (i:=7) (N:=some 48) (v:=?_) (a':=?_) (fl 16 2047) rfl rfl (zdr HT_.out HW_.out (by kernel_rfl)) (fun _ _ _ h=>h) (Or.inl ⟨by rfl,?_⟩) aC ?_ ?_
              rotate_left
              ·rintro w' ⟨s0,s1,s2,s3⟩
               go_simp
               with_reducible rfl
              rotate_left
              ·simp only [Act.put,zzA,zzB,zzC,zD,zU]
               rfl
              refine take_ (i:=11) (N:=some 52) (v:=?_) (a':=?_) (fl 16 4095) rfl rfl (zdr HT_.out HW_.out (by kernel_rfl)) (fun _ _ _ h=>h) (Or.inl ⟨by rfl,?_⟩) aC ?_ ?_
              rotate_left
              ·rintro w' ⟨s0,s1,s2,s3⟩
               go_simp
               with_reducible rfl
              rotate_left
              ·simp only [Act.put,zzA,zzB,zzC,zD,zU]
               rfl
              refine zaD (i:=12) (N:=some 53) (v:=?_) (a':=?_) (fl 16 8191) rfl rfl (zar HT_.out (by kernel_rfl)) (fun _ _ _ h=>h) (Or.inl ⟨by rfl,?_⟩) ?_ ?_
              rotate_left
              ·intro w'
               go_simp
               with_reducible rfl
              rotate_left
              ·simp only [Act.put,zzA,zzB,zzC,zD,zU]
               rfl
              refine zgV (i:=13) (N:=none) (fl 16 16383) rfl rfl (zd3 HT_.out (by kernel_rfl)) (by decide) (fun K hK=>?_)
              refine ziY (w1:=?_) (by rfl) rfl ?_ ?_
              rotate_left
              ·go_simp
               rfl
              refine hK.out _ _ ?_
              clear hK K
              refine zaD (i:=14) (N:=some 54) (v:=?_) (a':=?_) (fl 16 32767) rfl rfl (zar HT_.out (by kernel_rfl)) (fun _ _ _ h=>h) (Or.inl ⟨by rfl,?_⟩) ?_ ?_
              rotate_left
              ·intro w'
               go_simp
               with_reducible rfl
              rotate_left
              ·simp only [Act.put,zzA,zzB,zzC,zD,zU]
               rfl
              refine zgV (i:=15) (N:=none) (fl 16 65535) rfl rfl (zd3 HT_.out (by kernel_rfl)) (by decide) (fun K hK=>?_)
              refine ziY (w1:=?_) (by rfl) rfl ?_ ?_
              rotate_left
              ·have hne_:¬((rd t165 x33_1).toNat=x33_1.toNat):=by have h_:x33_1 < rd t165 x33_1:=of_decide_eq_true (by assumption);have h2_:0≤x33_1:=of_decide_eq_true (by assumption);omega
               have hne2_:¬(x33_1.toNat=(rd t165 x33_1).toNat):=fun h_=>hne_ h_.symm
               have hf3_:=hf21_0
               have hf4_:=hf21_1
               simp only [World.frozen?_setCells,World.frozen?_setCell] at hf3_ hf4_
               go_simp
               rfl
              refine hK.out _ _ ?_
              clear hK K
              refine zE (zf8 HT_.out (by kernel_rfl)) ?_
              try go_wp2
              go_roundg k1
              case measure=>have:=HK1.out;omega
              case rel=>exact ⟨(y178),(wrap64 (x33_1+1)),(by first | rfl | (simp;done) | (simp [*];done)),H',⟨by have:=HK1.out;omega⟩,⟨by (with_reducible repeat (first | apply Kd.R_alloc | apply Kd.R_drewN | apply Kd.R_drew));exact HQ25.out⟩,⟨by (with_reducible repeat (first | apply Kd.R_alloc | apply Kd.R_drewN | apply Kd.R_drew));exact Kd.R_mono (Kd.R_far (p:=⟨go20,((rd t165 x33_1):Int).toNat*2+1,none⟩) (Kd.R_far (p:=⟨go20,((rd t165 x33_1):Int).toNat*2,none⟩) (Kd.R_far (p:=⟨go20,(x33_1:Int).toNat*2+1,none⟩) (Kd.R_far (p:=⟨go20,(x33_1:Int).toNat*2,none⟩) (Kd.R_types HO_31.out GG20.out (by decide)) (fun _ hk=>hk.2) (.int .i64 ((zk x8_1 (rd t165 x33_1)).f0))) (fun _ hk=>hk.2) (.int .i64 ((zk x8_1 (rd t165 x33_1)).f1))) (fun _ hk=>hk.2) (.int .i64 ((zk x8_1 x33_1).f0))) (fun _ hk=>hk.2) (.int .i64 ((zk x8_1 x33_1).f1))) (fun _ hk=>trivial)⟩,⟨by repeat (first | (with_reducible first | exact HB.out | apply ze | apply zc | apply zg | refine zp ?_ GB20.out | refine zp ?_ GB20.out | refine zp ?_ GB20.out | refine zp ?_ GB20.out) | exact HB.out)⟩⟩
             ·rw [if_neg c19] at H
              exact absurd H (by simp)
            ·rw [if_neg c18] at H
             exact absurd H (by simp)
           ·rw [if_neg c17] at H
            exact absurd H (by simp)
          ·rw [if_neg c16] at H
           have c16b0:decide (x33_1 < (rd t165 x33_1))=false:=decide_eq_false c16
           clear c16
           have H':=Aside0.mk H
           clear H
           have p174:0≤(x33_1:Int):=of_decide_eq_true (by first | (with_reducible assumption) | assumption)
           have q174:x33_1 < (t165.length:Int):=of_decide_eq_true (by first | (with_reducible assumption) | assumption)
           obtain ⟨ad174,e174,hx174_0⟩:=Kd.at_int (Kd.R_reads' HO_31.out).2.2 x33_1 p174 q174
           cases e174
           replace p174:=eq_true p174
           replace q174:=eq_true q174
           go_wp2
           go_roundg k1
           case measure=>have:=HK1.out;omega
           case rel=>exact ⟨(x8_1),(wrap64 (x33_1+1)),(by first | rfl | (simp;done) | (simp [*];done)),H',⟨by have:=HK1.out;omega⟩,⟨by (with_reducible repeat (first | apply Kd.R_alloc | apply Kd.R_drewN | apply Kd.R_drew));exact HO_8.out⟩,⟨by (with_reducible repeat (first | apply Kd.R_alloc | apply Kd.R_drewN | apply Kd.R_drew));exact HO_31.out⟩,⟨by repeat (first | (with_reducible first | exact HB.out | apply ze | apply zc | apply zg) | exact HB.out)⟩⟩
         ·rw [if_neg c15] at H
          exact absurd H (by simp)
        ·rw [if_neg c14] at H
         exact absurd H (by simp)
       ·rw [if_neg c13] at H
        have c13b0:decide (x33_1 < (t165.length:Int))=false:=decide_eq_false c13
        clear c13
        simp only [Option.some.injEq,Prod.mk.injEq] at H
        obtain ⟨rfl,rfl⟩:=H
        go_wp2
        go_ret2
        exact ⟨_,by first | rfl | (simp [zq,zt] <;> rfl) | (simp [*,zq,zt] <;> rfl),by (with_reducible repeat (first | apply Kd.R_alloc | apply Kd.R_drewN | apply Kd.R_drew));exact HO_8.out,by repeat (first | (with_reducible first | exact HB.out | apply ze | apply zc | apply zg) | exact HB.out)⟩
    ·rw [if_neg c7] at H
     exact absurd H (by simp)
   ·rw [if_neg c6] at H
    exact absurd H (by simp)
  ·rw [if_neg c5] at H
   exact absurd H (by simp)
 ·rw [if_neg c3] at H
  have c3b0:(t164 == 0)=false:=beq_eq_false_iff_ne.mpr c3
  have c3b1:(t164 != 0)=true:=bne_iff_ne.mpr c3
  simp only [Option.some.injEq,Prod.mk.injEq] at H
  obtain ⟨rfl,rfl⟩:=H
  go_enter Tryz.func66,Tryz.ntmps66
  go_wp2_with (first | ((with_reducible refine zy (f:=40) rfl ?_);refine zO (some 14) rfl rfl Tryz.func40 (by kernel_rfl) rfl #[.int .i64 (l0.length:Int)] rfl (by (try simp only [List.map_toArray,List.map_cons,List.map_nil]);first | done | rfl | (simp only [List.length_drop,List.length_take];rfl)) ?_;(with_reducible refine (flip_Log.calls k (l0.length:Int) t163 t164 _ A2.out).mono ?_);rintro e w' ⟨rfl,⟨nd,rfl⟩⟩;refine ⟨_,rfl,?_⟩))
  go_ret2
  exact ⟨_,by first | rfl | (simp [zq,zt] <;> rfl) | (simp [*,zq,zt] <;> rfl),by first | exact Kd.R_nil _ _ _ _ _ | exact Kd.N_nil _ _ _ _ _ | exact Kd.V_nil _ _ _ _ _ | exact Kd.Q_nil _ _ _ _ _ | exact Kd.S_nil _ _ _ _ _,by repeat (first | (with_reducible first | exact HB.out | apply ze | apply zc | apply zg) | exact HB.out)⟩

end Go.Proofs.YteieahbadclppaaGreat.P

namespace Go.Proofs.YteieahbadclppaaGreat.P
open Go.RowKit Go.Proofs.YteieahbadclppaaGreatW.PrintWords Go.Proofs.YteieahbadclppaaGreatW.PrintLast Go.Proofs.YteieahbadclppaaGreatW.PrintMore
attribute [local go_sem] zF zG zK zL
set_option linter.unusedVariables false
set_option linter.unusedSimpArgs false
theorem R_C {e base:Nat} {ok:Nat→Prop} {w:World} {A:Option Addr} {n c:Nat} {xs:List S38} (h:Kd.R k38 e w base ok (.slice A n c) xs):xs.length≤c∧Kd.C k38 w A xs.length xs:=by
 obtain ⟨A',c',hv,h1,h2⟩:=Kd.R_reads h
 injection hv with e1 e2 e3
 subst e1;subst e3
 exact ⟨h1,h2⟩
theorem zV (a b c d:Value):(Tryz.prog.info? 28).map (·.size)=some (#[a,b,c,d]:Array Value).size:=by kernel_rfl
theorem zaK (A B:Option Addr) (n c m d:Nat) (e:Int) (s:Bool):(#[.slice A n c,.int .i64 e,.bool s,.slice B m d]:Array Value).all (·.oneCell')=true:=by simp [Value.oneCell']
set_option maxRecDepth 100000 in
set_option maxHeartbeats 4000000 in
theorem zlb (p0 p1 p4 b:Int) (p5:Bool) (Aw:Option Addr) (wn cw:Nat) (A:Option Addr) (c:Nat) (l:List S38) (h0:0≤p4) (h1:p4 < 3) (w:World) (hr:Kd.C k38 w A l.length l) (hc:l.length≤c) (hl:l.length≤1000) :
  Calls Tryz.prog 39 #[.agg #[.int .i64 p0,.int .i64 p1,.int .i64 2,.int .i64 0,.int .i64 p4,.bool p5,.iface 97 (.agg #[]),.int .i64 b,.slice Aw wn cw],.slice A l.length c] w fun e w'=>∃A' c',e=.returned (.agg #[.slice A' l.length c',.int .i64 1,.bool false,.slice none 0 0])∧Kd.R k38 38 w' w.heap.size (fun _=>True) (.slice A' l.length c') (l.map (shC 1 p4))∧Below w.heap.size w w':=by
 have hm : ∀ w, (method 294 97 (.agg #[]) "headroom/fft.first").run Tryz.prog w = .ok (144, .agg #[]) w := fun _ => by kernel_rfl
 have HR:=hhd hr
 have HC:=hhd hc
 have HL:=hhd hl
 have cU:=hhd (Below.refl w.heap.size w)
 clear hr hc hl
 go_enter Tryz.func39,Tryz.ntmps39
 go_wp2_with (first
  | ((with_reducible refine zf (N:=2) rfl ?_);refine bb_ 2 rfl cU #[.int .i64 p0,.int .i64 p1,.int .i64 2,.int .i64 0,.int .i64 p4,.bool p5,.iface 97 (.agg #[]),.int .i64 b,.slice Aw wn cw] 56 ?_;intro g2 W1 hg aE L2 I aG;have dJ:=zc_ HR aG;obtain ⟨aH,aI,aJ,aK,aM,aN,aQ,aT,aU⟩:=bk9 I;clear aE hg)
  | ((with_reducible refine zf (N:=4) rfl ?_);refine bb_ 4 rfl aG #[.slice none 0 0,.int .i64 0,.bool false,.slice none 0 0] 28 ?_;intro g4 W2 hg aE L4 aV aW;have aX:=za_ I aE;have dK:=zc_ HR aW;obtain ⟨aY,aZ,a7,a8,a9,bA,bB,bC,bD⟩:=bk9 aX;clear aH aI aJ aK aM aN aQ aT aU;obtain ⟨bE,bF,bG,bH⟩:=bk4 aV;have cP:=ne_ I hg;clear aE hg)
  | (go_at_call 144;(with_reducible refine (zhl A l.length c _).mono ?_);rintro e W3 ⟨rfl,hb⟩;have aA:=zs_ aW hb;have bI:=za_ aX hb;have aC:=za_ aV hb;have cQ:=zc_ HR aA;obtain ⟨bJ,bK,bL,bM,bP,bQ,bR,bS,bT⟩:=bk9 bI;obtain ⟨bU,bV,bW,bX⟩:=bk4 aC;clear aY aZ a7 a8 a9 bA bB bC bD bE bF bG bH;clear hb)
  | (go_at_call 67;(with_reducible refine (zhc p4 h0 h1 A c l _ (cQ.out) (HC.out) HL.out).mono ?_);rintro e W4 ⟨vt,rfl,ho,hb⟩;obtain ⟨A2,c2,ev⟩:=Kd.R_slice ho;rw [List.length_map] at ev;subst ev;have cR:=hhd (Kd.R_lower ho (zi aA));have NR4:=hhd (show some g4≠(Value.slice A2 _ c2).ownBlock from fun e=>Nat.lt_irrefl _ (Nat.lt_of_lt_of_le (zj aC) (Kd.R_base ho g4 e.symm)));have bY:=zs_ aA hb;have bZ:=za_ bI hb;have b6:=za_ aC hb;have dL:=zc_ HR bY;obtain ⟨b7,b8,b9,cA,cB,cC,cD,cH,cI⟩:=bk9 bZ;obtain ⟨cJ,cK,cL,cM⟩:=bk4 b6;clear bJ bK bL bM bP bQ bR bS bT bU bV bW bX;clear hb ho)
  | ((with_reducible refine zo (t:=28) (p:=4) rfl ?_);refine re_ 28 4 rfl #[.slice A2 l.length c2,.int .i64 1,.bool false,.slice none 0 0] b6 L4 bY ?_;intro W5 aD cN cO;have cS:=zt_ aD cP bZ;have cT:=hhd (zI cR.out aD NR4.out);obtain ⟨cV,cW,cX,cY,cZ,dB,dC,dD,dE⟩:=bk9 cS;clear b7 b8 b9 cA cB cC cD cH cI cJ cK cL cM;obtain ⟨dF,dG,dH,dI⟩:=bk4 cN;have dM:=zc_ HR cO;clear aD))
 refine bodyPost_ret (results_cell_row rfl _ _ g4 28 #[.slice A2 l.length c2,.int .i64 1,.bool false,.slice none 0 0] (0,0) _ rfl cN.out Tryz.underlying28 rfl (zV _ _ _ _)) rfl ?_
 exact ⟨A2,c2,rfl,cT.out,cO.out⟩
set_option maxRecDepth 100000 in
set_option maxHeartbeats 4000000 in
theorem zlc (p0 p1 p2 p4 b:Int) (p5:Bool) (Aw:Option Addr) (wn cw:Nat) (A:Option Addr) (c:Nat) (l l1:List S38) (k:Nat) (h0:0≤p4) (h1:p4 < 3) (w:World) (hr:Kd.C k38 w A l.length l) (hc:l.length≤c) (hl:l1.length≤1000) (hf:flip_Flip.f k l=some (l1,0)) (h2:(p2 != 2)=true) :
  Calls Tryz.prog 39 #[.agg #[.int .i64 p0,.int .i64 p1,.int .i64 p2,.int .i64 0,.int .i64 p4,.bool p5,.iface 97 (.agg #[]),.int .i64 b,.slice Aw wn cw],.slice A l.length c] w fun e w'=>∃A' c',e=.returned (.agg #[.slice A' l1.length c',.int .i64 1,.bool false,.slice none 0 0])∧Kd.R k38 38 w' w.heap.size (fun _=>True) (.slice A' l1.length c') (l1.map (shC 1 p4))∧Below w.heap.size w w':=by
 have hm : ∀ w, (method 294 97 (.agg #[]) "headroom/fft.first").run Tryz.prog w = .ok (144, .agg #[]) w := fun _ => by kernel_rfl
 have HR:=hhd hr
 have HC:=hhd hc
 have HL:=hhd hl
 have HF:=hhd hf
 have dN:=hhd (Below.refl w.heap.size w)
 clear hr hc hl hf
 go_enter Tryz.func39,Tryz.ntmps39
 go_wp2_with (first
  | ((with_reducible refine zf (N:=2) rfl ?_);refine bb_ 2 rfl dN #[.int .i64 p0,.int .i64 p1,.int .i64 p2,.int .i64 0,.int .i64 p4,.bool p5,.iface 97 (.agg #[]),.int .i64 b,.slice Aw wn cw] 56 ?_;intro g2 W1 hg aH L2 I aI;have d7:=zc_ HR aI;obtain ⟨aJ,aK,aM,aN,aQ,aT,aU,aV,aW⟩:=bk9 I;clear aH hg)
  | ((with_reducible refine zf (N:=4) rfl ?_);refine bb_ 4 rfl aI #[.slice none 0 0,.int .i64 0,.bool false,.slice none 0 0] 28 ?_;intro g4 W2 hg aH L4 aX aA;have aY:=za_ I aH;have dH:=zc_ HR aA;obtain ⟨aZ,a7,a8,a9,bA,bB,bC,bD,bE⟩:=bk9 aY;clear aJ aK aM aN aQ aT aU aV aW;obtain ⟨bF,bG,bH,bI⟩:=bk4 aX;have dI:=ne_ I hg;clear aH hg)
  | (go_at_call 66;(with_reducible refine (flip_Flip.calls k A c l l1 0 _ dH.out HC.out HF.out).mono ?_);rintro e W3 ⟨vt,rfl,ho,hb⟩;obtain ⟨A1,c1,ev⟩:=Kd.R_slice ho;subst ev;have dJ:=hhd (Kd.R_lower ho (zi aA));have bJ:=zs_ aA hb;have bK:=za_ aY hb;have bL:=za_ aX hb;have d8:=zc_ HR bJ;obtain ⟨bM,bP,bQ,bR,bS,bT,bU,bV,bW⟩:=bk9 bK;obtain ⟨bX,bY,bZ,b6⟩:=bk4 bL;clear aZ a7 a8 a9 bA bB bC bD bE bF bG bH bI;clear hb ho)
  | (go_at_call 144;(with_reducible refine (zhl A1 l1.length c1 _).mono ?_);rintro e W4 ⟨rfl,hb⟩;have aC:=zs_ bJ hb;have b7:=za_ bK hb;have aD:=za_ bL hb;have aE:=zr_ dJ hb;have d9:=zc_ HR aC;obtain ⟨b8,b9,cA,cB,cC,cD,cH,cI,cJ⟩:=bk9 b7;obtain ⟨cK,cL,cM,cN⟩:=bk4 aD;clear bM bP bQ bR bS bT bU bV bW bX bY bZ b6;clear hb)
  | (go_at_call 67;(with_reducible refine (zhc p4 h0 h1 A1 c1 l1 _ ((R_C aE.out).2) ((R_C aE.out).1) HL.out).mono ?_);rintro e W5 ⟨vt,rfl,ho,hb⟩;obtain ⟨A2,c2,ev⟩:=Kd.R_slice ho;rw [List.length_map] at ev;subst ev;have dK:=hhd (Kd.R_lower ho (zi aC));have NR4:=hhd (show some g4≠(Value.slice A2 _ c2).ownBlock from fun e=>Nat.lt_irrefl _ (Nat.lt_of_lt_of_le (zj aD) (Kd.R_base ho g4 e.symm)));have cO:=zs_ aC hb;have cP:=za_ b7 hb;have cQ:=za_ aD hb;have eB:=zr_ aE hb;have eC:=zc_ HR cO;obtain ⟨cR,cS,cT,cU,cV,cW,cX,cY,cZ⟩:=bk9 cP;obtain ⟨dB,dC,dD,dE⟩:=bk4 cQ;clear b8 b9 cA cB cC cD cH cI cJ cK cL cM cN;clear hb ho)
  | ((with_reducible refine zo (t:=28) (p:=4) rfl ?_);refine re_ 28 4 rfl #[.slice A2 l1.length c2,.int .i64 1,.bool false,.slice none 0 0] cQ L4 cO ?_;intro W6 aG dF dG;have dL:=zt_ aG dI cP;have dM:=hhd (zI dK.out aG NR4.out);obtain ⟨dO,dP,dQ,dR,dS,dU,dV,dW,dX⟩:=bk9 dL;clear cR cS cT cU cV cW cX cY cZ dB dC dD dE;obtain ⟨dY,dZ,d5,d6⟩:=bk4 dF;have eD:=zc_ HR dG;clear aG))
 refine bodyPost_ret (results_cell_row rfl _ _ g4 28 #[.slice A2 l1.length c2,.int .i64 1,.bool false,.slice none 0 0] (0,0) _ rfl dF.out Tryz.underlying28 rfl (zV _ _ _ _)) rfl ?_
 exact ⟨A2,c2,rfl,dM.out,dG.out⟩
set_option maxRecDepth 100000 in
set_option maxHeartbeats 4000000 in
theorem zld (p0 p1 p2 p4 b:Int) (p5:Bool) (Aw:Option Addr) (wn cw:Nat) (A:Option Addr) (c:Nat) (l l1:List S38) (k:Nat) (h0:0≤p4) (h1:p4 < 3) (w:World) (hr:Kd.C k38 w A l.length l) (hc:l.length≤c) (hl:l1.length≤1000) (hf:flip_Flip.f k l=some (l1,0)) (h2:(p2 != 2)=true) :
  Calls Tryz.prog 39 #[.agg #[.int .i64 p0,.int .i64 p1,.int .i64 p2,.int .i64 2,.int .i64 p4,.bool p5,.iface 100 (.agg #[]),.int .i64 b,.slice Aw wn cw],.slice A l.length c] w fun e w'=>∃A' c',e=.returned (.agg #[.slice A' l1.length c',.int .i64 0,.bool false,.slice none 0 0])∧Kd.R k38 38 w' w.heap.size (fun _=>True) (.slice A' l1.length c') (l1.map (shC 0 p4))∧Below w.heap.size w w':=by
 have hm : ∀ w, (method 294 100 (.agg #[]) "headroom/fft.first").run Tryz.prog w = .ok (151, .agg #[]) w := fun _ => by kernel_rfl
 have HR:=hhd hr
 have HC:=hhd hc
 have HL:=hhd hl
 have HF:=hhd hf
 have dN:=hhd (Below.refl w.heap.size w)
 clear hr hc hl hf
 go_enter Tryz.func39,Tryz.ntmps39
 go_wp2_with (first
  | ((with_reducible refine zf (N:=2) rfl ?_);refine bb_ 2 rfl dN #[.int .i64 p0,.int .i64 p1,.int .i64 p2,.int .i64 2,.int .i64 p4,.bool p5,.iface 100 (.agg #[]),.int .i64 b,.slice Aw wn cw] 56 ?_;intro g2 W1 hg aH L2 I aI;have d7:=zc_ HR aI;obtain ⟨aJ,aK,aM,aN,aQ,aT,aU,aV,aW⟩:=bk9 I;clear aH hg)
  | ((with_reducible refine zf (N:=4) rfl ?_);refine bb_ 4 rfl aI #[.slice none 0 0,.int .i64 0,.bool false,.slice none 0 0] 28 ?_;intro g4 W2 hg aH L4 aX aA;have aY:=za_ I aH;have dH:=zc_ HR aA;obtain ⟨aZ,a7,a8,a9,bA,bB,bC,bD,bE⟩:=bk9 aY;clear aJ aK aM aN aQ aT aU aV aW;obtain ⟨bF,bG,bH,bI⟩:=bk4 aX;have dI:=ne_ I hg;clear aH hg)
  | (go_at_call 66;(with_reducible refine (flip_Flip.calls k A c l l1 0 _ dH.out HC.out HF.out).mono ?_);rintro e W3 ⟨vt,rfl,ho,hb⟩;obtain ⟨A1,c1,ev⟩:=Kd.R_slice ho;subst ev;have dJ:=hhd (Kd.R_lower ho (zi aA));have bJ:=zs_ aA hb;have bK:=za_ aY hb;have bL:=za_ aX hb;have d8:=zc_ HR bJ;obtain ⟨bM,bP,bQ,bR,bS,bT,bU,bV,bW⟩:=bk9 bK;obtain ⟨bX,bY,bZ,b6⟩:=bk4 bL;clear aZ a7 a8 a9 bA bB bC bD bE bF bG bH bI;clear hb ho)
  | (go_at_call 151;(with_reducible refine (zk9 A1 l1.length c1 _).mono ?_);rintro e W4 ⟨rfl,hb⟩;have aC:=zs_ bJ hb;have b7:=za_ bK hb;have aD:=za_ bL hb;have aE:=zr_ dJ hb;have d9:=zc_ HR aC;obtain ⟨b8,b9,cA,cB,cC,cD,cH,cI,cJ⟩:=bk9 b7;obtain ⟨cK,cL,cM,cN⟩:=bk4 aD;clear bM bP bQ bR bS bT bU bV bW bX bY bZ b6;clear hb)
  | (go_at_call 67;(with_reducible refine (zkX p4 h0 h1 A1 c1 l1 _ ((R_C aE.out).2) ((R_C aE.out).1) HL.out).mono ?_);rintro e W5 ⟨vt,rfl,ho,hb⟩;obtain ⟨A2,c2,ev⟩:=Kd.R_slice ho;rw [List.length_map] at ev;subst ev;have dK:=hhd (Kd.R_lower ho (zi aC));have NR4:=hhd (show some g4≠(Value.slice A2 _ c2).ownBlock from fun e=>Nat.lt_irrefl _ (Nat.lt_of_lt_of_le (zj aD) (Kd.R_base ho g4 e.symm)));have cO:=zs_ aC hb;have cP:=za_ b7 hb;have cQ:=za_ aD hb;have eB:=zr_ aE hb;have eC:=zc_ HR cO;obtain ⟨cR,cS,cT,cU,cV,cW,cX,cY,cZ⟩:=bk9 cP;obtain ⟨dB,dC,dD,dE⟩:=bk4 cQ;clear b8 b9 cA cB cC cD cH cI cJ cK cL cM cN;clear hb ho)
  | ((with_reducible refine zo (t:=28) (p:=4) rfl ?_);refine re_ 28 4 rfl #[.slice A2 l1.length c2,.int .i64 0,.bool false,.slice none 0 0] cQ L4 cO ?_;intro W6 aG dF dG;have dL:=zt_ aG dI cP;have dM:=hhd (zI dK.out aG NR4.out);obtain ⟨dO,dP,dQ,dR,dS,dU,dV,dW,dX⟩:=bk9 dL;clear cR cS cT cU cV cW cX cY cZ dB dC dD dE;obtain ⟨dY,dZ,d5,d6⟩:=bk4 dF;have eD:=zc_ HR dG;clear aG))
 refine bodyPost_ret (results_cell_row rfl _ _ g4 28 #[.slice A2 l1.length c2,.int .i64 0,.bool false,.slice none 0 0] (0,0) _ rfl dF.out Tryz.underlying28 rfl (zV _ _ _ _)) rfl ?_
 exact ⟨A2,c2,rfl,dM.out,dG.out⟩
def zcm (x f:Int):Int:=if f=0 then (if x < -32768 then -32768 else if x > 32767 then 32767 else x) else (if x < -2147483648 then -2147483648 else if x > 2147483647 then 2147483647 else x)
set_option maxRecDepth 100000 in
set_option maxHeartbeats 4000000 in
theorem zmt (x:Int) (w:World):Calls Tryz.prog 87 #[.int .i64 x,.int .i64 0] w fun e w'=>e=.returned (.tuple #[.int .i64 (zcm x 0),.bool (zcm x 0 != x),.int .i64 0])∧Drawn0 w w':=by
 have HS:=hhd (show sat_Bits.f 0=some (15,0) from rfl)
 have HV:=hhd (show zcm x 0=if x < -32768 then -32768 else if x > 32767 then 32767 else x from by unfold zcm;rw [if_pos rfl])
 by_cases h1:x < -32768
 ·have e1:zcm x 0=-32768:=by rw [HV.out,if_pos h1]
  have c1:(x < -32768)=True:=eq_true h1
  have c2:(-32768 != x)=true:=by simp;omega
  rw [e1]
  clear h1 e1 HV
  go_enter Tryz.func87,Tryz.ntmps87
  go_wp2_with (go_at_call 41;(with_reducible refine (sat_Bits.calls 0 15 0 _ HS.out).mono ?_);rintro e w' ⟨rfl,⟨nd,rfl⟩⟩)
  go_quiet (fail)
  go_wp2
  go_ret3
  exact ⟨congrArg (fun b=>Ending.returned (.tuple #[.int .i64 (-32768),.bool b,.int .i64 0])) c2.symm,⟨⟨_,rfl⟩⟩⟩
 ·by_cases h2:x > 32767
  ·have e1:zcm x 0=32767:=by rw [HV.out,if_neg h1,if_pos h2]
   have c1:(x < -32768)=False:=eq_false h1
   have c2:(32767 < x)=True:=eq_true h2
   have c3:(32767 != x)=true:=by simp;omega
   rw [e1]
   clear h1 e1 HV h2
   go_enter Tryz.func87,Tryz.ntmps87
   go_wp2_with (go_at_call 41;(with_reducible refine (sat_Bits.calls 0 15 0 _ HS.out).mono ?_);rintro e w' ⟨rfl,⟨nd,rfl⟩⟩)
   go_quiet (fail)
   go_wp2
   go_ret3
   exact ⟨congrArg (fun b=>Ending.returned (.tuple #[.int .i64 32767,.bool b,.int .i64 0])) c3.symm,⟨⟨_,rfl⟩⟩⟩
  ·have e1:zcm x 0=x:=by rw [HV.out,if_neg h1,if_neg h2]
   have c1:(x < -32768)=False:=eq_false h1
   have c2:(32767 < x)=False:=eq_false h2
   rw [e1]
   clear h1 e1 HV h2
   go_enter Tryz.func87,Tryz.ntmps87
   go_wp2_with (go_at_call 41;(with_reducible refine (sat_Bits.calls 0 15 0 _ HS.out).mono ?_);rintro e w' ⟨rfl,⟨nd,rfl⟩⟩)
   go_quiet (fail)
   go_wp2
   go_ret3
   exact ⟨congrArg (fun b=>Ending.returned (.tuple #[.int .i64 x,.bool b,.int .i64 0])) (show false=(x != x) by simp),⟨⟨_,rfl⟩⟩⟩
end Go.Proofs.YteieahbadclppaaGreat.P

namespace Go.Proofs.YteieahbadclppaaGreat.P
open Go.RowKit Go.Proofs.YteieahbadclppaaGreatW.PrintWords Go.Proofs.YteieahbadclppaaGreatW.PrintLast Go.Proofs.YteieahbadclppaaGreatW.PrintMore
attribute [local go_sem] zF zG zK zL zY zZ z9 zaa
set_option linter.unusedVariables false
set_option linter.unusedSimpArgs false
end Go.Proofs.YteieahbadclppaaGreat.P

