/- Part 34 of 36 of the proof: the texts that it reaches, one behind the other. No condition. -/
import Derived.Test.YteieahbadclppaaGreatKr20
import Derived.Test.YteieahbadclppaaGreatKr33
namespace Go.Proofs.YteieahbadclppaaGreat.P
open Go.RowKit Go.Proofs.YteieahbadclppaaGreatW.PrintWords Go.Proofs.YteieahbadclppaaGreatW.PrintLast Go.Proofs.YteieahbadclppaaGreatW.PrintMore
attribute [local go_sem] zF zG zK zL zY zZ z9 zaa
set_option linter.unusedVariables false
set_option linter.unusedSimpArgs false
def real_pack.l0:Nat→List Int→List (S38)→Int→Option ((List (S38)))
 | 0,_,_,_=>none
 | k+1,x0,x3,x4=>if (wrap64 (x4+1)) < (x0.length:Int) then (if 0≤x4 then (if x4 < (x0.length:Int) then (if 0≤(wrap64 (x4+1)) then (if x3.length < 8796093022208 then (real_pack.l0 k x0 (x3++[(⟨rd x0 x4,rd x0 (wrap64 (x4+1))⟩:S38)]) (wrap64 (x4+2))) else (none)) else (none)) else (none)) else (none)) else (some x3)
def real_pack.f (k:Nat) (l0:List Int):Option ((List (S38))):=real_pack.l0 k l0 ([]:List (S38)) 0
def real_pack.T5:Bool×List (List Nat×List Nat):=(true,[([],[]),([],[]),([],[]),([1,2],[1,2]),([3],[3]),([],[]),([],[]),([6],[6]),([5,7],[5,7]),([8],[8]),([4,9],[4,9]),([10],[10]),([0,11],[0,11]),([12,12,0,1,2,3,4,5,6,7,8,9,10,11,12],[0,12])])
def real_pack.B5:List Nat:=[0,0,0,6,14,0,0,64,224,480,1022,2046,4095,8191]
theorem real_pack.tab5:zbe .any (zi1 Tryz.f35 5)=real_pack.T5:=by kernel_rfl
theorem real_pack.bits5:zcD real_pack.T5.2 real_pack.B5=true:=by kernel_rfl
set_option maxHeartbeats 8000000 in
set_option maxRecDepth 100000 in
theorem real_pack.calls (k:Nat) (A0:Option Addr) (c0:Nat) (l0:List Int) (r:List (S38)) (w:World) (hr0:Kd.C (Kd.int .i64) w A0 l0.length l0) (hc0:l0.length≤c0) (h:real_pack.f k l0=some r) :
  Calls Tryz.prog 35 #[.slice A0 l0.length c0] w fun e w'=>∃v0_:Value,e=.returned (v0_)∧Kd.R k38 38 w' w.heap.size (fun _=>True) v0_ r∧Below w.heap.size w w':=by
 have hu38:=Tryz.underlying38
 have HR0:=Aside0.mk hr0
 have HC0:=Aside0.mk hc0
 clear hr0 hc0
 have HB:=Aside0.mk (Below.refl w.heap.size w)
 have H:(real_pack.l0 k l0 ([]:List (S38)) 0)=some r:=h
 clear h
 have H':=Aside0.mk H
 clear H
 go_enter Tryz.func35,Tryz.ntmps35
 go_wp2
 go_loopg [3,4] k (fun kq v3 v4 w'=>∃(x3_1:List (S38)) (x4_1:Int),v4=.int .i64 x4_1∧Aside0 (real_pack.l0 kq l0 x3_1 x4_1=some r)∧Aside0 (kq≤k)∧Aside0 (Kd.R k38 38 w' w.heap.size (fun _=>True) v3 x3_1)∧Aside0 (Below w.heap.size w w'))
 case atStart=>exact ⟨(([]:List (S38))),(0),(by first | rfl | (simp;done) | (simp [*];done)),H',⟨Nat.le_refl _⟩,⟨by first | exact Kd.R_nil _ _ _ _ _ | exact Kd.N_nil _ _ _ _ _ | exact Kd.V_nil _ _ _ _ _ | exact Kd.Q_nil _ _ _ _ _ | exact Kd.S_nil _ _ _ _ _⟩,⟨by repeat (first | (with_reducible first | exact HB.out | apply ze | apply zc | apply zg) | exact HB.out)⟩⟩
 case round =>
  clear H'
  obtain ⟨x3_1,x4_1,rfl,HA,HK1,HO_3,HB⟩:=hrel
  cases gk with
  | zero=>exact absurd HA.out (by simp [real_pack.l0])
  | succ k1 =>
   have H:=HA.out
   clear HA
   simp only [real_pack.l0] at H
   by_cases c2:(wrap64 (x4_1+1)) < (l0.length:Int)
   ·rw [if_pos c2] at H
    have c2b0:decide ((wrap64 (x4_1+1)) < (l0.length:Int))=true:=decide_eq_true c2
    clear c2
    by_cases c3:0≤x4_1
    ·rw [if_pos c3] at H
     have c3b0:decide (0≤x4_1)=true:=decide_eq_true c3
     clear c3
     by_cases c4:x4_1 < (l0.length:Int)
     ·rw [if_pos c4] at H
      have c4b0:decide (x4_1 < (l0.length:Int))=true:=decide_eq_true c4
      clear c4
      obtain ⟨ji5,hji5⟩:∃j_:Int,(wrap64 (x4_1+1))=j_:=⟨_,rfl⟩
      replace H:(if 0≤(ji5) then (if x3_1.length < 8796093022208 then (real_pack.l0 k1 l0 (x3_1++[(⟨rd l0 x4_1,rd l0 (ji5)⟩:S38)]) (wrap64 (x4_1+2))) else (none)) else (none))=some r:=by first | (rw [hji5] at H;exact H) | (simp only [hji5] at H ⊢;exact H)
      (try rw [hji5] at c2b0)
      have hji5w:(IntKind.i64.wrap (x4_1+1))=ji5:=(zD _).trans hji5
      by_cases c6:0≤(ji5)
      ·rw [if_pos c6] at H
       have c6b0:decide (0≤(ji5))=true:=decide_eq_true c6
       clear c6
       by_cases c7:x3_1.length < 8796093022208
       ·rw [if_pos c7] at H
        have LMc7:=Aside0.mk c7
        clear c7
        obtain ⟨y305,hy305⟩:∃y_:List (S38),y_=(x3_1++[(⟨rd l0 x4_1,rd l0 (ji5)⟩:S38)]):=⟨_,rfl⟩
        replace H:(real_pack.l0 k1 l0 y305 (wrap64 (x4_1+2)))=some r:=by first | (rw [hy305];with_reducible exact H) | (have H2_:=(Option.bind_some _ _).symm.trans H;rw [hy305];with_reducible exact H2_) | (have H2_:=(Option.bind_some _ _).symm.trans H;with_reducible exact H2_) | with_reducible exact H | (rw [hy305];exact H) | exact H
        have Ny305:=Aside0.mk hy305
        clear hy305
        have H':=Aside0.mk H
        clear H
        try go_wp2
        have n0_:=Aside0.mk (Kd.R_drew HO_3.out)
        have n1_:=Aside0.mk (zg HB.out)
        clear HO_3
        clear HB
        have HO_3:=n0_
        have HB:=n1_
        clear n0_ n1_
        have p303:0≤(x4_1:Int):=of_decide_eq_true (by first | (with_reducible assumption) | assumption)
        have q303:x4_1 < (l0.length:Int):=of_decide_eq_true (by first | (with_reducible assumption) | assumption)
        obtain ⟨ad303,e303,hx303_0⟩:=Kd.at_int HR0.out x4_1 p303 q303
        have hw303_0:=hx303_0
        cases e303
        replace hx303_0:=(HB.out.cell (World.block_lt_of_cell? w _ hx303_0)).trans hx303_0
        replace p303:=eq_true p303
        replace q303:=eq_true q303
        have p304:0≤((ji5):Int):=of_decide_eq_true (by first | (with_reducible assumption) | assumption)
        have q304:(ji5) < (l0.length:Int):=of_decide_eq_true (by first | (with_reducible assumption) | assumption)
        obtain ⟨ad304,e304,hx304_0⟩:=Kd.at_int HR0.out (ji5) p304 q304
        have hw304_0:=hx304_0
        obtain rfl:ad303=ad304:=(by injection e304)
        replace hx304_0:=(HB.out.cell (World.block_lt_of_cell? w _ hx304_0)).trans hx304_0
        replace p304:=eq_true p304
        replace q304:=eq_true q304
        refine z7 (n:=14) (S:=fun w'=>w'.cell? (ad303.add (x4_1).toNat)=some (.int .i64 (rd l0 x4_1))∧w'.cell? (ad303.add ((ji5)).toNat)=some (.int .i64 (rd l0 (ji5)))) (ds:=[]) (fl 14 0) (by kernel_rfl) rfl rfl ⟨((HB.out.cell (World.block_lt_of_cell? w _ hw303_0)).trans hw303_0),((HB.out.cell (World.block_lt_of_cell? w _ hw304_0)).trans hw304_0)⟩ (fun I=>?_);refine zeC real_pack.tab5 real_pack.bits5 (fun HT_ HW_=>?_)
        generalize wr.drew=w8 at HO_3 HB hx303_0 hx304_0 I ⊢
        refine zaD (i:=0) (N:=some 12) (v:=?_) (a':=?_) (fl 14 1) rfl rfl (zar HT_.out (by kernel_rfl)) (fun _ _ _ h=>h) (Or.inl ⟨by rfl,?_⟩) ?_ ?_
        rotate_left
        ·intro w'
         go_simp
         with_reducible rfl
        rotate_left
        ·simp only [Act.put,zzA,zzB,zzC,zD,zU]
         rfl
        refine zaD (i:=1) (N:=some 13) (v:=?_) (a':=?_) (fl 14 3) rfl rfl (zar HT_.out (by kernel_rfl)) (fun _ _ _ h=>h) (Or.inl ⟨by rfl,?_⟩) ?_ ?_
        rotate_left
        ·intro w'
         go_simp
         with_reducible rfl
        rotate_left
        ·simp only [Act.put,zzA,zzB,zzC,zD,zU]
         rfl
        refine zaD (i:=2) (N:=some 14) (v:=?_) (a':=?_) (fl 14 7) rfl rfl (zar HT_.out (by kernel_rfl)) (fun _ _ _ h=>h) (Or.inl ⟨by rfl,?_⟩) ?_ ?_
        rotate_left
        ·intro w'
         go_simp
         with_reducible rfl
        rotate_left
        ·simp only [Act.put,zzA,zzB,zzC,zD,zU]
         rfl
        refine zaD (i:=3) (N:=some 15) (v:=?_) (a':=?_) (fl 14 15) rfl rfl (zar HT_.out (by kernel_rfl)) (fun _ _ _ h=>h) (Or.inl ⟨by rfl,?_⟩) ?_ ?_
        rotate_left
        ·intro w'
         go_simp
         with_reducible rfl
        rotate_left
        ·simp only [Act.put,zzA,zzB,zzC,zD,zU]
         rfl
        refine zaD (i:=5) (N:=some 17) (v:=?_) (a':=?_) (fl 14 47) rfl rfl (zar HT_.out (by kernel_rfl)) (fun _ _ _ h=>h) (Or.inl ⟨by rfl,?_⟩) ?_ ?_
        rotate_left
        ·intro w'
         go_simp
         with_reducible rfl
        rotate_left
        ·simp only [Act.put,zzA,zzB,zzC,zD,zU]
         rfl
        refine zaD (i:=6) (N:=some 18) (v:=?_) (a':=?_) (fl 14 111) rfl rfl (zar HT_.out (by kernel_rfl)) (fun _ _ _ h=>h) (Or.inl ⟨by rfl,?_⟩) ?_ ?_
        rotate_left
        ·intro w'
         go_simp
         with_reducible rfl
        rotate_left
        ·simp only [Act.put,zzA,zzB,zzC,zD,zU]
         rfl
        refine zaD (i:=7) (N:=some 19) (v:=?_) (a':=?_) (fl 14 239) rfl rfl (zar HT_.out (by kernel_rfl)) (fun _ _ _ h=>h) (Or.inl ⟨by rfl,?_⟩) ?_ ?_
        rotate_left
        ·intro w'
         go_simp
         with_reducible rfl
        rotate_left
        ·simp only [Act.put,zzA,zzB,zzC,zD,zU]
         rfl
        refine zaD (i:=8) (N:=some 20) (v:=?_) (a':=?_) (fl 14 495) rfl rfl (zar HT_.out (by kernel_rfl)) (fun _ _ _ h=>h) (Or.inl ⟨by rfl,?_⟩) ?_ ?_
        rotate_left
        ·intro w'
         go_simp
         with_reducible rfl
        rotate_left
        ·simp only [Act.put,zzA,zzB,zzC,zD,zU]
         rfl
        refine take_ (i:=4) (N:=some 16) (v:=?_) (a':=?_) (fl 14 511) rfl rfl (zdr HT_.out HW_.out (by kernel_rfl)) (fun _ _ _ h=>h) (Or.inl ⟨by rfl,?_⟩) I ?_ ?_
        rotate_left
        ·rintro w' ⟨s0,s1⟩
         go_simp
         with_reducible rfl
        rotate_left
        ·simp only [Act.put,zzA,zzB,zzC,zD,zU]
         rfl
        refine take_ (i:=9) (N:=some 21) (v:=?_) (a':=?_) (fl 14 1023) rfl rfl (zdr HT_.out HW_.out (by kernel_rfl)) (fun _ _ _ h=>h) (Or.inl ⟨by rfl,?_⟩) I ?_ ?_
        rotate_left
        ·rintro w' ⟨s0,s1⟩
         go_simp
         with_reducible rfl
        rotate_left
        ·simp only [Act.put,zzA,zzB,zzC,zD,zU]
         rfl
        refine zaD (i:=10) (N:=some 22) (v:=?_) (a':=?_) (fl 14 2047) rfl rfl (zar HT_.out (by kernel_rfl)) (fun _ _ _ h=>h) (Or.inl ⟨by rfl,?_⟩) ?_ ?_
        rotate_left
        ·intro w'
         go_simp
         with_reducible rfl
        rotate_left
        ·simp only [Act.put,zzA,zzB,zzC,zD,zU]
         rfl
        refine ziX (i:=11) (N:=some 23) (fl 14 4095) rfl rfl (zd3 HT_.out (by kernel_rfl)) (by decide) (fun K hK=>?_)
        refine zfD (w1:=?_) (v:=?_) (by rfl) rfl ?_ ?_
        rotate_left 2
        ·go_simp
         constructor
         ·rfl
         ·rfl
        refine hK.out _ _ ⟨(World.cell?_alloc_lt _ _ _ (World.block_lt_of_cell? _ _ (((HB.out.cell (World.block_lt_of_cell? w _ hw303_0)).trans hw303_0)))).trans (((HB.out.cell (World.block_lt_of_cell? w _ hw303_0)).trans hw303_0)),(World.cell?_alloc_lt _ _ _ (World.block_lt_of_cell? _ _ (((HB.out.cell (World.block_lt_of_cell? w _ hw304_0)).trans hw304_0)))).trans (((HB.out.cell (World.block_lt_of_cell? w _ hw304_0)).trans hw304_0))⟩ (fun I=>?_)
        clear hK K
        refine nx_ ?_
        refine ziX (i:=12) (N:=some 24) (fl 14 8191) rfl rfl (zd3 HT_.out (by kernel_rfl)) (by decide) (fun K hK=>?_)
        refine Kd.R_append_step k38 (w0:=w) w.heap.size (by rfl) (.tmp 12) (.tmp 23) 22 38 (.agg #[(.int .i64 0),(.int .i64 0)]) 16 rfl Tryz.underlying22 zbF rfl (by decide) (by omega) u3 x3_1 (⟨rd l0 x4_1,rd l0 (ji5)⟩:S38) [.int .i64 (rd l0 x4_1),.int .i64 (rd l0 (ji5))] (fun _=>True) (fun _=>False) rfl rfl ?aP (fun _ hk=>hk.elim) ?aF ?aO ?aB ?aS ?aL ?_
        (case aP=>exact zaA _ _ _ (⟨rd l0 x4_1,rd l0 (ji5)⟩:S38))
        (case aB=>exact (by repeat (first | (with_reducible first | exact HB.out | apply ze | apply zc | apply zg) | exact HB.out)))
        (case aF=>exact (fun _ _=>trivial))
        (case aO=>exact (by (with_reducible repeat (first | apply Kd.R_alloc | apply Kd.R_drewN | apply Kd.R_drew));exact HO_3.out))
        (case aS=>exact (zi (by repeat (first | (with_reducible first | exact HB.out | apply ze | apply zc | apply zg) | exact HB.out))))
        (case aL=>have:=LMc7.out;omega)
        intro v306 w9 ho hb hg hat
        rw [← Ny305.out] at ho
        have n0_:=Aside0.mk (hb)
        have n1_:=Aside0.mk (ho)
        clear HB
        clear HO_3
        have HB:=n0_
        have aA:=n1_
        clear n0_ n1_
        clear ho hb hg hat
        refine hK.out _ _ ⟨((HB.out.cell (World.block_lt_of_cell? w _ hw303_0)).trans hw303_0),((HB.out.cell (World.block_lt_of_cell? w _ hw304_0)).trans hw304_0)⟩ (fun I=>?_)
        clear hK K
        refine nx_ ?_
        refine zaD (i:=13) (N:=some 3) (v:=?_) (a':=?_) (fl 14 16383) rfl rfl (zar HT_.out (by kernel_rfl)) (fun _ _ _ h=>h) (Or.inl ⟨by rfl,?_⟩) ?_ ?_
        rotate_left
        ·intro w'
         go_simp
         with_reducible rfl
        rotate_left
        ·simp only [Act.put,zzA,zzB,zzC,zD,zU]
         rfl
        refine zE (zf8 HT_.out (by kernel_rfl)) ?_
        try go_wp2
        go_roundg k1
        case measure=>have:=HK1.out;omega
        case rel=>exact ⟨(y305),(wrap64 (x4_1+2)),(by first | rfl | (simp;done) | (simp [*];done)),H',⟨by have:=HK1.out;omega⟩,⟨by (with_reducible repeat (first | apply Kd.R_alloc | apply Kd.R_drewN | apply Kd.R_drew));exact aA.out⟩,⟨by repeat (first | (with_reducible first | exact HB.out | apply ze | apply zc | apply zg) | exact HB.out)⟩⟩
       ·rw [if_neg c7] at H
        exact absurd H (by simp)
      ·rw [if_neg c6] at H
       exact absurd H (by simp)
     ·rw [if_neg c4] at H
      exact absurd H (by simp)
    ·rw [if_neg c3] at H
     exact absurd H (by simp)
   ·rw [if_neg c2] at H
    have c2b0:decide ((wrap64 (x4_1+1)) < (l0.length:Int))=false:=decide_eq_false c2
    clear c2
    obtain rfl:=Option.some.inj H
    go_wp2
    go_ret
    exact ⟨_,by first | rfl | (simp [zq,zt] <;> rfl) | (simp [*,zq,zt] <;> rfl),by (with_reducible repeat (first | apply Kd.R_alloc | apply Kd.R_drewN | apply Kd.R_drew));exact HO_3.out,by repeat (first | (with_reducible first | exact HB.out | apply ze | apply zc | apply zg) | exact HB.out)⟩

end Go.Proofs.YteieahbadclppaaGreat.P

namespace Go.Proofs.YteieahbadclppaaGreat.P
open Go.RowKit Go.Proofs.YteieahbadclppaaGreatW.PrintWords Go.Proofs.YteieahbadclppaaGreatW.PrintLast Go.Proofs.YteieahbadclppaaGreatW.PrintMore
set_option linter.unusedVariables false
set_option linter.unusedSimpArgs false
theorem zmY (wl x:List S38) (bits m k:Nat) (mode:Int) (hk:k < m+1):(zb1 wl bits m mode x).getD k z38=shC ((bits:Int)+2) mode (dot (zbR x) (zgn wl bits m k)):=by
 simp [zb1,zaf,zb9,List.getD_eq_getElem?_getD,hk]
theorem zlU {x:List S38} {j:Nat} (h:j < x.length):(zbR x).getD j z38=x.getD j z38:=by
 unfold zbR
 rw [List.getD_eq_getElem?_getD,List.getD_eq_getElem?_getD,List.getElem?_append_left h]
theorem zlV (x:List S38) (j:Nat):(zbR x).getD (x.length+j) z38=zaN (x.getD j z38):=by
 rw [← zdB]
 unfold zbR
 rw [List.getD_eq_getElem?_getD,List.getD_eq_getElem?_getD,List.getElem?_append_right (by omega),Nat.add_sub_cancel_left]
theorem zlW (wl x:List S38) (bits k:Nat) (hx:0 < x.length) (a b v:S38) (ha:x.getD (k % x.length) z38=a) (hb:x.getD ((x.length - k) % x.length) z38=b) (hv:wl.getD k z38=v) :
  dot (zbR x) (zgn wl bits x.length k)=⟨(a.f0+b.f0)*2^bits+(a.f1+b.f1)*v.f0 - -(a.f0 - b.f0)*v.f1,(a.f1 - b.f1)*2^bits+(a.f1+b.f1)*v.f1+-(a.f0 - b.f0)*v.f0⟩:=by
 unfold zgn dot dot dot dot dot
 dsimp only
 rw [zlU (Nat.mod_lt _ hx),zlV,ha,hb,hv]
 unfold zaz zaR zaN zbW zab z38
 apply zau <;> dsimp only <;> grind
theorem ziR {b:Int} (hb:b≤536870912) {x:List S38} (h:zak (184*b) x) (k:Nat) (hk:k < x.length):(x.getD k z38).f0≤1610612736∧(x.getD k z38).f1≤1610612736∧-1610612736≤(x.getD k z38).f0∧-1610612736≤(x.getD k z38).f1 :=
 zaj (h.in (m:=1610612736) (by omega) _ (by rw [List.getD_eq_getElem?_getD,List.getElem?_eq_getElem hk];exact List.getElem_mem hk))
theorem zfA {bits:Nat} (h:bits≤29):(0:Int) < 2^bits∧(2:Int)^bits≤536870912:=by
 have h1:=Nat.pow_le_pow_right (n:=2) (by decide) h
 have h2:=Nat.pow_pos (n:=bits) (show 0 < 2 by decide)
 have e:(2:Int)^bits=((2^bits:Nat):Int):=by rw [Int.natCast_pow];rfl
 rw [e]
 omega
theorem zmZ (a b v:S38) (bits:Nat) (p0 p1 p2 p3 mode:Int) (p5:Bool) (Aw:Option Addr) (wn cw:Nat) (hb:bits≤29) (m0:0≤mode) (m1:mode < 3) (ha:a.f0≤1610612736∧a.f1≤1610612736∧-1610612736≤a.f0∧-1610612736≤a.f1) (hbb:b.f0≤1610612736∧b.f1≤1610612736∧-1610612736≤b.f0∧-1610612736≤b.f1) (hv:inB 536870912 v=true) (y:S38)
  (hy:y=shC ((bits:Int)+2) mode ⟨(a.f0+b.f0)*2^bits+(a.f1+b.f1)*v.f0 - -(a.f0 - b.f0)*v.f1,(a.f1 - b.f1)*2^bits+(a.f1+b.f1)*v.f1+-(a.f0 - b.f0)*v.f0⟩) (w:World) :
  Calls Tryz.prog 62 #[.agg #[.int .i64 p0,.int .i64 p1,.int .i64 p2,.int .i64 p3,.int .i64 mode,.bool p5,.int .i64 bits,.slice Aw wn cw],.agg #[.int .i64 a.f0,.int .i64 a.f1],.agg #[.int .i64 b.f0,.int .i64 b.f1],.agg #[.int .i64 v.f0,.int .i64 v.f1]] w fun e w'=>e=.returned (.agg #[.int .i64 y.f0,.int .i64 y.f1])∧Below w.heap.size w w':=by
 obtain ⟨q0,q1⟩:=zfA hb
 obtain ⟨v0,v1,v2,v3⟩:=zaj hv
 have e1:wrap64 (a.f0+b.f0)=a.f0+b.f0:=zv (by omega) (by omega)
 have e2:wrap64 (a.f1 - b.f1)=a.f1 - b.f1:=zv (by omega) (by omega)
 have e3:wrap64 (a.f0 - b.f0)=a.f0 - b.f0:=zv (by omega) (by omega)
 have e4:wrap64 (a.f1+b.f1)=a.f1+b.f1:=zv (by omega) (by omega)
 have hmin:min ((bits:Nat):Int).toNat 64=bits:=by omega
 have n1:=zam (a:=a.f0+b.f0) (b:=(2:Int)^bits) (m:=3221225472) (n:=536870912) (by decide) (by omega) (by omega) q1 (by omega) (by decide)
 have n2:=zam (a:=a.f1 - b.f1) (b:=(2:Int)^bits) (m:=3221225472) (n:=536870912) (by decide) (by omega) (by omega) q1 (by omega) (by decide)
 have n3:=zam (a:=a.f1+b.f1) (b:=v.f0) (m:=3221225472) (n:=536870912) (by decide) (by omega) (by omega) v0 v2 (by decide)
 have n4:=zam (a:=a.f1+b.f1) (b:=v.f1) (m:=3221225472) (n:=536870912) (by decide) (by omega) (by omega) v1 v3 (by decide)
 have n5:=zam (a:=-(a.f0 - b.f0)) (b:=v.f0) (m:=3221225472) (n:=536870912) (by decide) (by omega) (by omega) v0 v2 (by decide)
 have n6:=zam (a:=-(a.f0 - b.f0)) (b:=v.f1) (m:=3221225472) (n:=536870912) (by decide) (by omega) (by omega) v1 v3 (by decide)
 refine zlr a b v ⟨a.f0+b.f0,a.f1 - b.f1⟩ ⟨a.f1+b.f1,-(a.f0 - b.f0)⟩ y p0 p1 p2 p3 mode bits ((bits:Int)+2) 0 0 p5 Aw wn cw (by omega) (by rw [e1,e2]) (zv (by omega) (by omega)) w ?_ ?_
 ·intro W
  rw [e3,e4]
  have h:=zeb ⟨a.f0 - b.f0,a.f1+b.f1⟩ (-1) (decide_eq_true (by dsimp only;omega)) W
  have e:=zfv ⟨a.f0 - b.f0,a.f1+b.f1⟩ 3 (by decide) (by dsimp only;omega) (by dsimp only;omega) (by dsimp only;omega) (by dsimp only;omega)
  rw [show zaX (-1)=3 by decide +kernel] at h
  dsimp only at h
  rw [show (zal (a.f0 - b.f0) (a.f1+b.f1) 3).1=a.f1+b.f1 from congrArg S38.f0 e,show (zal (a.f0 - b.f0) (a.f1+b.f1) 3).2=-(a.f0 - b.f0) from congrArg S38.f1 e] at h
  exact h
 ·intro W
  rw [e1,e2,hmin]
  dsimp only
  generalize (a.f0+b.f0)*2^bits=u1 at *
  generalize (a.f1 - b.f1)*2^bits=u2 at *
  generalize (a.f1+b.f1)*v.f0=u3 at *
  generalize (a.f1+b.f1)*v.f1=u4 at *
  generalize -(a.f0 - b.f0)*v.f0=u5 at *
  generalize -(a.f0 - b.f0)*v.f1=u6 at *
  rw [zv (x:=u1) (by omega) (by omega),zv (x:=u2) (by omega) (by omega),zv (x:=u3) (by omega) (by omega),zv (x:=u4) (by omega) (by omega),zv (x:=u5) (by omega) (by omega),zv (x:=u6) (by omega) (by omega),zv (x:=u1+u3) (by omega) (by omega),zv (x:=u2+u4) (by omega) (by omega),zv (x:=u1+u3 - u6) (by omega) (by omega),zv (x:=u2+u4+u5) (by omega) (by omega),hy]
  exact cx_Shift.calls _ _ _ _ _ _ _ W (zbf ⟨u1+u3 - u6,u2+u4+u5⟩ ((bits:Int)+2) mode (by omega) (by omega) m0 m1)
theorem zkN (x:List Int) (m:Nat) (hx:x.length=2*m) (hm:m≤100):∀(n j k:Nat) (acc:List S38),j+n=m→n < k→acc.length+n≤1000→real_pack.l0 k x acc ((2*j:Nat):Int)=some (acc++z8 (x.drop (2*j)))
 | 0,j,k,acc,hj,hk,ha=>by
  obtain ⟨k,rfl⟩:∃q,k=q+1:=⟨k - 1,by omega⟩
  have e:wrap64 (((2*j:Nat):Int)+1)=((2*j:Nat):Int)+1:=zv (by omega) (by omega)
  unfold real_pack.l0
  rw [e,if_neg (by omega),List.drop_eq_nil_of_le (by omega)]
  simp [z8]
 | n+1,j,k,acc,hj,hk,ha=>by
  obtain ⟨k,rfl⟩:∃q,k=q+1:=⟨k - 1,by omega⟩
  have e:wrap64 (((2*j:Nat):Int)+1)=((2*j+1:Nat):Int):=zv (x:=((2*j:Nat):Int)+1) (by omega) (by omega)
  have e2:wrap64 (((2*j:Nat):Int)+2)=((2*(j+1):Nat):Int):=by rw [zv (by omega) (by omega)];omega
  unfold real_pack.l0
  rw [e,e2,if_pos (by omega),if_pos (by omega),if_pos (by omega),if_pos (by omega),if_pos (by omega),zkN x m hx hm n (j+1) k _ (by omega) (by omega) (by simp;omega),List.append_assoc]
  have d:x.drop (2*j)=rd x ((2*j:Nat):Int) :: rd x ((2*j+1:Nat):Int) :: x.drop (2*(j+1)):=by
   rw [List.drop_eq_getElem_cons (by omega),List.drop_eq_getElem_cons (i:=2*j+1) (by omega)]
   unfold rd
   rw [Int.toNat_natCast,Int.toNat_natCast,List.getD_eq_getElem?_getD,List.getD_eq_getElem?_getD,List.getElem?_eq_getElem (by omega),List.getElem?_eq_getElem (by omega)]
   rfl
  rw [d]
  rfl
theorem zkO {x:List Int} {m:Nat} (hx:x.length=2*m) (hm:m≤100):real_pack.f 200 x=some (z8 x) :=
 zkN x m hx hm m 0 200 [] (by omega) (by omega) (by simp;omega)
theorem zm0 {fm g ker mode:Nat} (inv:Bool) (hf:fm < 2) (h2:2≤g) (h6:g≤6) (hk:ker < 3) (hm:mode < 3) (A:Option Addr) (c:Nat) (l:List S38) (w:World) (hr:Kd.C k38 w A l.length l) (hc:l.length≤c) (hl:l.length=2^g) (ho:l.any (zaH (-(4*2^bN fm)) (4*2^bN fm - 1))=true):zoj fm g ker mode inv 2 A c l w:=by
 obtain ⟨t1,t2,t3⟩:=za7 (fm:=fm) (g:=g) hf (by omega) (by omega)
 have hck:=zd6 (fm:=fm) (g:=g) (ker:=ker) (mode:=mode) inv hf (by omega) (by omega) (by omega) (by omega)
 have hg:(2:Int)^((g:Nat):Int).toNat=((2^g:Nat):Int):=by rw [Int.toNat_natCast];exact (zcT g).symm
 have hn:(l.length:Int)=2^((g:Nat):Int).toNat:=by rw [hg,hl]
 have hbN:fm=0∨fm=1:=by omega
 rcases hbN with rfl | rfl
 ·exact ziC 0 g ker 0 mode 2 inv A c l w hr (by decide) (fun W hC=>zh3 0 15 (-32768) 32767 rfl (.inl ⟨rfl,rfl,rfl⟩) g ker mode 2 inv (twL 0 g) A c l W hC hck t1 (by decide) (fun I hC2=>zcl true 0 g ker 0 mode inv (-32768) 32767 A c l I hC2 hc (by omega) (by omega) hn ho))
 ·exact ziC 1 g ker 0 mode 2 inv A c l w hr (by decide) (fun W hC=>zh3 1 31 (-2147483648) 2147483647 rfl (.inr ⟨rfl,rfl,rfl⟩) g ker mode 2 inv (twL 1 g) A c l W hC hck t1 (by decide) (fun I hC2=>zcl true 1 g ker 0 mode inv (-2147483648) 2147483647 A c l I hC2 hc (by omega) (by omega) hn ho))
def zdD (p0 p1 p2 p4 bad EU:Int) (p5:Bool) (A:Option Addr) (c NU:Nat) (x:List Int) (U:List S38) (w:World):Prop :=
 Calls Tryz.prog 14 #[.slice A x.length c,.agg #[.int .i64 p0,.int .i64 p1,.int .i64 p2,.int .i64 0,.int .i64 p4,.bool p5]] w fun e w'=>∃A' c' As ms cs,e=.returned (.tuple #[.agg #[.slice A' NU c',.int .i64 EU,.bool false,.slice As ms cs],.int .i64 bad])∧Kd.R k38 38 w' w.heap.size (fun _=>True) (.slice A' NU c') U∧Below w.heap.size w w'
theorem zew {p0 p1 p2 p4 bad:Int} {p5:Bool} {A:Option Addr} {c:Nat} {x:List Int} {w:World} (h:Calls Tryz.prog 14 #[.slice A x.length c,.agg #[.int .i64 p0,.int .i64 p1,.int .i64 p2,.int .i64 0,.int .i64 p4,.bool p5]] w fun e w'=>e=.returned (.tuple #[.agg #[.slice none 0 0,.int .i64 0,.bool false,.slice none 0 0],.int .i64 bad])∧Below w.heap.size w w'):zdD p0 p1 p2 p4 bad 0 p5 A c 0 x [] w :=
 h.mono fun e w' he=>⟨none,0,none,0,0,he.1,Kd.R_nil _ _ _ _ _,he.2⟩
theorem zdZ {g:Nat} (h:g≤5):wrap64 (2*2^min ((g:Nat):Int).toNat 64)=((2*2^g:Nat):Int):=by
 have h1:g=0∨g=1∨g=2∨g=3∨g=4∨g=5:=by omega
 rcases h1 with rfl | rfl | rfl | rfl | rfl | rfl <;> decide +kernel
theorem zjt (p0 p1 p2 p4:Int) (p5:Bool) (A:Option Addr) (c:Nat) (x:List Int) (hc:x.length≤c) :
  (∃bad,bad≠0∧∀w:World,Kd.C (Kd.int .i64) w A x.length x→zdD p0 p1 p2 p4 bad 0 p5 A c 0 x [] w) ∨
  ∃fm g ker mode:Nat,p0=fm∧p1=g∧p2=ker∧p4=mode∧p5=false∧fm < 2∧(2≤g∧g≤5)∧ker < 3∧mode < 3∧x.length=2*2^g∧(z8 x).any (zaH (-(4*2^bN fm)) (4*2^bN fm - 1))=false:=by
 rcases zis p0 p1 p2 p4 p5 with h | ⟨h0,h1,h2,h4⟩
 ·exact .inl ⟨4,by decide,fun w hr=>zew (ze5 p0 p1 p2 p4 4 p5 A x.length c w (by decide) fun ga gq g2 g3 W e1 e2 e3 e4=>zeL ga 80 _ _ 4 (by decide) W e1 fun W' hb=>znj p0 p1 p2 0 p4 4 p5 gq (by decide) W' (zd e2 hb) fun V=>plan_Check.calls _ _ _ _ _ _ _ V h)⟩
 ·obtain ⟨fm,rfl⟩:∃n:Nat,p0=n:=⟨p0.toNat,by omega⟩
  obtain ⟨g,rfl⟩:∃n:Nat,p1=n:=⟨p1.toNat,by omega⟩
  obtain ⟨ker,rfl⟩:∃n:Nat,p2=n:=⟨p2.toNat,by omega⟩
  obtain ⟨mode,rfl⟩:∃n:Nat,p4=n:=⟨p4.toNat,by omega⟩
  have hck:=zd6 (fm:=fm) (g:=g) (ker:=ker) (mode:=mode) p5 (by omega) (by omega) (by omega) (by omega) (by omega)
  by_cases h6:g=6
  ·exact .inl ⟨4,by decide,fun w hr=>zew (ze5 fm g ker mode 4 p5 A x.length c w (by decide) fun ga gq g2 g3 W e1 e2 e3 e4=>zeL ga 80 _ _ 4 (by decide) W e1 fun W' hb=>zmz fm g ker 0 mode 4 p5 gq (by omega) W' (zd e2 hb) fun V=>plan_Check.calls _ _ _ _ _ _ _ V hck)⟩
  ·by_cases h5:p5=true
   ·exact .inl ⟨4,by decide,fun w hr=>zew (ze5 fm g ker mode 4 p5 A x.length c w (by decide) fun ga gq g2 g3 W e1 e2 e3 e4=>zeL ga 80 _ _ 4 (by decide) W e1 fun W' hb=>zmA fm g ker 0 mode 4 p5 gq (by omega) h5 W' (zd e2 hb) fun V=>plan_Check.calls _ _ _ _ _ _ _ V hck)⟩
   ·have h5:p5=false:=by simpa using h5
    have hy:=fun (gq:Nat) (W':World) (e2)=>zgh fm g ker 0 mode 4 p5 gq (by omega) h5 W' e2 fun V=>plan_Check.calls _ _ _ _ _ _ _ V hck
    by_cases hl:x.length=2*2^g
    ·have hpl:=zc2 (2^g) x hl
     have hg:2^g≤32:=Nat.le_trans (Nat.pow_le_pow_right (by decide) (show g≤5 by omega)) (by decide)
     cases ho:(z8 x).any (zaH (-(4*2^bN fm)) (4*2^bN fm - 1)) with
     | false=>exact .inr ⟨fm,g,ker,mode,rfl,rfl,rfl,rfl,h5,by omega,by omega,by omega,by omega,hl,ho⟩
     | true =>
      refine .inl ⟨2,by decide,fun w hr=>?_⟩
      refine ziE fm g ker mode 2 0 0 p5 A c 0 0 x (z8 x) [] [] w hr (fun _=>⟨rfl,rfl,rfl⟩) ?_ ?_ ?_ (fun h=>absurd h (by decide))
      ·intro ga gq g2 g3 W e1 e2 e3 e4
       exact zgC ga 80 _ _ W e1 (fun W' hb=>hy gq W' (zd e2 hb)) (fun W' hb=>ziD fm g ker 0 mode _ p5 A x.length c g2 g3 (by omega) (zdZ (by omega)) (by rw [hl]) W' (zd e4 hb) (zd e3 hb))
      ·intro W hC
       refine (real_pack.calls 200 A c x (z8 x) W hC hc (zkO hl (by omega))).mono ?_
       rintro e W' ⟨v,rfl,ho,hb⟩
       obtain ⟨A',c',rfl⟩:=Kd.R_slice ho
       exact ⟨A',c',rfl,ho,hb⟩
      ·intro W A1 c1 hC hc1
       refine (zm0 (mode:=mode) p5 (show fm < 2 by omega) (by omega) (by omega) (show ker < 3 by omega) (by omega) A1 c1 (z8 x) W hC hc1 hpl ho).mono ?_
       rintro e W' ⟨rfl,hb⟩
       exact ⟨none,0,none,0,0,rfl,Kd.R_nil _ _ _ _ _,hb⟩
    ·exact .inl ⟨3,by decide,fun w hr=>zew (ze5 fm g ker mode 3 p5 A x.length c w (by decide) fun ga gq g2 g3 W e1 e2 e3 e4=>zki ga 80 _ _ 3 (by decide) W e1 (fun W' hb=>hy gq W' (zd e2 hb)) (fun W' hb=>znk fm g ker 0 mode _ p5 A x.length c g2 g3 (by omega) (zdZ (by omega)) (by omega) W' (zd e4 hb) (zd e3 hb)))⟩
theorem znN {fm:Nat} (hf:fm < 2):∃b:Int,sat_Bits.f fm=some (b,0)∧wrap64 (b - 2)=(bN fm:Nat):=by
 have h:fm=0∨fm=1:=by omega
 rcases h with rfl | rfl
 ·exact ⟨15,by decide +kernel,by decide +kernel⟩
 ·exact ⟨31,by decide +kernel,by decide +kernel⟩
theorem zgs (wl x:List S38) (bits m:Nat) (mode:Int):(zb1 wl bits m mode x).length=m+1:=by simp [zb1,zaf,zb9]
theorem zlX {fm g ker mode:Nat} (hf:fm < 2) (h2:2≤g) (h5:g≤5) (hk:ker < 3) (hm:mode < 3) (A:Option Addr) (c:Nat) (x:List Int) (hc:x.length≤c) (hl:x.length=2*2^g) (ho:(z8 x).any (zaH (-(4*2^bN fm)) (4*2^bN fm - 1))=false)
  (hY:(zaU fm g ker false mode (z8 x)).length=2^g) (hM:zak (184*2^bN fm) (zaU fm g ker false mode (z8 x))) (w:World) (hr:Kd.C (Kd.int .i64) w A x.length x) :
  zdD fm g ker mode 0 (1+((g+1:Nat):Int)) false A c (2^g+1) x (zb1 (twL fm (g+1)) (bN fm) (2^g) mode (zaU fm g ker false mode (z8 x))) w:=by
 have hpl:=zc2 (2^g) x hl
 have hg:2^g≤32:=Nat.le_trans (Nat.pow_le_pow_right (by decide) h5) (by decide)
 have hg0:0 < 2^g:=Nat.two_pow_pos g
 have hck:=zd6 (fm:=fm) (g:=g) (ker:=ker) (mode:=mode) false hf h2 (by omega) hk hm
 refine ziE fm g ker mode 0 (1+(g:Int)) _ false A c (2^g) (2^g+1) x (z8 x) (zaU fm g ker false mode (z8 x)) _ w hr (fun h=>absurd rfl h) ?_ ?_ ?_ (fun _=>?_)
 ·intro ga gq g2 g3 W e1 e2 e3 e4
  exact zgC ga 80 _ _ W e1 (fun W' hb=>zgh fm g ker 0 mode 4 false gq (by omega) rfl W' (zd e2 hb) fun V=>plan_Check.calls _ _ _ _ _ _ _ V hck) (fun W' hb=>ziD fm g ker 0 mode _ false A x.length c g2 g3 (by omega) (zdZ (by omega)) (by rw [hl]) W' (zd e4 hb) (zd e3 hb))
 ·intro W hC
  refine (real_pack.calls 200 A c x (z8 x) W hC hc (zkO hl (by omega))).mono ?_
  rintro e W' ⟨v,rfl,ho,hb⟩
  obtain ⟨A',c',rfl⟩:=Kd.R_slice ho
  exact ⟨A',c',rfl,ho,hb⟩
 ·intro W A1 c1 hC hc1
  exact ziP false hf h2 (by omega) hk hm A1 c1 (z8 x) W hC hc1 hpl ho
 ·intro W A1 As c1 ms cs hC hc1
  generalize hy:zaU fm g ker false mode (z8 x)=y at *
  obtain ⟨b,hb1,hb2⟩:=znN hf
  obtain ⟨t1,t2,t3⟩:=za7 (fm:=fm) (g:=g+1) hf (by omega) (by omega)
  have hp:2^(g+1)=2*2^g:=by rw [Nat.pow_succ];omega
  have hU:(zb1 (twL fm (g+1)) (bN fm) (2^g) mode y).length=2^g+1:=zgs ..
  have h29:bN fm≤29:=by unfold bN;split <;> decide
  obtain ⟨q0,q1⟩:=zfA h29
  have h:=zhD fm g ker mode b ((g+1:Nat):Int) (bN fm:Nat) (1+(g:Int)) (1+((g+1:Nat):Int)) false false A1 As c1 ms cs y (twL fm (g+1)) (zb1 (twL fm (g+1)) (bN fm) (2^g) mode y) W (by rw [hY];exact hC) (by omega) (by omega) (by omega) (by omega)
   (by rw [zv (by omega) (by omega)];omega) (by rw [zv (by omega) (by omega)];omega) hb1 hb2 t1 (by rw [hU,hY]) ?_
  ·rw [hY] at h
   exact h
  ·intro k Aw cw V hk1
   have hk2:k < 2^g+1:=by omega
   have a1:k % y.length < y.length:=Nat.mod_lt _ (by omega)
   have a2:(y.length - k) % y.length < y.length:=Nat.mod_lt _ (by omega)
   have hv:inB 536870912 ((twL fm (g+1)).getD k z38)=true:=by
    have:=zaj (t3 ((twL fm (g+1)).getD k z38) (by rw [List.getD_eq_getElem?_getD,List.getElem?_eq_getElem (show k < (twL fm (g+1)).length by omega)];exact List.getElem_mem _)).2
    exact za3 (by omega)
   refine zmZ _ _ _ (bN fm) fm g ker 0 mode false Aw _ cw h29 (by omega) (by omega) (ziR q1 hM _ a1) (ziR q1 hM _ a2) hv _ ?_ V
   rw [zmY _ _ _ _ _ _ hk2,← hY,zlW _ y (bN fm) k (by omega) _ _ _ rfl rfl rfl]
theorem zh7:∀(m:Nat) (x:List Int),x.length=2*m→∀a,a∈x→∃z,z∈z8 x∧(a=z.f0∨a=z.f1)
 | 0,[],_=>by simp
 | m+1,a :: b :: r,h=>by
  intro c hc
  have ih:=zh7 m r (by simp at h;omega)
  simp only [List.mem_cons] at hc
  rcases hc with rfl | rfl | hc
  ·exact ⟨⟨c,b⟩,List.mem_cons_self ..,.inl rfl⟩
  ·exact ⟨⟨a,c⟩,List.mem_cons_self ..,.inr rfl⟩
  ·obtain ⟨z,hz,h2⟩:=ih c hc
   exact ⟨z,List.mem_cons_of_mem _ hz,h2⟩
 | 0,_ :: _,h=>by simp at h
 | m+1,[],h=>by simp at h
 | m+1,[_],h=>by simp at h;omega
theorem zl9 {g ker:Nat} (h2:2≤g) (h6:g≤6) (hk:ker < 3):0≤zaW g ker∧zaW g ker≤100000:=by
 have h:([2,3,4,5,6].all fun g=>[0,1,2].all fun ker=>decide (0≤zaW g ker∧zaW g ker≤100000))=true:=by decide +kernel
 exact of_decide_eq_true (List.all_eq_true.1 (List.all_eq_true.1 h g (zb6 h2 h6)) ker (zgp hk))
theorem pw5 {g:Nat} (h2:2≤g) (h5:g≤5):∃P:Int,0 < P∧P≤512∧(2:Int)^min ((1+((g+1:Nat):Int))+2).toNat 64=P∧(2:Int)^min ((1+((g+1:Nat):Int))+8).toNat 64=64*P:=by
 have h:g=2∨g=3∨g=4∨g=5:=by omega
 rcases h with rfl | rfl | rfl | rfl
 ·exact ⟨64,by decide,by decide,by decide,by decide⟩
 ·exact ⟨128,by decide,by decide,by decide,by decide⟩
 ·exact ⟨256,by decide,by decide,by decide,by decide⟩
 ·exact ⟨512,by decide,by decide,by decide,by decide⟩
theorem zma {P L a b EU:Int} (p0:0 < P) (p1:P≤512) (he:(2:Int)^min (EU+8).toNat 64=64*P) (l0:0≤L) (l1:L≤400000) (a0:-4294967296≤a) (a1:a≤4294967296) (b0:-4294967296≤b) (b1:b≤4294967296) (u0:64*(a - b)≤L) (u1:-L≤64*(a - b)):ApB (L*P) (apV a b EU):=by
 have n1:=zam (a:=a) (b:=64*P) (m:=4294967296) (n:=32768) (by decide) a1 a0 (by omega) (by omega) (by decide)
 have n2:=zam (a:=b) (b:=64*P) (m:=4294967296) (n:=32768) (by decide) b1 b0 (by omega) (by omega) (by decide)
 have n3:=Int.mul_le_mul_of_nonneg_right u0 (Int.le_of_lt p0)
 have n4:=Int.mul_le_mul_of_nonneg_right u1 (Int.le_of_lt p0)
 have e:64*(a - b)*P=a*(64*P) - b*(64*P):=by grind
 rw [Int.neg_mul] at n4
 rw [e] at n3 n4
 unfold ApB apV
 rw [he]
 generalize a*(64*P)=x at *
 generalize b*(64*P)=y at *
 generalize L*P=z at *
 rw [zv (x:=x) (by omega) (by omega),zv (x:=y) (by omega) (by omega),zv (x:=x - y) (by omega) (by omega),zv (x:=-(x - y)) (by omega) (by omega)]
 omega
theorem znO (x:List S38) (k:Nat):zk x (k:Int)=x.getD k z38:=rfl
theorem zkP {x:List S38} {n k:Nat} (h:x.length=n) (hk:k < n):x.getD k z38∈x:=by
 rw [List.getD_eq_getElem?_getD,List.getElem?_eq_getElem (by omega)]
 exact List.getElem_mem _
theorem zh8 (A:Option Addr) (c:Nat) (l0:List Int) (p0 p1 p2 p3 p4:Int) (p5:Bool) (w:World) (hr:Kd.C (Kd.int .i64) w A l0.length l0) (hc:l0.length≤c) :
  Calls Tryz.prog 5 #[.slice A l0.length c,.agg #[.int .i64 p0,.int .i64 p1,.int .i64 p2,.int .i64 p3,.int .i64 p4,.bool p5]] w fun e w'=>e=.returned (.bool true)∧Below w.heap.size w w':=by
 obtain ⟨m,hm⟩:∃m,m=min l0.length 140:=⟨_,rfl⟩
 obtain ⟨l,hl⟩:∃l,l=l0.take m:=⟨_,rfl⟩
 have hml:l.length=m:=by rw [hl,List.length_take];omega
 have hlc:l.length≤c:=by omega
 rcases zjt p0 p1 p2 p4 p5 A c l hlc with ⟨bad,hb,hno⟩ | ⟨fm,g,ker,mode,rfl,rfl,rfl,rfl,rfl,hf,⟨h2,h5⟩,hk,hmo,hlen,hodd⟩
 ·refine zmy A c l0 l m p0 p1 p2 p3 p4 bad 0 p5 0 [] w hr hc hm hl hb rfl fun W hC=>?_
  have h:=hno W hC
  unfold zdD at h
  rw [hml] at h
  exact h
 ·have h29:bN fm≤29:=by unfold bN;split <;> decide
  obtain ⟨q0,q1⟩:=zfA h29
  have hz:=zh5 hodd
  have hin:∀a,a∈l→-(4*2^bN fm)≤a∧a≤4*2^bN fm - 1:=by
   intro a ha
   obtain ⟨z,hz1,h | h⟩:=zh7 (2^g) l hlen a ha <;> (have:=hz z hz1;omega)
  have g2:2≤g+1:=by omega
  have g6:g≤6:=by omega
  have g7:g+1≤6:=by omega
  obtain ⟨b1,b2⟩:=zl9 (ker:=ker) h2 g6 hk
  obtain ⟨c1,c2⟩:=zl9 (ker:=ker) g2 g7 hk
  have hp:2^(g+1)=2*2^g:=by rw [Nat.pow_succ];omega
  have hg:2^g≤32:=Nat.le_trans (Nat.pow_le_pow_right (by decide) h5) (by decide)
  have hg0:0 < 2^g:=Nat.two_pow_pos g
  have hm2:m=2^(g+1):=by omega
  have e2:2^g+1≤m:=by rw [hm2,hp];clear hp hm2;omega
  have e3:(0:Int)≤1+((g+1:Nat):Int):=by clear q0 q1 hp hm2 e2 hg hg0;omega
  have e4:1+((g+1:Nat):Int)≤40:=by clear q0 q1 hp hm2 e2 hg hg0;omega
  obtain ⟨P,d1,d2,d3,d4⟩:=pw5 h2 h5
  have hq:wrap64 ((g:Int)+1)=((g+1:Nat):Int):=by rw [zv (by omega) (by omega)];omega
  have hrl:(zac l).length=2^(g+1):=by rw [hp,← hlen];simp [zac]
  have hro:(zac l).any (zaH (-(4*2^bN fm)) (4*2^bN fm - 1))=false:=by
   rw [List.any_eq_false]
   intro z hz1
   obtain ⟨a,ha,rfl⟩:=List.mem_map.1 hz1
   have:=hin a ha
   unfold zaH
   simp only [decide_eq_true_eq]
   omega
  have hck:=zd6 (fm:=fm) (g:=g) (ker:=ker) (mode:=mode) false hf h2 g6 hk hmo
  have e1:wrap64 (wrap64 ((m:Int) / 2)+1)=((2^g+1:Nat):Int):=by
   rw [zv (x:=(m:Int) / 2) (by omega) (by omega),zv (by omega) (by omega)]
   omega
  have r0:0≤reL g ker:=by unfold reL;omega
  have r1:reL g ker≤400000:=by unfold reL;omega
  have e5:wrap64 (wrap64 ((zaW g ker+256)*P)+wrap64 (zaW (g+1) ker*P))=reL g ker*P:=by
   have n1:=zam (a:=zaW g ker+256) (b:=P) (m:=200000) (n:=512) (by decide) (by omega) (by omega) d2 (by omega) (by decide)
   have n2:=zam (a:=zaW (g+1) ker) (b:=P) (m:=200000) (n:=512) (by decide) (by omega) (by omega) d2 (by omega) (by decide)
   unfold reL
   rw [Int.add_mul (zaW g ker+256),zv (x:=(zaW g ker+256)*P) (by omega) (by omega),zv (x:=zaW (g+1) ker*P) (by omega) (by omega),zv (by omega) (by omega)]
  have e6:wrap64 (zaW g ker+256)=zaW g ker+256:=zv (by omega) (by omega)
  have e7:184*(2:Int)^bN fm+400≤64*4294967296:=by omega
  have e8:184*(2:Int)^bN fm≤64*4294967296:=by omega
  have hin2:∀a,a∈l→-(4*2^bN fm)≤a∧a≤4*2^bN fm:=fun a ha=>by have:=hin a ha;omega
  obtain ⟨a1,a2,a3,a4,a5,a6⟩:=znC (ker:=ker) mode hf h2 h5 hk hlen hin2
  have hUin:=a5.in e7
  have hYin:=a4.in e8
  refine zlq A c l0 l m fm g ker p3 mode 0 (1+((g+1:Nat):Int)) (zaW g ker+256) (zaW (g+1) ker) (reL g ker*P) false (2^g+1) (zb1 (twL fm (g+1)) (bN fm) (2^g) mode (zaU fm g ker false mode (z8 l))) (zaU fm (g+1) ker false mode (zac l)) (zaY ker g) (zaY ker (g+1)) w hr hc hm hl rfl e1 (zgs ..) (a3.trans hm2.symm) e2 e3 e4 (by rw [d3];exact e5) ?_ ?_ ?_ ?_ ?_ ?_ ?_
  ·intro k hk1
   obtain ⟨⟨f1,f2⟩,f3,f4⟩:=a6 k hk1
   rw [znO,znO]
   obtain ⟨x1,x2,x3,x4⟩:=zaj (hUin _ (zkP (zgs ..) hk1))
   obtain ⟨y1,y2,y3,y4⟩:=zaj (hYin _ (zkP a3 (Nat.lt_of_lt_of_le hk1 (hm2 ▸ e2))))
   exact ⟨zma d1 d2 d4 r0 r1 x3 x1 y3 y1 f1 f2,zma d1 d2 d4 r0 r1 x4 x2 y4 y2 f3 f4⟩
  ·intro W hC
   have h:=zlX hf h2 h5 hk hmo A c l hlc hlen hodd a1 a2 W hC
   unfold zdD at h
   rw [hml] at h
   exact h
  ·intro W A1 c1 hC h1
   rw [hm2] at hC h1 ⊢
   have h:=ziP false hf g2 g7 hk hmo A1 c1 (zac l) W (by rw [hrl];exact hC) (by rw [hrl];exact h1) hrl hro
   unfold ze9 zay at h
   rw [hrl] at h
   rw [hq]
   exact h
  ·intro W
   exact zgI false hf h2 g6 hk hmo W
  ·intro W A1 c1 hC h1
   exact zls fm g ker 0 mode (zaW g ker) _ false A1 _ c1 W e6 (fun V q hq1=>zgh fm g ker 0 mode 4 false q (Int.ofNat_lt.2 (Nat.lt_succ_of_le h5)) rfl V hq1 fun V=>plan_Check.calls _ _ _ _ _ _ _ V hck) (fun V hb=>zkM false hf h2 g6 hk hmo V A1 c1 (Kd.C_below hC hb) h1)
  ·intro W
   rw [hq]
   exact zgI false hf g2 g7 hk hmo W
  ·intro W A1 c1 hC h1
   rw [hq]
   exact zkM false hf g2 g7 hk hmo W A1 c1 hC h1
end Go.Proofs.YteieahbadclppaaGreat.P

set_option linter.unusedVariables false
namespace Go.Proofs.YteieahbadclppaaGreat.P
open Go.RowKit Go.Proofs.YteieahbadclppaaGreatW.PrintWords Go.Proofs.YteieahbadclppaaGreatW.PrintLast Go.Proofs.YteieahbadclppaaGreatW.PrintMore
set_option linter.unusedVariables false
set_option linter.unusedSimpArgs false
def headroomtop_TopReal.f (l0:List Int) (a1_0:Int) (a1_1:Int) (a1_2:Int) (a1_3:Int) (a1_4:Int) (a1_5:Bool):Option Bool:=some true
theorem headroomtop_TopReal.calls (A0:Option Addr) (c0:Nat) (l0:List Int) (a1_0:Int) (a1_1:Int) (a1_2:Int) (a1_3:Int) (a1_4:Int) (a1_5:Bool) (r:Bool) (w:World) (hr0:Kd.C (Kd.int .i64) w A0 l0.length l0) (hc0:l0.length≤c0) (h:headroomtop_TopReal.f l0 a1_0 a1_1 a1_2 a1_3 a1_4 a1_5=some r) :
  Calls Tryz.prog 5 #[.slice A0 l0.length c0,.agg #[.int .i64 a1_0,.int .i64 a1_1,.int .i64 a1_2,.int .i64 a1_3,.int .i64 a1_4,.bool a1_5]] w fun e w'=>e=.returned (.bool r)∧Below w.heap.size w w':=by
 obtain rfl:=Option.some.inj h
 exact zh8 A0 c0 l0 a1_0 a1_1 a1_2 a1_3 a1_4 a1_5 w hr0 hc0
end Go.Proofs.YteieahbadclppaaGreat.P

set_option linter.unusedVariables false
namespace Go.Proofs.YteieahbadclppaaGreat.Pure
open Go.RowKit Go.Proofs.YteieahbadclppaaGreat.P Go.Proofs.YteieahbadclppaaGreatW.PrintWords Go.Proofs.YteieahbadclppaaGreatW.PrintLast

theorem TopReal:∀(l0:List Int) (a1_0:Int) (a1_1:Int) (a1_2:Int) (a1_3:Int) (a1_4:Int) (a1_5:Bool),l0.length≤maxLen→l0.length*8≤140737488351232→(∀x∈l0,(Lit.int .i64 x).wf=true)→(Lit.int .i64 a1_0).wf=true→(Lit.int .i64 a1_1).wf=true→(Lit.int .i64 a1_2).wf=true→(Lit.int .i64 a1_3).wf=true→(Lit.int .i64 a1_4).wf=true→headroomtop_TopReal.f l0 a1_0 a1_1 a1_2 a1_3 a1_4 a1_5=some true:=fun _ _ _ _ _ _ _ _ _ _ _ _ _ _ _=>rfl

end Go.Proofs.YteieahbadclppaaGreat.Pure

