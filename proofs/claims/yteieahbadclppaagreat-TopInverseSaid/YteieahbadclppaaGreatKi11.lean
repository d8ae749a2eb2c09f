/- Part 11 of 18 of the proof: the texts that it reaches, one behind the other. No condition. -/
import Derived.Test.YteieahbadclppaaGreatKi10
import Derived.Deep.RegionLawGrows
import Derived.BigRegion
import Derived.RegionTactic
import Derived.WideKeyRuns
import Derived.Deep.RegionWith
import Derived.Outline
namespace Go.Proofs.YteieahbadclppaaGreat.P
open Go.RowKit Go.Shelf Go.Proofs.YteieahbadclppaaGreatW.PrintWords Go.Proofs.YteieahbadclppaaGreatW.PrintLast Go.Proofs.YteieahbadclppaaGreatW.PrintMore
set_option linter.unusedVariables false
set_option linter.unusedSimpArgs false
theorem zhL {n:Nat} (h:n≤64):wrap64 (n:Int)=n:=zw (by omega) (by omega)
theorem lt2 {k n:Nat} (h:k < n):k < 2*n:=by omega
theorem zhM (q:Nat):(Value.int .i64 ((q:Int)+1))=.int .i64 ((q+1:Nat):Int):=rfl
theorem zko (Y:List S38) (fr h j:Nat) (O:Nat→S38) (q:Nat):zcZ Y fr h j O (q+1)=(zcZ Y fr h j O q).set (fr+(q*h+j)) (O q):=rfl
theorem znU {k n:Nat} (h:k < n):(k:Int) < 2*(n:Int):=by omega
theorem znV {k n:Nat} (h:k < n):((n+k:Nat):Int) < 2*(n:Int):=by omega
theorem znD {hN xl n byN:Nat} (h1:1≤hN) (h16:hN≤16) (hxl:xl=4*hN) (hby:n / (4*hN)=byN) (hb:byN≤64):(n:Int).tdiv xl=byN∧wrap64 (byN:Int)=byN∧((xl:Int)=0)=False∧(xl=0)=False∧wrap64 ((xl:Int) / 4)=hN:=by
 refine ⟨?_,zw (by omega) (by omega),eq_false (by omega),eq_false (by omega),?_⟩
 ·rw [hxl,Int.tdiv_eq_ediv_of_nonneg (by omega),← Int.natCast_ediv,hby]
 ·rw [zw (by omega) (by omega)];omega
theorem zjd {hN k n byN:Nat} (h1:1≤hN) (h16:hN≤16) (hk:k < hN) (hn0:0 < n) (hn:n≤64) (hd:byN*(4*hN)≤n) :
  wrap64 ((k:Int)+1)=(k:Int)+1∧wrap64 ((hN:Int)+k)=((hN+k:Nat):Int)∧(0:Int)≤((hN+k:Nat):Int)∧((hN+k:Nat):Int) < ((2*hN:Nat):Int)∧wrap64 ((k:Int)*byN)=((k*byN:Nat):Int)∧wrap64 (3*(k:Int))=3*(k:Int)∧wrap64 (3*(k:Int)*byN)=((3*k*byN:Nat):Int) ∧
  ((0:Int)≤((k*byN:Nat):Int)∧((k*byN:Nat):Int) < n)∧((0:Int)≤((3*k*byN:Nat):Int)∧((3*k*byN:Nat):Int) < n):=by
 have hkb:3*k*byN < n:=by
  rcases Nat.eq_zero_or_pos byN with e | e
  ·rw [e];exact hn0
  ·have h1:3*k*byN < 4*hN*byN:=Nat.mul_lt_mul_of_pos_right (by omega) e
   rw [Nat.mul_comm] at hd
   omega
 have hkb1:k*byN < n:=by
  have h1:k*byN≤3*k*byN:=Nat.mul_le_mul_right _ (by omega)
  omega
 refine ⟨zw (by omega) (by omega),?_,by omega,by omega,?_,zw (by omega) (by omega),?_,⟨by omega,by omega⟩,⟨by omega,by omega⟩⟩
 ·rw [zw (by omega) (by omega)];omega
 ·rw [← Int.natCast_mul];exact zhL (by omega)
 ·rw [show (3*(k:Int)*byN)=((3*k*byN:Nat):Int) by rw [Int.natCast_mul,Int.natCast_mul];rfl];exact zhL (by omega)
theorem znE {hN k xl q:Nat} (h16:hN≤16) (hk:k < hN) (hxl:xl=4*hN) (hq:q < 4) :
  wrap64 ((q:Int)*xl)=(q:Int)*xl∧wrap64 (((q:Int)*xl).tdiv 4)=((q*hN:Nat):Int)∧wrap64 (((q*hN:Nat):Int)+k)=((q*hN+k:Nat):Int)∧0≤((q*hN+k:Nat):Int)∧((q*hN+k:Nat):Int) < xl∧0+(q*hN+k) < xl∧((q*hN+k:Nat):Int).toNat=q*hN+k:=by
 have qh:q*hN≤3*hN:=Nat.mul_le_mul_right _ (by omega)
 have qe:(q:Int)*xl=4*((q*hN:Nat):Int):=by rw [hxl,Int.natCast_mul,Int.natCast_mul];show (q:Int)*(4*↑hN)=_;grind
 refine ⟨zw (by omega) (by omega),?_,?_,by omega,by omega,by omega,by omega⟩
 ·rw [qe,Int.tdiv_eq_ediv_of_nonneg (by omega),zw (by omega) (by omega)];omega
 ·rw [zw (by omega) (by omega)];omega
theorem zgb {inv:Bool} {x:S38} (h:inB 536870912 x=true):inB 536870912 (zH inv x)=true:=by
 obtain ⟨d0,d1,d2,d3⟩:=zan h
 unfold zH
 split
 ·have e:wrap64 (-x.f1)=-x.f1:=zw (by omega) (by omega)
  exact zbe (by dsimp only;rw [e];omega)
 ·exact h
set_option maxRecDepth 100000 in
set_option maxHeartbeats 8000000 in
theorem zlq (Aw:Option Addr) (cw:Nat) (wl:List S38) (bits mode:Int) (inv:Bool) (l:Nat) (hl6:l≤4) (hcw:wl.length≤cw) (hwl:wl.length≤64) (hwl0:0 < wl.length) (hw:∀x,x∈wl→inB 536870912 x=true) (hb0:0≤bits) (hb1:bits≤29) (m0:0≤mode) (m1:mode < 3)
  (h0:zdg Aw cw wl bits mode inv l) (h1:zdg Aw cw wl bits mode inv (l+1)):zdg Aw cw wl bits mode inv (l+2):=by
 intro x Ax cx w hl hok hC hc hwC
 have hmx:Tryz.prog.follows .mixedOrders=true:=by kernel_rfl
 have HB0:=hhd (Below.refl w.heap.size w)
 have HX:=hhd hC
 have HW:=hhd hwC
 have HCX:=hhd hc
 have HCW:=hhd hcw
 have H0:=hhd h0
 have H1:=hhd h1
 have HWI:=hhd hw
 have HS:=hhd (And.intro hb0 (And.intro hb1 (And.intro m0 m1)))
 obtain ⟨k1,k2,k3,k4,k5,k6⟩:=hok
 have K1:=hhd k1
 have K2:=hhd k2
 have K3:=hhd k3
 have K4:=hhd k4
 have K5:=hhd k5
 have K6:=hhd k6
 have hp1:2^(l+1)=2*2^l:=by rw [Nat.pow_succ];omega
 have hp2:2^(l+2)=4*2^l:=by rw [Nat.pow_succ,Nat.pow_succ];omega
 have hN1:1≤2^l:=Nat.one_le_two_pow
 have hN16:2^l≤16:=Nat.le_trans (Nat.pow_le_pow_right (by decide) hl6) (by decide)
 have HSP:=hhd (show zap wl bits mode inv (l+2) x=zbw (zap wl bits mode inv (l+1) (zB x 0 2 (2^(l+1)))) (zap wl bits mode inv l (zB x 1 4 (2^l))) (zap wl bits mode inv l (zB x 3 4 (2^l))) wl (wl.length / 2^(l+2)) bits mode inv (2^l) (2^l) from rfl)
 have HLE:=hhd (zbE wl bits mode inv (l+1) (zB x 0 2 (2^(l+1))) (zR x 0 2 _))
 have HLF:=hhd (zbE wl bits mode inv l (zB x 1 4 (2^l)) (zR x 1 4 _))
 have HLG:=hhd (zbE wl bits mode inv l (zB x 3 4 (2^l)) (zR x 3 4 _))
 have HPP:=hhd (And.intro hp1 hp2)
 have HXL:=hhd hl
 rw [hp2] at hl
 rw [hp2] at HSP
 rw [hp1] at K1 K4 HSP HLE
 generalize hE:zap wl bits mode inv (l+1) (zB x 0 2 (2*2^l))=E at *
 generalize hF:zap wl bits mode inv l (zB x 1 4 (2^l))=F at *
 generalize hG:zap wl bits mode inv l (zB x 3 4 (2^l))=G at *
 have HEE:=hhd hE
 have HFF:=hhd hF
 have HGG:=hhd hG
 have HLL:=hhd hl
 have HWL:=hhd (And.intro hwl0 hwl)
 have HNN:=hhd (And.intro hN1 hN16)
 have HPL:=hhd (show (2:Nat)^l=2^l from rfl)
 have e1:((x.length:Int) == 1)=false:=by rw [beq_eq_false_iff_ne];omega
 have e2:((x.length:Int) == 2)=false:=by rw [beq_eq_false_iff_ne];omega
 have e3:(x.length=1)=False:=eq_false (by omega)
 have e4:(x.length=2)=False:=eq_false (by omega)
 have ZB:=hhd (show ((x.length:Nat):Int).toNat*16≤281474976710656 from by rw [Int.toNat_natCast];omega)
 have ZC:=hhd (show 0 < (List.replicate (((x.length:Nat):Int).toNat) z38).length from by rw [Int.toNat_natCast,List.length_replicate];omega)
 clear hE hF hG hl hC hwC hc hcw h0 h1 hw hb0 hb1 m0 m1 k1 k2 k3 k4 k5 k6 hwl hwl0 hp1 hp2
 go_enter Tryz.func48,Tryz.ntmps48
 go_wp2_with (first
  | ((with_reducible refine zg (N:=2) rfl ?_);refine ba_ 2 #[.slice Aw wl.length cw,.int .i64 bits,.int .i64 mode,.int .i64 (zaX inv)] 95 ?_;intro g2 hg W1 hbox hbl;have L2:=gf_ hg HB0.out;have B2_1:=hhd hbox;have HB_1:=hhd (zb HB0.out hbl);have Cx_1:=hhd (Kd.C_below HX.out HB_1.out);have Cw_1:=hhd (Kd.C_below HW.out HB_1.out);obtain ⟨k2_0_1,k2_1_1,k2_2_1,k2_3_1⟩:=bk4 B2_1.out;clear hbox hbl hg))
 clear e1 e2 e3 e4
 have m0:=(zc B2_1.out 0).trans rfl
 have m1:=(zc B2_1.out 1).trans rfl
 have m2:=(zc B2_1.out 2).trans rfl
 have m3:=(zc B2_1.out 3).trans rfl
 refine zae (S:=fun w'=>Below W1.heap.size W1 w') (ds:=[4]) (fl 6 0) hmx rfl rfl (Below.refl _ _).drew (fun hHeld=>?_)
 refine px_ 1 (some 80) (fl 6 2) rfl rfl ?_
 refine tx_ 0 (some 79) (fl 6 3) rfl rfl hHeld (by rintro w' hs;obtain ⟨j_m0,j_m1,j_m2,j_m3⟩:=bg4 hs m0 m1 m2 m3;go_simp;with_reducible rfl) ?_
 refine zA (i:=2) (N:=some 81) (fl 6 7) rfl rfl (by kernel_rfl) (by decide) (fun K hK=>?_)
 refine zN Tryz.func72 (by kernel_rfl) rfl #[.slice Ax x.length cx,.int .i64 0,.int .i64 2] (by rfl) rfl rfl (by go_simp) ?_
 refine (zeJ Ax x.length cx 0 2 _).mono ?_
 rintro e Wa ⟨ga,gb,gc,rfl,ba,bb,bc,-,-,-,hbl⟩
 refine ⟨_,rfl,?_⟩
 refine hK.out _ _ (zb hHeld hbl) (fun hHeld2=>?_)
 have BA:=hhd ba
 have BB:=hhd bb
 have BC:=hhd bc
 clear ba bb bc
 clear hK K hHeld hbl
 have hHeld:=hHeld2
 clear hHeld2
 refine nx_ (some 81) ?_
 refine zA (i:=3) (N:=some 82) (fl 6 15) rfl rfl (by kernel_rfl) (by decide) (fun K hK=>?_)
 refine zN Tryz.func71 (by kernel_rfl) rfl #[.func (.func 103) #[] #[.pointer (some ⟨ga,0,none⟩),.pointer (some ⟨gb,0,none⟩),.pointer (some ⟨gc,0,none⟩)]] (by rfl) rfl rfl (by go_simp) ?_
 refine (zdP ga gb gc Ax cx x 0 2 (2*2^l) _ (Kd.C_below HX.out (zb HB_1.out hHeld)) (by have:=HLL.out;have:=HNN.out.2;omega) (by decide) (by decide) (by decide) (by have:=HNN.out.2;omega) (by have:=HLL.out;intro k hk;omega) (by have:=HLL.out;have:=HNN.out.1;omega) BA.out BB.out BC.out).mono ?_
 rintro e Wb ⟨v,rfl,hR,hbl⟩
 obtain ⟨Av,cv,hv,hcv,hCv⟩:=Kd.R_reads hR
 subst hv
 refine ⟨_,rfl,?_⟩
 refine hK.out _ _ (zb hHeld hbl) (fun hHeld2=>?_)
 have CV:=hhd hCv
 have HCV:=hhd hcv
 clear hR hCv hcv BA BB BC
 clear hK K hHeld hbl
 have hHeld:=hHeld2
 clear hHeld2
 refine nx_ (some 82) ?_
 refine zaf (i:=4) (N:=some 83) (fl 6 31) rfl rfl (by kernel_rfl) (by decide) (fun K hK=>?_)
 refine zN Tryz.func48 (by kernel_rfl) rfl #[.agg #[.slice Aw wl.length cw,.int .i64 bits,.int .i64 mode,.int .i64 (zaX inv)],.slice Av (zB x 0 2 (2*2^l)).length cv] (by rfl) rfl rfl (by go_simp) ?_
 refine (H1.out (zB x 0 2 (2*2^l)) Av cv _ ((zR x 0 2 _).trans HPP.out.1.symm) K1.out CV.out HCV.out (Kd.C_below HW.out (zb HB_1.out hHeld))).mono ?_
 rintro e W9 ⟨AE,cE,he,hcr,hCr,-,hbl⟩
 rw [HPP.out.1] at he hcr hCr
 subst he
 refine ⟨_,rfl,?_⟩
 refine hK.out _ _ ?_
 have HBq:=zb hHeld hbl
 have HB9:=hhd (zb HB_1.out HBq)
 have P9:=hhd (za B2_1.out HBq)
 rw [HEE.out] at hCr
 have CE:=hhd hCr
 clear hK K hHeld hbl hCr hcr HBq CV HCV
 refine nx_ (some 83) ?_
 refine px_ 5 (some 10) (fl 6 63) rfl rfl ?_
 refine zM (by kernel_rfl) ?_
 clear m0 m1 m2 m3
 go_wp2
 have m0:=(zc P9.out 0).trans rfl
 have m1:=(zc P9.out 1).trans rfl
 have m2:=(zc P9.out 2).trans rfl
 have m3:=(zc P9.out 3).trans rfl
 refine zae (S:=fun w'=>Below W9.heap.size W9 w') (ds:=[4]) (fl 6 0) hmx rfl rfl (Below.refl _ _).drew (fun hHeld=>?_)
 refine px_ 1 (some 85) (fl 6 2) rfl rfl ?_
 refine tx_ 0 (some 84) (fl 6 3) rfl rfl hHeld (by rintro w' hs;obtain ⟨j_m0,j_m1,j_m2,j_m3⟩:=bg4 hs m0 m1 m2 m3;go_simp;with_reducible rfl) ?_
 refine zA (i:=2) (N:=some 86) (fl 6 7) rfl rfl (by kernel_rfl) (by decide) (fun K hK=>?_)
 refine zN Tryz.func72 (by kernel_rfl) rfl #[.slice Ax x.length cx,.int .i64 1,.int .i64 4] (by rfl) rfl rfl (by go_simp) ?_
 refine (zeJ Ax x.length cx 1 4 _).mono ?_
 rintro e Wa ⟨ga,gb,gc,rfl,ba,bb,bc,-,-,-,hbl⟩
 refine ⟨_,rfl,?_⟩
 refine hK.out _ _ (zb hHeld hbl) (fun hHeld2=>?_)
 have BA:=hhd ba
 have BB:=hhd bb
 have BC:=hhd bc
 clear ba bb bc
 clear hK K hHeld hbl
 have hHeld:=hHeld2
 clear hHeld2
 refine nx_ (some 86) ?_
 refine zA (i:=3) (N:=some 87) (fl 6 15) rfl rfl (by kernel_rfl) (by decide) (fun K hK=>?_)
 refine zN Tryz.func71 (by kernel_rfl) rfl #[.func (.func 103) #[] #[.pointer (some ⟨ga,0,none⟩),.pointer (some ⟨gb,0,none⟩),.pointer (some ⟨gc,0,none⟩)]] (by rfl) rfl rfl (by go_simp) ?_
 refine (zdP ga gb gc Ax cx x 1 4 (2^l) _ (Kd.C_below HX.out (zb HB9.out hHeld)) (by have:=HLL.out;have:=HNN.out.2;omega) (by decide) (by decide) (by decide) (by have:=HNN.out.2;omega) (by have:=HLL.out;intro k hk;omega) (by have:=HLL.out;have:=HNN.out.1;omega) BA.out BB.out BC.out).mono ?_
 rintro e Wb ⟨v,rfl,hR,hbl⟩
 obtain ⟨Av,cv,hv,hcv,hCv⟩:=Kd.R_reads hR
 subst hv
 refine ⟨_,rfl,?_⟩
 refine hK.out _ _ (zb hHeld hbl) (fun hHeld2=>?_)
 have CV:=hhd hCv
 have HCV:=hhd hcv
 clear hR hCv hcv BA BB BC
 clear hK K hHeld hbl
 have hHeld:=hHeld2
 clear hHeld2
 refine nx_ (some 87) ?_
 refine zaf (i:=4) (N:=some 88) (fl 6 31) rfl rfl (by kernel_rfl) (by decide) (fun K hK=>?_)
 refine zN Tryz.func48 (by kernel_rfl) rfl #[.agg #[.slice Aw wl.length cw,.int .i64 bits,.int .i64 mode,.int .i64 (zaX inv)],.slice Av (zB x 1 4 (2^l)).length cv] (by rfl) rfl rfl (by go_simp) ?_
 refine (H0.out (zB x 1 4 (2^l)) Av cv _ (zR x 1 4 _) K2.out CV.out HCV.out (Kd.C_below HW.out (zb HB9.out hHeld))).mono ?_
 rintro e W10 ⟨AF,cF,he,hcr,hCr,-,hbl⟩
 subst he
 refine ⟨_,rfl,?_⟩
 refine hK.out _ _ ?_
 have HBq:=zb hHeld hbl
 have HB10:=hhd (zb HB9.out HBq)
 have P10:=hhd (za P9.out HBq)
 rw [HFF.out] at hCr
 have CF:=hhd hCr
 replace CE:=hhd (Kd.C_below CE.out HBq)
 clear hK K hHeld hbl hCr hcr HBq CV HCV
 refine nx_ (some 88) ?_
 refine px_ 5 (some 11) (fl 6 63) rfl rfl ?_
 refine zM (by kernel_rfl) ?_
 clear m0 m1 m2 m3
 go_wp2
 have m0:=(zc P10.out 0).trans rfl
 have m1:=(zc P10.out 1).trans rfl
 have m2:=(zc P10.out 2).trans rfl
 have m3:=(zc P10.out 3).trans rfl
 refine zae (S:=fun w'=>Below W10.heap.size W10 w') (ds:=[4]) (fl 6 0) hmx rfl rfl (Below.refl _ _).drew (fun hHeld=>?_)
 refine px_ 1 (some 90) (fl 6 2) rfl rfl ?_
 refine tx_ 0 (some 89) (fl 6 3) rfl rfl hHeld (by rintro w' hs;obtain ⟨j_m0,j_m1,j_m2,j_m3⟩:=bg4 hs m0 m1 m2 m3;go_simp;with_reducible rfl) ?_
 refine zA (i:=2) (N:=some 91) (fl 6 7) rfl rfl (by kernel_rfl) (by decide) (fun K hK=>?_)
 refine zN Tryz.func72 (by kernel_rfl) rfl #[.slice Ax x.length cx,.int .i64 3,.int .i64 4] (by rfl) rfl rfl (by go_simp) ?_
 refine (zeJ Ax x.length cx 3 4 _).mono ?_
 rintro e Wa ⟨ga,gb,gc,rfl,ba,bb,bc,-,-,-,hbl⟩
 refine ⟨_,rfl,?_⟩
 refine hK.out _ _ (zb hHeld hbl) (fun hHeld2=>?_)
 have BA:=hhd ba
 have BB:=hhd bb
 have BC:=hhd bc
 clear ba bb bc
 clear hK K hHeld hbl
 have hHeld:=hHeld2
 clear hHeld2
 refine nx_ (some 91) ?_
 refine zA (i:=3) (N:=some 92) (fl 6 15) rfl rfl (by kernel_rfl) (by decide) (fun K hK=>?_)
 refine zN Tryz.func71 (by kernel_rfl) rfl #[.func (.func 103) #[] #[.pointer (some ⟨ga,0,none⟩),.pointer (some ⟨gb,0,none⟩),.pointer (some ⟨gc,0,none⟩)]] (by rfl) rfl rfl (by go_simp) ?_
 refine (zdP ga gb gc Ax cx x 3 4 (2^l) _ (Kd.C_below HX.out (zb HB10.out hHeld)) (by have:=HLL.out;have:=HNN.out.2;omega) (by decide) (by decide) (by decide) (by have:=HNN.out.2;omega) (by have:=HLL.out;intro k hk;omega) (by have:=HLL.out;have:=HNN.out.1;omega) BA.out BB.out BC.out).mono ?_
 rintro e Wb ⟨v,rfl,hR,hbl⟩
 obtain ⟨Av,cv,hv,hcv,hCv⟩:=Kd.R_reads hR
 subst hv
 refine ⟨_,rfl,?_⟩
 refine hK.out _ _ (zb hHeld hbl) (fun hHeld2=>?_)
 have CV:=hhd hCv
 have HCV:=hhd hcv
 clear hR hCv hcv BA BB BC
 clear hK K hHeld hbl
 have hHeld:=hHeld2
 clear hHeld2
 refine nx_ (some 92) ?_
 refine zaf (i:=4) (N:=some 93) (fl 6 31) rfl rfl (by kernel_rfl) (by decide) (fun K hK=>?_)
 refine zN Tryz.func48 (by kernel_rfl) rfl #[.agg #[.slice Aw wl.length cw,.int .i64 bits,.int .i64 mode,.int .i64 (zaX inv)],.slice Av (zB x 3 4 (2^l)).length cv] (by rfl) rfl rfl (by go_simp) ?_
 refine (H0.out (zB x 3 4 (2^l)) Av cv _ (zR x 3 4 _) K3.out CV.out HCV.out (Kd.C_below HW.out (zb HB10.out hHeld))).mono ?_
 rintro e W11 ⟨AG,cG,he,hcr,hCr,-,hbl⟩
 subst he
 refine ⟨_,rfl,?_⟩
 refine hK.out _ _ ?_
 have HBq:=zb hHeld hbl
 have HB11:=hhd (zb HB10.out HBq)
 have P11:=hhd (za P10.out HBq)
 rw [HGG.out] at hCr
 have CG:=hhd hCr
 replace CE:=hhd (Kd.C_below CE.out HBq)
 replace CF:=hhd (Kd.C_below CF.out HBq)
 clear hK K hHeld hbl hCr hcr HBq CV HCV
 refine nx_ (some 93) ?_
 refine px_ 5 (some 12) (fl 6 63) rfl rfl ?_
 refine zM (by kernel_rfl) ?_
 clear m0 m1 m2 m3
 generalize hNe:2^l=hN at *
 have HCW11:=hhd (Kd.C_below HW.out HB11.out)
 obtain ⟨byN,hby⟩:∃b:Nat,wl.length / (4*hN)=b:=⟨_,rfl⟩
 have HBY:=hhd hby
 have HDM:=hhd (show byN*(4*hN)≤wl.length by rw [← HBY.out];exact Nat.div_mul_le_self _ _)
 have HB64:=hhd (show byN≤64 by rw [← HBY.out];exact Nat.le_trans (Nat.div_le_self wl.length (4*hN)) HWL.out.2)
 obtain ⟨z0,z1,z3,z4,z5⟩:=znD HNN.out.1 HNN.out.2 HLL.out HBY.out HB64.out
 clear hby
 have p0:W11.cell? ⟨g2,0,none⟩=some (.slice Aw wl.length cw):=(zc P11.out 0).trans rfl
 go_wp2_with ((with_reducible refine zg (N:=95) rfl ?_);refine Kd.R_make k38 _ 38 rfl (N:=95) rfl 22 _ _ rfl (x.length:Int) rfl rfl Tryz.underlying22 (.agg #[(.int .i64 0),(.int .i64 0)]) 16 zb3 rfl (by decide) (by decide) z38 (ok:=fun _=>True) (okp:=fun _=>True) (zaF _ _ _ z38) (fun _ hk=>hk) trivial (Int.natCast_nonneg _) ZB.out (Below.refl _ _) (Nat.le_refl _) ?_;intro v95 W12 ho hb hg_ hnew_;obtain ⟨g,cap,hv,hg1,hg2,_⟩:=Kd.R_form ho ZC.out;rw [List.length_replicate,Int.toNat_natCast] at hv;rw [Int.toNat_natCast] at ho;subst hv;have RO:=hhd ho;have HBW:=hhd (zhC (g:=g) hb);have H00:W11.heap.size≤W12.heap.size:=hb.size;replace p0:W12.cell? ⟨g2,0,none⟩=some (.slice Aw wl.length cw):=(zc (za P11.out hb) 0).trans rfl;clear ho hb hg_ hnew_ hg1 hg2)
 simp only [z1,z5]
 clear p0 z0 z1 z3 z4
 go_loopw [103] (fun s103 wr=>∃k:Nat,k≤hN∧s103=.int .i64 k∧Kd.R k38 38 wr W11.heap.size (fun _=>True) (.slice (some ⟨g,0,none⟩) x.length cap) (zbw E F G wl byN bits mode inv hN k)∧Own g W11 W12 wr) (fun i _=>hN - (intOf i).toNat)
 case atStart=>exact ⟨0,Nat.zero_le _,rfl,by have:=RO.out;rw [HLL.out] at this ⊢;exact this,HBW.out⟩
 case round =>
  obtain ⟨k,hk,rfl,ro,hb⟩:=hrel
  have RK:=hhd ro
  have HBr:=hhd hb
  clear ro hb RO HBW
  have hcmp:(↑k:Int) < ↑hN↔k < hN:=Int.ofNat_lt
  by_cases hlt:k < hN
  ·have HLK:=hhd hlt
   have c1:(↑k:Int) < ↑hN:=hcmp.2 hlt
   clear hcmp
   have c2:=znU hlt
   have c3:=znV hlt
   obtain ⟨hwj,q0,q1,q2,wk1,wk2,wk3,hr1,hr3⟩:=zjd HNN.out.1 HNN.out.2 hlt HWL.out.1 HWL.out.2 HDM.out
   have HR1:=hhd hr1
   have HR3:=hhd hr3
   clear hr1 hr3
   have HSTEP:=hhd (show zbw E F G wl byN bits mode inv hN (k+1)=zcZ (zbw E F G wl byN bits mode inv hN k) 0 hN k (zbb (zk E k) (zk E ((hN+k:Nat):Int)) (zk F k) (zk G k) (zH inv (zk wl ((k*byN:Nat):Int))) (zH inv (zk wl ((3*k*byN:Nat):Int))) bits mode inv) 4 from rfl)
   generalize zbw E F G wl byN bits mode inv hN k=Yk at *
   have CEr:=Kd.C_below CE.out HBr.out.below
   have CFr:=Kd.C_below CF.out HBr.out.below
   have CGr:=Kd.C_below CG.out HBr.out.below
   have HCWr:=hhd (Kd.C_below HCW11.out HBr.out.below)
   have HQ1:=hhd (zgb (inv:=inv) (zc0 HWI.out HR1.out.1 HR1.out.2))
   have HQ3:=hhd (zgb (inv:=inv) (zc0 HWI.out HR3.out.1 HR3.out.2))
   have HU:=hhd (zc0 K4.out (i:=(k:Int)) (Int.natCast_nonneg _) (by rw [HLE.out];exact Int.ofNat_lt.2 (lt2 hlt)))
   have HV:=hhd (zc0 K4.out (i:=((hN+k:Nat):Int)) q1 (by rw [HLE.out];exact q2))
   have HY:=hhd (zc0 K5.out (i:=(k:Int)) (Int.natCast_nonneg _) (by rw [HLF.out];exact c1))
   have HZ:=hhd (zc0 K6.out (i:=(k:Int)) (Int.natCast_nonneg _) (by rw [HLG.out];exact c1))
   obtain ⟨adE,rfl,xu0,xu1⟩:=zam CEr (k:Int) (Int.natCast_nonneg _) (Int.ofNat_lt.2 (lt2 hlt))
   obtain ⟨adE2,hEe,xv0,xv1⟩:=zam CEr ((hN+k:Nat):Int) q1 q2
   obtain rfl:=Option.some.inj hEe
   obtain ⟨adF,rfl,xy0,xy1⟩:=zam CFr (k:Int) (Int.natCast_nonneg _) c1
   obtain ⟨adG,rfl,xz0,xz1⟩:=zam CGr (k:Int) (Int.natCast_nonneg _) c1
   generalize ((hN+k:Nat):Int)=iE at *
   generalize ((k*byN:Nat):Int)=i1 at *
   generalize ((3*k*byN:Nat):Int)=i3 at *
   generalize zk E k=u at *
   generalize zk E iE=v at *
   generalize zk F k=y at *
   generalize zk G k=zz at *
   rw [Int.toNat_natCast] at xu0 xu1 xy0 xy1 xz0 xz1
   have HRC1:=hhd (fun (W:World) (h:Kd.C k38 W Aw wl.length wl)=>zhI Aw cw wl bits mode inv i1 HR1.out.1 HR1.out.2 HWI.out W h HCW.out)
   have HRC3:=hhd (fun (W:World) (h:Kd.C k38 W Aw wl.length wl)=>zhI Aw cw wl bits mode inv i3 HR3.out.1 HR3.out.2 HWI.out W h HCW.out)
   have HJN:=hhd (fun (W:World)=>zll Aw wl.length cw u v y zz (zH inv (zk wl i1)) (zH inv (zk wl i3)) bits mode inv HS.out.1 HS.out.2.1 HS.out.2.2.1 HS.out.2.2.2 HU.out HV.out HY.out HZ.out HQ1.out HQ3.out W)
   generalize zH inv (zk wl i1)=r1 at *
   generalize zH inv (zk wl i3)=r3 at *
   generalize zbb u v y zz r1 r3 bits mode inv=jv at *
   have m0:wr.cell? ⟨g2,0,none⟩=some (.slice Aw wl.length cw):=(zc (za P11.out HBr.out.below) 0).trans rfl
   have m1:wr.cell? ⟨g2,1,none⟩=some (.int .i64 bits):=(zc (za P11.out HBr.out.below) 1).trans rfl
   have m2:wr.cell? ⟨g2,2,none⟩=some (.int .i64 mode):=(zc (za P11.out HBr.out.below) 2).trans rfl
   have m3:wr.cell? ⟨g2,3,none⟩=some (.int .i64 (zaX inv)):=(zc (za P11.out HBr.out.below) 3).trans rfl
   clear CEr CFr CGr
   go_wp2
   refine zae (S:=fun w'=>Below wr.heap.size wr w') (ds:=[31]) (fl 33 0) hmx rfl rfl (Below.refl _ _).drew (fun hHeld=>?_)
   refine px_ 1 (some 107) (fl 33 2) rfl rfl ?_
   refine px_ 2 (some 108) (fl 33 6) rfl rfl ?_
   refine px_ 3 (some 109) (fl 33 14) rfl rfl ?_
   refine px_ 5 (some 111) (fl 33 46) rfl rfl ?_
   refine px_ 6 (some 112) (fl 33 110) rfl rfl ?_
   refine px_ 7 (some 113) (fl 33 238) rfl rfl ?_
   refine px_ 8 (some 114) (fl 33 494) rfl rfl ?_
   refine px_ 9 (some 115) (fl 33 1006) rfl rfl ?_
   refine px_ 10 (some 116) (fl 33 2030) rfl rfl ?_
   refine px_ 12 (some 118) (fl 33 6126) rfl rfl ?_
   refine px_ 13 (some 119) (fl 33 14318) rfl rfl ?_
   refine px_ 14 (some 120) (fl 33 30702) rfl rfl ?_
   refine px_ 16 (some 122) (fl 33 96238) rfl rfl ?_
   refine px_ 17 (some 123) (fl 33 227310) rfl rfl ?_
   refine px_ 18 (some 124) (fl 33 489454) rfl rfl ?_
   refine px_ 21 (some 127) (fl 33 2586606) rfl rfl ?_
   refine px_ 22 (some 128) (fl 33 6780910) rfl rfl ?_
   refine px_ 23 (some 129) (fl 33 15169518) rfl rfl ?_
   refine px_ 26 (some 132) (fl 33 82278382) rfl rfl ?_
   refine px_ 27 (some 133) (fl 33 216496110) rfl rfl ?_
   refine px_ 28 (some 134) (fl 33 484931566) rfl rfl ?_
   refine px_ 29 (some 135) (fl 33 1021802478) rfl rfl ?_
   refine px_ 32 (some 138) (fl 33 5316769774) rfl rfl ?_
   refine tx_ 0 (some 106) (fl 33 5316769775) rfl rfl hHeld (by rintro w' hs;obtain ⟨j_m0,j_m1,j_m2,j_m3,j_xu0,j_xu1⟩:=bg6 hs m0 m1 m2 m3 xu0 xu1;obtain ⟨j_xv0,j_xv1,j_xy0,j_xy1,j_xz0,j_xz1⟩:=bg6 hs xv0 xv1 xy0 xy1 xz0 xz1;go_simp;with_reducible rfl) ?_
   refine tx_ 4 (some 110) (fl 33 5316769791) rfl rfl hHeld (by rintro w' hs;obtain ⟨j_m0,j_m1,j_m2,j_m3,j_xu0,j_xu1⟩:=bg6 hs m0 m1 m2 m3 xu0 xu1;obtain ⟨j_xv0,j_xv1,j_xy0,j_xy1,j_xz0,j_xz1⟩:=bg6 hs xv0 xv1 xy0 xy1 xz0 xz1;go_simp;with_reducible rfl) ?_
   refine tx_ 11 (some 117) (fl 33 5316771839) rfl rfl hHeld (by rintro w' hs;obtain ⟨j_m0,j_m1,j_m2,j_m3,j_xu0,j_xu1⟩:=bg6 hs m0 m1 m2 m3 xu0 xu1;obtain ⟨j_xv0,j_xv1,j_xy0,j_xy1,j_xz0,j_xz1⟩:=bg6 hs xv0 xv1 xy0 xy1 xz0 xz1;go_simp;with_reducible rfl) ?_
   refine tx_ 15 (some 121) (fl 33 5316804607) rfl rfl hHeld (by rintro w' hs;obtain ⟨j_m0,j_m1,j_m2,j_m3,j_xu0,j_xu1⟩:=bg6 hs m0 m1 m2 m3 xu0 xu1;obtain ⟨j_xv0,j_xv1,j_xy0,j_xy1,j_xz0,j_xz1⟩:=bg6 hs xv0 xv1 xy0 xy1 xz0 xz1;go_simp;with_reducible rfl) ?_
   refine tx_ 19 (some 125) (fl 33 5317328895) rfl rfl hHeld (by rintro w' hs;obtain ⟨j_m0,j_m1,j_m2,j_m3,j_xu0,j_xu1⟩:=bg6 hs m0 m1 m2 m3 xu0 xu1;obtain ⟨j_xv0,j_xv1,j_xy0,j_xy1,j_xz0,j_xz1⟩:=bg6 hs xv0 xv1 xy0 xy1 xz0 xz1;go_simp;with_reducible rfl) ?_
   refine tx_ 20 (some 126) (fl 33 5318377471) rfl rfl hHeld (by rintro w' hs;obtain ⟨j_m0,j_m1,j_m2,j_m3,j_xu0,j_xu1⟩:=bg6 hs m0 m1 m2 m3 xu0 xu1;obtain ⟨j_xv0,j_xv1,j_xy0,j_xy1,j_xz0,j_xz1⟩:=bg6 hs xv0 xv1 xy0 xy1 xz0 xz1;go_simp;with_reducible rfl) ?_
   refine tx_ 25 (some 131) (fl 33 5351931903) rfl rfl hHeld (by rintro w' hs;obtain ⟨j_m0,j_m1,j_m2,j_m3,j_xu0,j_xu1⟩:=bg6 hs m0 m1 m2 m3 xu0 xu1;obtain ⟨j_xv0,j_xv1,j_xy0,j_xy1,j_xz0,j_xz1⟩:=bg6 hs xv0 xv1 xy0 xy1 xz0 xz1;go_simp;with_reducible rfl) ?_
   refine zA (i:=24) (N:=some 130) (fl 33 5368709119) rfl rfl (by kernel_rfl) (by decide) (fun K hK=>?_)
   refine zN Tryz.func74 (by kernel_rfl) rfl #[.agg #[.slice Aw wl.length cw,.int .i64 bits,.int .i64 mode,.int .i64 (zaX inv)],.int .i64 i1] (by rfl) rfl rfl (by go_simp) ?_
   refine (HRC1.out _ (Kd.C_below HCWr.out hHeld)).mono ?_
   rintro e Wc ⟨rfl,hbl⟩
   refine ⟨_,rfl,?_⟩
   refine hK.out _ _ (zb hHeld hbl) (fun hHeld2=>?_)
   clear hK K hHeld hbl
   have hHeld:=hHeld2
   clear hHeld2
   refine nx_ (some 130) ?_
   refine zA (i:=30) (N:=some 136) (fl 33 6442450943) rfl rfl (by kernel_rfl) (by decide) (fun K hK=>?_)
   refine zN Tryz.func74 (by kernel_rfl) rfl #[.agg #[.slice Aw wl.length cw,.int .i64 bits,.int .i64 mode,.int .i64 (zaX inv)],.int .i64 i3] (by rfl) rfl rfl (by go_simp) ?_
   refine (HRC3.out _ (Kd.C_below HCWr.out hHeld)).mono ?_
   rintro e Wc ⟨rfl,hbl⟩
   refine ⟨_,rfl,?_⟩
   refine hK.out _ _ (zb hHeld hbl) (fun hHeld2=>?_)
   clear hK K hHeld hbl
   have hHeld:=hHeld2
   clear hHeld2
   refine nx_ (some 136) ?_
   refine zaf (i:=31) (N:=some 137) (fl 33 8589934591) rfl rfl (by kernel_rfl) (by decide) (fun K hK=>?_)
   refine zN Tryz.func73 (by kernel_rfl) rfl #[.agg #[.slice Aw wl.length cw,.int .i64 bits,.int .i64 mode,.int .i64 (zaX inv)],.agg #[.int .i64 u.f0,.int .i64 u.f1],.agg #[.int .i64 v.f0,.int .i64 v.f1],.agg #[.int .i64 y.f0,.int .i64 y.f1],.agg #[.int .i64 zz.f0,.int .i64 zz.f1],.agg #[.int .i64 r1.f0,.int .i64 r1.f1],.agg #[.int .i64 r3.f0,.int .i64 r3.f1]] (by rfl) rfl rfl (by go_simp) ?_
   refine (HJN.out _).mono ?_
   rintro e Wd ⟨rfl,hbl⟩
   refine ⟨_,rfl,?_⟩
   refine hK.out _ _ ?_
   have RD:=hhd (Kd.R_below RK.out (zb hHeld hbl))
   have HBd:=hhd (zcd HBr.out (zb hHeld hbl))
   clear hK K hHeld hbl
   refine nx_ (some 137) ?_
   refine zM (by kernel_rfl) ?_
   clear z5 q0 wk1 wk2 wk3 m0 m1 m2 m3 xu0 xu1 xv0 xv1 xy0 xy1 xz0 xz1
   go_wp2
   go_loopw [138] (fun s138 wq=>∃q:Nat,q≤4∧s138=.int .i64 q∧Kd.R k38 38 wq W11.heap.size (fun _=>True) (.slice (some ⟨g,0,none⟩) x.length cap) (zcZ Yk 0 hN k jv q)∧Own g W11 W12 wq) (fun i _=>4 - (intOf i).toNat)
   case atStart=>exact ⟨0,by decide,rfl,RD.out,HBd.out⟩
   case round =>
    obtain ⟨q,hq,rfl,ro,hb⟩:=hrel
    have RO:=hhd ro
    replace HBr:=hhd hb
    clear ro hb RD HBd RK
    by_cases hq4:q < 4
    ·have hix:=zj9 jv q hq4
     obtain ⟨z1_,z2_,z3_,z4_,z5_,hlt_,z6_⟩:=znE HNN.out.2 HLK.out HLL.out hq4
     have HLT:=hhd hlt_
     generalize ((q*hN+k:Nat):Int)=iq at *
     generalize ((q*hN:Nat):Int)=vq at *
     have HOFF:=hhd (show iq.toNat*2=(0+(q*hN+k))*2 by rw [z6_];omega)
     clear z6_ hlt_
     go_wp2_with (first
      | ((with_reducible refine zg (N:=17) rfl ?_);refine ba_ 17 #[.int .i64 0,.int .i64 0] 38 ?_;intro g17 hg W1 hbox hbl;have L17:W12.heap.size≤g17:=(by rw [hg];exact zdp HBr.out);have B17_1:=hhd hbox;have HB_1:=hhd (zcd HBr.out hbl);have Rout_1:=hhd (Kd.R_below RO.out hbl);obtain ⟨k17_0_1,k17_1_1⟩:=bk2 B17_1.out;have NR17:=hhd (show some g17≠_ from by rw [hg];exact Kd.R_ne_new RO.out 0);clear hbox hbl hg)
      | ((with_reducible refine zo (t:=38) (p:=17) rfl ?_);refine zv rfl 38 _ _ rfl g17 #[.int .i64 (jv q).f0,.int .i64 (jv q).f1] rfl rfl 38 #[.int .i64 0,.int .i64 0] B17_1.out (zu _ _) rfl (zG _ _) ?_;intro W2 hq hoth hbel;have B17_2:=hhd hq;have HB_2:=hhd (own_put HB_1.out H00 L17 hoth hbel);have Rout_2:=hhd (zK Rout_1.out hoth NR17.out);clear k17_0_1 k17_1_1;obtain ⟨k17_0_2,k17_1_2⟩:=bk2 B17_2.out;clear hq hoth hbel)
      | ((with_reducible refine zg (N:=149) rfl ?_);refine wpList_load_row rfl 38 _ rfl g17 rfl 38 #[.int .i64 (jv q).f0,.int .i64 (jv q).f1] (0,0) _ B17_2.out Tryz.underlying38 rfl (zu _ _) ?_)
      | ((with_reducible refine zo (t:=38) (p:=150) rfl ?_);refine own_store rfl rfl _ _ rfl (0+(q*hN+k)) _ HOFF.out _ (jv q) (fun _=>True) rfl rfl zb0 Rout_2.out HLT.out HB_2.out ?_;intro Wz hR hO hoth;have RZ:=hhd hR;have HBz:=hhd hO;clear hR hO hoth))
     go_roundw
     case rel=>exact ⟨q+1,hq4,zhM q,by rw [zko];exact RZ.out,HBz.out⟩
     case measure=>exact zdf hq4
    ·obtain rfl:q=4:=Nat.le_antisymm hq (Nat.le_of_not_lt hq4)
     go_wp2
     go_roundw
     case rel=>exact ⟨k+1,HLK.out,zhM k,by rw [HSTEP.out];exact RO.out,HBr.out⟩
     case measure=>exact zdf HLK.out
  ·obtain rfl:k=hN:=Nat.le_antisymm hk (Nat.le_of_not_lt hlt)
   have c1:¬(↑k:Int) < ↑k:=Int.lt_irrefl _
   clear hcmp
   go_wp2
   go_ret
   have hR:=Kd.R_lower RK.out (zj HB11.out)
   obtain ⟨A',c',hv,hc',hC'⟩:=Kd.R_reads hR
   rw [HPP.out.2,HSP.out,HBY.out]
   have hlen:=zeg E F G wl byN bits mode inv k k
   rw [HLL.out] at hR hv ⊢
   rw [hlen] at hv hc' hC'
   injection hv with a1 a2 a3
   subst a1;subst a3
   exact ⟨_,_,rfl,hc',hC',hR,zb HB11.out HBr.out.below⟩
end Go.Proofs.YteieahbadclppaaGreat.P

namespace Go.Proofs.YteieahbadclppaaGreat.P
open Go.RowKit Go.Proofs.YteieahbadclppaaGreatW.PrintWords Go.Proofs.YteieahbadclppaaGreatW.PrintLast Go.Proofs.YteieahbadclppaaGreatW.PrintMore
set_option linter.unusedVariables false
set_option linter.unusedSimpArgs false
theorem zbL (l:List S38) (fr b:Nat):∀n k,k < n→(zB l fr b n).getD k z38=l.getD (fr+k*b) z38
 | 0,_,h=>by omega
 | n+1,k,h=>by
  rw [zB,List.getD_eq_getElem?_getD]
  by_cases hk:k < n
  ·rw [List.getElem?_append_left (by rw [zR];exact hk),← List.getD_eq_getElem?_getD,zbL l fr b n k hk]
  ·obtain rfl:k=n:=by omega
   rw [List.getElem?_append_right (by rw [zR];exact Nat.le_refl _),zR,Nat.sub_self,zbv]
   rfl
theorem zek {x v:List S38} {D:Nat} {E:Int} (h:zaJ D E x v) (fr b n:Nat) (hn:∀k,k < n→fr+k*b < x.length):zaJ D E (zB x fr b n) (zB v fr b n):=by
 refine ⟨by rw [zR,zR],h.2.1,fun k hk=>?_⟩
 rw [zR] at hk
 rw [zbL _ _ _ _ _ hk,zbL _ _ _ _ _ hk]
 exact h.2.2 _ (hn k hk)
theorem zel {x:List S38} {M:Int} (h:zav M x) (fr b n:Nat) (hn:∀k,k < n→fr+k*b < x.length):zav M (zB x fr b n):=by
 refine ⟨h.1,fun k hk=>?_⟩
 rw [zR] at hk
 rw [zbL _ _ _ _ _ hk]
 exact h.2 _ (hn k hk)
def zcw:List Row:=[[(⟨1,0⟩,1,0),(⟨1,0⟩,1,1)],[(⟨1,0⟩,1,0),(⟨-1,0⟩,1,1)]]
def zbg (wl:List S38) (bits:Nat) (inv:Bool):Nat→List S38→List S38
 | 0,v=>v
 | 1,v=>lsc (2^(bits+1)) (zal zcw v)
 | l+2,v=>zal (zb7 wl bits inv (wl.length / 2^(l+2)) (2^l)) (zbg wl bits inv (l+1) (zB v 0 2 (2^(l+1)))++lsc (2^(bits+2)) (zbg wl bits inv l (zB v 1 4 (2^l)))++lsc (2^(bits+2)) (zbg wl bits inv l (zB v 3 4 (2^l))))
theorem zlr (x:List S38) (mode:Int):[shC 1 mode (zak (zk x 0) (zk x 1)),shC 1 mode (zay (zk x 0) (zk x 1))]=zag 1 mode zcw x:=by
 have e0:zk x 0=x.getD 0 z38:=zbv x 0
 have e1:zk x 1=x.getD 1 z38:=zbv x 1
 rw [e0,e1]
 have a0:zak (x.getD 0 z38) (x.getD 1 z38)=dot x [(⟨1,0⟩,1,0),(⟨1,0⟩,1,1)]:=by
  unfold dot dot dot zaw zaS zak z38
  apply zaH <;> dsimp only <;> omega
 have a1:zay (x.getD 0 z38) (x.getD 1 z38)=dot x [(⟨1,0⟩,1,0),(⟨-1,0⟩,1,1)]:=by
  unfold dot dot dot zaw zaS zay z38
  apply zaH <;> dsimp only <;> omega
 rw [a0,a1]
 rfl
theorem p29 {bits:Nat} (hb:bits≤29):(1:Int)≤2^bits∧(2:Int)^bits≤536870912:=by
 have h1:(0:Int) < 2^bits:=Int.pow_pos (by decide)
 have:=zau (a:=bits) (b:=29) hb
 have e:(2:Int)^29=536870912:=by decide
 omega
theorem zm3 {p E M:Int} (hp:1≤p) (hp2:p≤536870912) (hE:E≤2*p) (hM0:0≤M) (hM:M≤218*p):(4*p+2)*E≤4*p*(E+1)∧(4*p+2)*M+91*(4*p)≤4*p*(M+200)∧(4*p+2)*M≤64*4611686018427387904:=by
 refine ⟨by grind,by grind,?_⟩
 have h1:(4*p+2)*M≤2147483650*117037858816:=Int.mul_le_mul (by omega) (by omega) hM0 (by decide)
 omega
theorem zc7 (wl:List S38) (bits:Nat) (mode:Int) (inv:Bool) (hb:bits≤29) (hw:∀z,z∈wl→z6 z (2^bits+1)) (hwl:0 < wl.length) (hwl6:wl.length≤64) :
  ∀(l:Nat) (x v:List S38) (D:Nat) (E M:Int),l≤6→x.length=2^l→zaJ D E x v→zav M x→E+92*6≤2*2^bits→M+200*l≤218*2^bits →
   zaJ (D+(bits+2)*l) (E+92*l) (zap wl bits mode inv l x) (zbg wl bits inv l v)∧zav (M+200*l) (zap wl bits mode inv l x)∧okS wl bits mode inv l x
 | 0,x,v,D,E,M,hl,hx,hn,hm,hE,hM=>by
  obtain ⟨p0,p1⟩:=p29 hb
  refine ⟨?_,?_,hm.in (by omega)⟩
  ·have e:E+92*((0:Nat):Int)=E:=by omega
   rw [e]
   exact hn
  ·have e:M+200*((0:Nat):Int)=M:=by omega
   rw [e]
   exact hm
 | 1,x,v,D,E,M,hl,hx,hn,hm,hE,hM=>by
  obtain ⟨p0,p1⟩:=p29 hb
  have hm0:=hm.1
  have hr:zdq x.length 1 E M (M+200) zcw:=by
   intro r hr
   rw [hx]
   simp only [zcw,List.mem_cons,List.not_mem_nil,or_false] at hr
   rcases hr with rfl | rfl <;> exact ⟨by decide,by simp only [zaE];omega,by simp only [zaE];omega,by simp only [zaE];omega⟩
  obtain ⟨h1,h2⟩:=zdr (mode:=mode) hn hm (by omega) hr (by decide)
  have e:zap wl bits mode inv 1 x=zag 1 mode zcw x:=zlr x mode
  rw [e]
  refine ⟨?_,?_,hm.in (by omega)⟩
  ·have h3:=h1.shift (d:=bits+1)
   rw [show D+(bits+2)*1=D+1+(bits+1) by omega]
   exact h3
  ·exact h2
 | l+2,x,v,D,E,M,hl,hx,hn,hm,hE,hM=>by
  obtain ⟨p0,p1⟩:=p29 hb
  have hm0:=hm.1
  have q1:2^(l+1)=2*2^l:=by rw [Nat.pow_succ];omega
  have q2:2^(l+2)=4*2^l:=by rw [Nat.pow_succ,Nat.pow_succ];omega
  have hN1:1≤2^l:=Nat.one_le_two_pow
  have hN16:2^l≤16:=Nat.le_trans (Nat.pow_le_pow_right (by decide) (show l≤4 by omega)) (by decide)
  rw [q2] at hx
  have w0:∀k,k < 2^(l+1)→0+k*2 < x.length:=fun k hk=>by rw [q1] at hk;omega
  have w1:∀k,k < 2^l→1+k*4 < x.length:=fun k hk=>by omega
  have w3:∀k,k < 2^l→3+k*4 < x.length:=fun k hk=>by omega
  obtain ⟨a1,a2,a3⟩:=zc7 wl bits mode inv hb hw hwl hwl6 (l+1) _ _ D E M (by omega) (zR _ _ _ _) (zek hn 0 2 _ w0) (zel hm 0 2 _ w0) hE (by omega)
  obtain ⟨b1,b2,b3⟩:=zc7 wl bits mode inv hb hw hwl hwl6 l _ _ D E M (by omega) (zR _ _ _ _) (zek hn 1 4 _ w1) (zel hm 1 4 _ w1) hE (by omega)
  obtain ⟨c1,c2,c3⟩:=zc7 wl bits mode inv hb hw hwl hwl6 l _ _ D E M (by omega) (zR _ _ _ _) (zek hn 3 4 _ w3) (zel hm 3 4 _ w3) hE (by omega)
  have lE:=zbE wl bits mode inv (l+1) (zB x 0 2 (2^(l+1))) (zR _ _ _ _)
  have lF:=zbE wl bits mode inv l (zB x 1 4 (2^l)) (zR _ _ _ _)
  have lG:=zbE wl bits mode inv l (zB x 3 4 (2^l)) (zR _ _ _ _)
  have hD:D+(bits+2)*(l+1)=D+(bits+2)*l+(bits+2):=by rw [Nat.mul_succ];omega
  have hEe:E+92*((l:Nat):Int)≤E+92*((l+1:Nat):Int):=by omega
  have b4:=(b1.up hEe).shift (d:=bits+2)
  have c4:=(c1.up hEe).shift (d:=bits+2)
  rw [← hD] at b4 c4
  have n1:=(a1.append b4).append c4
  have m1:=(a2.append (b2.up (show M+200*(l:Int)≤M+200*((l+1:Nat):Int) by omega))).append (c2.up (show M+200*(l:Int)≤M+200*((l+1:Nat):Int) by omega))
  have hck:zjb (2^l)=true:=List.all_eq_true.1 zln l (List.mem_range.2 (by omega))
  have e:=zih (zap wl bits mode inv (l+1) (zB x 0 2 (2^(l+1)))) (zap wl bits mode inv l (zB x 1 4 (2^l))) (zap wl bits mode inv l (zB x 3 4 (2^l))) wl mode bits inv (wl.length / 2^(l+2)) (2^l) (bits+2) (by rw [lE,q1]) lF lG hck (by omega)
  have eS:zap wl bits mode inv (l+2) x=_:=e
  have hp2:(2:Int)^(bits+2)=4*2^bits:=by rw [Int.pow_add];omega
  obtain ⟨j1,j2,j3⟩:=zm3 (E:=E+92*((l+1:Nat):Int)) (M:=M+200*((l+1:Nat):Int)) p0 p1 (by omega) (by omega) (by omega)
  have hrd:∀i:Nat,i < wl.length→z6 (zk wl (i:Int)) (2^bits+1):=fun i hi=>hw _ (zez wl i hi)
  have hr:=zhK wl bits inv (wl.length / 2^(l+2)) (2^l) (bits+2) (E+92*((l+1:Nat):Int)) (M+200*((l+1:Nat):Int)) (M+200*((l+1:Nat):Int)+200) hN1 (by omega)
   (fun k hk=>by
    have hd:wl.length / 2^(l+2)*(4*2^l)≤wl.length:=by rw [← q2];exact Nat.div_mul_le_self _ _
    obtain ⟨_,_,_,_,_,_,_,r1,r3⟩:=zjd hN1 hN16 hk hwl hwl6 hd
    exact ⟨hrd _ (by omega),hrd _ (by omega)⟩)
   (by rw [hp2];exact j1) (by rw [hp2];exact j2) j3
  have hlen:(zap wl bits mode inv (l+1) (zB x 0 2 (2^(l+1)))++zap wl bits mode inv l (zB x 1 4 (2^l))++zap wl bits mode inv l (zB x 3 4 (2^l))).length=4*2^l:=by
   rw [List.length_append,List.length_append,lE,lF,lG,q1];omega
  obtain ⟨f1,f2⟩:=zdr (mode:=mode) (c:=bits+2) (M':=M+200*((l+1:Nat):Int)+200) n1 m1 (by omega) (by rw [hlen];exact hr) (by omega)
  rw [eS]
  refine ⟨?_,?_,a3,b3,c3,a2.in (by omega),b2.in (by omega),c2.in (by omega)⟩
  ·rw [show D+(bits+2)*(l+2)=D+(bits+2)*(l+1)+(bits+2) by rw [show (bits+2)*(l+2)=(bits+2)*(l+1)+(bits+2) from Nat.mul_succ _ _];omega,show E+92*((l+2:Nat):Int)=E+92*((l+1:Nat):Int)+92 by omega]
   exact f1
  ·rw [show M+200*((l+2:Nat):Int)=M+200*((l+1:Nat):Int)+200 by omega]
   exact f2
theorem ZL.every {n m:Nat} {F:List Int→List S38} (h:ZL n m F) (fr b cnt:Nat):ZL n cnt (fun x=>zB (F x) fr b cnt) :=
 ZL.of (f:=fun x k=>(F x).getD (fr+k*b) z38) (fun x hx=>zR _ _ _ _) (fun x k hx hk=>zbL _ _ _ _ _ hk)
  (fun x y k hx hy hk=>h.get_add hx hy _) (fun c x k hx hk=>h.get_scl c hx _)
theorem zdG (wl:List S38) (bits:Nat) (inv:Bool) {n:Nat}:∀(l:Nat) (F:List Int→List S38),ZL n (2^l) F→ZL n (2^l) (fun x=>zbg wl bits inv l (F x))
 | 0,F,h=>h
 | 1,F,h=>(h.rows zcw).scaled (2^(bits+1))
 | l+2,F,h=>by
  have a:=zdG wl bits inv (l+1) _ (h.every 0 2 (2^(l+1)))
  have b:=(zdG wl bits inv l _ (h.every 1 4 (2^l))).scaled (2^(bits+2))
  have c:=(zdG wl bits inv l _ (h.every 3 4 (2^l))).scaled (2^(bits+2))
  have d:=((a.append b).append c).rows (zb7 wl bits inv (wl.length / 2^(l+2)) (2^l))
  have e:(zb7 wl bits inv (wl.length / 2^(l+2)) (2^l)).length=2^(l+2):=by
   rw [zb7,List.length_map,List.length_range,Nat.pow_succ,Nat.pow_succ];omega
  rw [e] at d
  exact d
def zc1 (e:Int) (v:List S38):Prop:=∀k,k < v.length→z6 (v.getD k z38) e
theorem zc1.append {e:Int} {x y:List S38} (h:zc1 e x) (g:zc1 e y):zc1 e (x++y):=by
 intro k hk
 rw [List.length_append] at hk
 by_cases hk1:k < x.length
 ·have:=h k hk1
  rw [List.getD_eq_getElem?_getD] at this ⊢
  rw [List.getElem?_append_left hk1]
  exact this
 ·have:=g (k - x.length) (by omega)
  rw [List.getD_eq_getElem?_getD] at this ⊢
  rw [List.getElem?_append_right (by omega)]
  exact this
theorem zc1.up {e e':Int} {x:List S38} (h:zc1 e x) (he:e≤e'):zc1 e' x:=fun k hk=>(h k hk).up he
theorem zc1.scl {e:Int} {x:List S38} (n:Int) (hn:0≤n) (h:zc1 e x):zc1 (n*e) (lsc n x):=by
 intro k hk
 rw [zaI] at hk
 rw [zbt]
 exact (h k hk).scl n hn
theorem zc1.every {e:Int} {x:List S38} (h:zc1 e x) (fr b n:Nat) (hn:∀k,k < n→fr+k*b < x.length):zc1 e (zB x fr b n):=by
 intro k hk
 rw [zR] at hk
 rw [zbL _ _ _ _ _ hk]
 exact h _ (hn k hk)
theorem zhN {a b:Nat} (h:a≤b):(2:Int)^a≤2^b:=zau h
theorem zc8 (wl:List S38) (bits:Nat) (inv:Bool):∀(l:Nat) (v:List S38),v.length=2^l→(zbg wl bits inv l v).length=2^l
 | 0,v,h=>h
 | 1,v,h=>by simp [zbg,lsc,zal,zcw]
 | l+2,v,h=>by simp [zbg,zal,zb7,Nat.pow_succ];omega
theorem zdH (wl:List S38) (bits:Nat) (inv:Bool) (hb:bits≤29) (hw:∀z,z∈wl→z6 z (2^bits+1)) (hwl:0 < wl.length) (hwl6:wl.length≤64) {e:Int} (he:0≤e) :
  ∀(l:Nat) (v:List S38),l≤6→v.length=2^l→zc1 e v→zc1 (2^((bits+3)*l)*e) (zbg wl bits inv l v)
 | 0,v,hl,hv,hn=>hn.up (by rw [Nat.mul_zero];omega)
 | 1,v,hl,hv,hn=>by
  have h1:=zdt (n:=2) (c:=1) (rows:=zcw) (fun r hr=>by
   simp only [zcw,List.mem_cons,List.not_mem_nil,or_false] at hr
   rcases hr with rfl | rfl <;> exact ⟨by decide,by decide⟩) hv he (fun k hk=>hn k (by rw [hv];exact hk))
  have h2:zc1 (2^1*e) (zal zcw v):=fun k hk=>h1 k (by rw [zal,List.length_map] at hk;exact hk)
  refine (h2.scl (2^(bits+1)) (Int.le_of_lt (zaN _))).up ?_
  rw [← Int.mul_assoc,← Int.pow_add]
  exact Int.mul_le_mul_of_nonneg_right (zhN (by omega)) he
 | l+2,v,hl,hv,hn=>by
  have q1:2^(l+1)=2*2^l:=by rw [Nat.pow_succ];omega
  have q2:2^(l+2)=4*2^l:=by rw [Nat.pow_succ,Nat.pow_succ];omega
  have hN1:1≤2^l:=Nat.one_le_two_pow
  have hN16:2^l≤16:=Nat.le_trans (Nat.pow_le_pow_right (by decide) (show l≤4 by omega)) (by decide)
  rw [q2] at hv
  have a:=zdH wl bits inv hb hw hwl hwl6 he (l+1) (zB v 0 2 (2^(l+1))) (by omega) (zR _ _ _ _) (hn.every 0 2 _ (fun k hk=>by rw [q1] at hk;omega))
  have b:=zdH wl bits inv hb hw hwl hwl6 he l (zB v 1 4 (2^l)) (by omega) (zR _ _ _ _) (hn.every 1 4 _ (fun k hk=>by omega))
  have c:=zdH wl bits inv hb hw hwl hwl6 he l (zB v 3 4 (2^l)) (by omega) (zR _ _ _ _) (hn.every 3 4 _ (fun k hk=>by omega))
  have hle:(2:Int)^(bits+2)*(2^((bits+3)*l)*e)≤2^((bits+3)*(l+1))*e:=by
   rw [← Int.mul_assoc,← Int.pow_add]
   exact Int.mul_le_mul_of_nonneg_right (zhN (by rw [Nat.mul_succ];omega)) he
  have b2:=(b.scl (2^(bits+2)) (Int.le_of_lt (zaN _))).up hle
  have c2:=(c.scl (2^(bits+2)) (Int.le_of_lt (zaN _))).up hle
  have abc:=(a.append b2).append c2
  have lA:=zc8 wl bits inv (l+1) (zB v 0 2 (2^(l+1))) (zR _ _ _ _)
  have lB:=zc8 wl bits inv l (zB v 1 4 (2^l)) (zR _ _ _ _)
  have lC:=zc8 wl bits inv l (zB v 3 4 (2^l)) (zR _ _ _ _)
  have hlen:(zbg wl bits inv (l+1) (zB v 0 2 (2^(l+1)))++lsc (2^(bits+2)) (zbg wl bits inv l (zB v 1 4 (2^l)))++lsc (2^(bits+2)) (zbg wl bits inv l (zB v 3 4 (2^l)))).length=4*2^l:=by
   rw [List.length_append,List.length_append,zaI,zaI,lA,lB,lC,q1];omega
  have hrd:∀i:Nat,i < wl.length→z6 (zk wl (i:Int)) (2^bits+1):=fun i hi=>hw _ (zez wl i hi)
  have p0:(0:Int) < 2^bits:=zaN _
  have hp2:(2:Int)^(bits+2)=4*2^bits:=by rw [Int.pow_add];omega
  have hr:=zhK wl bits inv (wl.length / 2^(l+2)) (2^l) (bits+2) 1 0 91 hN1 (by omega)
   (fun k hk=>by
    have hd:wl.length / 2^(l+2)*(4*2^l)≤wl.length:=by rw [← q2];exact Nat.div_mul_le_self _ _
    obtain ⟨_,_,_,_,_,_,_,r1,r3⟩:=zjd hN1 hN16 hk hwl hwl6 hd
    exact ⟨hrd _ (by omega),hrd _ (by omega)⟩)
   (by rw [hp2];omega) (by rw [hp2];omega) (by omega)
  have big:=zdt (c:=bits+3) (rows:=zb7 wl bits inv (wl.length / 2^(l+2)) (2^l)) (fun r hr1=>⟨(hr r hr1).1,by have:=(hr r hr1).2.1;rw [show bits+3=bits+2+1 by omega,Int.pow_succ];omega⟩) hlen (Int.mul_nonneg (Int.le_of_lt (zaN _)) he) (fun k hk=>abc k (by rw [hlen];exact hk))
  intro k hk
  have h3:=big k (by rw [zbg,zal,List.length_map] at hk;exact hk)
  rw [← Int.mul_assoc,← Int.pow_add] at h3
  rw [show (bits+3)*(l+2)=bits+3+(bits+3)*(l+1) by rw [show (bits+3)*(l+2)=(bits+3)*(l+1)+(bits+3) from Nat.mul_succ _ _];omega]
  exact h3
theorem zkp (mode:Int) {n:Nat} {x:List S38} (hx:x.length=n):x.map (shC 1 mode)=zag 1 mode (zaK id n) x:=by
 rw [zgv]
 congr 1
 subst hx
 exact zfG x
def zgN (fm g:Nat) (inv:Bool) (mode:Int) (x:List S38):List S38:=zap (twL fm g) (bN fm) mode inv g (x.map (shC 1 mode))
def zje (fm g:Nat) (inv:Bool) (v:List S38):List S38:=zbg (twL fm g) (bN fm) inv g (zal (zaK id (2^g)) v)
theorem zgw {fm g:Nat} (inv:Bool) (mode:Int) (hf:fm < 2) (h2:2≤g) (h6:g≤6) {x v:List S38} {D0:Nat} {E0:Int} (hx:x.length=2^g) (hn:zaJ D0 E0 x v) (hm:zav (364*2^bN fm) x) (hE:E0≤1000) :
  zaJ (D0+1+(bN fm+2)*g) (E0+92+92*g) (zgN fm g inv mode x) (zje fm g inv v)∧zav (184*2^bN fm) (zgN fm g inv mode x)∧okS (twL fm g) (bN fm) mode inv g (x.map (shC 1 mode)):=by
 have hq:=qN fm
 have hb:=zeZ fm
 obtain ⟨t1,t2,t3⟩:=zbC hf h2 h6
 have hg:1≤2^g∧2^g≤64:=⟨Nat.one_le_two_pow,Nat.le_trans (Nat.pow_le_pow_right (by decide) h6) (by decide)⟩
 have r1:=zix (fm:=fm) (n:=2^g) (s:=id) (fun k hk=>hk) hn.2.1 (M:=364*2^bN fm) (M':=182*2^bN fm+91) (by omega) (by omega)
 have s:=zdr (mode:=mode) (M':=182*2^bN fm+91) hn hm (by omega) (by rw [hx];exact r1) (by decide)
 rw [← zkp mode hx] at s
 have h:=zc7 (twL fm g) (bN fm) mode inv (by omega) (fun z hz=>(t3 z hz).1) (by rw [t2];omega) (by rw [t2];omega) g _ _ _ _ _ h6 (by rw [List.length_map,hx]) s.1 s.2 (by omega) (by omega)
 exact ⟨h.1,h.2.1.up (by omega),h.2.2⟩
theorem znW {fm g:Nat} (inv:Bool) (mode:Int) (hf:fm < 2) (h2:2≤g) (h6:g≤6):Tr fm g (zgN fm g inv mode) (zje fm g inv) (1+(bN fm+2)*g) ((bN fm+3)*g) (92+92*g) where
 near x v D0 E0 hx hn hm hE:=by
  have h:=zgw inv mode hf h2 h6 hx hn hm hE
  rw [show D0+(1+(bN fm+2)*g)=D0+1+(bN fm+2)*g by omega,show E0+(92+92*(g:Int))=E0+92+92*g by omega]
  exact ⟨h.1,h.2.1,zbE _ _ _ _ _ _ (by rw [List.length_map,hx])⟩
 zl n F h:=by
  have h1:=h.rows (zaK id (2^g))
  rw [show (zaK id (2^g)).length=2^g by simp [zaK]] at h1
  exact zdG (twL fm g) (bN fm) inv g _ h1
 big v e hv he hn:=by
  have hb:=zeZ fm
  obtain ⟨t1,t2,t3⟩:=zbC hf h2 h6
  have hg:1≤2^g∧2^g≤64:=⟨Nat.one_le_two_pow,Nat.le_trans (Nat.pow_le_pow_right (by decide) h6) (by decide)⟩
  have h1:=zdt (n:=2^g) (c:=0) (rows:=zaK id (2^g)) (fun r hr=>by
   obtain ⟨k,hk,rfl⟩:=List.mem_map.1 hr
   exact ⟨zaV zej (List.mem_range.1 hk) rfl,by show (1:Int)+0≤2^0;decide⟩) hv he hn
  rw [show (zaK id (2^g)).length=2^g by simp [zaK],show (2:Int)^0*e=e by omega] at h1
  have hl:(zal (zaK id (2^g)) v).length=2^g:=by simp [zal,zaK]
  have h3:=zdH (twL fm g) (bN fm) inv (by omega) (fun z hz=>(t3 z hz).1) (by rw [t2];omega) (by rw [t2];omega) he g _ h6 hl (fun k hk=>h1 k (by rw [hl] at hk;exact hk))
  intro k hk
  exact h3 k (by rw [zc8 _ _ _ _ _ hl];exact hk)
def zaW (fm g ker:Nat) (inv:Bool) (mode:Int):List S38→List S38:=if ker=2 then zgN fm g inv mode else zjc fm g ker inv mode
def zdQ (fm g ker:Nat) (inv:Bool):List S38→List S38:=if ker=2 then zje fm g inv else zlI fm g ker inv
def dA (fm g ker:Nat):Nat:=if ker=2 then 1+(bN fm+2)*g else 1+csN fm (pcL ker g)
def kA (fm g ker:Nat):Nat:=if ker=2 then (bN fm+3)*g else csN fm (pcL ker g)+(pcL ker g).length
def eA (g ker:Nat):Int:=if ker=2 then 92+92*g else 92+92*(pcL ker g).length
theorem trA {fm g ker:Nat} (inv:Bool) (mode:Int) (hf:fm < 2) (h2:2≤g) (h6:g≤6) (hk:ker < 3):Tr fm g (zaW fm g ker inv mode) (zdQ fm g ker inv) (dA fm g ker) (kA fm g ker) (eA g ker):=by
 unfold zaW zdQ dA kA eA
 by_cases h:ker=2
 ·simp only [h,if_true]
  exact znW inv mode hf h2 h6
 ·simp only [h,if_false]
  exact znT inv mode hf h2 h6 (by omega)
end Go.Proofs.YteieahbadclppaaGreat.P

namespace Go.Proofs.YteieahbadclppaaGreat.P
open Go.RowKit Go.Proofs.YteieahbadclppaaGreatW.PrintWords Go.Proofs.YteieahbadclppaaGreatW.PrintLast Go.Proofs.YteieahbadclppaaGreatW.PrintMore
attribute [local go_sem] zI zJ zO zP
set_option linter.unusedVariables false
set_option linter.unusedSimpArgs false
set_option maxRecDepth 100000 in
set_option maxHeartbeats 4000000 in
theorem zmm (p0 p1 p2 p4 b:Int) (p5:Bool) (Aw:Option Addr) (wl:List S38) (cw:Nat) (Ax:Option Addr) (cx:Nat) (l y:List S38) (exp h:Int) (As:Option Addr) (cs:Nat) (sh:List Int) (w:World)
  (hx:Kd.C k38 w Ax l.length l) (hw:Kd.C k38 w Aw wl.length wl) (hs:Kd.C (Kd.int .i64) w As sh.length sh) (hcs:sh.length≤cs) (hls:sh.length≤100) (hly:y.length=l.length) (he0:-1000≤exp) (he1:exp≤1000) (hb0:2≤b) (hb1:b≤31)
  (hp:∀W:World,Kd.C k38 W Ax l.length l→Kd.C k38 W Aw wl.length wl→Calls Tryz.prog 50 #[.slice Ax l.length cx,.slice Aw wl.length cw,.int .i64 h,.int .i64 (b - 2),.int .i64 2,.int .i64 p4,.bool p5] W fun e w'=>∃v,e=.returned (.tuple #[v,.int .i64 0])∧Kd.R k38 38 w' W.heap.size (fun _=>True) v y∧Below W.heap.size W w') :
  Calls Tryz.prog 20 #[.agg #[.int .i64 p0,.int .i64 p1,.int .i64 p2,.int .i64 0,.int .i64 p4,.bool p5,.iface 97 (.agg #[]),.int .i64 b,.slice Aw wl.length cw],.agg #[.slice Ax l.length cx,.int .i64 exp,.bool false,.slice As sh.length cs],.agg #[.int .i64 4,.int .i64 h]] w fun e w'=>∃A' c' As' cs',e=.returned (.agg #[.slice A' l.length c',.int .i64 (exp+2),.bool false,.slice As' (sh.length+1) cs'])∧Kd.R k38 38 w' w.heap.size (fun _=>True) (.slice A' l.length c') y∧Kd.R (Kd.int .i64) 3 w' w.heap.size (fun _=>True) (.slice As' (sh.length+1) cs') (sh++[2])∧Below w.heap.size w w':=by
 have hmx:Tryz.prog.follows .mixedOrders=true:=by kernel_rfl
 have hm : ∀ w, (method 294 97 (.agg #[]) "headroom/fft.pass").run Tryz.prog w = .ok (145, .agg #[]) w := fun _ => by kernel_rfl
 have HR:=hhd hx
 have HS:=hhd hw
 have HT:=hhd hs
 have HCS:=hhd hcs
 have HLS:=hhd (show sh.length≤1000 by omega)
 have HLY:=hhd hly
 have HP:=hhd hp
 have HEX:=hhd (show wrap64 (exp+2)=exp+2 by unfold wrap64;omega)
 have HB0:=hhd (Below.refl w.heap.size w)
 clear hx hw hs hcs hls hly hp
 go_enter Tryz.func20,Tryz.ntmps20
 go_wp2_with (first
  | ((with_reducible refine zg (N:=3) rfl ?_);refine ba_ 3 #[.int .i64 p0,.int .i64 p1,.int .i64 p2,.int .i64 0,.int .i64 p4,.bool p5,.iface 97 (.agg #[]),.int .i64 b,.slice Aw wl.length cw] 56 ?_;intro g3 hg W1 hbox hbl;have L3:=gf_ hg HB0.out;have B3_1:=hhd hbox;have HB_1:=hhd (zb HB0.out hbl);have Cx_1:=hhd (Kd.C_below HR.out HB_1.out);have Cw_1:=hhd (Kd.C_below HS.out HB_1.out);have Cs_1:=hhd (Kd.C_below HT.out HB_1.out);obtain ⟨k3_0_1,k3_1_1,k3_2_1,k3_3_1,k3_4_1,k3_5_1,k3_6_1,k3_7_1,k3_8_1⟩:=bk9 B3_1.out;clear hbox hbl hg)
  | ((with_reducible refine zg (N:=4) rfl ?_);refine ba_ 4 #[.slice Ax l.length cx,.int .i64 exp,.bool false,.slice As sh.length cs] 28 ?_;intro g4 hg W2 hbox hbl;have L4:=gf_ hg HB_1.out;have B4_2:=hhd hbox;have HB_2:=hhd (zb HB_1.out hbl);have B3_2:=hhd (za B3_1.out hbl);have Cx_2:=hhd (Kd.C_below HR.out HB_2.out);have Cw_2:=hhd (Kd.C_below HS.out HB_2.out);have Cs_2:=hhd (Kd.C_below HT.out HB_2.out);obtain ⟨k3_0_2,k3_1_2,k3_2_2,k3_3_2,k3_4_2,k3_5_2,k3_6_2,k3_7_2,k3_8_2⟩:=bk9 B3_2.out;clear k3_0_1 k3_1_1 k3_2_1 k3_3_1 k3_4_1 k3_5_1 k3_6_1 k3_7_1 k3_8_1;obtain ⟨k4_0_2,k4_1_2,k4_2_2,k4_3_2⟩:=bk4 B4_2.out;clear hbox hbl hg)
  | ((with_reducible refine zg (N:=5) rfl ?_);refine ba_ 5 #[.int .i64 4,.int .i64 h] 59 ?_;intro g5 hg W3 hbox hbl;have L5:=gf_ hg HB_2.out;have B5_3:=hhd hbox;have HB_3:=hhd (zb HB_2.out hbl);have B3_3:=hhd (za B3_2.out hbl);have B4_3:=hhd (za B4_2.out hbl);have Cx_3:=hhd (Kd.C_below HR.out HB_3.out);have Cw_3:=hhd (Kd.C_below HS.out HB_3.out);have Cs_3:=hhd (Kd.C_below HT.out HB_3.out);obtain ⟨k3_0_3,k3_1_3,k3_2_3,k3_3_3,k3_4_3,k3_5_3,k3_6_3,k3_7_3,k3_8_3⟩:=bk9 B3_3.out;obtain ⟨k4_0_3,k4_1_3,k4_2_3,k4_3_3⟩:=bk4 B4_3.out;clear k3_0_2 k3_1_2 k3_2_2 k3_3_2 k3_4_2 k3_5_2 k3_6_2 k3_7_2 k3_8_2 k4_0_2 k4_1_2 k4_2_2 k4_3_2;obtain ⟨k5_0_3,k5_1_3⟩:=bk2 B5_3.out;clear hbox hbl hg)
  | ((with_reducible refine zg (N:=6) rfl ?_);refine ba_ 6 #[.slice none 0 0,.int .i64 0,.bool false,.slice none 0 0] 28 ?_;intro g6 hg W4 hbox hbl;have L6:=gf_ hg HB_3.out;have B6_4:=hhd hbox;have HB_4:=hhd (zb HB_3.out hbl);have B3_4:=hhd (za B3_3.out hbl);have B4_4:=hhd (za B4_3.out hbl);have B5_4:=hhd (za B5_3.out hbl);have Cx_4:=hhd (Kd.C_below HR.out HB_4.out);have Cw_4:=hhd (Kd.C_below HS.out HB_4.out);have Cs_4:=hhd (Kd.C_below HT.out HB_4.out);obtain ⟨k3_0_4,k3_1_4,k3_2_4,k3_3_4,k3_4_4,k3_5_4,k3_6_4,k3_7_4,k3_8_4⟩:=bk9 B3_4.out;obtain ⟨k4_0_4,k4_1_4,k4_2_4,k4_3_4⟩:=bk4 B4_4.out;obtain ⟨k5_0_4,k5_1_4⟩:=bk2 B5_4.out;clear k3_0_3 k3_1_3 k3_2_3 k3_3_3 k3_4_3 k3_5_3 k3_6_3 k3_7_3 k3_8_3 k4_0_3 k4_1_3 k4_2_3 k4_3_3 k5_0_3 k5_1_3;obtain ⟨k6_0_4,k6_1_4,k6_2_4,k6_3_4⟩:=bk4 B6_4.out;have NE36:=hhd (show g3≠g6 from fun e=>by have:=zf B3_3.out;omega);have NE46:=hhd (show g4≠g6 from fun e=>by have:=zf B4_3.out;omega);have NE56:=hhd (show g5≠g6 from fun e=>by have:=zf B5_3.out;omega);clear hbox hbl hg)
  | (go_at_call 145;(with_reducible refine (zhc 4 (by decide) (by decide) Ax l.length cx _).mono ?_);rintro e W5 ⟨rfl,hb⟩;have HB_5:=hhd (zb HB_4.out hb);have B3_5:=hhd (za B3_4.out hb);have B4_5:=hhd (za B4_4.out hb);have B5_5:=hhd (za B5_4.out hb);have B6_5:=hhd (za B6_4.out hb);have Cx_5:=hhd (Kd.C_below HR.out HB_5.out);have Cw_5:=hhd (Kd.C_below HS.out HB_5.out);have Cs_5:=hhd (Kd.C_below HT.out HB_5.out);obtain ⟨k3_0_5,k3_1_5,k3_2_5,k3_3_5,k3_4_5,k3_5_5,k3_6_5,k3_7_5,k3_8_5⟩:=bk9 B3_5.out;obtain ⟨k4_0_5,k4_1_5,k4_2_5,k4_3_5⟩:=bk4 B4_5.out;obtain ⟨k5_0_5,k5_1_5⟩:=bk2 B5_5.out;obtain ⟨k6_0_5,k6_1_5,k6_2_5,k6_3_5⟩:=bk4 B6_5.out;clear k3_0_4 k3_1_4 k3_2_4 k3_3_4 k3_4_4 k3_5_4 k3_6_4 k3_7_4 k3_8_4 k4_0_4 k4_1_4 k4_2_4 k4_3_4 k5_0_4 k5_1_4 k6_0_4 k6_1_4 k6_2_4 k6_3_4;clear hb)
  | (go_at_call 50;refine (HP.out _ Cx_5.out Cw_5.out).mono ?_;rintro e W6 ⟨vt,rfl,ho,hb⟩;obtain ⟨A2,c2,ev⟩:=Kd.R_slice ho;rw [HLY.out] at ev;subst ev;have Ry_6:=hhd (Kd.R_lower ho (zj HB_5.out));have NR6:=hhd (show some g6≠(Value.slice A2 _ c2).ownBlock from fun e=>Nat.lt_irrefl _ (Nat.lt_of_lt_of_le (zf B6_5.out) (Kd.R_base ho g6 e.symm)));have HB_6:=hhd (zb HB_5.out hb);have B3_6:=hhd (za B3_5.out hb);have B4_6:=hhd (za B4_5.out hb);have B5_6:=hhd (za B5_5.out hb);have B6_6:=hhd (za B6_5.out hb);have Cx_6:=hhd (Kd.C_below HR.out HB_6.out);have Cw_6:=hhd (Kd.C_below HS.out HB_6.out);have Cs_6:=hhd (Kd.C_below HT.out HB_6.out);obtain ⟨k3_0_6,k3_1_6,k3_2_6,k3_3_6,k3_4_6,k3_5_6,k3_6_6,k3_7_6,k3_8_6⟩:=bk9 B3_6.out;obtain ⟨k4_0_6,k4_1_6,k4_2_6,k4_3_6⟩:=bk4 B4_6.out;obtain ⟨k5_0_6,k5_1_6⟩:=bk2 B5_6.out;obtain ⟨k6_0_6,k6_1_6,k6_2_6,k6_3_6⟩:=bk4 B6_6.out;clear k3_0_5 k3_1_5 k3_2_5 k3_3_5 k3_4_5 k3_5_5 k3_6_5 k3_7_5 k3_8_5 k4_0_5 k4_1_5 k4_2_5 k4_3_5 k5_0_5 k5_1_5 k6_0_5 k6_1_5 k6_2_5 k6_3_5;clear hb ho))
 refine zae (S:=fun w'=>Below W6.heap.size W6 w') (ds:=[]) (fl 16 0) hmx rfl rfl (Below.refl _ _).drew (fun hHeld=>?_)
 refine px_ 0 (some 44) (fl 16 1) rfl rfl ?_
 refine px_ 1 (some 45) (fl 16 3) rfl rfl ?_
 refine px_ 3 (some 47) (fl 16 11) rfl rfl ?_
 refine px_ 5 (some 49) (fl 16 43) rfl rfl ?_
 refine px_ 7 (some 51) (fl 16 171) rfl rfl ?_
 refine px_ 10 (some 54) (fl 16 1195) rfl rfl ?_
 refine tx_ 2 (some 46) (fl 16 1199) rfl rfl hHeld (by rintro w' hs;obtain ⟨j_k4_0_6,j_k4_1_6,j_k4_2_6,j_k4_3_6⟩:=bg4 hs k4_0_6 k4_1_6 k4_2_6 k4_3_6;go_simp;with_reducible rfl) ?_
 refine px_ 4 (some 48) (fl 16 1215) rfl rfl ?_
 refine tx_ 6 (some 50) (fl 16 1279) rfl rfl hHeld (by rintro w' hs;obtain ⟨j_k4_0_6,j_k4_1_6,j_k4_2_6,j_k4_3_6⟩:=bg4 hs k4_0_6 k4_1_6 k4_2_6 k4_3_6;go_simp;with_reducible rfl) ?_
 refine tx_ 8 (some 52) (fl 16 1535) rfl rfl hHeld (by rintro w' hs;obtain ⟨j_k4_0_6,j_k4_1_6,j_k4_2_6,j_k4_3_6⟩:=bg4 hs k4_0_6 k4_1_6 k4_2_6 k4_3_6;go_simp;with_reducible rfl) ?_
 refine zev (i:=9) (j:=11) (k:=14) (Ni:=some 53) (Nj:=some 55) (Nk:=some 11) (fl 16 2047) (fl 16 3583) (fl 16 17919) rfl rfl rfl rfl rfl rfl (by kernel_rfl) (by decide) (by decide) (by decide) (fun K hK=>?e1_9) (fun K hK=>?e1_11) (fun K hK=>?e1_14)
 case' e1_9 =>
  refine zN Tryz.func51 (by kernel_rfl) rfl #[.slice As sh.length cs] (by rfl) rfl rfl (by go_simp) ?_
  refine (zaO As sh.length cs HCS.out HLS.out _).mono ?_
  rintro e Wc ⟨rfl,rfl⟩
  refine ⟨_,rfl,?_⟩
  refine hK.out _ _ hHeld (fun _=>?_)
  clear hK K
  refine nx_ (some 53) ?_
  refine zaM (i:=11) (j:=14) (Ni:=some 55) (Nj:=some 11) (fl 16 4095) (fl 16 18431) rfl rfl rfl rfl (by kernel_rfl) (by decide) (by decide) (fun K hK=>?e2_11) (fun K hK=>?e2_14)
  case' e2_11 =>
   refine zaD rfl rfl 2 (by first | (go_simp;done) | (go_simp;rfl)) ?_
   intro g55 hg Wc hbox hbl
   refine hK.out _ _ (zb hHeld hbl) (fun hHeld2=>?_)
   have B55:=hhd hbox
   clear hK K hHeld hbl hbox hg
   have hHeld:=hHeld2
   clear hHeld2
   refine nx_ (some 55) ?_
   refine zaM (i:=12) (j:=14) (Ni:=some 56) (Nj:=some 11) (fl 16 8191) (fl 16 20479) rfl rfl rfl rfl (by kernel_rfl) (by decide) (by decide) (fun K hK=>?e3_12) (fun K hK=>?e3_14)
   case' e3_12 =>
    refine zad rfl rfl rfl _ _ rfl As sh g55 2 rfl rfl (Kd.C_below Cs_6.out hHeld) B55.out HLS.out ?_
    intro v56 Wc hrow hbl
    obtain ⟨A56,c56,ev⟩:=Kd.R_slice hrow
    rw [List.length_append,List.length_singleton] at ev
    subst ev
    refine hK.out _ _ (zb hHeld hbl) (fun hHeld2=>?_)
    replace B55:=hhd (za B55.out hbl)
    have L56:W6.heap.size≤_:=hHeld.size
    have R56:=hhd (Kd.R_lower hrow hHeld.size)
    clear hK K hHeld hbl hrow
    have hHeld:=hHeld2
    clear hHeld2
    refine nx_ (some 56) ?_
    refine px_ 13 (some 57) (fl 16 16383) rfl rfl ?_
    refine zA (i:=14) (N:=some 11) (fl 16 32767) rfl rfl (by kernel_rfl) (by decide) (fun K hK=>?_)
    refine box_step rfl rfl (cs:=#[.slice none 0 0,.int .i64 0,.bool false,.slice none 0 0]) (t:=28) (by first | (go_simp;done) | (go_simp;rfl)) ?_
    intro g11 hg Wc hbox hbl
    refine hK.out _ _ (zb hHeld hbl) (fun hHeld2=>?_)
    replace B55:=hhd (za B55.out hbl)
    replace R56:=hhd (Kd.R_below R56.out hbl)
    have L11:W6.heap.size≤g11:=by rw [hg];exact hHeld.size
    have B11:=hhd hbox
    clear hK K hHeld hbl hbox hg
    have hHeld:=hHeld2
    clear hHeld2
    refine nx_ (some 11) ?_
    refine zA (i:=15) (N:=none) (fl 16 65535) rfl rfl (by kernel_rfl) (by decide) (fun K hK=>?_)
    refine zC rfl rfl 28 _ _ rfl g11 #[.slice A2 l.length c2,.int .i64 (wrap64 (exp+2)),.bool false,.slice A56 (sh.length+1) c56] rfl rfl 28 #[.slice none 0 0,.int .i64 0,.bool false,.slice none 0 0] B11.out (zD _ _ _ _) rfl (z7 _ _ _ _ _ _ _ _) ?_
    intro Wd hq hoth hbel
    have HBd:=hhd (hbel _ _ (Nat.le_trans (zj HB_6.out) L11) (zb HB_6.out hHeld))
    have D3_d:=hhd ((hoth _ (fun e=>by have:=zf B3_6.out;omega)).trans (za B3_6.out hHeld))
    have D4_d:=hhd ((hoth _ (fun e=>by have:=zf B4_6.out;omega)).trans (za B4_6.out hHeld))
    have D6_d:=hhd ((hoth _ (fun e=>by have:=zf B6_6.out;omega)).trans (za B6_6.out hHeld))
    have N6:=hhd (show g6≠g11 from fun e=>by have:=zf B6_6.out;omega)
    have N4:=hhd (show g4≠g11 from fun e=>by have:=zf B4_6.out;omega)
    have Ry_d:=hhd (zK (Kd.R_below Ry_6.out hHeld) hoth (fun e=>by have h1:=Kd.R_lt Ry_6.out g11 e.symm;omega))
    have R56_d:=hhd (zE rfl R56.out B11.out (by decide) hoth)
    refine hK.out _ _ (hbel _ _ L11 hHeld) (fun hHeld2=>?_)
    replace B11:=hhd hq
    clear hK K hq hoth hbel hHeld
    have hHeld:=hHeld2
    clear hHeld2
    refine zM (by kernel_rfl) ?_
   case' e3_14 =>
    refine box_step rfl rfl (cs:=#[.slice none 0 0,.int .i64 0,.bool false,.slice none 0 0]) (t:=28) (by first | (go_simp;done) | (go_simp;rfl)) ?_
    intro g11 hg Wc hbox hbl
    refine hK.out _ _ (zb hHeld hbl) (fun hHeld2=>?_)
    replace B55:=hhd (za B55.out hbl)
    have L11:W6.heap.size≤g11:=by rw [hg];exact hHeld.size
    have B11:=hhd hbox
    clear hK K hHeld hbl hbox hg
    have hHeld:=hHeld2
    clear hHeld2
    refine nx_ (some 11) ?_
    refine zA (i:=12) (N:=some 56) (fl 16 24575) rfl rfl (by kernel_rfl) (by decide) (fun K hK=>?_)
    refine zad rfl rfl rfl _ _ rfl As sh g55 2 rfl rfl (Kd.C_below Cs_6.out hHeld) B55.out HLS.out ?_
    intro v56 Wc hrow hbl
    obtain ⟨A56,c56,ev⟩:=Kd.R_slice hrow
    rw [List.length_append,List.length_singleton] at ev
    subst ev
    refine hK.out _ _ (zb hHeld hbl) (fun hHeld2=>?_)
    replace B55:=hhd (za B55.out hbl)
    replace B11:=hhd (za B11.out hbl)
    have L56:W6.heap.size≤_:=hHeld.size
    have R56:=hhd (Kd.R_lower hrow hHeld.size)
    clear hK K hHeld hbl hrow
    have hHeld:=hHeld2
    clear hHeld2
    refine nx_ (some 56) ?_
    refine px_ 13 (some 57) (fl 16 32767) rfl rfl ?_
    refine zA (i:=15) (N:=none) (fl 16 65535) rfl rfl (by kernel_rfl) (by decide) (fun K hK=>?_)
    refine zC rfl rfl 28 _ _ rfl g11 #[.slice A2 l.length c2,.int .i64 (wrap64 (exp+2)),.bool false,.slice A56 (sh.length+1) c56] rfl rfl 28 #[.slice none 0 0,.int .i64 0,.bool false,.slice none 0 0] B11.out (zD _ _ _ _) rfl (z7 _ _ _ _ _ _ _ _) ?_
    intro Wd hq hoth hbel
    have HBd:=hhd (hbel _ _ (Nat.le_trans (zj HB_6.out) L11) (zb HB_6.out hHeld))
    have D3_d:=hhd ((hoth _ (fun e=>by have:=zf B3_6.out;omega)).trans (za B3_6.out hHeld))
    have D4_d:=hhd ((hoth _ (fun e=>by have:=zf B4_6.out;omega)).trans (za B4_6.out hHeld))
    have D6_d:=hhd ((hoth _ (fun e=>by have:=zf B6_6.out;omega)).trans (za B6_6.out hHeld))
    have N6:=hhd (show g6≠g11 from fun e=>by have:=zf B6_6.out;omega)
    have N4:=hhd (show g4≠g11 from fun e=>by have:=zf B4_6.out;omega)
    have Ry_d:=hhd (zK (Kd.R_below Ry_6.out hHeld) hoth (fun e=>by have h1:=Kd.R_lt Ry_6.out g11 e.symm;omega))
    have R56_d:=hhd (zE rfl R56.out B11.out (by decide) hoth)
    refine hK.out _ _ (hbel _ _ L11 hHeld) (fun hHeld2=>?_)
    replace B11:=hhd hq
    clear hK K hq hoth hbel hHeld
    have hHeld:=hHeld2
    clear hHeld2
    refine zM (by kernel_rfl) ?_
  case' e2_14 =>
   refine box_step rfl rfl (cs:=#[.slice none 0 0,.int .i64 0,.bool false,.slice none 0 0]) (t:=28) (by first | (go_simp;done) | (go_simp;rfl)) ?_
   intro g11 hg Wc hbox hbl
   refine hK.out _ _ (zb hHeld hbl) (fun hHeld2=>?_)
   have L11:W6.heap.size≤g11:=by rw [hg];exact hHeld.size
   have B11:=hhd hbox
   clear hK K hHeld hbl hbox hg
   have hHeld:=hHeld2
   clear hHeld2
   refine nx_ (some 11) ?_
   refine zA (i:=11) (N:=some 55) (fl 16 20479) rfl rfl (by kernel_rfl) (by decide) (fun K hK=>?_)
   refine zaD rfl rfl 2 (by first | (go_simp;done) | (go_simp;rfl)) ?_
   intro g55 hg Wc hbox hbl
   refine hK.out _ _ (zb hHeld hbl) (fun hHeld2=>?_)
   replace B11:=hhd (za B11.out hbl)
   have B55:=hhd hbox
   clear hK K hHeld hbl hbox hg
   have hHeld:=hHeld2
   clear hHeld2
   refine nx_ (some 55) ?_
   refine zA (i:=12) (N:=some 56) (fl 16 24575) rfl rfl (by kernel_rfl) (by decide) (fun K hK=>?_)
   refine zad rfl rfl rfl _ _ rfl As sh g55 2 rfl rfl (Kd.C_below Cs_6.out hHeld) B55.out HLS.out ?_
   intro v56 Wc hrow hbl
   obtain ⟨A56,c56,ev⟩:=Kd.R_slice hrow
   rw [List.length_append,List.length_singleton] at ev
   subst ev
   refine hK.out _ _ (zb hHeld hbl) (fun hHeld2=>?_)
   replace B11:=hhd (za B11.out hbl)
   replace B55:=hhd (za B55.out hbl)
   have L56:W6.heap.size≤_:=hHeld.size
   have R56:=hhd (Kd.R_lower hrow hHeld.size)
   clear hK K hHeld hbl hrow
   have hHeld:=hHeld2
   clear hHeld2
   refine nx_ (some 56) ?_
   refine px_ 13 (some 57) (fl 16 32767) rfl rfl ?_
   refine zA (i:=15) (N:=none) (fl 16 65535) rfl rfl (by kernel_rfl) (by decide) (fun K hK=>?_)
   refine zC rfl rfl 28 _ _ rfl g11 #[.slice A2 l.length c2,.int .i64 (wrap64 (exp+2)),.bool false,.slice A56 (sh.length+1) c56] rfl rfl 28 #[.slice none 0 0,.int .i64 0,.bool false,.slice none 0 0] B11.out (zD _ _ _ _) rfl (z7 _ _ _ _ _ _ _ _) ?_
   intro Wd hq hoth hbel
   have HBd:=hhd (hbel _ _ (Nat.le_trans (zj HB_6.out) L11) (zb HB_6.out hHeld))
   have D3_d:=hhd ((hoth _ (fun e=>by have:=zf B3_6.out;omega)).trans (za B3_6.out hHeld))
   have D4_d:=hhd ((hoth _ (fun e=>by have:=zf B4_6.out;omega)).trans (za B4_6.out hHeld))
   have D6_d:=hhd ((hoth _ (fun e=>by have:=zf B6_6.out;omega)).trans (za B6_6.out hHeld))
   have N6:=hhd (show g6≠g11 from fun e=>by have:=zf B6_6.out;omega)
   have N4:=hhd (show g4≠g11 from fun e=>by have:=zf B4_6.out;omega)
   have Ry_d:=hhd (zK (Kd.R_below Ry_6.out hHeld) hoth (fun e=>by have h1:=Kd.R_lt Ry_6.out g11 e.symm;omega))
   have R56_d:=hhd (zE rfl R56.out B11.out (by decide) hoth)
   refine hK.out _ _ (hbel _ _ L11 hHeld) (fun hHeld2=>?_)
   replace B11:=hhd hq
   clear hK K hq hoth hbel hHeld
   have hHeld:=hHeld2
   clear hHeld2
   refine zM (by kernel_rfl) ?_
 case' e1_11 =>
  refine zaD rfl rfl 2 (by first | (go_simp;done) | (go_simp;rfl)) ?_
  intro g55 hg Wc hbox hbl
  refine hK.out _ _ (zb hHeld hbl) (fun hHeld2=>?_)
  have B55:=hhd hbox
  clear hK K hHeld hbl hbox hg
  have hHeld:=hHeld2
  clear hHeld2
  refine nx_ (some 55) ?_
  refine zaM (i:=9) (j:=14) (Ni:=some 53) (Nj:=some 11) (fl 16 4095) (fl 16 19967) rfl rfl rfl rfl (by kernel_rfl) (by decide) (by decide) (fun K hK=>?e4_9) (fun K hK=>?e4_14)
  case' e4_9 =>
   refine zN Tryz.func51 (by kernel_rfl) rfl #[.slice As sh.length cs] (by rfl) rfl rfl (by go_simp) ?_
   refine (zaO As sh.length cs HCS.out HLS.out _).mono ?_
   rintro e Wc ⟨rfl,rfl⟩
   refine ⟨_,rfl,?_⟩
   refine hK.out _ _ hHeld (fun _=>?_)
   clear hK K
   refine nx_ (some 53) ?_
   refine zaM (i:=12) (j:=14) (Ni:=some 56) (Nj:=some 11) (fl 16 8191) (fl 16 20479) rfl rfl rfl rfl (by kernel_rfl) (by decide) (by decide) (fun K hK=>?e5_12) (fun K hK=>?e5_14)
   case' e5_12 =>
    refine zad rfl rfl rfl _ _ rfl As sh g55 2 rfl rfl (Kd.C_below Cs_6.out hHeld) B55.out HLS.out ?_
    intro v56 Wc hrow hbl
    obtain ⟨A56,c56,ev⟩:=Kd.R_slice hrow
    rw [List.length_append,List.length_singleton] at ev
    subst ev
    refine hK.out _ _ (zb hHeld hbl) (fun hHeld2=>?_)
    replace B55:=hhd (za B55.out hbl)
    have L56:W6.heap.size≤_:=hHeld.size
    have R56:=hhd (Kd.R_lower hrow hHeld.size)
    clear hK K hHeld hbl hrow
    have hHeld:=hHeld2
    clear hHeld2
    refine nx_ (some 56) ?_
    refine px_ 13 (some 57) (fl 16 16383) rfl rfl ?_
    refine zA (i:=14) (N:=some 11) (fl 16 32767) rfl rfl (by kernel_rfl) (by decide) (fun K hK=>?_)
    refine box_step rfl rfl (cs:=#[.slice none 0 0,.int .i64 0,.bool false,.slice none 0 0]) (t:=28) (by first | (go_simp;done) | (go_simp;rfl)) ?_
    intro g11 hg Wc hbox hbl
    refine hK.out _ _ (zb hHeld hbl) (fun hHeld2=>?_)
    replace B55:=hhd (za B55.out hbl)
    replace R56:=hhd (Kd.R_below R56.out hbl)
    have L11:W6.heap.size≤g11:=by rw [hg];exact hHeld.size
    have B11:=hhd hbox
    clear hK K hHeld hbl hbox hg
    have hHeld:=hHeld2
    clear hHeld2
    refine nx_ (some 11) ?_
    refine zA (i:=15) (N:=none) (fl 16 65535) rfl rfl (by kernel_rfl) (by decide) (fun K hK=>?_)
    refine zC rfl rfl 28 _ _ rfl g11 #[.slice A2 l.length c2,.int .i64 (wrap64 (exp+2)),.bool false,.slice A56 (sh.length+1) c56] rfl rfl 28 #[.slice none 0 0,.int .i64 0,.bool false,.slice none 0 0] B11.out (zD _ _ _ _) rfl (z7 _ _ _ _ _ _ _ _) ?_
    intro Wd hq hoth hbel
    have HBd:=hhd (hbel _ _ (Nat.le_trans (zj HB_6.out) L11) (zb HB_6.out hHeld))
    have D3_d:=hhd ((hoth _ (fun e=>by have:=zf B3_6.out;omega)).trans (za B3_6.out hHeld))
    have D4_d:=hhd ((hoth _ (fun e=>by have:=zf B4_6.out;omega)).trans (za B4_6.out hHeld))
    have D6_d:=hhd ((hoth _ (fun e=>by have:=zf B6_6.out;omega)).trans (za B6_6.out hHeld))
    have N6:=hhd (show g6≠g11 from fun e=>by have:=zf B6_6.out;omega)
    have N4:=hhd (show g4≠g11 from fun e=>by have:=zf B4_6.out;omega)
    have Ry_d:=hhd (zK (Kd.R_below Ry_6.out hHeld) hoth (fun e=>by have h1:=Kd.R_lt Ry_6.out g11 e.symm;omega))
    have R56_d:=hhd (zE rfl R56.out B11.out (by decide) hoth)
    refine hK.out _ _ (hbel _ _ L11 hHeld) (fun hHeld2=>?_)
    replace B11:=hhd hq
    clear hK K hq hoth hbel hHeld
    have hHeld:=hHeld2
    clear hHeld2
    refine zM (by kernel_rfl) ?_
   case' e5_14 =>
    refine box_step rfl rfl (cs:=#[.slice none 0 0,.int .i64 0,.bool false,.slice none 0 0]) (t:=28) (by first | (go_simp;done) | (go_simp;rfl)) ?_
    intro g11 hg Wc hbox hbl
    refine hK.out _ _ (zb hHeld hbl) (fun hHeld2=>?_)
    replace B55:=hhd (za B55.out hbl)
    have L11:W6.heap.size≤g11:=by rw [hg];exact hHeld.size
    have B11:=hhd hbox
    clear hK K hHeld hbl hbox hg
    have hHeld:=hHeld2
    clear hHeld2
    refine nx_ (some 11) ?_
    refine zA (i:=12) (N:=some 56) (fl 16 24575) rfl rfl (by kernel_rfl) (by decide) (fun K hK=>?_)
    refine zad rfl rfl rfl _ _ rfl As sh g55 2 rfl rfl (Kd.C_below Cs_6.out hHeld) B55.out HLS.out ?_
    intro v56 Wc hrow hbl
    obtain ⟨A56,c56,ev⟩:=Kd.R_slice hrow
    rw [List.length_append,List.length_singleton] at ev
    subst ev
    refine hK.out _ _ (zb hHeld hbl) (fun hHeld2=>?_)
    replace B55:=hhd (za B55.out hbl)
    replace B11:=hhd (za B11.out hbl)
    have L56:W6.heap.size≤_:=hHeld.size
    have R56:=hhd (Kd.R_lower hrow hHeld.size)
    clear hK K hHeld hbl hrow
    have hHeld:=hHeld2
    clear hHeld2
    refine nx_ (some 56) ?_
    refine px_ 13 (some 57) (fl 16 32767) rfl rfl ?_
    refine zA (i:=15) (N:=none) (fl 16 65535) rfl rfl (by kernel_rfl) (by decide) (fun K hK=>?_)
    refine zC rfl rfl 28 _ _ rfl g11 #[.slice A2 l.length c2,.int .i64 (wrap64 (exp+2)),.bool false,.slice A56 (sh.length+1) c56] rfl rfl 28 #[.slice none 0 0,.int .i64 0,.bool false,.slice none 0 0] B11.out (zD _ _ _ _) rfl (z7 _ _ _ _ _ _ _ _) ?_
    intro Wd hq hoth hbel
    have HBd:=hhd (hbel _ _ (Nat.le_trans (zj HB_6.out) L11) (zb HB_6.out hHeld))
    have D3_d:=hhd ((hoth _ (fun e=>by have:=zf B3_6.out;omega)).trans (za B3_6.out hHeld))
    have D4_d:=hhd ((hoth _ (fun e=>by have:=zf B4_6.out;omega)).trans (za B4_6.out hHeld))
    have D6_d:=hhd ((hoth _ (fun e=>by have:=zf B6_6.out;omega)).trans (za B6_6.out hHeld))
    have N6:=hhd (show g6≠g11 from fun e=>by have:=zf B6_6.out;omega)
    have N4:=hhd (show g4≠g11 from fun e=>by have:=zf B4_6.out;omega)
    have Ry_d:=hhd (zK (Kd.R_below Ry_6.out hHeld) hoth (fun e=>by have h1:=Kd.R_lt Ry_6.out g11 e.symm;omega))
    have R56_d:=hhd (zE rfl R56.out B11.out (by decide) hoth)
    refine hK.out _ _ (hbel _ _ L11 hHeld) (fun hHeld2=>?_)
    replace B11:=hhd hq
    clear hK K hq hoth hbel hHeld
    have hHeld:=hHeld2
    clear hHeld2
    refine zM (by kernel_rfl) ?_
  case' e4_14 =>
   refine box_step rfl rfl (cs:=#[.slice none 0 0,.int .i64 0,.bool false,.slice none 0 0]) (t:=28) (by first | (go_simp;done) | (go_simp;rfl)) ?_
   intro g11 hg Wc hbox hbl
   refine hK.out _ _ (zb hHeld hbl) (fun hHeld2=>?_)
   replace B55:=hhd (za B55.out hbl)
   have L11:W6.heap.size≤g11:=by rw [hg];exact hHeld.size
   have B11:=hhd hbox
   clear hK K hHeld hbl hbox hg
   have hHeld:=hHeld2
   clear hHeld2
   refine nx_ (some 11) ?_
   refine zA (i:=9) (N:=some 53) (fl 16 20479) rfl rfl (by kernel_rfl) (by decide) (fun K hK=>?_)
   refine zN Tryz.func51 (by kernel_rfl) rfl #[.slice As sh.length cs] (by rfl) rfl rfl (by go_simp) ?_
   refine (zaO As sh.length cs HCS.out HLS.out _).mono ?_
   rintro e Wc ⟨rfl,rfl⟩
   refine ⟨_,rfl,?_⟩
   refine hK.out _ _ hHeld (fun _=>?_)
   clear hK K
   refine nx_ (some 53) ?_
   refine zA (i:=12) (N:=some 56) (fl 16 24575) rfl rfl (by kernel_rfl) (by decide) (fun K hK=>?_)
   refine zad rfl rfl rfl _ _ rfl As sh g55 2 rfl rfl (Kd.C_below Cs_6.out hHeld) B55.out HLS.out ?_
   intro v56 Wc hrow hbl
   obtain ⟨A56,c56,ev⟩:=Kd.R_slice hrow
   rw [List.length_append,List.length_singleton] at ev
   subst ev
   refine hK.out _ _ (zb hHeld hbl) (fun hHeld2=>?_)
   replace B55:=hhd (za B55.out hbl)
   replace B11:=hhd (za B11.out hbl)
   have L56:W6.heap.size≤_:=hHeld.size
   have R56:=hhd (Kd.R_lower hrow hHeld.size)
   clear hK K hHeld hbl hrow
   have hHeld:=hHeld2
   clear hHeld2
   refine nx_ (some 56) ?_
   refine px_ 13 (some 57) (fl 16 32767) rfl rfl ?_
   refine zA (i:=15) (N:=none) (fl 16 65535) rfl rfl (by kernel_rfl) (by decide) (fun K hK=>?_)
   refine zC rfl rfl 28 _ _ rfl g11 #[.slice A2 l.length c2,.int .i64 (wrap64 (exp+2)),.bool false,.slice A56 (sh.length+1) c56] rfl rfl 28 #[.slice none 0 0,.int .i64 0,.bool false,.slice none 0 0] B11.out (zD _ _ _ _) rfl (z7 _ _ _ _ _ _ _ _) ?_
   intro Wd hq hoth hbel
   have HBd:=hhd (hbel _ _ (Nat.le_trans (zj HB_6.out) L11) (zb HB_6.out hHeld))
   have D3_d:=hhd ((hoth _ (fun e=>by have:=zf B3_6.out;omega)).trans (za B3_6.out hHeld))
   have D4_d:=hhd ((hoth _ (fun e=>by have:=zf B4_6.out;omega)).trans (za B4_6.out hHeld))
   have D6_d:=hhd ((hoth _ (fun e=>by have:=zf B6_6.out;omega)).trans (za B6_6.out hHeld))
   have N6:=hhd (show g6≠g11 from fun e=>by have:=zf B6_6.out;omega)
   have N4:=hhd (show g4≠g11 from fun e=>by have:=zf B4_6.out;omega)
   have Ry_d:=hhd (zK (Kd.R_below Ry_6.out hHeld) hoth (fun e=>by have h1:=Kd.R_lt Ry_6.out g11 e.symm;omega))
   have R56_d:=hhd (zE rfl R56.out B11.out (by decide) hoth)
   refine hK.out _ _ (hbel _ _ L11 hHeld) (fun hHeld2=>?_)
   replace B11:=hhd hq
   clear hK K hq hoth hbel hHeld
   have hHeld:=hHeld2
   clear hHeld2
   refine zM (by kernel_rfl) ?_
 case' e1_14 =>
  refine box_step rfl rfl (cs:=#[.slice none 0 0,.int .i64 0,.bool false,.slice none 0 0]) (t:=28) (by first | (go_simp;done) | (go_simp;rfl)) ?_
  intro g11 hg Wc hbox hbl
  refine hK.out _ _ (zb hHeld hbl) (fun hHeld2=>?_)
  have L11:W6.heap.size≤g11:=by rw [hg];exact hHeld.size
  have B11:=hhd hbox
  clear hK K hHeld hbl hbox hg
  have hHeld:=hHeld2
  clear hHeld2
  refine nx_ (some 11) ?_
  refine zaM (i:=9) (j:=11) (Ni:=some 53) (Nj:=some 55) (fl 16 18431) (fl 16 19967) rfl rfl rfl rfl (by kernel_rfl) (by decide) (by decide) (fun K hK=>?e6_9) (fun K hK=>?e6_11)
  case' e6_9 =>
   refine zN Tryz.func51 (by kernel_rfl) rfl #[.slice As sh.length cs] (by rfl) rfl rfl (by go_simp) ?_
   refine (zaO As sh.length cs HCS.out HLS.out _).mono ?_
   rintro e Wc ⟨rfl,rfl⟩
   refine ⟨_,rfl,?_⟩
   refine hK.out _ _ hHeld (fun _=>?_)
   clear hK K
   refine nx_ (some 53) ?_
   refine zA (i:=11) (N:=some 55) (fl 16 20479) rfl rfl (by kernel_rfl) (by decide) (fun K hK=>?_)
   refine zaD rfl rfl 2 (by first | (go_simp;done) | (go_simp;rfl)) ?_
   intro g55 hg Wc hbox hbl
   refine hK.out _ _ (zb hHeld hbl) (fun hHeld2=>?_)
   replace B11:=hhd (za B11.out hbl)
   have B55:=hhd hbox
   clear hK K hHeld hbl hbox hg
   have hHeld:=hHeld2
   clear hHeld2
   refine nx_ (some 55) ?_
   refine zA (i:=12) (N:=some 56) (fl 16 24575) rfl rfl (by kernel_rfl) (by decide) (fun K hK=>?_)
   refine zad rfl rfl rfl _ _ rfl As sh g55 2 rfl rfl (Kd.C_below Cs_6.out hHeld) B55.out HLS.out ?_
   intro v56 Wc hrow hbl
   obtain ⟨A56,c56,ev⟩:=Kd.R_slice hrow
   rw [List.length_append,List.length_singleton] at ev
   subst ev
   refine hK.out _ _ (zb hHeld hbl) (fun hHeld2=>?_)
   replace B11:=hhd (za B11.out hbl)
   replace B55:=hhd (za B55.out hbl)
   have L56:W6.heap.size≤_:=hHeld.size
   have R56:=hhd (Kd.R_lower hrow hHeld.size)
   clear hK K hHeld hbl hrow
   have hHeld:=hHeld2
   clear hHeld2
   refine nx_ (some 56) ?_
   refine px_ 13 (some 57) (fl 16 32767) rfl rfl ?_
   refine zA (i:=15) (N:=none) (fl 16 65535) rfl rfl (by kernel_rfl) (by decide) (fun K hK=>?_)
   refine zC rfl rfl 28 _ _ rfl g11 #[.slice A2 l.length c2,.int .i64 (wrap64 (exp+2)),.bool false,.slice A56 (sh.length+1) c56] rfl rfl 28 #[.slice none 0 0,.int .i64 0,.bool false,.slice none 0 0] B11.out (zD _ _ _ _) rfl (z7 _ _ _ _ _ _ _ _) ?_
   intro Wd hq hoth hbel
   have HBd:=hhd (hbel _ _ (Nat.le_trans (zj HB_6.out) L11) (zb HB_6.out hHeld))
   have D3_d:=hhd ((hoth _ (fun e=>by have:=zf B3_6.out;omega)).trans (za B3_6.out hHeld))
   have D4_d:=hhd ((hoth _ (fun e=>by have:=zf B4_6.out;omega)).trans (za B4_6.out hHeld))
   have D6_d:=hhd ((hoth _ (fun e=>by have:=zf B6_6.out;omega)).trans (za B6_6.out hHeld))
   have N6:=hhd (show g6≠g11 from fun e=>by have:=zf B6_6.out;omega)
   have N4:=hhd (show g4≠g11 from fun e=>by have:=zf B4_6.out;omega)
   have Ry_d:=hhd (zK (Kd.R_below Ry_6.out hHeld) hoth (fun e=>by have h1:=Kd.R_lt Ry_6.out g11 e.symm;omega))
   have R56_d:=hhd (zE rfl R56.out B11.out (by decide) hoth)
   refine hK.out _ _ (hbel _ _ L11 hHeld) (fun hHeld2=>?_)
   replace B11:=hhd hq
   clear hK K hq hoth hbel hHeld
   have hHeld:=hHeld2
   clear hHeld2
   refine zM (by kernel_rfl) ?_
  case' e6_11 =>
   refine zaD rfl rfl 2 (by first | (go_simp;done) | (go_simp;rfl)) ?_
   intro g55 hg Wc hbox hbl
   refine hK.out _ _ (zb hHeld hbl) (fun hHeld2=>?_)
   replace B11:=hhd (za B11.out hbl)
   have B55:=hhd hbox
   clear hK K hHeld hbl hbox hg
   have hHeld:=hHeld2
   clear hHeld2
   refine nx_ (some 55) ?_
   refine zA (i:=9) (N:=some 53) (fl 16 20479) rfl rfl (by kernel_rfl) (by decide) (fun K hK=>?_)
   refine zN Tryz.func51 (by kernel_rfl) rfl #[.slice As sh.length cs] (by rfl) rfl rfl (by go_simp) ?_
   refine (zaO As sh.length cs HCS.out HLS.out _).mono ?_
   rintro e Wc ⟨rfl,rfl⟩
   refine ⟨_,rfl,?_⟩
   refine hK.out _ _ hHeld (fun _=>?_)
   clear hK K
   refine nx_ (some 53) ?_
   refine zA (i:=12) (N:=some 56) (fl 16 24575) rfl rfl (by kernel_rfl) (by decide) (fun K hK=>?_)
   refine zad rfl rfl rfl _ _ rfl As sh g55 2 rfl rfl (Kd.C_below Cs_6.out hHeld) B55.out HLS.out ?_
   intro v56 Wc hrow hbl
   obtain ⟨A56,c56,ev⟩:=Kd.R_slice hrow
   rw [List.length_append,List.length_singleton] at ev
   subst ev
   refine hK.out _ _ (zb hHeld hbl) (fun hHeld2=>?_)
   replace B11:=hhd (za B11.out hbl)
   replace B55:=hhd (za B55.out hbl)
   have L56:W6.heap.size≤_:=hHeld.size
   have R56:=hhd (Kd.R_lower hrow hHeld.size)
   clear hK K hHeld hbl hrow
   have hHeld:=hHeld2
   clear hHeld2
   refine nx_ (some 56) ?_
   refine px_ 13 (some 57) (fl 16 32767) rfl rfl ?_
   refine zA (i:=15) (N:=none) (fl 16 65535) rfl rfl (by kernel_rfl) (by decide) (fun K hK=>?_)
   refine zC rfl rfl 28 _ _ rfl g11 #[.slice A2 l.length c2,.int .i64 (wrap64 (exp+2)),.bool false,.slice A56 (sh.length+1) c56] rfl rfl 28 #[.slice none 0 0,.int .i64 0,.bool false,.slice none 0 0] B11.out (zD _ _ _ _) rfl (z7 _ _ _ _ _ _ _ _) ?_
   intro Wd hq hoth hbel
   have HBd:=hhd (hbel _ _ (Nat.le_trans (zj HB_6.out) L11) (zb HB_6.out hHeld))
   have D3_d:=hhd ((hoth _ (fun e=>by have:=zf B3_6.out;omega)).trans (za B3_6.out hHeld))
   have D4_d:=hhd ((hoth _ (fun e=>by have:=zf B4_6.out;omega)).trans (za B4_6.out hHeld))
   have D6_d:=hhd ((hoth _ (fun e=>by have:=zf B6_6.out;omega)).trans (za B6_6.out hHeld))
   have N6:=hhd (show g6≠g11 from fun e=>by have:=zf B6_6.out;omega)
   have N4:=hhd (show g4≠g11 from fun e=>by have:=zf B4_6.out;omega)
   have Ry_d:=hhd (zK (Kd.R_below Ry_6.out hHeld) hoth (fun e=>by have h1:=Kd.R_lt Ry_6.out g11 e.symm;omega))
   have R56_d:=hhd (zE rfl R56.out B11.out (by decide) hoth)
   refine hK.out _ _ (hbel _ _ L11 hHeld) (fun hHeld2=>?_)
   replace B11:=hhd hq
   clear hK K hq hoth hbel hHeld
   have hHeld:=hHeld2
   clear hHeld2
   refine zM (by kernel_rfl) ?_
 all_goals
  have kk:=(zc D3_d.out 3).trans rfl
  clear hHeld
  go_wp2_with (first
   | ((with_reducible refine zg (N:=75) rfl ?_);refine wpList_load_row rfl 28 _ rfl g11 rfl 28 #[.slice A2 l.length c2,.int .i64 (wrap64 (exp+2)),.bool false,.slice A56 (sh.length+1) c56] (0,0) _ B11.out Tryz.underlying28 rfl (zD _ _ _ _) ?_)
   | ((with_reducible refine zo (t:=28) (p:=6) rfl ?_);refine zv rfl 28 _ _ rfl g6 #[.slice A2 l.length c2,.int .i64 (wrap64 (exp+2)),.bool false,.slice A56 (sh.length+1) c56] rfl rfl 28 #[.slice none 0 0,.int .i64 0,.bool false,.slice none 0 0] D6_d.out (zD _ _ _ _) rfl (z7 _ _ _ _ _ _ _ _) ?_;intro We hq hoth hbel;have D6_e:=hhd hq;have HB_e:=hhd (hbel _ _ L6 HBd.out);have Ry_e:=hhd (zE rfl Ry_d.out D6_d.out (by decide) hoth);have R56_e:=hhd (zE rfl R56_d.out D6_d.out (by decide) hoth);clear hq hoth hbel))
  have HV:=hhd HEX.out
  clear kk
  refine bodyPost_ret (results_cell_row rfl _ _ g6 28 #[.slice A2 l.length c2,.int .i64 (wrap64 (exp+2)),.bool false,.slice A56 (sh.length+1) c56] (0,0) _ rfl D6_e.out Tryz.underlying28 rfl (zD _ _ _ _)) rfl ?_
  refine ⟨A2,c2,A56,c56,?_,Ry_e.out,Kd.R_lower R56_e.out (zj HB_6.out),HB_e.out⟩
  rw [HEX.out]
end Go.Proofs.YteieahbadclppaaGreat.P

namespace Go.Proofs.YteieahbadclppaaGreat.P
open Go.RowKit Go.Proofs.YteieahbadclppaaGreatW.PrintWords Go.Proofs.YteieahbadclppaaGreatW.PrintLast Go.Proofs.YteieahbadclppaaGreatW.PrintMore
set_option linter.unusedVariables false
set_option linter.unusedSimpArgs false
theorem zcG (t:Nat):((2^t:Nat):Int)=2^t:=Int.natCast_pow 2 t
theorem zfp {i:Nat}:∀(gs:List Grp) (o:List S38),(∀g,g∈gs→∀p,p∈g.pl→p≠i)→(zdz o gs).getD i z38=o.getD i z38
 | [],_,_=>rfl
 | g :: gs,o,h=>by
  show (zdz (zaT o (g.asg o)) gs).getD i z38=_
  rw [zfp gs _ (fun g' hg=>h g' (List.mem_cons_of_mem _ hg))]
  exact zdy (g.asg o) o i fun q hq=>h g (List.mem_cons_self ..) _ (ze6 _ _ _ hq)
theorem zls {x wl:List S38} {h T n:Nat} {u bits s mode:Int} {inv:Bool} (hx:x.length=n) (hc:zeI h T n=true) (hB:∀z,z∈x→inB 2147483648 z=true) :
  ∀t,t < T→∀j,j < h→∀k,k < 4→inB 2147483648 (aOf (zba (zbI x wl h u bits s mode inv t) wl (t*(4*h)) h u bits s mode inv j) (t*(4*h)) h j k)=true:=by
 intro t ht j hj
 unfold zeI at hc
 rw [Bool.and_eq_true,Bool.and_eq_true,decide_eq_true_eq,List.all_eq_true,List.all_eq_true] at hc
 obtain ⟨⟨hn,hall⟩,hp⟩:=hc
 have hq:∀t,t < T→∀j,j < h→∀q,q < 4→(t*(4*h)+(q*h+j)) / (4*h)=t∧(t*(4*h)+(q*h+j)) % (4*h) % h=j∧t*(4*h)+(q*h+j) < n:=by
  intro t ht j hj q hq
  have h1:=hp t (List.mem_range.2 ht)
  rw [List.all_eq_true] at h1
  have h2:=h1 j (List.mem_range.2 hj)
  rw [List.all_eq_true] at h2
  have h3:=h2 q (List.mem_range.2 hq)
  simp only [Bool.and_eq_true,decide_eq_true_eq] at h3
  exact ⟨h3.1,h3.2.1,h3.2.2.2⟩
 have hpl:∀(fr j p:Nat),p∈(zdN wl h u bits s mode inv fr j).pl→∃q,q < 4∧p=fr+(q*h+j):=by
  intro fr j p hp
  simp only [zdN,List.mem_cons,List.not_mem_nil,or_false] at hp
  rcases hp with rfl | rfl | rfl | rfl
  ·exact ⟨0,by decide,rfl⟩
  ·exact ⟨1,by decide,rfl⟩
  ·exact ⟨2,by decide,rfl⟩
  ·exact ⟨3,by decide,rfl⟩
 have key:∀q,q < 4→inB 2147483648 ((zba (zbI x wl h u bits s mode inv t) wl (t*(4*h)) h u bits s mode inv j).getD (t*(4*h)+(q*h+j)) z38)=true:=by
  intro q hq4
  obtain ⟨a1,a2,a3⟩:=hq t ht j hj q hq4
  rw [zee,zdO,zfp,zfp]
  ·have hlt:t*(4*h)+(q*h+j) < x.length:=by omega
   rw [List.getD_eq_getElem?_getD,List.getElem?_eq_getElem hlt]
   exact hB _ (List.getElem_mem hlt)
  ·intro g hg p hp he
   obtain ⟨t',ht',hg⟩:=List.mem_flatMap.1 hg
   obtain ⟨j',hj',rfl⟩:=List.mem_map.1 hg
   have ht':=List.mem_range.1 ht'
   obtain ⟨q',hq',rfl⟩:=hpl _ _ _ hp
   have b:=(hq t' (by omega) j' (List.mem_range.1 hj') q' hq').1
   rw [he,a1] at b
   omega
  ·intro g hg p hp he
   obtain ⟨j',hj',rfl⟩:=List.mem_map.1 hg
   have hj':=List.mem_range.1 hj'
   obtain ⟨q',hq',rfl⟩:=hpl _ _ _ hp
   have b:=(hq t ht j' (by omega) q' hq').2.1
   rw [he,a2] at b
   omega
 intro k hk
 rw [zhF]
 have h4:k=0∨k=1∨k=2∨k=3:=by omega
 rcases h4 with rfl | rfl | rfl | rfl
 ·exact key 0 (by decide)
 ·exact key 2 (by decide)
 ·exact key 1 (by decide)
 ·exact key 3 (by decide)
theorem zmn {fm:Nat} {mode:Int} (m0:0≤mode) (m1:mode < 3):two_settings.f (bN fm) 1 mode=some true:=by
 have h:mode=0∨mode=1∨mode=2:=by omega
 unfold bN
 split <;> rcases h with rfl | rfl | rfl <;> decide +kernel
theorem zmo {fm:Nat} {mode:Int} (m0:0≤mode) (m1:mode < 3):four_settings.f (bN fm) 2 mode=some true:=by
 have h:mode=0∨mode=1∨mode=2:=by omega
 unfold bN
 split <;> rcases h with rfl | rfl | rfl <;> decide +kernel
theorem zkq {m m':Int} {x:S38} (h:inB m x=true) (hm:m≤m'):inB m' x=true:=by
 obtain ⟨a,b,c,d⟩:=zan h
 exact zbe (by omega)
theorem ziy {fm g:Nat} (hf:fm < 2) (h2:2≤g) (h6:g≤6):∀z,z∈twL fm g→inB 536870912 z=true:=fun z hz=>zkq ((zbC hf h2 h6).2.2 z hz).2 (qN fm).2
theorem zfM {g:Nat} (h6:g≤6):0 < 2^g∧2^g≤64:=⟨Nat.pow_pos (by decide),Nat.le_trans (Nat.pow_le_pow_right (by decide) h6) (by decide)⟩
theorem znF {T H n:Nat} (h:T*(4*H)=n) (hn:n≤64) (hH:0 < H):0≤(T:Int)∧4*(H:Int)*T≤n∧(T:Int)≤64:=by
 have h1:((T*(4*H):Nat):Int)=n:=by rw [h]
 rw [Int.natCast_mul,Int.natCast_mul] at h1
 have h2:T*1≤T*(4*H):=Nat.mul_le_mul_left T (by omega)
 refine ⟨by omega,?_,by omega⟩
 rw [Int.mul_comm]
 have e:((4:Nat):Int)=4:=rfl
 rw [e] at h1
 omega
theorem znG {fm g t:Nat} (p0 p1 p2 mode b e:Int) (inv:Bool) (k:Nat) (Y:List S38) (hf:fm < 2) (h2:2≤g) (h6:g≤6) (hp:pcB g (false,t)=true) (hb:b=(bN fm:Int)+2) (m0:0≤mode) (m1:mode < 3) (hk:k≤10) (e0:-1000≤e) (e1:e≤1000) (hY:Y.length=2^g) (hM:zav (184*2^bN fm) Y) :
  zb9 (fun Aw cw=>#[.int .i64 p0,.int .i64 p1,.int .i64 p2,.int .i64 0,.int .i64 mode,.bool inv,.iface 97 (.agg #[]),.int .i64 b,.slice Aw (twL fm g).length cw]) (twL fm g) (2^g) k Y (zag (zab fm g inv (false,t)).1 mode (zab fm g inv (false,t)).2 Y) e (e+1) (zi7 (false,t)):=by
 obtain ⟨c1,c2,c3,c4⟩:=pc2 h2 h6 hp
 obtain ⟨t1,t2,t3⟩:=zbC hf h2 h6
 obtain ⟨q0,q1⟩:=qN fm
 obtain ⟨b0,b1⟩:=zeZ fm
 obtain ⟨l0,l1⟩:=zfM h6
 have hin:=hM.in (m:=2147483648) (by omega)
 have hpos:(0:Int) < 2^t:=zaN t
 have ct:=zcG t
 have cg:=zcG g
 have rows:=zkc Y (twL fm g) (2^t) 1 mode (2^g / (2*2^t)) (bN fm) (2^g) inv hY (by omega) c1 hin (fun i i0 i1=>zkq (zgb (zc0 (ziy hf h2 h6) i0 (by rw [t2];exact i1))) (by decide)) (by omega) (by decide) (by decide) m0 m1 (bN fm+1) rfl
 intro W Ax cx As cs sh Aw cw hx hcx hs hcs hks hw hcw
 subst hks
 have hlen:(zag (zab fm g inv (false,t)).1 mode (zab fm g inv (false,t)).2 Y).length=Y.length:=by rw [zdE,zcE,hY]
 have hp:∀W:World,Kd.C k38 W Ax Y.length Y→Kd.C k38 W Aw (twL fm g).length (twL fm g)→Calls Tryz.prog 49 #[.slice Ax Y.length cx,.slice Aw (twL fm g).length cw,.int .i64 (2^t),.int .i64 (b - 2),.int .i64 1,.int .i64 mode,.bool inv] W fun e w'=>∃v,e=.returned (.tuple #[v,.int .i64 0])∧Kd.R k38 38 w' W.heap.size (fun _=>True) v (zag (zab fm g inv (false,t)).1 mode (zab fm g inv (false,t)).2 Y)∧Below W.heap.size W w':=by
  intro W2 h1 h3
  have hidx:∀p,p∈zU (2^t) (2^g / (2*2^t)) Y.length→0≤p.1∧p.1+2^t < (Y.length:Int)∧0≤p.2∧p.2 < (Y.length:Int):=by
   intro p hp1
   rw [hY] at hp1 ⊢
   unfold zeH at c1
   rw [Bool.and_eq_true,Bool.and_eq_true,decide_eq_true_eq,List.all_eq_true,List.all_eq_true] at c1
   have h4:=c1.2 p hp1
   simp only [Bool.and_eq_true,decide_eq_true_eq] at h4
   omega
  have hq:=ze5 Ax Aw cx cw Y (twL fm g) (2^t) (bN fm) 1 mode (2^g / (2*2^t)) (2^bN fm) g inv W2 h1 hcx h3 hcw (by rw [t2,hY]) (by omega) (by omega) (by rw [hY];exact zht h2 h6) (by omega) (by rw [hY];omega) (by rw [← ct];exact c3) (zmn m0 m1) (by omega) (by omega) (by rw [Int.toNat_natCast]) (by omega) (by decide) (by decide) m0 m1 hin (fun z hz=>(t3 z hz).2) (by rw [hY,cg]) hidx
  rw [hY,rows] at hq
  rw [hY,show b - 2=(bN fm:Int) by omega]
  exact hq
 have hn:=zl7 p0 p1 p2 mode b inv Aw (twL fm g) cw Ax cx Y _ e (2^t) As cs sh W hx hw hs hcs (by omega) hlen e0 e1 (by omega) (by omega) hp
 rw [hY] at hn
 refine hn.mono ?_
 rintro e w' ⟨A',c',As',cs',rfl,q1,q2,q3⟩
 exact ⟨A',c',As',cs',_,rfl,q1,q2,q3⟩
theorem znH {fm g t:Nat} (p0 p1 p2 mode b e:Int) (inv:Bool) (k:Nat) (Y:List S38) (hf:fm < 2) (h2:2≤g) (h6:g≤6) (hp:pcB g (true,t)=true) (hb:b=(bN fm:Int)+2) (m0:0≤mode) (m1:mode < 3) (hk:k≤10) (e0:-1000≤e) (e1:e≤1000) (hY:Y.length=2^g) (hM:zav (184*2^bN fm) Y) :
  zb9 (fun Aw cw=>#[.int .i64 p0,.int .i64 p1,.int .i64 p2,.int .i64 0,.int .i64 mode,.bool inv,.iface 97 (.agg #[]),.int .i64 b,.slice Aw (twL fm g).length cw]) (twL fm g) (2^g) k Y (zag (zab fm g inv (true,t)).1 mode (zab fm g inv (true,t)).2 Y) e (e+2) (zi7 (true,t)):=by
 obtain ⟨c1,c2,c3,c4,c5⟩:=pc4 h2 h6 hp
 obtain ⟨t1,t2,t3⟩:=zbC hf h2 h6
 obtain ⟨q0,q1⟩:=qN fm
 obtain ⟨b0,b1⟩:=zeZ fm
 obtain ⟨l0,l1⟩:=zfM h6
 have hin:=hM.in (m:=2147483648) (by omega)
 have hpos:0 < 2^t:=Nat.pow_pos (by decide)
 have ct:=zcG t
 have rows:=zif Y (twL fm g) (2^t) (2^g / (4*2^t)) (2^g) ((2^g / (4*2^t):Nat):Int) 2 mode (bN fm) (bN fm+2) inv hY c1 rfl
 have hfour:=zls (wl:=twL fm g) (u:=((2^g / (4*2^t):Nat):Int)) (bits:=bN fm) (s:=2) (mode:=mode) (inv:=inv) hY c1 hin
 intro W Ax cx As cs sh Aw cw hx hcx hs hcs hks hw hcw
 subst hks
 have hlen:(zag (zab fm g inv (true,t)).1 mode (zab fm g inv (true,t)).2 Y).length=Y.length:=by rw [zdE,zcE,hY]
 have hp:∀W:World,Kd.C k38 W Ax Y.length Y→Kd.C k38 W Aw (twL fm g).length (twL fm g)→Calls Tryz.prog 50 #[.slice Ax Y.length cx,.slice Aw (twL fm g).length cw,.int .i64 (2^t),.int .i64 (b - 2),.int .i64 2,.int .i64 mode,.bool inv] W fun e w'=>∃v,e=.returned (.tuple #[v,.int .i64 0])∧Kd.R k38 38 w' W.heap.size (fun _=>True) v (zag (zab fm g inv (true,t)).1 mode (zab fm g inv (true,t)).2 Y)∧Below W.heap.size W w':=by
  intro W2 h1 h3
  have hu:0≤((2^g / (4*2^t):Nat):Int)∧4*(2:Int)^t*((2^g / (4*2^t):Nat):Int)≤(Y.length:Int)∧((2^g / (4*2^t):Nat):Int)≤64:=by
   rw [hY,← ct]
   exact znF c2 l1 hpos
  have hq:=zhE Ax Aw cx cw Y (twL fm g) (2^t) (2^g / (4*2^t)) (2^t) (bN fm) 2 mode ((2^g / (4*2^t):Nat):Int) (2^bN fm) g inv W2 h1 hcx h3 hcw (by rw [t2,hY]) (by omega) (by omega) (by rw [hY];exact zht h2 h6) ct.symm hpos (by rw [hY];exact c2) (by rw [hY,← ct];exact c4) (by rw [hY,← ct];exact c3) hu (by rw [← ct];exact c5) (zmo m0 m1) (by omega) (by omega) (by rw [Int.toNat_natCast]) (by omega) (by decide) (by decide) m0 m1 hin (fun z hz=>(t3 z hz).2) hfour
  rw [hY,rows] at hq
  rw [hY,show b - 2=(bN fm:Int) by omega]
  exact hq
 have hn:=zmm p0 p1 p2 mode b inv Aw (twL fm g) cw Ax cx Y _ e (2^t) As cs sh W hx hw hs hcs (by omega) hlen e0 e1 (by omega) (by omega) hp
 rw [hY] at hn
 refine hn.mono ?_
 rintro e w' ⟨A',c',As',cs',rfl,q1,q2,q3⟩
 exact ⟨A',c',As',cs',_,rfl,q1,q2,q3⟩
theorem zfq (x:List S38):zaJ 0 0 x x:=by
 refine ⟨rfl,by decide,fun k hk=>?_⟩
 generalize x.getD k z38=u
 have e:zcc 0 u u=z38:=by
  unfold zcc zaw zaq z38
  apply zaH <;> dsimp only <;> omega
 rw [e]
 exact z6.zero
theorem zgc {m:Int} (hm:0≤m) {x:List S38} (h:∀z,z∈x→inB m z=true):zav (91*m) x:=by
 refine ⟨by omega,fun k hk=>?_⟩
 have h1:=h (x.getD k z38) (by rw [List.getD_eq_getElem?_getD,List.getElem?_eq_getElem hk];exact List.getElem_mem hk)
 obtain ⟨a,b,c,d⟩:=zan h1
 exact z6.box hm a c b d
end Go.Proofs.YteieahbadclppaaGreat.P

namespace Go.Proofs.YteieahbadclppaaGreat.P
open Go.RowKit Go.Proofs.YteieahbadclppaaGreatW.PrintWords Go.Proofs.YteieahbadclppaaGreatW.PrintLast Go.Proofs.YteieahbadclppaaGreatW.PrintMore
attribute [local go_sem] zI zJ zO zP
set_option linter.unusedVariables false
set_option linter.unusedSimpArgs false
theorem zjf {e base:Nat} {ok:Nat→Prop} {w:World} {A:Option Addr} {n c:Nat} {xs:List S38} (h:Kd.R k38 e w base ok (.slice A n c) xs):n≤c∧Kd.C k38 w A n xs:=by
 obtain ⟨A',c',hv,h1,h2⟩:=Kd.R_reads h
 injection hv with e1 e2 e3
 subst e1;subst e3;subst e2
 exact ⟨h1,h2⟩
set_option maxRecDepth 100000 in
set_option maxHeartbeats 4000000 in
theorem zgx (p0 p1 p4:Int) (p5:Bool) (A:Option Addr) (c:Nat) (l:List S38) (n:Nat) (Y0 Y1:List S38) (w:World) (hr:Kd.C k38 w A l.length l)
  (hrd:∀W:World,Kd.C k38 W A l.length l→Calls Tryz.prog 16 #[.slice A l.length c,.agg #[.int .i64 p0,.int .i64 p1,.int .i64 2,.int .i64 0,.int .i64 p4,.bool p5]] W fun e w'=>∃A' c',e=.returned (.tuple #[.agg #[.slice A' n c',.int .i64 1,.bool false,.slice none 0 0],.int .i64 0])∧Kd.R k38 38 w' W.heap.size (fun _=>True) (.slice A' n c') Y0∧Below W.heap.size W w')
  (hsp:∀(W:World) (A':Option Addr) (c':Nat),Kd.C k38 W A' n Y0→n≤c'→Calls Tryz.prog 17 #[.slice A' n c',.int .i64 p0,.int .i64 p4,.bool p5] W fun e w'=>∃A2 c2,e=.returned (.tuple #[.slice A2 n c2,.int .i64 0])∧Kd.R k38 38 w' W.heap.size (fun _=>True) (.slice A2 n c2) Y1∧Below W.heap.size W w') :
  Calls Tryz.prog 7 #[.slice A l.length c,.agg (zaj p0 p1 2 0 p4 p5)] w fun e w'=>∃A' c',e=.returned (.tuple #[.agg #[.slice A' n c',.int .i64 (wrap64 (1+p1)),.bool false,.slice none 0 0],.int .i64 0])∧Kd.R k38 38 w' w.heap.size (fun _=>True) (.slice A' n c') Y1∧Below w.heap.size w w':=by
 have HR:=hhd hr
 have HRD:=hhd hrd
 have HSP:=hhd hsp
 have HB0:=hhd (Below.refl w.heap.size w)
 clear hr hrd hsp
 unfold zaj
 go_enter Tryz.func7,Tryz.ntmps7
 go_wp2_with (first
  | ((with_reducible refine zg (N:=3) rfl ?_);refine ba_ 3 #[.int .i64 p0,.int .i64 p1,.int .i64 2,.int .i64 0,.int .i64 p4,.bool p5] 24 ?_;intro g3 hg W1 hbox hbl;have L3:=gf_ hg HB0.out;have B3_1:=hhd hbox;have HB_1:=hhd (zb HB0.out hbl);have Cx_1:=hhd (Kd.C_below HR.out HB_1.out);obtain ⟨k3_0_1,k3_1_1,k3_2_1,k3_3_1,k3_4_1,k3_5_1⟩:=bk6 B3_1.out;clear hbox hbl hg)
  | ((with_reducible refine zg (N:=4) rfl ?_);refine ba_ 4 #[.slice none 0 0,.int .i64 0,.bool false,.slice none 0 0] 28 ?_;intro g4 hg W2 hbox hbl;have L4:=gf_ hg HB_1.out;have B4_2:=hhd hbox;have HB_2:=hhd (zb HB_1.out hbl);have B3_2:=hhd (za B3_1.out hbl);have Cx_2:=hhd (Kd.C_below HR.out HB_2.out);obtain ⟨k3_0_2,k3_1_2,k3_2_2,k3_3_2,k3_4_2,k3_5_2⟩:=bk6 B3_2.out;clear k3_0_1 k3_1_1 k3_2_1 k3_3_1 k3_4_1 k3_5_1;obtain ⟨k4_0_2,k4_1_2,k4_2_2,k4_3_2⟩:=bk4 B4_2.out;have NE3_4:=hhd (show g3≠g4 from fun e=>by have:=zf B3_1.out;omega);clear hbox hbl hg)
  | ((with_reducible refine zg (N:=15) rfl ?_);refine wpList_load_row rfl 24 _ rfl g3 rfl 24 #[.int .i64 p0,.int .i64 p1,.int .i64 2,.int .i64 0,.int .i64 p4,.bool p5] (0,0) _ B3_2.out Tryz.underlying24 rfl (zat _ _ _ _ _ _) ?_)
  | (go_at_call 16;refine (HRD.out _ Cx_2.out).mono ?_;rintro e W3 ⟨A1,c1,rfl,ho,hb⟩;have Ry_3:=hhd (Kd.R_lower ho (zj HB_2.out));have HB_3:=hhd (zb HB_2.out hb);have B3_3:=hhd (za B3_2.out hb);have B4_3:=hhd (za B4_2.out hb);have Cx_3:=hhd (Kd.C_below HR.out HB_3.out);obtain ⟨k3_0_3,k3_1_3,k3_2_3,k3_3_3,k3_4_3,k3_5_3⟩:=bk6 B3_3.out;obtain ⟨k4_0_3,k4_1_3,k4_2_3,k4_3_3⟩:=bk4 B4_3.out;clear k3_0_2 k3_1_2 k3_2_2 k3_3_2 k3_4_2 k3_5_2 k4_0_2 k4_1_2 k4_2_2 k4_3_2;clear hb ho)
  | ((with_reducible refine zg (N:=6) rfl ?_);refine ba_ 6 #[.slice none 0 0,.int .i64 0,.bool false,.slice none 0 0] 28 ?_;intro g6 hg W4 hbox hbl;have L6:=gf_ hg HB_3.out;have B6_4:=hhd hbox;have HB_4:=hhd (zb HB_3.out hbl);have B3_4:=hhd (za B3_3.out hbl);have B4_4:=hhd (za B4_3.out hbl);have Ry_4:=hhd (Kd.R_below Ry_3.out hbl);have Cx_4:=hhd (Kd.C_below HR.out HB_4.out);obtain ⟨k3_0_4,k3_1_4,k3_2_4,k3_3_4,k3_4_4,k3_5_4⟩:=bk6 B3_4.out;obtain ⟨k4_0_4,k4_1_4,k4_2_4,k4_3_4⟩:=bk4 B4_4.out;clear k3_0_3 k3_1_3 k3_2_3 k3_3_3 k3_4_3 k3_5_3 k4_0_3 k4_1_3 k4_2_3 k4_3_3;obtain ⟨k6_0_4,k6_1_4,k6_2_4,k6_3_4⟩:=bk4 B6_4.out;have NE3_6:=hhd (show g3≠g6 from fun e=>by have:=zf B3_3.out;omega);have NE4_6:=hhd (show g4≠g6 from fun e=>by have:=zf B4_3.out;omega);clear hbox hbl hg)
  | ((with_reducible refine zo (t:=28) (p:=6) rfl ?_);refine zv rfl 28 _ _ rfl g6 #[.slice A1 n c1,.int .i64 1,.bool false,.slice none 0 0] rfl rfl 28 #[.slice none 0 0,.int .i64 0,.bool false,.slice none 0 0] B6_4.out (zD _ _ _ _) rfl (z7 _ _ _ _ _ _ _ _) ?_;intro W5 hq hoth hbel;have B6_5:=hhd hq;have HB_5:=hhd (hbel _ _ L6 HB_4.out);have B3_5:=hhd ((hoth _ NE3_6.out).trans B3_4.out);have B4_5:=hhd ((hoth _ NE4_6.out).trans B4_4.out);have Ry_5:=hhd (zE rfl Ry_4.out B6_4.out (by decide) hoth);obtain ⟨k3_0_5,k3_1_5,k3_2_5,k3_3_5,k3_4_5,k3_5_5⟩:=bk6 B3_5.out;obtain ⟨k4_0_5,k4_1_5,k4_2_5,k4_3_5⟩:=bk4 B4_5.out;clear k3_0_4 k3_1_4 k3_2_4 k3_3_4 k3_4_4 k3_5_4 k4_0_4 k4_1_4 k4_2_4 k4_3_4 k6_0_4 k6_1_4 k6_2_4 k6_3_4;obtain ⟨k6_0_5,k6_1_5,k6_2_5,k6_3_5⟩:=bk4 B6_5.out;have Cx_5:=hhd (Kd.C_below HR.out HB_5.out);clear hq hoth hbel)
  | (go_at_call 17;refine (HSP.out _ A1 c1 (zjf Ry_5.out).2 (zjf Ry_5.out).1).mono ?_;rintro e W6 ⟨A2,c2,rfl,ho,hb⟩;have Rz_6:=hhd (Kd.R_lower ho (zj HB_5.out));have HB_6:=hhd (zb HB_5.out hb);have B3_6:=hhd (za B3_5.out hb);have B4_6:=hhd (za B4_5.out hb);have B6_6:=hhd (za B6_5.out hb);have Cx_6:=hhd (Kd.C_below HR.out HB_6.out);obtain ⟨k3_0_6,k3_1_6,k3_2_6,k3_3_6,k3_4_6,k3_5_6⟩:=bk6 B3_6.out;obtain ⟨k4_0_6,k4_1_6,k4_2_6,k4_3_6⟩:=bk4 B4_6.out;obtain ⟨k6_0_6,k6_1_6,k6_2_6,k6_3_6⟩:=bk4 B6_6.out;clear k3_0_5 k3_1_5 k3_2_5 k3_3_5 k3_4_5 k3_5_5 k4_0_5 k4_1_5 k4_2_5 k4_3_5 k6_0_5 k6_1_5 k6_2_5 k6_3_5;clear hb ho)
  | ((with_reducible refine zo (t:=22) (p:=38) rfl ?_);refine zbq rfl rfl 22 _ _ rfl g6 0 (.slice A2 n c2) rfl rfl 28 _ B6_6.out (show (0:Nat) < 4 from by decide) zgp rfl rfl #[.slice A2 n c2,.int .i64 1,.bool false,.slice none 0 0] rfl ?_;intro W7 hq hoth hbel;have B6_7:=hhd hq;have HB_7:=hhd (hbel _ _ L6 HB_6.out);have B3_7:=hhd ((hoth _ NE3_6.out).trans B3_6.out);have B4_7:=hhd ((hoth _ NE4_6.out).trans B4_6.out);have Rz_7:=hhd (zE rfl Rz_6.out B6_6.out (by decide) hoth);obtain ⟨k3_0_7,k3_1_7,k3_2_7,k3_3_7,k3_4_7,k3_5_7⟩:=bk6 B3_7.out;obtain ⟨k4_0_7,k4_1_7,k4_2_7,k4_3_7⟩:=bk4 B4_7.out;clear k3_0_6 k3_1_6 k3_2_6 k3_3_6 k3_4_6 k3_5_6 k4_0_6 k4_1_6 k4_2_6 k4_3_6 k6_0_6 k6_1_6 k6_2_6 k6_3_6;obtain ⟨k6_0_7,k6_1_7,k6_2_7,k6_3_7⟩:=bk4 B6_7.out;have Cx_7:=hhd (Kd.C_below HR.out HB_7.out);clear hq hoth hbel)
  | ((with_reducible refine zo (t:=3) (p:=44) rfl ?_);refine zbq rfl rfl 3 _ _ rfl g6 1 (.int .i64 (wrap64 (1+p1))) rfl rfl 28 _ B6_7.out (show (1:Nat) < 4 from by decide) zbY rfl rfl #[.slice A2 n c2,.int .i64 (wrap64 (1+p1)),.bool false,.slice none 0 0] rfl ?_;intro W8 hq hoth hbel;have B6_8:=hhd hq;have HB_8:=hhd (hbel _ _ L6 HB_7.out);have B3_8:=hhd ((hoth _ NE3_6.out).trans B3_7.out);have B4_8:=hhd ((hoth _ NE4_6.out).trans B4_7.out);have Rz_8:=hhd (zE rfl Rz_7.out B6_7.out (by decide) hoth);obtain ⟨k3_0_8,k3_1_8,k3_2_8,k3_3_8,k3_4_8,k3_5_8⟩:=bk6 B3_8.out;obtain ⟨k4_0_8,k4_1_8,k4_2_8,k4_3_8⟩:=bk4 B4_8.out;clear k3_0_7 k3_1_7 k3_2_7 k3_3_7 k3_4_7 k3_5_7 k4_0_7 k4_1_7 k4_2_7 k4_3_7 k6_0_7 k6_1_7 k6_2_7 k6_3_7;obtain ⟨k6_0_8,k6_1_8,k6_2_8,k6_3_8⟩:=bk4 B6_8.out;have Cx_8:=hhd (Kd.C_below HR.out HB_8.out);clear hq hoth hbel)
  | ((with_reducible refine zg (N:=45) rfl ?_);refine wpList_load_row rfl 28 _ rfl g6 rfl 28 #[.slice A2 n c2,.int .i64 (wrap64 (1+p1)),.bool false,.slice none 0 0] (0,0) _ B6_8.out Tryz.underlying28 rfl (zD _ _ _ _) ?_)
  | ((with_reducible refine zo (t:=28) (p:=4) rfl ?_);have NE34:=NE3_4;have NE64:=hhd (Ne.symm NE4_6.out);refine zv rfl 28 _ _ rfl g4 #[.slice A2 n c2,.int .i64 (wrap64 (1+p1)),.bool false,.slice none 0 0] rfl rfl 28 #[.slice none 0 0,.int .i64 0,.bool false,.slice none 0 0] B4_8.out (zD _ _ _ _) rfl (z7 _ _ _ _ _ _ _ _) ?_;intro W9 hq hoth hbel;have B4_9:=hhd hq;have HB_9:=hhd (hbel _ _ L4 HB_8.out);have B3_9:=hhd ((hoth _ NE34.out).trans B3_8.out);have B6_9:=hhd ((hoth _ NE64.out).trans B6_8.out);have Rz_9:=hhd (zE rfl Rz_8.out B4_8.out (by decide) hoth);obtain ⟨k3_0_9,k3_1_9,k3_2_9,k3_3_9,k3_4_9,k3_5_9⟩:=bk6 B3_9.out;obtain ⟨k6_0_9,k6_1_9,k6_2_9,k6_3_9⟩:=bk4 B6_9.out;clear k3_0_8 k3_1_8 k3_2_8 k3_3_8 k3_4_8 k3_5_8 k4_0_8 k4_1_8 k4_2_8 k4_3_8 k6_0_8 k6_1_8 k6_2_8 k6_3_8;obtain ⟨k4_0_9,k4_1_9,k4_2_9,k4_3_9⟩:=bk4 B4_9.out;have Cx_9:=hhd (Kd.C_below HR.out HB_9.out);clear hq hoth hbel))
 refine bodyPost_ret (zZ rfl _ _ g4 28 #[.slice A2 n c2,.int .i64 (wrap64 (1+p1)),.bool false,.slice none 0 0] (0,0) _ rfl B4_9.out Tryz.underlying28 rfl (zD _ _ _ _)) rfl ?_
 exact ⟨_,_,rfl,Rz_9.out,HB_9.out⟩
set_option maxRecDepth 100000 in
set_option maxHeartbeats 4000000 in
theorem zdZ (p0 p1 p2 p3 p4 bad:Int) (p5:Bool) (A:Option Addr) (c:Nat) (l:List S38) (w:World) (hr:Kd.C k38 w A l.length l) (hb:bad≠0)
  (hrd:∀W:World,Kd.C k38 W A l.length l→Calls Tryz.prog 16 #[.slice A l.length c,.agg #[.int .i64 p0,.int .i64 p1,.int .i64 p2,.int .i64 p3,.int .i64 p4,.bool p5]] W fun e w'=>e=.returned (.tuple #[.agg #[.slice none 0 0,.int .i64 0,.bool false,.slice none 0 0],.int .i64 bad])∧Below W.heap.size W w') :
  Calls Tryz.prog 7 #[.slice A l.length c,.agg (zaj p0 p1 p2 p3 p4 p5)] w fun e w'=>e=.returned (.tuple #[.agg #[.slice none 0 0,.int .i64 0,.bool false,.slice none 0 0],.int .i64 bad])∧Below w.heap.size w w':=by
 have HR:=hhd hr
 have HRD:=hhd hrd
 have HB0:=hhd (Below.refl w.heap.size w)
 have hb1:(bad == 0)=false:=by simpa using hb
 have hb2:(bad=0)=False:=eq_false hb
 clear hr hrd
 unfold zaj
 go_enter Tryz.func7,Tryz.ntmps7
 go_wp2_with (first
  | ((with_reducible refine zg (N:=3) rfl ?_);refine ba_ 3 #[.int .i64 p0,.int .i64 p1,.int .i64 p2,.int .i64 p3,.int .i64 p4,.bool p5] 24 ?_;intro g3 hg W1 hbox hbl;have L3:=gf_ hg HB0.out;have B3_1:=hhd hbox;have HB_1:=hhd (zb HB0.out hbl);have Cx_1:=hhd (Kd.C_below HR.out HB_1.out);obtain ⟨k3_0_1,k3_1_1,k3_2_1,k3_3_1,k3_4_1,k3_5_1⟩:=bk6 B3_1.out;clear hbox hbl hg)
  | ((with_reducible refine zg (N:=4) rfl ?_);refine ba_ 4 #[.slice none 0 0,.int .i64 0,.bool false,.slice none 0 0] 28 ?_;intro g4 hg W2 hbox hbl;have L4:=gf_ hg HB_1.out;have B4_2:=hhd hbox;have HB_2:=hhd (zb HB_1.out hbl);have B3_2:=hhd (za B3_1.out hbl);have Cx_2:=hhd (Kd.C_below HR.out HB_2.out);obtain ⟨k3_0_2,k3_1_2,k3_2_2,k3_3_2,k3_4_2,k3_5_2⟩:=bk6 B3_2.out;clear k3_0_1 k3_1_1 k3_2_1 k3_3_1 k3_4_1 k3_5_1;obtain ⟨k4_0_2,k4_1_2,k4_2_2,k4_3_2⟩:=bk4 B4_2.out;have NE3_4:=hhd (show g3≠g4 from fun e=>by have:=zf B3_1.out;omega);clear hbox hbl hg)
  | ((with_reducible refine zg (N:=15) rfl ?_);refine wpList_load_row rfl 24 _ rfl g3 rfl 24 #[.int .i64 p0,.int .i64 p1,.int .i64 p2,.int .i64 p3,.int .i64 p4,.bool p5] (0,0) _ B3_2.out Tryz.underlying24 rfl (zat _ _ _ _ _ _) ?_)
  | (go_at_call 16;refine (HRD.out _ Cx_2.out).mono ?_;rintro e W3 ⟨rfl,hb⟩;have HB_3:=hhd (zb HB_2.out hb);have B3_3:=hhd (za B3_2.out hb);have B4_3:=hhd (za B4_2.out hb);have Cx_3:=hhd (Kd.C_below HR.out HB_3.out);obtain ⟨k3_0_3,k3_1_3,k3_2_3,k3_3_3,k3_4_3,k3_5_3⟩:=bk6 B3_3.out;obtain ⟨k4_0_3,k4_1_3,k4_2_3,k4_3_3⟩:=bk4 B4_3.out;clear k3_0_2 k3_1_2 k3_2_2 k3_3_2 k3_4_2 k3_5_2 k4_0_2 k4_1_2 k4_2_2 k4_3_2;clear hb)
  | ((with_reducible refine zg (N:=6) rfl ?_);refine ba_ 6 #[.slice none 0 0,.int .i64 0,.bool false,.slice none 0 0] 28 ?_;intro g6 hg W4 hbox hbl;have L6:=gf_ hg HB_3.out;have B6_4:=hhd hbox;have HB_4:=hhd (zb HB_3.out hbl);have B3_4:=hhd (za B3_3.out hbl);have B4_4:=hhd (za B4_3.out hbl);have Cx_4:=hhd (Kd.C_below HR.out HB_4.out);obtain ⟨k3_0_4,k3_1_4,k3_2_4,k3_3_4,k3_4_4,k3_5_4⟩:=bk6 B3_4.out;obtain ⟨k4_0_4,k4_1_4,k4_2_4,k4_3_4⟩:=bk4 B4_4.out;clear k3_0_3 k3_1_3 k3_2_3 k3_3_3 k3_4_3 k3_5_3 k4_0_3 k4_1_3 k4_2_3 k4_3_3;obtain ⟨k6_0_4,k6_1_4,k6_2_4,k6_3_4⟩:=bk4 B6_4.out;have NE3_6:=hhd (show g3≠g6 from fun e=>by have:=zf B3_3.out;omega);have NE4_6:=hhd (show g4≠g6 from fun e=>by have:=zf B4_3.out;omega);clear hbox hbl hg)
  | ((with_reducible refine zo (t:=28) (p:=6) rfl ?_);refine zv rfl 28 _ _ rfl g6 #[.slice none 0 0,.int .i64 0,.bool false,.slice none 0 0] rfl rfl 28 #[.slice none 0 0,.int .i64 0,.bool false,.slice none 0 0] B6_4.out (zD _ _ _ _) rfl (z7 _ _ _ _ _ _ _ _) ?_;intro W5 hq hoth hbel;have B6_5:=hhd hq;have HB_5:=hhd (hbel _ _ L6 HB_4.out);have B3_5:=hhd ((hoth _ NE3_6.out).trans B3_4.out);have B4_5:=hhd ((hoth _ NE4_6.out).trans B4_4.out);obtain ⟨k3_0_5,k3_1_5,k3_2_5,k3_3_5,k3_4_5,k3_5_5⟩:=bk6 B3_5.out;obtain ⟨k4_0_5,k4_1_5,k4_2_5,k4_3_5⟩:=bk4 B4_5.out;clear k3_0_4 k3_1_4 k3_2_4 k3_3_4 k3_4_4 k3_5_4 k4_0_4 k4_1_4 k4_2_4 k4_3_4 k6_0_4 k6_1_4 k6_2_4 k6_3_4;obtain ⟨k6_0_5,k6_1_5,k6_2_5,k6_3_5⟩:=bk4 B6_5.out;have Cx_5:=hhd (Kd.C_below HR.out HB_5.out);clear hq hoth hbel)
  | ((with_reducible refine zo (t:=28) (p:=4) rfl ?_);refine zv rfl 28 _ _ rfl g4 #[.slice none 0 0,.int .i64 0,.bool false,.slice none 0 0] rfl rfl 28 #[.slice none 0 0,.int .i64 0,.bool false,.slice none 0 0] B4_5.out (zD _ _ _ _) rfl (z7 _ _ _ _ _ _ _ _) ?_;intro W6 hq hoth hbel;have B4_6:=hhd hq;have HB_6:=hhd (hbel _ _ L4 HB_5.out);have B3_6:=hhd ((hoth _ NE3_4.out).trans B3_5.out);have B6_6:=hhd ((hoth _ (Ne.symm NE4_6.out)).trans B6_5.out);obtain ⟨k3_0_6,k3_1_6,k3_2_6,k3_3_6,k3_4_6,k3_5_6⟩:=bk6 B3_6.out;obtain ⟨k6_0_6,k6_1_6,k6_2_6,k6_3_6⟩:=bk4 B6_6.out;clear k3_0_5 k3_1_5 k3_2_5 k3_3_5 k3_4_5 k3_5_5 k4_0_5 k4_1_5 k4_2_5 k4_3_5 k6_0_5 k6_1_5 k6_2_5 k6_3_5;obtain ⟨k4_0_6,k4_1_6,k4_2_6,k4_3_6⟩:=bk4 B4_6.out;have Cx_6:=hhd (Kd.C_below HR.out HB_6.out);clear hq hoth hbel))
 refine bodyPost_ret (zZ rfl _ _ g4 28 #[.slice none 0 0,.int .i64 0,.bool false,.slice none 0 0] (0,0) _ rfl B4_6.out Tryz.underlying28 rfl (zD _ _ _ _)) rfl ?_
 exact ⟨rfl,HB_6.out⟩
set_option maxRecDepth 100000 in
set_option maxHeartbeats 4000000 in
theorem zkr (p0 p1 p2 p3 p4 r:Int) (p5:Bool) (A:Option Addr) (n c:Nat) (w:World) (hck:plan_Check.f p0 p1 p2 p3 p4 p5=some r) (hr:r≠0) :
  Calls Tryz.prog 16 #[.slice A n c,.agg (zaj p0 p1 p2 p3 p4 p5)] w fun e w'=>e=.returned (.tuple #[.agg #[.slice none 0 0,.int .i64 0,.bool false,.slice none 0 0],.int .i64 r])∧Below w.heap.size w w':=by
 have HCK:=hhd hck
 have HB0:=hhd (Below.refl w.heap.size w)
 have hb1:(r == 0)=false:=by simpa using hr
 have hb2:(r=0)=False:=eq_false hr
 clear hck
 unfold zaj
 go_enter Tryz.func16,Tryz.ntmps16
 go_wp2_with (first
  | ((with_reducible refine zg (N:=3) rfl ?_);refine ba_ 3 #[.int .i64 p0,.int .i64 p1,.int .i64 p2,.int .i64 p3,.int .i64 p4,.bool p5] 24 ?_;intro g3 hg W1 hbox hbl;have L3:=gf_ hg HB0.out;have B3_1:=hhd hbox;have HB_1:=hhd (zb HB0.out hbl);obtain ⟨k3_0_1,k3_1_1,k3_2_1,k3_3_1,k3_4_1,k3_5_1⟩:=bk6 B3_1.out;clear hbox hbl hg)
  | ((with_reducible refine zg (N:=4) rfl ?_);refine ba_ 4 #[.slice none 0 0,.int .i64 0,.bool false,.slice none 0 0] 28 ?_;intro g4 hg W2 hbox hbl;have L4:=gf_ hg HB_1.out;have B4_2:=hhd hbox;have HB_2:=hhd (zb HB_1.out hbl);have B3_2:=hhd (za B3_1.out hbl);obtain ⟨k3_0_2,k3_1_2,k3_2_2,k3_3_2,k3_4_2,k3_5_2⟩:=bk6 B3_2.out;clear k3_0_1 k3_1_1 k3_2_1 k3_3_1 k3_4_1 k3_5_1;obtain ⟨k4_0_2,k4_1_2,k4_2_2,k4_3_2⟩:=bk4 B4_2.out;have NE34:=hhd (show g3≠g4 from fun e=>by have:=zf B3_1.out;omega);clear hbox hbl hg)
  | ((with_reducible refine zg (N:=9) rfl ?_);refine wpList_load_row rfl 24 _ rfl g3 rfl 24 #[.int .i64 p0,.int .i64 p1,.int .i64 p2,.int .i64 p3,.int .i64 p4,.bool p5] (0,0) _ B3_2.out Tryz.underlying24 rfl (zat _ _ _ _ _ _) ?_)
  | (go_at_call 37;(with_reducible refine (plan_Check.calls p0 p1 p2 p3 p4 p5 r _ HCK.out).mono ?_);rintro e W3 ⟨rfl,hb⟩;have HB_3:=hhd (zb HB_2.out hb);have B3_3:=hhd (za B3_2.out hb);have B4_3:=hhd (za B4_2.out hb);obtain ⟨k3_0_3,k3_1_3,k3_2_3,k3_3_3,k3_4_3,k3_5_3⟩:=bk6 B3_3.out;obtain ⟨k4_0_3,k4_1_3,k4_2_3,k4_3_3⟩:=bk4 B4_3.out;clear k3_0_2 k3_1_2 k3_2_2 k3_3_2 k3_4_2 k3_5_2 k4_0_2 k4_1_2 k4_2_2 k4_3_2;clear hb)
  | ((with_reducible refine zo (t:=28) (p:=4) rfl ?_);refine zv rfl 28 _ _ rfl g4 #[.slice none 0 0,.int .i64 0,.bool false,.slice none 0 0] rfl rfl 28 #[.slice none 0 0,.int .i64 0,.bool false,.slice none 0 0] B4_3.out (zD _ _ _ _) rfl (z7 _ _ _ _ _ _ _ _) ?_;intro W4 hq hoth hbel;have B4_4:=hhd hq;have HB_4:=hhd (hbel _ _ L4 HB_3.out);have B3_4:=hhd ((hoth _ NE34.out).trans B3_3.out);obtain ⟨k3_0_4,k3_1_4,k3_2_4,k3_3_4,k3_4_4,k3_5_4⟩:=bk6 B3_4.out;clear k3_0_3 k3_1_3 k3_2_3 k3_3_3 k3_4_3 k3_5_3 k4_0_3 k4_1_3 k4_2_3 k4_3_3;obtain ⟨k4_0_4,k4_1_4,k4_2_4,k4_3_4⟩:=bk4 B4_4.out;clear hq hoth hbel))
 refine bodyPost_ret (zZ rfl _ _ g4 28 #[.slice none 0 0,.int .i64 0,.bool false,.slice none 0 0] (0,0) _ rfl B4_4.out Tryz.underlying28 rfl (zD _ _ _ _)) rfl ?_
 exact ⟨rfl,HB_4.out⟩
set_option maxRecDepth 100000 in
set_option maxHeartbeats 4000000 in
theorem zem (p0 b lo hi:Int) (hbt:sat_Bits.f p0=some (b,0)) (hB3:(b=15∧lo=-32768∧hi=32767)∨(b=31∧lo=-2147483648∧hi=2147483647)) (p1 p2 p4 bad:Int) (p5:Bool) (L:List S38) (A:Option Addr) (c:Nat) (l:List S38) (w:World) (hr:Kd.C k38 w A l.length l)
  (hck:plan_Check.f p0 p1 p2 0 p4 p5=some 0) (htw:roots_Twiddles.f p1 p0=some (L,0)) (hb:bad≠0)
  (hmy:∀W:World,Kd.C k38 W A l.length l→Calls Tryz.prog 38 #[.slice A l.length c,.agg (zaj p0 p1 p2 0 p4 p5),.int .i64 (lo),.int .i64 hi] W fun e w'=>e=.returned (.int .i64 bad)∧Below W.heap.size W w') :
  Calls Tryz.prog 16 #[.slice A l.length c,.agg (zaj p0 p1 p2 0 p4 p5)] w fun e w'=>e=.returned (.tuple #[.agg #[.slice none 0 0,.int .i64 0,.bool false,.slice none 0 0],.int .i64 bad])∧Below w.heap.size w w':=by
 have hmx:Tryz.prog.follows .mixedOrders=true:=by kernel_rfl
 have HR:=hhd hr
 have HCK:=hhd hck
 have HBI:=hhd hbt
 have HB3:=hhd hB3
 have hb0:0≤b:=by omega
 have hb1:(0≤b)=True:=eq_true hb0
 have hb2:(b < 0)=False:=eq_false (by omega)
 have hb3:¬b < 0:=by omega
 have hb4:decide (0≤b)=true:=decide_eq_true hb0
 clear hbt hB3 hb0
 have HTW:=hhd htw
 have HMY:=hhd hmy
 have HB0:=hhd (Below.refl w.heap.size w)
 have hb1:(bad == 0)=false:=by simpa using hb
 have hb2:(bad=0)=False:=eq_false hb
 clear hr hck htw hmy
 unfold zaj
 go_enter Tryz.func16,Tryz.ntmps16
 go_wp2_with (first
  | ((with_reducible refine zg (N:=3) rfl ?_);refine ba_ 3 #[.int .i64 p0,.int .i64 p1,.int .i64 p2,.int .i64 0,.int .i64 p4,.bool p5] 24 ?_;intro g3 hg W1 hbox hbl;have L3:=gf_ hg HB0.out;have B3_1:=hhd hbox;have HB_1:=hhd (zb HB0.out hbl);have Cx_1:=hhd (Kd.C_below HR.out HB_1.out);obtain ⟨k3_0_1,k3_1_1,k3_2_1,k3_3_1,k3_4_1,k3_5_1⟩:=bk6 B3_1.out;clear hbox hbl hg)
  | ((with_reducible refine zg (N:=4) rfl ?_);refine ba_ 4 #[.slice none 0 0,.int .i64 0,.bool false,.slice none 0 0] 28 ?_;intro g4 hg W2 hbox hbl;have L4:=gf_ hg HB_1.out;have B4_2:=hhd hbox;have HB_2:=hhd (zb HB_1.out hbl);have B3_2:=hhd (za B3_1.out hbl);have Cx_2:=hhd (Kd.C_below HR.out HB_2.out);obtain ⟨k3_0_2,k3_1_2,k3_2_2,k3_3_2,k3_4_2,k3_5_2⟩:=bk6 B3_2.out;clear k3_0_1 k3_1_1 k3_2_1 k3_3_1 k3_4_1 k3_5_1;obtain ⟨k4_0_2,k4_1_2,k4_2_2,k4_3_2⟩:=bk4 B4_2.out;have NE34:=hhd (show g3≠g4 from fun e=>by have:=zf B3_1.out;omega);clear hbox hbl hg)
  | ((with_reducible refine zg (N:=9) rfl ?_);refine wpList_load_row rfl 24 _ rfl g3 rfl 24 #[.int .i64 p0,.int .i64 p1,.int .i64 p2,.int .i64 0,.int .i64 p4,.bool p5] (0,0) _ B3_2.out Tryz.underlying24 rfl (zat _ _ _ _ _ _) ?_)
  | (go_at_call 37;(with_reducible refine (plan_Check.calls p0 p1 p2 0 p4 p5 0 _ HCK.out).mono ?_);rintro e W3 ⟨rfl,hb⟩;have HB_3:=hhd (zb HB_2.out hb);have B3_3:=hhd (za B3_2.out hb);have B4_3:=hhd (za B4_2.out hb);have Cx_3:=hhd (Kd.C_below HR.out HB_3.out);obtain ⟨k3_0_3,k3_1_3,k3_2_3,k3_3_3,k3_4_3,k3_5_3⟩:=bk6 B3_3.out;obtain ⟨k4_0_3,k4_1_3,k4_2_3,k4_3_3⟩:=bk4 B4_3.out;clear k3_0_2 k3_1_2 k3_2_2 k3_3_2 k3_4_2 k3_5_2 k4_0_2 k4_1_2 k4_2_2 k4_3_2;clear hb)
  | ((with_reducible refine zg (N:=15) rfl ?_);refine wpList_load_row rfl 24 _ rfl g3 rfl 24 #[.int .i64 p0,.int .i64 p1,.int .i64 p2,.int .i64 0,.int .i64 p4,.bool p5] (0,0) _ B3_3.out Tryz.underlying24 rfl (zat _ _ _ _ _ _) ?_)
  | (go_at_call 19;refine (zeR p0 p1 p2 p4 b p5 L HBI.out HTW.out _).mono ?_;rintro e W4 ⟨Aw,cw,rfl,ho,hb⟩;have Rw_4:=hhd (Kd.R_lower ho (zj HB_3.out));have HB_4:=hhd (zb HB_3.out hb);have B3_4:=hhd (za B3_3.out hb);have B4_4:=hhd (za B4_3.out hb);have Cx_4:=hhd (Kd.C_below HR.out HB_4.out);obtain ⟨k3_0_4,k3_1_4,k3_2_4,k3_3_4,k3_4_4,k3_5_4⟩:=bk6 B3_4.out;obtain ⟨k4_0_4,k4_1_4,k4_2_4,k4_3_4⟩:=bk4 B4_4.out;clear k3_0_3 k3_1_3 k3_2_3 k3_3_3 k3_4_3 k3_5_3 k4_0_3 k4_1_3 k4_2_3 k4_3_3;clear hb ho)
  | ((with_reducible refine zg (N:=7) rfl ?_);refine ba_ 7 #[.int .i64 0,.int .i64 0,.int .i64 0,.int .i64 0,.int .i64 0,.bool false,.nilIface,.int .i64 0,.slice none 0 0] 56 ?_;intro g7 hg W5 hbox hbl;have L7:=gf_ hg HB_4.out;have B7_5:=hhd hbox;have HB_5:=hhd (zb HB_4.out hbl);have B3_5:=hhd (za B3_4.out hbl);have B4_5:=hhd (za B4_4.out hbl);have Rw_5:=hhd (Kd.R_below Rw_4.out hbl);have Cx_5:=hhd (Kd.C_below HR.out HB_5.out);obtain ⟨k3_0_5,k3_1_5,k3_2_5,k3_3_5,k3_4_5,k3_5_5⟩:=bk6 B3_5.out;obtain ⟨k4_0_5,k4_1_5,k4_2_5,k4_3_5⟩:=bk4 B4_5.out;clear k3_0_4 k3_1_4 k3_2_4 k3_3_4 k3_4_4 k3_5_4 k4_0_4 k4_1_4 k4_2_4 k4_3_4;obtain ⟨k7_0_5,k7_1_5,k7_2_5,k7_3_5,k7_4_5,k7_5_5,k7_6_5,k7_7_5,k7_8_5⟩:=bk9 B7_5.out;have NE37:=hhd (show g3≠g7 from fun e=>by have:=zf B3_4.out;omega);have NE47:=hhd (show g4≠g7 from fun e=>by have:=zf B4_4.out;omega);have NR7:=hhd (show some g7≠_ from by rw [hg];exact Kd.R_ne_new Rw_4.out 0);clear hbox hbl hg)
  | ((with_reducible refine zo (t:=56) (p:=7) rfl ?_);refine zv rfl 56 _ _ rfl g7 #[.int .i64 p0,.int .i64 p1,.int .i64 p2,.int .i64 0,.int .i64 p4,.bool p5,.iface 97 (.agg #[]),.int .i64 b,.slice Aw L.length cw] rfl rfl 56 #[.int .i64 0,.int .i64 0,.int .i64 0,.int .i64 0,.int .i64 0,.bool false,.nilIface,.int .i64 0,.slice none 0 0] B7_5.out (za9 _ _ _ _ _ _ _ _ _) rfl (zdU _ _ _ _ _ _ _ _ _) ?_;intro W6 hq hoth hbel;have B7_6:=hhd hq;have HB_6:=hhd (hbel _ _ L7 HB_5.out);have B3_6:=hhd ((hoth _ NE37.out).trans B3_5.out);have B4_6:=hhd ((hoth _ NE47.out).trans B4_5.out);have Rw_6:=hhd (zK Rw_5.out hoth NR7.out);obtain ⟨k3_0_6,k3_1_6,k3_2_6,k3_3_6,k3_4_6,k3_5_6⟩:=bk6 B3_6.out;obtain ⟨k4_0_6,k4_1_6,k4_2_6,k4_3_6⟩:=bk4 B4_6.out;clear k3_0_5 k3_1_5 k3_2_5 k3_3_5 k3_4_5 k3_5_5 k4_0_5 k4_1_5 k4_2_5 k4_3_5 k7_0_5 k7_1_5 k7_2_5 k7_3_5 k7_4_5 k7_5_5 k7_6_5 k7_7_5 k7_8_5;obtain ⟨k7_0_6,k7_1_6,k7_2_6,k7_3_6,k7_4_6,k7_5_6,k7_6_6,k7_7_6,k7_8_6⟩:=bk9 B7_6.out;have Cx_6:=hhd (Kd.C_below HR.out HB_6.out);clear hq hoth hbel))
 refine zae (S:=fun w'=>Below W6.heap.size W6 w') (ds:=[]) (fl 11 0) hmx rfl rfl (Below.refl _ _).drew (fun hHeld=>?_)
 refine px_ 0 (some 17) (fl 11 1) rfl rfl ?_
 refine px_ 2 (some 19) (fl 11 5) rfl rfl ?_
 refine px_ 5 (some 22) (fl 11 37) rfl rfl ?_
 refine tx_ 1 (some 18) (fl 11 39) rfl rfl hHeld (by rintro w' hs;obtain ⟨j_k3_0_6,j_k3_1_6,j_k3_2_6,j_k3_3_6,j_k3_4_6,j_k3_5_6⟩:=bg6 hs k3_0_6 k3_1_6 k3_2_6 k3_3_6 k3_4_6 k3_5_6;obtain ⟨j_k7_0_6,j_k7_1_6,j_k7_2_6,j_k7_3_6,j_k7_4_6,j_k7_5_6⟩:=bg6 hs k7_0_6 k7_1_6 k7_2_6 k7_3_6 k7_4_6 k7_5_6;obtain ⟨j_k7_6_6,j_k7_7_6,j_k7_8_6⟩:=bg3 hs k7_6_6 k7_7_6 k7_8_6;go_simp;with_reducible rfl) ?_
 refine tx_ 3 (some 20) (fl 11 47) rfl rfl hHeld (by rintro w' hs;obtain ⟨j_k3_0_6,j_k3_1_6,j_k3_2_6,j_k3_3_6,j_k3_4_6,j_k3_5_6⟩:=bg6 hs k3_0_6 k3_1_6 k3_2_6 k3_3_6 k3_4_6 k3_5_6;obtain ⟨j_k7_0_6,j_k7_1_6,j_k7_2_6,j_k7_3_6,j_k7_4_6,j_k7_5_6⟩:=bg6 hs k7_0_6 k7_1_6 k7_2_6 k7_3_6 k7_4_6 k7_5_6;obtain ⟨j_k7_6_6,j_k7_7_6,j_k7_8_6⟩:=bg3 hs k7_6_6 k7_7_6 k7_8_6;go_simp;with_reducible rfl) ?_
 refine px_ 4 (some 21) (fl 11 63) rfl rfl ?_
 refine tx_ 6 (some 23) (fl 11 127) rfl rfl hHeld (by rintro w' hs;obtain ⟨j_k3_0_6,j_k3_1_6,j_k3_2_6,j_k3_3_6,j_k3_4_6,j_k3_5_6⟩:=bg6 hs k3_0_6 k3_1_6 k3_2_6 k3_3_6 k3_4_6 k3_5_6;obtain ⟨j_k7_0_6,j_k7_1_6,j_k7_2_6,j_k7_3_6,j_k7_4_6,j_k7_5_6⟩:=bg6 hs k7_0_6 k7_1_6 k7_2_6 k7_3_6 k7_4_6 k7_5_6;obtain ⟨j_k7_6_6,j_k7_7_6,j_k7_8_6⟩:=bg3 hs k7_6_6 k7_7_6 k7_8_6;go_simp;with_reducible rfl) ?_
 refine px_ 7 (some 24) (fl 11 255) rfl rfl ?_
 refine px_ 8 (some 25) (fl 11 511) rfl rfl ?_
 refine zA (i:=9) (N:=some 26) (fl 11 1023) rfl rfl (by kernel_rfl) (by decide) (fun K hK=>?_)
 refine zN Tryz.func38 (by kernel_rfl) rfl #[.slice A l.length c,.agg (zaj p0 p1 p2 0 p4 p5),.int .i64 (lo),.int .i64 hi] (by rfl) rfl rfl (by go_simp;rcases HB3.out with ⟨rfl,rfl,rfl⟩ | ⟨rfl,rfl,rfl⟩ <;> exact ⟨rfl,by decide +kernel,by decide +kernel⟩) ?_
 refine (HMY.out _ (Kd.C_below Cx_6.out hHeld)).mono ?_
 rintro e Wc ⟨rfl,hbl⟩
 refine ⟨_,rfl,?_⟩
 refine hK.out _ _ (zb hHeld hbl) (fun hHeld2=>?_)
 clear hK K hHeld hbl
 have hHeld:=hHeld2
 clear hHeld2
 refine nx_ (some 26) ?_
 refine px_ 10 (some 8) (fl 11 2047) rfl rfl ?_
 refine zM (by kernel_rfl) ?_
 have HBc:=hhd (zb HB_6.out hHeld)
 have B4c:=hhd (za B4_6.out hHeld)
 clear hHeld
 go_wp2_with ((with_reducible refine zo (t:=28) (p:=4) rfl ?_);refine zv rfl 28 _ _ rfl g4 #[.slice none 0 0,.int .i64 0,.bool false,.slice none 0 0] rfl rfl 28 #[.slice none 0 0,.int .i64 0,.bool false,.slice none 0 0] B4c.out (zD _ _ _ _) rfl (z7 _ _ _ _ _ _ _ _) ?_;intro Wf hq hoth hbel;have B4f:=hhd hq;have HBf:=hhd (hbel _ _ L4 HBc.out);clear hq hoth hbel)
 refine bodyPost_ret (zZ rfl _ _ g4 28 #[.slice none 0 0,.int .i64 0,.bool false,.slice none 0 0] (0,0) _ rfl B4f.out Tryz.underlying28 rfl (zD _ _ _ _)) rfl ?_
 exact ⟨rfl,HBf.out⟩
end Go.Proofs.YteieahbadclppaaGreat.P

namespace Go.Proofs.YteieahbadclppaaGreat.P
open Go.RowKit Go.Shelf Go.Proofs.YteieahbadclppaaGreatW.PrintWords Go.Proofs.YteieahbadclppaaGreatW.PrintLast Go.Proofs.YteieahbadclppaaGreatW.PrintMore
set_option linter.unusedVariables false
set_option linter.unusedSimpArgs false
theorem zgd (Aw:Option Addr) (cw:Nat) (wl:List S38) (bits mode:Int) (inv:Bool) (hcw:wl.length≤cw) (hwl:wl.length≤64) (hwl0:0 < wl.length) (hw:∀x,x∈wl→inB 536870912 x=true) (hb0:0≤bits) (hb1:bits≤29) (m0:0≤mode) (m1:mode < 3):∀l:Nat,l≤6→zdg Aw cw wl bits mode inv l
 | 0,_=>zlm Aw cw wl bits mode inv
 | 1,_=>zmd Aw cw wl bits mode inv m0 m1
 | l+2,h=>zlq Aw cw wl bits mode inv l (by omega) hcw hwl hwl0 hw hb0 hb1 m0 m1 (zgd Aw cw wl bits mode inv hcw hwl hwl0 hw hb0 hb1 m0 m1 l (by omega)) (zgd Aw cw wl bits mode inv hcw hwl hwl0 hw hb0 hb1 m0 m1 (l+1) (by omega))
theorem zmp:(Tryz.prog.info? 3).map (·.size)=some 1:=by kernel_rfl
theorem zmq (inv:Bool):split_turns.f inv=some (zaX inv):=by cases inv <;> rfl
set_option maxRecDepth 100000 in
set_option maxHeartbeats 4000000 in
theorem zhO (A:Option Addr) (c:Nat) (l L:List S38) (p0 b b1 mm mode lg:Int) (inv:Bool) (lN:Nat) (w:World) (hr:Kd.C k38 w A l.length l) (hc:l.length≤c) (hll:l.length=2^lN) (hlN:lN≤6) (h1:1≤lN)
  (hlog:flip_Log.f 10 l.length=some (lg,0)) (hbt:sat_Bits.f p0=some (b,0)) (hsh:round_Shift.f 0 0 mode=some (0,0)) (hb10:0≤b1) (hb11:b1≤40) (hb12:wrap64 (b - 1)=b1) (hmm:mm=2^b1.toNat) (hx:∀x,x∈l→inB mm x=true)
  (htw:roots_Twiddles.f lg p0=some (L,0)) (hL:L.length≤64) (hL0:0 < L.length) (hw:∀x,x∈L→inB 536870912 x=true) (hb0:0≤b - 2) (hb1:b - 2≤29) (m0:0≤mode) (m1:mode < 3) (hok:okS L (b - 2) mode inv lN l) :
  Calls Tryz.prog 17 #[.slice A l.length c,.int .i64 p0,.int .i64 mode,.bool inv] w fun e w'=>∃A' c',e=.returned (.tuple #[.slice A' (2^lN) c',.int .i64 0])∧Kd.R k38 38 w' w.heap.size (fun _=>True) (.slice A' (2^lN) c') (zap L (b - 2) mode inv lN l)∧Below w.heap.size w w':=by
 have hmx:Tryz.prog.follows .mixedOrders=true:=by kernel_rfl
 have HR:=hhd hr
 have HC:=hhd hc
 have HLL:=hhd hll
 have HLG:=hhd hlN
 have H1:=hhd h1
 have HLOG:=hhd hlog
 have HBT:=hhd hbt
 have HSH:=hhd hsh
 have HX:=hhd hx
 have HTW:=hhd htw
 have HLN:=hhd (And.intro hL hL0)
 have HWI:=hhd hw
 have HM:=hhd (And.intro hb0 (And.intro hb1 (And.intro m0 m1)))
 have HOK:=hhd hok
 have HB0:=hhd (Below.refl w.heap.size w)
 have hs2:wrap64 (b - 2)=b - 2:=zw (by omega) (by omega)
 clear hr hc hll hlN h1 hlog hbt hsh hx htw hL hL0 hw hb0 hb1 m0 m1 hok
 go_enter Tryz.func17,Tryz.ntmps17
 go_wp2_with (first
  | (go_at_call 40;(with_reducible refine (flip_Log.calls 10 _ _ _ _ HLOG.out).mono ?_);rintro e W1 ⟨rfl,hd⟩;have hb:=hd.below;clear hd;have HB_1:=hhd (zb HB0.out hb);have Cx_1:=hhd (Kd.C_below HR.out HB_1.out);clear hb)
  | (go_at_call 41;(with_reducible refine (sat_Bits.calls p0 b 0 _ HBT.out).mono ?_);rintro e W2 ⟨rfl,hd⟩;have hb:=hd.below;clear hd;have HB_2:=hhd (zb HB_1.out hb);have Cx_2:=hhd (Kd.C_below HR.out HB_2.out);clear hb)
  | ((with_reducible refine zg (N:=12) rfl ?_);refine ba_ 12 #[.int .i64 0] 3 ?_;intro g12 hg W3 hbox hbl;have L12:=gf_ hg HB_2.out;have B12_3:=hhd hbox;have HB_3:=hhd (zb HB_2.out hbl);have Cx_3:=hhd (Kd.C_below HR.out HB_3.out);have k12_0_3:=bk1 B12_3.out;clear hbox hbl hg)
  | ((with_reducible refine zo (t:=3) (p:=12) rfl ?_);refine zd7 rfl rfl 3 _ _ rfl g12 (.int .i64 b) rfl rfl 3 _ B12_3.out zmp rfl rfl ?_;intro W4 hq hoth hbel;have B12_4:=hhd hq;have HB_4:=hhd (hbel _ _ L12 HB_3.out);clear k12_0_3;have Cx_4:=hhd (Kd.C_below HR.out HB_4.out);have k12_0_4:=bk1 B12_4.out;clear hq hoth hbel)
  | (go_at_call 42;(with_reducible refine (round_Shift.calls 0 0 mode 0 0 _ HSH.out).mono ?_);rintro e W5 ⟨rfl,hb⟩;have HB_5:=hhd (zb HB_4.out hb);have B12_5:=hhd (za B12_4.out hb);have Cx_5:=hhd (Kd.C_below HR.out HB_5.out);have k12_0_5:=bk1 B12_5.out;clear k12_0_4;clear hb)
  | (go_at_call 43;( refine (zg7 A c l g12 b b1 mm hb10 hb11 hb12 hmm _ Cx_5.out HC.out B12_5.out HX.out).mono ?_);rintro e W6 ⟨rfl,hb⟩;have HB_6:=hhd (zb HB_5.out hb);have B12_6:=hhd (za B12_5.out hb);have Cx_6:=hhd (Kd.C_below HR.out HB_6.out);have k12_0_6:=bk1 B12_6.out;clear k12_0_5;clear hb)
  | (go_at_call 46;refine (roots_Twiddles.calls lg p0 L 0 _ HTW.out).mono ?_;rintro e W7 ⟨vt,rfl,ho,hb⟩;obtain ⟨Aw,cw,ev,hcw,hCw⟩:=Kd.R_reads ho;subst ev;have CW:=hhd hCw;have HCW:=hhd hcw;have HB_7:=hhd (zb HB_6.out hb);have B12_7:=hhd (za B12_6.out hb);have Cx_7:=hhd (Kd.C_below HR.out HB_7.out);have k12_0_7:=bk1 B12_7.out;clear k12_0_6;clear hb ho hCw hcw))
 refine zae (S:=fun w'=>Below W7.heap.size W7 w') (ds:=[8]) (fl 11 0) hmx rfl rfl (Below.refl _ _).drew (fun hHeld=>?_)
 refine px_ 0 (some 51) (fl 11 1) rfl rfl ?_
 refine px_ 3 (some 54) (fl 11 9) rfl rfl ?_
 refine px_ 4 (some 55) (fl 11 25) rfl rfl ?_
 refine px_ 7 (some 58) (fl 11 153) rfl rfl ?_
 refine tx_ 1 (some 52) (fl 11 155) rfl rfl hHeld (by rintro w' hs;have j_k12_0_7:=bg hs k12_0_7;go_simp;with_reducible rfl) ?_
 refine px_ 2 (some 53) (fl 11 159) rfl rfl ?_
 refine zA (i:=5) (N:=some 56) (fl 11 191) rfl rfl (by kernel_rfl) (by decide) (fun K hK=>?_)
 refine zN Tryz.func47 (by kernel_rfl) rfl #[.bool inv] (by rfl) rfl rfl (by go_simp) ?_
 refine (split_turns.calls inv (zaX inv) _ (zmq inv)).mono ?_
 rintro e Wc ⟨rfl,hd⟩
 have hbl:=hd.below
 clear hd
 refine ⟨_,rfl,?_⟩
 refine hK.out _ _ (zb hHeld hbl) (fun hHeld2=>?_)
 clear hK K hHeld hbl
 have hHeld:=hHeld2
 clear hHeld2
 refine nx_ (some 56) ?_
 refine px_ 6 (some 57) (fl 11 255) rfl rfl ?_
 refine zaf (i:=8) (N:=some 59) (fl 11 511) rfl rfl (by kernel_rfl) (by decide) (fun K hK=>?_)
 refine zN Tryz.func48 (by kernel_rfl) rfl #[.agg #[.slice Aw L.length cw,.int .i64 (b - 2),.int .i64 mode,.int .i64 (zaX inv)],.slice A l.length c] (by rfl) rfl rfl (by go_simp) ?_
 refine (zgd Aw cw L (b - 2) mode inv HCW.out HLN.out.1 HLN.out.2 HWI.out HM.out.1 HM.out.2.1 HM.out.2.2.1 HM.out.2.2.2 lN HLG.out l A c _ HLL.out HOK.out (Kd.C_below Cx_7.out hHeld) HC.out (Kd.C_below CW.out hHeld)).mono ?_
 rintro e Wd ⟨A',c',rfl,_,_,hR,hbl⟩
 refine ⟨_,rfl,?_⟩
 refine hK.out _ _ ?_
 have RD:=hhd (Kd.R_lower (Kd.R_lower (hR H1.out) hHeld.size) (zj HB_7.out))
 have HBd:=hhd (zb HB_7.out (zb hHeld hbl))
 clear hK K hHeld hbl hR
 refine nx_ (some 59) ?_
 refine px_ 9 (some 8) (fl 11 1023) rfl rfl ?_
 refine px_ 10 (some 9) (fl 11 2047) rfl rfl ?_
 refine zM (by kernel_rfl) ?_
 go_wp2
 refine bodyPost_ret (zdM rfl _ _ _) rfl ?_
 exact ⟨_,_,rfl,RD.out,HBd.out⟩
end Go.Proofs.YteieahbadclppaaGreat.P

namespace Go.Proofs.YteieahbadclppaaGreat.P
open Go.RowKit Go.Proofs.YteieahbadclppaaGreatW.PrintWords Go.Proofs.YteieahbadclppaaGreatW.PrintLast Go.Proofs.YteieahbadclppaaGreatW.PrintMore
set_option linter.unusedVariables false
set_option linter.unusedSimpArgs false
theorem zm4:([0,1].all fun fm=>[2,3,4,5,6].all fun g=>[0,1,2].all fun ker=>[0,1,2].all fun mode=>[true,false].all fun inv=>plan_Check.f (fm:Nat) (g:Nat) (ker:Nat) 0 (mode:Nat) inv == some 0)=true:=by decide +kernel
theorem zhP {fm g ker mode:Nat} (inv:Bool) (hf:fm < 2) (h2:2≤g) (h6:g≤6) (hk:ker < 3) (hm:mode < 3):plan_Check.f fm g ker 0 mode inv=some 0 :=
 beq_iff_eq.1 (List.all_eq_true.1 (List.all_eq_true.1 (List.all_eq_true.1 (List.all_eq_true.1 (List.all_eq_true.1 zm4 fm (zbH hf)) g (zbZ h2 h6)) ker (by simp;omega)) mode (by simp;omega)) inv (by cases inv <;> simp))
def zen (fm g ker mode:Nat) (inv:Bool) (A:Option Addr) (c:Nat) (l:List S38) (w:World):Prop :=
 Calls Tryz.prog 7 #[.slice A l.length c,.agg (zaj fm g ker 0 mode inv)] w fun e w'=>∃A' c' As' m cs',e=.returned (.tuple #[.agg #[.slice A' (2^g) c',.int .i64 (1+g),.bool false,.slice As' m cs'],.int .i64 0])∧Kd.R k38 38 w' w.heap.size (fun _=>True) (.slice A' (2^g) c') (zaW fm g ker inv mode l)∧Below w.heap.size w w'
theorem zhQ {b:Int} {l:List S38} (h:l.any (zaG (-b) (b - 1))=false):∀z,z∈l→-b≤z.f0∧z.f0≤b - 1∧-b≤z.f1∧z.f1≤b - 1:=by
 intro z hz
 have h1:=List.any_eq_false.1 h z hz
 unfold zaG at h1
 simp only [decide_eq_true_eq] at h1
 omega
theorem zeo {g:Nat} (x:List S38):(zb6 g x).length=2^g:=by simp [zb6]
theorem zlt {fm g ker:Nat} {inv:Bool} {mode:Int} {x:List S38} {k:Nat} (hk:k < (pcL ker g).length):zcF fm g ker inv mode x (k+1)=zag (zab fm g inv ((pcL ker g).getD k (false,0))).1 mode (zab fm g inv ((pcL ker g).getD k (false,0))).2 (zcF fm g ker inv mode x k):=by
 unfold zcF goT
 rw [List.take_succ_eq_append_getElem hk,List.map_append,List.foldl_append,List.getD_eq_getElem?_getD,List.getElem?_eq_getElem hk]
 rfl
theorem zlJ (ker g:Nat):∀k,1≤zcX ker g k∧zcX ker g k≤1+2*k
 | 0=>by simp [zcX]
 | k+1=>by
  have:=zlJ ker g k
  rw [zcX]
  split <;> omega
theorem zmr {b m:Int} {mode:Nat} (hm:b=2*m) (h0:0≤m) (h1:m≤1073741824) {z:S38} (h:-b≤z.f0∧z.f0≤b - 1∧-b≤z.f1∧z.f1≤b - 1):inB m (shC 1 mode z)=true:=by
 have key:∀x:Int,-b≤x→x≤b - 1→-m≤shV x 1 mode∧shV x 1 mode≤m:=by
  intro x hx0 hx1
  have e:(1:Int).toNat=1:=rfl
  unfold shV
  rw [if_neg (by decide),e,Int.pow_succ,Int.pow_zero,Int.one_mul]
  have w:wrap64 (x / 2+1)=x / 2+1:=zw (by omega) (by omega)
  split
  ·rw [w];omega
  ·omega
 obtain ⟨a1,a2,a3,a4⟩:=h
 have k0:=key _ a1 a2
 have k1:=key _ a3 a4
 exact zbe ⟨k0.2,k1.2,k0.1,k1.1⟩
theorem zm5 {fm g ker mode:Nat} (inv:Bool) (hf:fm < 2) (h2:2≤g) (h6:g≤6) (hk:ker < 2) (hm:mode < 3) (A:Option Addr) (c:Nat) (l:List S38) (w:World) (hr:Kd.C k38 w A l.length l) (hc:l.length≤c) (hl:l.length=2^g) (ho:l.any (zaG (-(4*2^bN fm)) (4*2^bN fm - 1))=false):zen fm g ker mode inv A c l w:=by
 obtain ⟨t1,t2,t3⟩:=zbC hf h2 h6
 obtain ⟨q0,q1⟩:=qN fm
 obtain ⟨l0,l1⟩:=zfM h6
 have hps:=zfl inv hf h2 h6 hk hm
 have hck:=zhP inv hf h2 h6 (show ker < 3 by omega) hm
 have hfl:=zma h2 h6 l hl
 have hpl:=zfF h2 h6 hk
 have hsl:(psL ker g).length=(pcL ker g).length:=by simp [psL]
 have hz:=zhQ ho
 have hmost:zav (364*2^bN fm) l:=(zgc (m:=4*2^bN fm) (by omega) (fun z hz1=>by have:=hz z hz1;exact zbe (by omega))).up (by omega)
 have hat:=fun k=>(zkn inv mode hf h2 h6 hk hl (zfq l) hmost (by decide) k).2
 have hend:zcF fm g ker inv mode l (psL ker g).length=zaW fm g ker inv mode l:=by
  unfold zcF zaW zjc zga
  rw [hsl,List.take_length,if_neg (by omega)]
 have hex:=zmV h2 h6 hk
 rw [← hsl] at hex
 have hn:(l.length:Int)=2^((g:Nat):Int).toNat:=by rw [hl,Int.toNat_natCast];exact zcG g
 have hps2:∀k,k < (psL ker g).length→(psL ker g).getD k z59=zi7 ((pcL ker g).getD k (false,0)):=by
  intro k hk1
  rw [hsl] at hk1
  simp [psL,List.getD_eq_getElem?_getD,hk1]
 have hsays:∀(p0 b:Int),b=(bN fm:Int)+2→∀k,k < (psL ker g).length→zb9 (fun Aw cw=>#[.int .i64 p0,.int .i64 g,.int .i64 ker,.int .i64 0,.int .i64 mode,.bool inv,.iface 97 (.agg #[]),.int .i64 b,.slice Aw (twL fm g).length cw]) (twL fm g) (2^g) k (zcF fm g ker inv mode l k) (zcF fm g ker inv mode l (k+1)) (zcX ker g k) (zcX ker g (k+1)) ((psL ker g).getD k z59):=by
  intro p0 b hb k hk1
  obtain ⟨m1,m2⟩:=hat k
  have hx:=zlJ ker g k
  rw [hps2 k hk1,zlt (by omega),zcX]
  have hpc:=zfm h2 h6 hk ((pcL ker g).getD k (false,0)) (by rw [List.getD_eq_getElem?_getD,List.getElem?_eq_getElem (by omega)];exact List.getElem_mem _)
  generalize (pcL ker g).getD k (false,0)=p at *
  obtain ⟨f,t⟩:=p
  cases f with
  | false=>exact znG p0 g ker mode b _ inv k _ hf h2 h6 hpc hb (by omega) (by omega) (by omega) (by omega) (by omega) m2 m1
  | true=>exact znH p0 g ker mode b _ inv k _ hf h2 h6 hpc hb (by omega) (by omega) (by omega) (by omega) (by omega) m2 m1
 have hk2:(((ker:Nat):Int) == 2)=false:=by simp;omega
 have hk3:(((ker:Nat):Int) != 2)=true:=by simp;omega
 have hbN:fm=0∨fm=1:=by omega
 unfold zen
 rcases hbN with rfl | rfl
 ·have h:=zfD 0 15 rfl g ker mode inv (twL 0 g) A c l (2^g) 40 (psL ker g) (zcF 0 g ker inv mode l) (zcX ker g) hk2 w hr (by omega) rfl t1 hps
   (fun W hC=>by
    have h:=zhl 0 15 (-32768) 32767 rfl (.inl ⟨rfl,rfl,rfl⟩) g ker mode inv (twL 0 g) A c l (zb6 g l) 80 (by omega) (by omega) (by omega) (by omega) W hC hc (by omega) (by rw [zeo];omega) hck t1 hn ho hfl hk3
    rw [zeo] at h
    exact h) (hsays 0 15 rfl)
  rw [hend,hex] at h
  refine h.mono ?_
  rintro e w' ⟨A',c',As',cs',rfl,r1,r2⟩
  exact ⟨A',c',As',_,cs',rfl,r1,r2⟩
 ·have h:=zfD 1 31 rfl g ker mode inv (twL 1 g) A c l (2^g) 40 (psL ker g) (zcF 1 g ker inv mode l) (zcX ker g) hk2 w hr (by omega) rfl t1 hps
   (fun W hC=>by
    have h:=zhl 1 31 (-2147483648) 2147483647 rfl (.inr ⟨rfl,rfl,rfl⟩) g ker mode inv (twL 1 g) A c l (zb6 g l) 80 (by omega) (by omega) (by omega) (by omega) W hC hc (by omega) (by rw [zeo];omega) hck t1 hn ho hfl hk3
    rw [zeo] at h
    exact h) (hsays 1 31 rfl)
  rw [hend,hex] at h
  refine h.mono ?_
  rintro e w' ⟨A',c',As',cs',rfl,r1,r2⟩
  exact ⟨A',c',As',_,cs',rfl,r1,r2⟩
theorem zm6 {fm g mode:Nat} (inv:Bool) (hf:fm < 2) (h2:2≤g) (h6:g≤6) (hm:mode < 3) (A:Option Addr) (c:Nat) (l:List S38) (w:World) (hr:Kd.C k38 w A l.length l) (hc:l.length≤c) (hl:l.length=2^g) (ho:l.any (zaG (-(4*2^bN fm)) (4*2^bN fm - 1))=false):zen fm g 2 mode inv A c l w:=by
 obtain ⟨t1,t2,t3⟩:=zbC hf h2 h6
 obtain ⟨q0,q1⟩:=qN fm
 obtain ⟨b0,b1⟩:=zeZ fm
 obtain ⟨l0,l1⟩:=zfM h6
 have hck:=zhP inv hf h2 h6 (show 2 < 3 by omega) hm
 have hz:=zhQ ho
 have hmost:zav (364*2^bN fm) l:=(zgc (m:=4*2^bN fm) (by omega) (fun z hz1=>by have:=hz z hz1;exact zbe (by omega))).up (by omega)
 have hok:=(zgw inv mode hf h2 h6 hl (zfq l) hmost (by decide)).2.2
 have hn:(l.length:Int)=2^((g:Nat):Int).toNat:=by rw [hl,Int.toNat_natCast];exact zcG g
 have hlm:(l.map (shC 1 mode)).length=2^g:=by rw [List.length_map,hl]
 have hhalf:∀x,x∈l.map (shC 1 mode)→inB (2*2^bN fm) x=true:=by
  intro x hx
  obtain ⟨z,hz1,rfl⟩:=List.mem_map.1 hx
  exact zmr (b:=4*2^bN fm) (by omega) (by omega) (by omega) (hz z hz1)
 have hsh:round_Shift.f 0 0 mode=some (0,0):=by
  have h:mode=0∨mode=1∨mode=2:=by omega
  rcases h with rfl | rfl | rfl <;> decide +kernel
 have hpw:(2:Int)*2^bN fm=2^(bN fm+1):=by rw [Int.pow_succ];omega
 have hrun:∀(p0 b:Int),p0=fm→b=(bN fm:Int)+2→sat_Bits.f p0=some (b,0)→∀(W:World) (A':Option Addr) (c':Nat),Kd.C k38 W A' (2^g) (l.map (shC 1 mode))→2^g≤c'→Calls Tryz.prog 17 #[.slice A' (2^g) c',.int .i64 p0,.int .i64 mode,.bool inv] W fun e w'=>∃A2 c2,e=.returned (.tuple #[.slice A2 (2^g) c2,.int .i64 0])∧Kd.R k38 38 w' W.heap.size (fun _=>True) (.slice A2 (2^g) c2) (zaW fm g 2 inv mode l)∧Below W.heap.size W w':=by
  intro p0 b hp0 hb hbt W A' c' hC hc'
  subst hp0
  have e:b - 2=(bN fm:Int):=by omega
  rw [← hlm] at hC hc'
  have h:=zhO A' c' (l.map (shC 1 mode)) (twL fm g) fm b (b - 1) (2*2^bN fm) mode g inv g W hC hc' hlm h6 (by omega) (by rw [hlm];exact zht h2 h6) hbt hsh (by omega) (by omega) (zw (by omega) (by omega)) (by rw [hpw];congr 1;omega) hhalf t1 (by omega) (by omega) (ziy hf h2 h6) (by omega) (by omega) (by omega) (by omega) (by rw [e];exact hok)
  rw [hlm,e] at h
  exact h
 have hbN:fm=0∨fm=1:=by omega
 have hw1:wrap64 (1+(g:Int))=1+g:=zw (by omega) (by omega)
 unfold zen
 rcases hbN with rfl | rfl
 ·have h:=zgx 0 g mode inv A c l (2^g) (l.map (shC 1 mode)) (zaW 0 g 2 inv mode l) w hr
   (fun W hC=>by
    have h:=zhm 0 15 (-32768) 32767 rfl (.inl ⟨rfl,rfl,rfl⟩) g mode inv (twL 0 g) A c l (by omega) (by omega) (by omega) (by omega) W hC hc (by omega) (by omega) hck t1 hn ho
    rw [hl] at h ⊢
    exact h) (hrun 0 15 rfl rfl rfl)
  rw [hw1] at h
  refine h.mono ?_
  rintro e w' ⟨A',c',rfl,r1,r2⟩
  exact ⟨A',c',_,_,_,rfl,r1,r2⟩
 ·have h:=zgx 1 g mode inv A c l (2^g) (l.map (shC 1 mode)) (zaW 1 g 2 inv mode l) w hr
   (fun W hC=>by
    have h:=zhm 1 31 (-2147483648) 2147483647 rfl (.inr ⟨rfl,rfl,rfl⟩) g mode inv (twL 1 g) A c l (by omega) (by omega) (by omega) (by omega) W hC hc (by omega) (by omega) hck t1 hn ho
    rw [hl] at h ⊢
    exact h) (hrun 1 31 rfl rfl rfl)
  rw [hw1] at h
  refine h.mono ?_
  rintro e w' ⟨A',c',rfl,r1,r2⟩
  exact ⟨A',c',_,_,_,rfl,r1,r2⟩
theorem ziz {fm g ker mode:Nat} (inv:Bool) (hf:fm < 2) (h2:2≤g) (h6:g≤6) (hk:ker < 3) (hm:mode < 3) (A:Option Addr) (c:Nat) (l:List S38) (w:World) (hr:Kd.C k38 w A l.length l) (hc:l.length≤c) (hl:l.length=2^g) (ho:l.any (zaG (-(4*2^bN fm)) (4*2^bN fm - 1))=false):zen fm g ker mode inv A c l w:=by
 by_cases h:ker=2
 ·subst h
  exact zm6 inv hf h2 h6 hm A c l w hr hc hl ho
 ·exact zm5 inv hf h2 h6 (by omega) hm A c l w hr hc hl ho
def fN {α:Type} (n:Nat) (k:Nat→α):α:=match n with
 | 0=>k 0
 | Nat.succ m=>k (Nat.succ m)
def fI {α:Type} (x:Int) (k:Int→α):α:=match x with
 | .ofNat n=>fN n fun n=>k (.ofNat n)
 | .negSucc n=>fN n fun n=>k (.negSucc n)
def fC {α:Type} (z:S38) (k:S38→α):α:=fI z.f0 fun a=>fI z.f1 fun b=>k ⟨a,b⟩
def fL {α:Type}:List S38→(List S38→α)→α
 | [],k=>k []
 | z :: l,k=>fC z fun z=>fL l fun l=>k (z :: l)
theorem zc9 {α:Type} (n:Nat) (k:Nat→α):fN n k=k n:=by cases n <;> rfl
theorem zdI {α:Type} (x:Int) (k:Int→α):fI x k=k x:=by
 cases x
 ·exact zc9 _ (fun n=>k (.ofNat n))
 ·exact zc9 _ (fun n=>k (.negSucc n))
theorem znI {α:Type} (z:S38) (k:S38→α):fC z k=k z:=by
 unfold fC
 rw [zdI,zdI]
theorem zb1 {α:Type}:∀(l:List S38) (k:List S38→α),fL l k=k l
 | [],k=>rfl
 | z :: l,k=>by rw [fL,znI,zb1 l]
def zjg (wl:List S38) (fm g:Nat) (inv:Bool) (p:Bool×Nat):List Row :=
 if p.1 then zcL wl (2^p.2) ((2^g / (4*2^p.2):Nat):Int) (bN fm) inv (2^g)
 else zdC wl (bN fm) inv (2^p.2) (2^g / (2*2^p.2)) (2^g)
def idF {α:Type} (wl:List S38) (fm g:Nat) (inv:Bool):List (Bool×Nat)→List S38→(List S38→α)→α
 | [],v,k=>k v
 | p :: ps,v,k=>fL (zal (zjg wl fm g inv p) v) fun u=>idF wl fm g inv ps u k
theorem zks {α:Type} (fm g:Nat) (inv:Bool):∀(ps:List (Bool×Nat)) (v:List S38) (k:List S38→α),idF (twL fm g) fm g inv ps v k=k (idT (ps.map (zab fm g inv)) v)
 | [],v,k=>rfl
 | p :: ps,v,k=>by
  rw [idF,zb1,zks fm g inv ps]
  have e:zjg (twL fm g) fm g inv p=(zab fm g inv p).2:=by unfold zjg zab;split <;> rfl
  rw [e]
  rfl
def spF {α:Type} (wl:List S38) (bits:Nat) (inv:Bool):Nat→List S38→(List S38→α)→α
 | 0,v,k=>k v
 | 1,v,k=>fL (lsc (2^(bits+1)) (zal zcw v)) k
 | l+2,v,k=>fL (zB v 0 2 (2^(l+1))) fun a=>fL (zB v 1 4 (2^l)) fun b=>fL (zB v 3 4 (2^l)) fun c =>
  spF wl bits inv (l+1) a fun a=>spF wl bits inv l b fun b=>spF wl bits inv l c fun c=>fL (a++lsc (2^(bits+2)) b++lsc (2^(bits+2)) c) fun d=>fL (zal (zb7 wl bits inv (wl.length / 2^(l+2)) (2^l)) d) k
theorem zfN {α:Type} (wl:List S38) (bits:Nat) (inv:Bool):∀(l:Nat) (v:List S38) (k:List S38→α),spF wl bits inv l v k=k (zbg wl bits inv l v)
 | 0,v,k=>rfl
 | 1,v,k=>by rw [spF,zb1];rfl
 | l+2,v,k=>by rw [spF,zb1,zb1,zb1,zfN wl bits inv (l+1),zfN wl bits inv l,zfN wl bits inv l,zb1,zb1];rfl
def aF {α:Type} (wl:List S38) (fm g ker:Nat) (inv:Bool) (v:List S38) (k:List S38→α):α :=
 if ker=2 then fL (zal (zaK id (2^g)) v) fun u=>spF wl (bN fm) inv g u k else fL (zal (zaK (zbu g) (2^g)) v) fun u=>idF wl fm g inv (pcL ker g) u k
theorem zlK {α:Type} (fm g ker:Nat) (inv:Bool) (v:List S38) (k:List S38→α):aF (twL fm g) fm g ker inv v k=k (zdQ fm g ker inv v):=by
 unfold aF zdQ
 split
 ·rw [zb1,zfN];rfl
 ·rw [zb1,zks];rfl
def asN (H H2:Nat):Nat→Nat→Nat→Nat
 | 0,_,acc=>acc
 | k+1,y,acc=>fN (Nat.div y H2) fun q=>fN (Nat.mod y H2) fun d=>fN (Nat.add acc (Nat.add (Nat.sub d H) (Nat.sub H d))) fun a=>asN H H2 k q a
def zep (H:Int):Nat→Int
 | 0=>0
 | k+1=>H+2*H*zep H k
theorem zhR (H:Nat) (hH:0 < H):∀(k:Nat) (y:Int) (n acc:Nat),y+zep H k=n→asN H (2*H) k n acc=acc+zcr (zeb H k y)
 | 0,y,n,acc,h=>rfl
 | k+1,y,n,acc,h=>by
  rw [asN,zc9,zc9,zc9,zeb,zcr]
  have hp:(0:Int) < 2*(H:Int):=by omega
  have e0:(n:Int)=(y+H)+2*(H:Int)*zep H k:=by rw [← h,zep];omega
  have e1:((Nat.div n (2*H):Nat):Int)=(y+H) / (2*H)+zep H k:=by
   show ((n / (2*H):Nat):Int)=_
   rw [Int.natCast_ediv,e0,show (((2*H:Nat)):Int)=2*(H:Int) by omega,Int.add_mul_ediv_left _ _ (by omega)]
  have e2:((Nat.mod n (2*H):Nat):Int)=(y+H) % (2*H):=by
   show ((n % (2*H):Nat):Int)=_
   rw [Int.natCast_emod,e0,show (((2*H:Nat)):Int)=2*(H:Int) by omega,Int.add_mul_emod_self_left]
  rw [zhR H hH k ((y+H) / (2*H)) _ _ e1.symm]
  have e3:Nat.add acc (Nat.add (Nat.sub (Nat.mod n (2*H)) H) (Nat.sub H (Nat.mod n (2*H))))=acc+((y+H) % (2*H) - H).natAbs:=by
   show acc+(Nat.mod n (2*H) - H+(H - Nat.mod n (2*H)))=_
   rw [← e2]
   omega
  rw [e3]
  omega
def zlu (y:Int) (k:Nat→Bool):Bool:=match y with
 | .ofNat n=>fN n k
 | .negSucc _=>false
theorem ziA {y:Int} {k:Nat→Bool} (h:zlu y k=true):∃n:Nat,y=n∧k n=true:=by
 cases y with
 | ofNat n=>exact ⟨n,rfl,by rw [← h];exact (zc9 n k).symm⟩
 | negSucc n=>cases h
def zge (H H2:Nat) (S O:Int) (n B:Nat):List S38→Int→Bool
 | [],_=>true
 | z :: l,i=>fI (i*S) fun T=>zlu (z.f0+T+O) fun y0=>zlu (z.f1+T+O) fun y1=>(asN H H2 n y0 0).ble B && ((asN H H2 n y1 0).ble B && fI (i+1) fun i=>zge H H2 S O n B l i)
theorem zhS {H:Nat} {S:Int} {n B:Nat} (hH:0 < H):∀(l:List S38) (i:Int),zge H (2*H) S (zep H n) n B l i=true→∀k,k < l.length→zcr (zeb H n ((l.getD k z38).f0+(i+k)*S))≤B∧zcr (zeb H n ((l.getD k z38).f1+(i+k)*S))≤B
 | [],_,_,k,hk=>by simp at hk
 | z :: l,i,h,k,hk=>by
  rw [zge,zdI] at h
  obtain ⟨n0,h0,h⟩:=ziA h
  obtain ⟨n1,h1,h⟩:=ziA h
  rw [zdI,zhR H hH n _ n0 0 h0,zhR H hH n _ n1 0 h1,Bool.and_eq_true,Bool.and_eq_true,Nat.zero_add,Nat.zero_add,Nat.ble_eq,Nat.ble_eq] at h
  cases k with
  | zero =>
   rw [show i+((0:Nat):Int)=i by omega]
   exact ⟨h.1,h.2.1⟩
  | succ k =>
   have h2:=zhS hH l (i+1) h.2.2 k (by simpa using hk)
   rw [show i+((k+1:Nat):Int)=i+1+k by omega]
   exact h2
theorem zhT {x y:List Int} (h:x.length=y.length) (c:Nat→Int):∀k,zar (zcW x y) c k=zar x c k+zar y c k
 | 0=>rfl
 | k+1=>by
  rw [zar,zar,zar,zhT h c k,zk4 h,Int.add_mul]
  omega
theorem zhU (a:Int) (x:List Int) (c:Nat→Int):∀k,zar (zca a x) c k=a*zar x c k
 | 0=>by simp [zar]
 | k+1=>by
  rw [zar,zar,zhU a x c k,zk5,Int.mul_add,Int.mul_assoc]
def zfO (n m:Nat) (z:List Int):List S38:=(List.range m).map fun i:Nat=>⟨(1000+(i:Int))*zar z (fun j=>(j:Int)+1) n,(1000+(i:Int))*zar z (fun j=>(j:Int)+1) n⟩
def zdJ (n m:Nat):Nat:=n*((1000+m)*n)
theorem zhV (n m:Nat) (z:List Int) (i:Nat) (hi:i < m):(zfO n m z).getD i z38=⟨(1000+(i:Int))*zar z (fun j=>(j:Int)+1) n,(1000+(i:Int))*zar z (fun j=>(j:Int)+1) n⟩:=by
 simp [zfO,List.getD_eq_getElem?_getD,hi]
theorem ziB (n m:Nat):ZL n m (zfO n m) :=
 ZL.of (f:=fun x i=>⟨(1000+(i:Int))*zar x (fun j=>(j:Int)+1) n,(1000+(i:Int))*zar x (fun j=>(j:Int)+1) n⟩) (fun x hx=>by simp [zfO]) (fun x k hx hk=>zhV n m x k hk)
  (fun x y k hx hy hk=>by
   rw [zhT (hx.trans hy.symm)]
   apply zaH <;> simp only [zaw] <;> grind)
  (fun c x k hx hk=>by
   rw [zhU]
   apply zaH <;> simp only [zaq] <;> grind)
theorem ziC {c:Nat→Int} {M:Nat}:∀n,(∀j,j < n→(c j).natAbs≤M)→zcs c n≤n*M
 | 0,_=>by simp [zcs]
 | n+1,h=>by
  have h1:=ziC n (fun j hj=>h j (by omega))
  have h2:=h n (by omega)
  rw [zcs,Nat.succ_mul]
  omega
theorem zhW (x:List Int) (c:Nat→Int) (a:Int):∀k,zar x (fun j=>a*c j) k=a*zar x c k
 | 0=>by simp [zar]
 | k+1=>by
  rw [zar,zar,zhW x c a k,Int.mul_add]
  grind
theorem zfP {n:Nat} (c:Nat→Int) {j:Nat} (hj:j < n):∀k,k≤n→zar (zaB n j) c k=if j < k then c j else 0
 | 0,_=>by simp [zar]
 | k+1,hk=>by
  have e:(zaB n j).getD k 0=if j=k then 1 else 0:=by
   simp only [zaB,List.getD_eq_getElem?_getD,List.getElem?_set,List.length_replicate,List.getElem?_replicate]
   by_cases h:j=k
   ·subst h;simp [hj]
   ·simp [h,show k < n by omega]
  rw [zar,zfP c hj k (by omega),e]
  by_cases h:j=k
  ·subst h;simp
  ·rw [if_neg h]
   by_cases h2:j < k
   ·rw [if_pos h2,if_pos (by omega)];omega
   ·rw [if_neg h2,if_neg (by omega)];omega
theorem zms {n m:Nat} {F:List Int→List S38} (h:ZL n m F) (hn:n≤128) (hm:m≤128) {H:Nat} {Hh:Int} {B:Nat} (hH:Hh+200000 < H) (hh:0≤Hh)
  (hM:∀i,i < m→∀j,j < n→zbf ((F (zaB n j)).getD i z38) Hh) (hB:zge H (2*H) (zbU (2*H) (fun j=>(j:Int)+1) n) (zep H n) n B (F (zcq (2*H) n 1)) 1000=true)
  {x:List Int} (hx:x.length=n) {X:Int} (hX0:0≤X) (hX:∀k,x.getD k 0≤X∧-X≤x.getD k 0) (i:Nat) (hi:i < m):zbf ((F x).getD i z38) (X*((B:Int)+zdJ n m)):=by
 have hz:=h.sum (ziB n m)
 have hp:=zfh (2*H) n 1
 have hget:∀y:List Int,y.length=n→(zaz (F y) (zfO n m y)).getD i z38=⟨((F y).getD i z38).f0+(1000+(i:Int))*zar y (fun j=>(j:Int)+1) n,((F y).getD i z38).f1+(1000+(i:Int))*zar y (fun j=>(j:Int)+1) n⟩:=by
  intro y hy
  rw [zbT (by rw [h.len y hy,(ziB n m).len y hy]),zhV n m y i hi]
  rfl
 have hb:=zhS (by omega) _ _ hB i (by rw [h.len _ hp];exact hi)
 have e:=zec (2*H) n 1 (fun j=>(j:Int)+1)
 rw [Int.one_mul] at e
 have h1:=zk7 hz (H:=H) (by omega) (B:=B) i
  (fun j hj=>by
   have hj2:=hM i hi j hj
   rw [hget _ (zcQ n j),zfP _ hj n (Nat.le_refl _),if_pos hj]
   unfold zbf at hj2
   have q:=Int.mul_le_mul (show (1000+(i:Int))≤1128 by omega) (show ((j:Int)+1)≤128 by omega) (by omega) (by decide)
   have q2:0≤(1000+(i:Int))*((j:Int)+1):=Int.mul_nonneg (by omega) (by omega)
   dsimp only
   omega)
  (by rw [hget _ hp,e];exact hb) hx hX0 hX
 rw [hget x hx] at h1
 have s:=zeW hX (fun j=>(1000+(i:Int))*((j:Int)+1)) n
 rw [zhW] at s
 have c1:zcs (fun j=>(1000+(i:Int))*((j:Int)+1)) n≤zdJ n m:=ziC n (fun j hj=>by
  have q:=Int.mul_le_mul (show (1000+(i:Int))≤1000+m by omega) (show ((j:Int)+1)≤n by omega) (by omega) (by omega)
  have q2:0≤(1000+(i:Int))*((j:Int)+1):=Int.mul_nonneg (by omega) (by omega)
  have q3:(((1000+m)*n:Nat):Int)=(1000+(m:Int))*n:=by rw [Int.natCast_mul,Int.natCast_add];rfl
  omega)
 have c2:X*((zcs (fun j=>(1000+(i:Int))*((j:Int)+1)) n:Nat):Int)≤X*(zdJ n m:Nat):=Int.mul_le_mul_of_nonneg_left (by omega) hX0
 rw [Int.mul_add]
 unfold zbf at h1 ⊢
 dsimp only at h1
 omega
def zaY (g ker:Nat):Int:=if ker=2 then 91+224*g else (pcL ker g).foldl (fun e p=>e+if p.1 then 288 else 224) 91
def gA (fm g ker:Nat):Int:=2^(2*dA fm g ker - 2 - g)
def zgf (fm g ker:Nat) (inv:Bool) (z:List Int):List S38:=zaz (zdQ fm g ker (!inv) (zdQ fm g ker inv (zaP z))) (lsc (-(gA fm g ker)) (zaP z))
def zgg (fm g ker:Nat):Nat:=((3*zaY g ker - 4*eA g ker)*2^(2*dA fm g ker) / (512*2^bN fm)).toNat - zdJ (2*2^g) (2^g)
def zc2 (fm g ker:Nat):Nat:=2^(2*kA fm g ker+2)
def zgh (fm g ker:Nat) (inv:Bool):Bool :=
 fL (twL fm g) fun wl=>fN (zc2 fm g ker) fun H=>fN (2*zc2 fm g ker) fun H2=>fI (2*(zc2 fm g ker:Int)) fun HI=>fN (zgg fm g ker) fun B=>fI (gA fm g ker) fun G=>fL (zaP (zcq HI (2*2^g) 1)) fun p=>fI (zbU HI (fun j=>(j:Int)+1) (2*2^g)) fun S=>fI (zep (zc2 fm g ker) (2*2^g)) fun O =>
  aF wl fm g ker inv p fun y=>aF wl fm g ker (!inv) y fun z=>fL (zaz z (lsc (-G) p)) fun l=>zge H H2 S O (2*2^g) B l 1000
theorem zmt (fm g ker:Nat) (inv:Bool):zgh fm g ker inv=zge (zc2 fm g ker) (2*zc2 fm g ker) (zbU (2*zc2 fm g ker) (fun j=>(j:Int)+1) (2*2^g)) (zep (zc2 fm g ker) (2*2^g)) (2*2^g) (zgg fm g ker) (zgf fm g ker inv (zcq (2*zc2 fm g ker) (2*2^g) 1)) 1000:=by
 unfold zgh
 rw [zb1,zc9,zc9,zdI,zc9,zdI,zb1,zdI,zdI,zlK,zlK,zb1]
 rfl
end Go.Proofs.YteieahbadclppaaGreat.P

namespace Go.Proofs.YteieahbadclppaaGreat.P
open Go.RowKit Go.Proofs.YteieahbadclppaaGreatW.PrintWords Go.Proofs.YteieahbadclppaaGreatW.PrintLast Go.Proofs.YteieahbadclppaaGreatW.PrintMore
attribute [local go_sem] zI zJ zO zP zX zY z8 z9
set_option linter.unusedVariables false
set_option linter.unusedSimpArgs false
@[reducible] def zcx (a:Int) (p:Bool):Value:=.agg #[.int .i64 a,.bool p]
set_option maxRecDepth 100000 in
theorem ziD (w:World) (a b:Int) (p q:Bool):(Op.equal 67 (zcx a p) (zcx b q)).run Tryz.prog w=.ok (a == b && (p == q)) w:=by
 show (Op.equalIn (9998+2) 67 _ _).run Tryz.prog w=_
 refine zju Tryz.underlying67 (by kernel_rfl) ?_
 refine zgV (by rfl) (by go_simp;rfl) (by go_simp;rfl) (by go_simp) ?_
 exact zgU (by rfl) (by go_simp;rfl) (by go_simp;rfl) (by go_simp)
set_option maxRecDepth 100000 in
theorem zfr (e:Bool) (w:World) (a:Int) (p:Bool):(Instr.checkKey e 10000 67 (zcx a p)).run Tryz.prog w=.ok () w:=by
 rfl
def zbM:List (Int×Bool×Int)→Nat→List MapEntry
 | [],_=>[]
 | (a,p,v) :: l,n=>⟨zcx a p,.int .i64 v,n⟩ :: zbM l (n+1)
def has (l:List (Int×Bool×Int)) (a:Int) (p:Bool):Option Int:=(l.find? fun x=>x.1 == a && (x.2.1 == p)).map fun x=>x.2.2
theorem zdu (w:World) (a:Int) (p:Bool):∀(l:List (Int×Bool×Int)) (n i:Nat),
  ∃j,(Instr.findAsking 67 (zcx a p) (zbM l n) i).run Tryz.prog w=.ok ((has l a p).map fun v=>(j,.int .i64 v)) w
 | [],n,i=>⟨0,rfl⟩
 | (b,q,v) :: l,n,i=>by
  by_cases h:(a == b && (p == q))=true
  ·refine ⟨i,?_⟩
   have hh:(b == a && (q == p))=true:=by simp only [Bool.and_eq_true,beq_iff_eq] at h ⊢;exact ⟨h.1.symm,h.2.symm⟩
   simp [zbM,Instr.findAsking,ziD,h,has,hh]
  ·obtain ⟨j,hj⟩:=zdu w a p l (n+1) (i+1)
   have hh:(b == a && (q == p))=false:=by
    rw [Bool.eq_false_iff];intro hc;apply h;simp only [Bool.and_eq_true,beq_iff_eq] at hc ⊢;exact ⟨hc.1.symm,hc.2.symm⟩
   have h':(a == b && (p == q))=false:=by simpa using h
   refine ⟨j,?_⟩
   simp only [zbM,Instr.findAsking]
   simp only [has] at hj ⊢
   rw [List.find?_cons_of_neg (by simpa using hh)]
   simp [ziD,h',hj]


theorem zeK (a:Int) (p:Bool) (v:Int):∀(l:List (Int×Bool×Int)) (n:Nat),zbM (l++[(a,p,v)]) n=zbM l n++[⟨zcx a p,.int .i64 v,n+l.length⟩]
 | [],n=>rfl
 | (b,q,u) :: l,n=>by simp [zbM,zeK a p v l (n+1),Nat.add_assoc,Nat.add_comm 1]
def za1 (l:List (Int×Bool×Int)):Obj:=.map (zbM l 0).toArray l.length
theorem zmu:(match Tryz.prog.underlying 67 with | some (.array _ _) | some (.struct _)=>true | _=>false)=true:=by rw [Tryz.underlying67]

set_option maxRecDepth 100000 in
theorem zeL (w:World) (x:Value) (es:List MapEntry):(Instr.findKey 67 x es).run Tryz.prog w=(Instr.findAsking 67 x es).run Tryz.prog w:=run_findKey_eq w zmu x es
set_option maxRecDepth 100000 in
theorem zdK {w:World} {b:Nat} {l:List (Int×Bool×Int)} (hb:w.heap[b]?=some (za1 l)) (a:Int) (p c:Bool) :
  (Instr.lookup 64 (.map (some b)) (zcx a p) c).run Tryz.prog w=.ok (if c then .tuple #[.int .i64 ((has l a p).getD 0),.bool (has l a p).isSome] else .int .i64 ((has l a p).getD 0)) w:=by
 obtain ⟨j,hj⟩:=zdu w a p l 0 0
 have hz:(zeroValue 3).run Tryz.prog w=.ok (.int .i64 0) w:=by rfl
 unfold za1 at hb
 simp only [Instr.lookup]
 cases h:has l a p with
 | none =>
  simp only [h] at hj
  cases c <;> simp [run_underlying Tryz.underlying64,MapKept.run_getObj_map hb,zfr,zeL,hj,hz]
 | some v =>
  simp only [h] at hj
  cases c <;> simp [run_underlying Tryz.underlying64,MapKept.run_getObj_map hb,zfr,zeL,hj,hz]

set_option maxRecDepth 100000 in
theorem zfQ {w:World} {b:Nat} {l:List (Int×Bool×Int)} (hb:w.heap[b]?=some (za1 l)) (a:Int) (p:Bool) (v:Int) (hn:has l a p=none) :
  (Instr.mapUpdate 64 (.map (some b)) (zcx a p) (.int .i64 v)).run Tryz.prog w=.ok () { w with heap:=w.heap.setIfInBounds b (za1 (l++[(a,p,v)])) }:=by
 obtain ⟨j,hj⟩:=zdu w a p l 0 0
 rw [hn] at hj
 have hj:(Instr.findAsking 67 (zcx a p) (zbM l 0) 0).run Tryz.prog w=.ok none w:=hj
 have hb':=hb
 unfold za1 at hb
 have he:za1 (l++[(a,p,v)])=.map ((zbM l 0).toArray.push ⟨zcx a p,.int .i64 v,l.length⟩) (l.length+1):=by
  unfold za1
  rw [zeK]
  simp
 simp [Instr.mapUpdate,run_underlying Tryz.underlying64,MapKept.run_getObj_map hb,zfr,zeL,hj,MapKept.run_setObj_map _ hb,he,Result.andThen]

theorem zgi (w:World) (n:Nat) (l:List (Int×Bool×Int)) (a:Int) (p:Bool) (v:Int) (hn:has l a p=none) :
  (Instr.mapUpdate 64 (.map (some w.heap.size)) (zcx a p) (.int .i64 v)).run Tryz.prog ((w.alloc (za1 l)).drewN n)=.ok () ((w.alloc (za1 (l++[(a,p,v)]))).drewN n):=by
 have hb:((w.alloc (za1 l)).drewN n).heap[w.heap.size]?=some (za1 l):=heap_alloc_new w _
 rw [zfQ hb a p v hn]
 simp [World.drewN,World.alloc_eq]
 refine ⟨?_,rfl,rfl⟩
 show (w.heap.push (za1 l)).setIfInBounds w.heap.size (za1 (l++[(a,p,v)]))=w.heap.push (za1 (l++[(a,p,v)]))
 apply Array.ext_getElem?
 intro i
 rw [Array.getElem?_setIfInBounds,Array.getElem?_push,Array.getElem?_push]
 by_cases e:w.heap.size=i
 ·subst e;simp
 ·have e':¬i=w.heap.size:=fun h=>e h.symm
  rw [if_neg e,if_neg e',if_neg e']

def zm7 (l:List (Int×Bool×Int)):Prop:=∀a p,has l a p=if a=2 then some (if p then 608 else 224) else if a=4 then some (if p then 1632 else 288) else none

theorem zmv {l:List (Int×Bool×Int)} (h2:has l 2 false=some 224∧has l 2 true=some 608∧has l 4 false=some 288∧has l 4 true=some 1632) (hk:∀x∈l,x.1=2∨x.1=4):zm7 l:=by
 intro a p
 by_cases e2:a=2
 ·subst e2;cases p
  ·exact h2.1
  ·exact h2.2.1
 ·by_cases e4:a=4
  ·subst e4;cases p
   ·exact h2.2.2.1
   ·exact h2.2.2.2
  ·rw [if_neg e2,if_neg e4]
   unfold has
   rw [Option.map_eq_none_iff,List.find?_eq_none]
   intro x hx hc
   simp only [Bool.and_eq_true,beq_iff_eq] at hc
   rcases hk x hx with h | h
   ·exact e2 (hc.1.symm.trans h)
   ·exact e4 (hc.1.symm.trans h)

def zgy (w:World) (e:Ending) (w':World):Prop:=∃l,e=.returned (.map (some w.heap.size))∧zm7 l∧∃n,w'=(w.alloc (za1 l)).drewN n
theorem zkt (w:World) (l:List (Int×Bool×Int)) (h2:has l 2 false=some 224∧has l 2 true=some 608∧has l 4 false=some 288∧has l 4 true=some 1632) (hk:∀x∈l,x.1=2∨x.1=4) (e:Ending) (he:e=.returned (.map (some w.heap.size))) :
  zgy w e (w.alloc (za1 l)).drew:=⟨l,he,zmv h2 hk,1,rfl⟩
section
attribute [local go_sem] has
set_option maxHeartbeats 8000000 in
set_option maxRecDepth 100000 in
theorem zbN (w:World):Calls Tryz.prog 23 #[] w (zgy w):=by
 have hmm:∀W:World,(Instr.makeMap 64 none).run Tryz.prog W=.ok (.map (some W.heap.size)) (W.alloc (za1 [])):=fun W=>rfl
 have hup:∀(l:List (Int×Bool×Int)) (a:Int) (p:Bool) (v:Int),has l a p=none→(Instr.mapUpdate 64 (.map (some w.heap.size)) (.agg #[.int .i64 a,.bool p]) (.int .i64 v)).run Tryz.prog ((w.alloc (za1 l)).drew)=.ok () ((w.alloc (za1 (l++[(a,p,v)]))).drew):=fun l a p v h=>zgi w 1 l a p v h
 go_enter Tryz.func23,Tryz.ntmps23
 go_wp2
 go_region
 all_goals
  clear hmm hup
  go_wp2
  go_ret
  exact zkt _ _ (by decide) (by decide) _ rfl
end


end Go.Proofs.YteieahbadclppaaGreat.P

namespace Go.Proofs.YteieahbadclppaaGreat.P
open Go.RowKit Go.Proofs.YteieahbadclppaaGreatW.PrintWords Go.Proofs.YteieahbadclppaaGreatW.PrintLast Go.Proofs.YteieahbadclppaaGreatW.PrintMore
attribute [local go_sem] zI zJ zO zP zX zY z8 z9
set_option linter.unusedVariables false
set_option linter.unusedSimpArgs false
def zd0 (k:Int) (p:Bool):Int:=(if k=2 then some (if p then 608 else 224) else if k=4 then some (if p then 1632 else 288) else none:Option Int).getD 0
def za2 (e k:Int) (p:Bool) (s:Nat):Int:=wrap64 ((wrap64 (wrap64 (wrap64 (k*e)+wrap64 (2^s)) - 1)) / 2^s+zd0 k p)
def budget_step.f (a0:Int) (a1:Int) (a2:Int) (a3:Int):Option (Int) :=
 if a2=2 then some (za2 a0 a1 true 0) else if a3=0 then some (za2 a0 a1 false 0) else if a3=1 then some (za2 a0 a1 false 1) else if a3=2 then some (za2 a0 a1 false 2) else if a3=3 then some (za2 a0 a1 false 3) else none
theorem zd1 {a b:Int} (h:a=b):Ending.returned (.int .i64 a)=.returned (.int .i64 b):=by rw [h]
theorem zfR (w:World):∀(X:Obj) (l:List (Int×Bool×Int)) (n:Nat) (a:Int) (p:Bool),(Instr.lookup 64 (.map (some (w.heap.size+1))) (.agg #[.int .i64 a,.bool p]) false).run Tryz.prog (((w.alloc X).alloc (za1 l)).drewN n)=.ok (.int .i64 ((has l a p).getD 0)) (((w.alloc X).alloc (za1 l)).drewN n):=fun X l n a p=>by
 have h:=zdK (w:=((w.alloc X).alloc (za1 l)).drewN n) (b:=(w.alloc X).heap.size) (heap_alloc_new (w.alloc X) (za1 l)) a p false
 rw [World.size_alloc] at h
 exact h
set_option maxHeartbeats 8000000 in
set_option maxRecDepth 100000 in
theorem zku (e k s:Int) (w:World):Calls Tryz.prog 24 #[.int .i64 e,.int .i64 k,.int .i64 2,.int .i64 s] w fun e_ w'=>e_=.returned (.int .i64 (za2 e k true 0))∧Below w.heap.size w w':=by
 have hu77:=Tryz.underlying67
 have hlk:=zfR w
 go_enter Tryz.func24,Tryz.ntmps24
 go_wp2
 go_region_with (go_at_call 23;refine (zbN _).mono ?_;rintro e1 w1 ⟨l,rfl,hs,n,rfl⟩)
 all_goals
  clear hlk
  go_wp2
  go_ret
  refine ⟨zd1 ?_,zd (ze (ze (Below.refl _ _) _) _) _⟩
  rw [hs]
  simp only [IntWalk.i64_left]
  first | rfl | (simp [za2,zd0];done)
set_option maxHeartbeats 8000000 in
set_option maxRecDepth 100000 in
theorem zm8 (e k sc:Int) (w:World) (h:(sc == 2)=false):Calls Tryz.prog 24 #[.int .i64 e,.int .i64 k,.int .i64 sc,.int .i64 0] w fun e_ w'=>e_=.returned (.int .i64 (za2 e k false 0))∧Below w.heap.size w w':=by
 have hu77:=Tryz.underlying67
 have hlk:=zfR w
 go_enter Tryz.func24,Tryz.ntmps24
 go_wp2
 go_region_with (go_at_call 23;refine (zbN _).mono ?_;rintro e1 w1 ⟨l,rfl,hs,n,rfl⟩)
 all_goals
  clear hlk
  go_wp2
  go_ret
  refine ⟨zd1 ?_,zd (ze (ze (Below.refl _ _) _) _) _⟩
  rw [hs]
  simp only [IntWalk.i64_left]
  first | rfl | (simp [za2,zd0];done)
set_option maxHeartbeats 8000000 in
set_option maxRecDepth 100000 in
theorem zm9 (e k sc:Int) (w:World) (h:(sc == 2)=false):Calls Tryz.prog 24 #[.int .i64 e,.int .i64 k,.int .i64 sc,.int .i64 1] w fun e_ w'=>e_=.returned (.int .i64 (za2 e k false 1))∧Below w.heap.size w w':=by
 have hu77:=Tryz.underlying67
 have hlk:=zfR w
 go_enter Tryz.func24,Tryz.ntmps24
 go_wp2
 go_region_with (go_at_call 23;refine (zbN _).mono ?_;rintro e1 w1 ⟨l,rfl,hs,n,rfl⟩)
 all_goals
  clear hlk
  go_wp2
  go_ret
  refine ⟨zd1 ?_,zd (ze (ze (Below.refl _ _) _) _) _⟩
  rw [hs]
  simp only [IntWalk.i64_left]
  first | rfl | (simp [za2,zd0];done)
set_option maxHeartbeats 8000000 in
set_option maxRecDepth 100000 in
theorem zna (e k sc:Int) (w:World) (h:(sc == 2)=false):Calls Tryz.prog 24 #[.int .i64 e,.int .i64 k,.int .i64 sc,.int .i64 2] w fun e_ w'=>e_=.returned (.int .i64 (za2 e k false 2))∧Below w.heap.size w w':=by
 have hu77:=Tryz.underlying67
 have hlk:=zfR w
 go_enter Tryz.func24,Tryz.ntmps24
 go_wp2
 go_region_with (go_at_call 23;refine (zbN _).mono ?_;rintro e1 w1 ⟨l,rfl,hs,n,rfl⟩)
 all_goals
  clear hlk
  go_wp2
  go_ret
  refine ⟨zd1 ?_,zd (ze (ze (Below.refl _ _) _) _) _⟩
  rw [hs]
  simp only [IntWalk.i64_left]
  first | rfl | (simp [za2,zd0];done)
set_option maxHeartbeats 8000000 in
set_option maxRecDepth 100000 in
theorem znb (e k sc:Int) (w:World) (h:(sc == 2)=false):Calls Tryz.prog 24 #[.int .i64 e,.int .i64 k,.int .i64 sc,.int .i64 3] w fun e_ w'=>e_=.returned (.int .i64 (za2 e k false 3))∧Below w.heap.size w w':=by
 have hu77:=Tryz.underlying67
 have hlk:=zfR w
 go_enter Tryz.func24,Tryz.ntmps24
 go_wp2
 go_region_with (go_at_call 23;refine (zbN _).mono ?_;rintro e1 w1 ⟨l,rfl,hs,n,rfl⟩)
 all_goals
  clear hlk
  go_wp2
  go_ret
  refine ⟨zd1 ?_,zd (ze (ze (Below.refl _ _) _) _) _⟩
  rw [hs]
  simp only [IntWalk.i64_left]
  first | rfl | (simp [za2,zd0];done)
theorem budget_step.calls (a0:Int) (a1:Int) (a2:Int) (a3:Int) (r:Int) (w:World) (h:budget_step.f a0 a1 a2 a3=some r) :
  Calls Tryz.prog 24 #[.int .i64 a0,.int .i64 a1,.int .i64 a2,.int .i64 a3] w fun e w'=>e=.returned (.int .i64 r)∧Below w.heap.size w w':=by
 unfold budget_step.f at h
 by_cases h2:a2=2
 ·rw [if_pos h2] at h;obtain rfl:=Option.some.inj h;subst h2;exact zku a0 a1 a3 w
 ·rw [if_neg h2] at h
  have hb:(a2 == 2)=false:=beq_eq_false_iff_ne.2 h2
  by_cases s0:a3=0
  ·rw [if_pos s0] at h;obtain rfl:=Option.some.inj h;subst s0;exact zm8 a0 a1 a2 w hb
  ·rw [if_neg s0] at h
   by_cases s1:a3=1
   ·rw [if_pos s1] at h;obtain rfl:=Option.some.inj h;subst s1;exact zm9 a0 a1 a2 w hb
   ·rw [if_neg s1] at h
    by_cases s2:a3=2
    ·rw [if_pos s2] at h;obtain rfl:=Option.some.inj h;subst s2;exact zna a0 a1 a2 w hb
    ·rw [if_neg s2] at h
     by_cases s3:a3=3
     ·rw [if_pos s3] at h;obtain rfl:=Option.some.inj h;subst s3;exact znb a0 a1 a2 w hb
     ·rw [if_neg s3] at h;cases h

end Go.Proofs.YteieahbadclppaaGreat.P

namespace Go.Proofs.YteieahbadclppaaGreat.P
open Go.RowKit Go.Proofs.YteieahbadclppaaGreatW.PrintWords Go.Proofs.YteieahbadclppaaGreatW.PrintLast Go.Proofs.YteieahbadclppaaGreatW.PrintMore
set_option linter.unusedVariables false
set_option linter.unusedSimpArgs false
theorem zlL {e base:Nat} {ok:Nat→Prop} {w:World} {A:Option Addr} {n c:Nat} {xs:List S59} (h:Kd.R k59 e w base ok (.slice A n c) xs):Kd.C k59 w A xs.length xs:=by
 obtain ⟨A',c',hv,h1,h2⟩:=Kd.R_reads h
 injection hv with e1 e2 e3
 subst e1
 exact h2
set_option maxRecDepth 100000 in
set_option maxHeartbeats 4000000 in
theorem zkv (p0 p1 p2 p4:Int) (p5:Bool) (kp:Nat) (ps:List S59) (E:Nat→Int) (sh:List Int) (A:Option Addr) (c:Nat) (w:World) (hr:Kd.C (Kd.int .i64) w A sh.length sh) (hc:sh.length≤c) (hm:ps.length≤10) (h2:(p2 == 2)=false) (hlen:sh.length=ps.length)
  (hps:plan_Passes.f kp p0 p1 p2 0 p4 p5=some (ps,0)) (hst:budget_Start.f p0 p1 p2 0 p4 p5=some (E 0,0))
  (hgr:∀k:Nat,k < ps.length→0≤rd sh k∧budget_greatest.f p0 p1 p2 0 p4 p5 (ps.getD k z59).f0=some (rd sh k,true)∧budget_step.f (E k) (ps.getD k z59).f0 0 (rd sh k)=some (E (k+1))) :
  Calls Tryz.prog 10 #[.agg #[.int .i64 p0,.int .i64 p1,.int .i64 p2,.int .i64 0,.int .i64 p4,.bool p5],.slice A sh.length c] w fun e w'=>e=.returned (.tuple #[.int .i64 (E ps.length),.int .i64 0])∧Below w.heap.size w w':=by
 have HR:=hhd hr
 have HC:=hhd hc
 have HPS:=hhd hps
 have HST:=hhd hst
 have HGR:=hhd hgr
 have HLN:=hhd hlen
 have h2b:(p2=2)=False:=eq_false (by simpa using h2)
 have hl1:((sh.length:Int) == (ps.length:Int))=true:=by rw [hlen];simp
 have hl2:((sh.length:Int)=(ps.length:Int))=True:=eq_true (by omega)
 have HB0:=hhd (Below.refl w.heap.size w)
 clear hr hc hps hst hgr hlen
 go_enter Tryz.func10,Tryz.ntmps10
 go_wp2_with (first
  | ((with_reducible refine zg (N:=2) rfl ?_);refine ba_ 2 #[.int .i64 p0,.int .i64 p1,.int .i64 p2,.int .i64 0,.int .i64 p4,.bool p5] 24 ?_;intro g2 hg W1 hbox hbl;have L2:=gf_ hg HB0.out;have B2_1:=hhd hbox;have HB_1:=hhd (zb HB0.out hbl);have Cx_1:=hhd (Kd.C_below HR.out HB_1.out);obtain ⟨k2_0_1,k2_1_1,k2_2_1,k2_3_1,k2_4_1,k2_5_1⟩:=bk6 B2_1.out;clear hbox hbl hg)
  | ((with_reducible refine zg (N:=16) rfl ?_);refine wpList_load_row rfl 24 _ rfl g2 rfl 24 #[.int .i64 p0,.int .i64 p1,.int .i64 p2,.int .i64 0,.int .i64 p4,.bool p5] (0,0) _ B2_1.out Tryz.underlying24 rfl (zcA _ _ _ _ _ _) ?_)
  | (go_at_call 18;(with_reducible refine (plan_Passes.calls kp p0 p1 p2 0 p4 p5 ps 0 _ HPS.out).mono ?_);rintro e W2 ⟨vp,rfl,ho,hb⟩;obtain ⟨Ap,cp,ev⟩:=Kd.R_slice ho;subst ev;have Rp_2:=hhd (Kd.R_lower ho (zj HB_1.out));have HB_2:=hhd (zb HB_1.out hb);have B2_2:=hhd (za B2_1.out hb);have Cx_2:=hhd (Kd.C_below HR.out HB_2.out);obtain ⟨k2_0_2,k2_1_2,k2_2_2,k2_3_2,k2_4_2,k2_5_2⟩:=bk6 B2_2.out;clear k2_0_1 k2_1_1 k2_2_1 k2_3_1 k2_4_1 k2_5_1;clear hb ho)
  | ((with_reducible refine zg (N:=29) rfl ?_);refine wpList_load_row rfl 24 _ rfl g2 rfl 24 #[.int .i64 p0,.int .i64 p1,.int .i64 p2,.int .i64 0,.int .i64 p4,.bool p5] (0,0) _ B2_2.out Tryz.underlying24 rfl (zcA _ _ _ _ _ _) ?_)
  | (go_at_call 22;(with_reducible refine (budget_Start.calls p0 p1 p2 0 p4 p5 (E 0) 0 _ HST.out).mono ?_);rintro e W3 ⟨rfl,hb⟩;have HB_3:=hhd (zb HB_2.out hb);have B2_3:=hhd (za B2_2.out hb);have Rp_3:=hhd (Kd.R_below Rp_2.out hb);have Cx_3:=hhd (Kd.C_below HR.out HB_3.out);obtain ⟨k2_0_3,k2_1_3,k2_2_3,k2_3_3,k2_4_3,k2_5_3⟩:=bk6 B2_3.out;clear k2_0_2 k2_1_2 k2_2_2 k2_3_2 k2_4_2 k2_5_2;clear hb))
 go_loopw [8,46] (fun s8 s46 wr=>∃k:Nat,k≤ps.length∧s46=.int .i64 k∧s8=.int .i64 (E k)∧wr.heap[g2]?=some (.cells #[.int .i64 p0,.int .i64 p1,.int .i64 p2,.int .i64 0,.int .i64 p4,.bool p5] 24 (0,0))∧Kd.R k59 59 wr w.heap.size (fun _=>True) (.slice Ap ps.length cp) ps∧Below w.heap.size w wr) (fun _ i _=>ps.length - (intOf i).toNat)
 case atStart=>exact ⟨0,by omega,rfl,rfl,B2_3.out,Rp_3.out,HB_3.out⟩
 case round =>
  obtain ⟨k,hk,rfl,rfl,e2,rp,hb⟩:=hrel
  have E2:=hhd e2
  have ERp:=hhd rp
  have HBr:=hhd hb
  clear e2 rp hb B2_3 Rp_3 HB_3 k2_0_3 k2_1_3 k2_2_3 k2_3_3 k2_4_3 k2_5_3
  by_cases hlt:k < ps.length
  ·obtain ⟨ad,rfl,h0,h1⟩:=zfx (zlL ERp.out) (k:Int) (by omega) (by omega)
   obtain ⟨ax,rfl,x0⟩:=Kd.at_int HR.out (k:Int) (by omega) (by have:=HLN.out;omega)
   rw [Int.toNat_natCast] at h0 h1 x0
   replace x0:=(HBr.out.cell (World.block_lt_of_cell? w _ x0)).trans x0
   have hx:zb4 ps k=ps.getD k z59:=by unfold zb4;rw [Int.toNat_natCast]
   rw [hx] at h0 h1
   obtain ⟨q0,q1,q2⟩:=HGR.out k hlt
   have Q1:=hhd q1
   have Q2:=hhd q2
   have hkl:((k:Int) < (sh.length:Int))=True:=eq_true (by have:=HLN.out;omega)
   have q3:(rd sh k < 0)=False:=eq_false (by omega)
   have q4:decide (rd sh k < 0)=false:=decide_eq_false (by omega)
   clear q0 q1 q2 hx
   generalize ps.getD k z59=x at *
   generalize rd sh k=s at *
   have hbl:=ze (Below.refl wr.heap.size wr) (Obj.cells #[Value.int IntKind.i64 x.f0,Value.int IntKind.i64 x.f1] 59)
   have X0:=(hbl.cell (World.block_lt_of_cell? _ _ x0)).trans x0
   have E2a:=hhd (za E2.out hbl)
   have HBa:=hhd (zb HBr.out hbl)
   have EA:=hhd (zbr wr (Obj.cells #[Value.int IntKind.i64 x.f0,Value.int IntKind.i64 x.f1] 59))
   clear hbl
   go_wp2_with (first
    | ((with_reducible refine zg (N:=56) rfl ?_);refine wpList_load_row rfl 24 _ rfl g2 rfl 24 #[.int .i64 p0,.int .i64 p1,.int .i64 p2,.int .i64 0,.int .i64 p4,.bool p5] (0,0) _ E2a.out Tryz.underlying24 rfl (zcA _ _ _ _ _ _) ?_)
    | (go_at_call 21;refine (budget_greatest.calls p0 p1 p2 0 p4 p5 x.f0 s true _ Q1.out).mono ?_;rintro e Wa ⟨rfl,hb⟩;have HBb:=hhd (zb HBa.out hb);have kb:=(zc (za E2a.out hb) 3).trans rfl;have kc:=(zc (za EA.out hb) 0).trans rfl;have RPb:=hhd (Kd.R_below (Kd.R_below ERp.out (ze (Below.refl _ _) _)) hb);have E2b:=hhd (za E2a.out hb);clear hb x0 X0 h0 h1)
    | (go_at_call 24;refine (budget_step.calls (E k) x.f0 0 s (E (k+1)) _ Q2.out).mono ?_;rintro e Wb ⟨rfl,hb⟩;have HBc:=hhd (zb HBb.out hb);have RPc:=hhd (Kd.R_below RPb.out hb);have E2c:=hhd (za E2b.out hb);clear hb))
   exact ⟨⟨k+1,by omega,rfl,rfl,E2c.out,RPc.out,HBc.out⟩,by simp [intOf];omega⟩
  ·obtain rfl:k=ps.length:=by omega
   go_wp2
   go_ret2
   exact ⟨rfl,HBr.out⟩
set_option maxRecDepth 100000 in
set_option maxHeartbeats 4000000 in
theorem zeM (p0 p1 p2 p4:Int) (p5:Bool) (kp:Nat) (ps:List S59) (sh:List Int) (w:World) (hm:ps.length≤10) (hlen:sh.length=ps.length)
  (hps:plan_Passes.f kp p0 p1 p2 0 p4 p5=some (ps,0)) (hgr:∀k:Nat,k < ps.length→budget_greatest.f p0 p1 p2 0 p4 p5 (ps.getD k z59).f0=some (rd sh k,true)) :
  Calls Tryz.prog 9 #[.agg #[.int .i64 p0,.int .i64 p1,.int .i64 p2,.int .i64 0,.int .i64 p4,.bool p5]] w fun e w'=>∃v:Value,e=.returned (.tuple #[v,.int .i64 0])∧Kd.R (Kd.int .i64) 3 w' w.heap.size (fun _=>True) v sh∧Below w.heap.size w w':=by
 have HPS:=hhd hps
 have HGR:=hhd hgr
 have HLN:=hhd hlen
 have HB0:=hhd (Below.refl w.heap.size w)
 clear hps hgr hlen
 go_enter Tryz.func9,Tryz.ntmps9
 go_wp2_with (first
  | ((with_reducible refine zg (N:=1) rfl ?_);refine ba_ 1 #[.int .i64 p0,.int .i64 p1,.int .i64 p2,.int .i64 0,.int .i64 p4,.bool p5] 24 ?_;intro g1 hg W1 hbox hbl;have L1:=gf_ hg HB0.out;have B1_1:=hhd hbox;have HB_1:=hhd (zb HB0.out hbl);obtain ⟨k1_0_1,k1_1_1,k1_2_1,k1_3_1,k1_4_1,k1_5_1⟩:=bk6 B1_1.out;clear hbox hbl hg)
  | ((with_reducible refine zg (N:=12) rfl ?_);refine wpList_load_row rfl 24 _ rfl g1 rfl 24 #[.int .i64 p0,.int .i64 p1,.int .i64 p2,.int .i64 0,.int .i64 p4,.bool p5] (0,0) _ B1_1.out Tryz.underlying24 rfl (zcA _ _ _ _ _ _) ?_)
  | (go_at_call 18;(with_reducible refine (plan_Passes.calls kp p0 p1 p2 0 p4 p5 ps 0 _ HPS.out).mono ?_);rintro e W2 ⟨vp,rfl,ho,hb⟩;obtain ⟨Ap,cp,ev⟩:=Kd.R_slice ho;subst ev;have Rp_2:=hhd (Kd.R_lower ho (zj HB_1.out));have HB_2:=hhd (zb HB_1.out hb);have B1_2:=hhd (za B1_1.out hb);obtain ⟨k1_0_2,k1_1_2,k1_2_2,k1_3_2,k1_4_2,k1_5_2⟩:=bk6 B1_2.out;clear k1_0_1 k1_1_1 k1_2_1 k1_3_1 k1_4_1 k1_5_1;clear hb ho))
 have HO0:=hhd (Kd.R_nil (Kd.int .i64) 3 W2 w.heap.size (fun _=>True))
 go_loopw [6,21] (fun s6 s21 wr=>∃k:Nat,k≤ps.length∧s21=.int .i64 k∧Kd.R (Kd.int .i64) 3 wr w.heap.size (fun _=>True) s6 (sh.take k)∧wr.heap[g1]?=some (.cells #[.int .i64 p0,.int .i64 p1,.int .i64 p2,.int .i64 0,.int .i64 p4,.bool p5] 24 (0,0))∧Kd.R k59 59 wr w.heap.size (fun _=>True) (.slice Ap ps.length cp) ps∧Below w.heap.size w wr) (fun _ i _=>ps.length - (intOf i).toNat)
 case atStart=>exact ⟨0,by omega,rfl,HO0.out,B1_2.out,Rp_2.out,HB_2.out⟩
 case round =>
  obtain ⟨k,hk,rfl,ro,e2,rp,hb⟩:=hrel
  have E2:=hhd e2
  have ERp:=hhd rp
  have ERo:=hhd ro
  have HBr:=hhd hb
  clear e2 rp hb ro HO0 B1_2 Rp_2 HB_2 k1_0_2 k1_1_2 k1_2_2 k1_3_2 k1_4_2 k1_5_2
  by_cases hlt:k < ps.length
  ·obtain ⟨ad,rfl,h0,h1⟩:=zfx (zlL ERp.out) (k:Int) (by omega) (by omega)
   rw [Int.toNat_natCast] at h0 h1
   have hx:zb4 ps k=ps.getD k z59:=by unfold zb4;rw [Int.toNat_natCast]
   rw [hx] at h0 h1
   have Q1:=hhd (HGR.out k hlt)
   have HT:=hhd (show sh.take (k+1)=sh.take k++[rd sh k] by
    rw [List.take_succ_eq_append_getElem (by have:=HLN.out;omega)]
    unfold rd
    rw [Int.toNat_natCast,List.getD_eq_getElem?_getD,List.getElem?_eq_getElem (by have:=HLN.out;omega)]
    rfl)
   have HL:=hhd (show (sh.take k).length≤1000 by simp;omega)
   clear hx
   generalize ps.getD k z59=x at *
   generalize rd sh k=s at *
   generalize sh.take k=Y at *
   have hbl:=ze (Below.refl wr.heap.size wr) (Obj.cells #[Value.int IntKind.i64 x.f0,Value.int IntKind.i64 x.f1] 59)
   have E2a:=hhd (za E2.out hbl)
   have HBa:=hhd (zb HBr.out hbl)
   have ROa:=hhd (Kd.R_below ERo.out hbl)
   have RPa:=hhd (Kd.R_below ERp.out hbl)
   clear hbl
   go_wp2_with (first
    | ((with_reducible refine zg (N:=26) rfl ?_);refine wpList_load_row rfl 24 _ rfl g1 rfl 24 #[.int .i64 p0,.int .i64 p1,.int .i64 p2,.int .i64 0,.int .i64 p4,.bool p5] (0,0) _ E2a.out Tryz.underlying24 rfl (zcA _ _ _ _ _ _) ?_)
    | (go_at_call 21;refine (budget_greatest.calls p0 p1 p2 0 p4 p5 x.f0 s true _ Q1.out).mono ?_;rintro e Wa ⟨rfl,hb⟩;have HBb:=hhd (zb HBa.out hb);have RPb:=hhd (Kd.R_below RPa.out hb);have ROb:=hhd (Kd.R_below ROa.out hb);have E2b:=hhd (za E2a.out hb);clear hb h0 h1)
    | ((with_reducible refine zaC (b:=.append) (xs:=#[.tmp 32,.tmp 34]) rfl ?_);at_builtin;refine Kd.R_append (Kd.int .i64) (w0:=w) w.heap.size rfl (.tmp 32) (.tmp 34) 26 3 (.int .i64 0) 8 rfl Tryz.underlying26 ziQ rfl (by decide) (by omega) _ Y s [.int .i64 s] (fun _=>True) (fun _=>False) rfl rfl ?aP (fun _ hk=>hk.elim) ?aF ?aO ?aB ?aS ?aL ?_;(case aP=>exact rfl);(case aB=>exact HBb.out);(case aF=>exact (fun _ _=>trivial));(case aO=>exact ROb.out);(case aS=>exact zj HBb.out);(case aL=>have:=HL.out;omega);intro v16 W16 ho hb hg hat;have HO16:=hhd ho;have HB16:=hhd hb;have RP16:=hhd (Kd.R_grown2 RPb.out rfl hg (fun k hk=>by obtain ⟨cells,hc⟩:=Kd.R_typed ROb.out k hk;exact Kd.R_ne RPb.out hc (by decide)));have B16:=hhd ((hg.block g1 (zf E2b.out) (Kd.R_ne ROb.out E2b.out (by decide))).trans E2b.out);clear ho hb hg hat))
   exact ⟨⟨k+1,by omega,rfl,by rw [HT.out];exact HO16.out,B16.out,RP16.out,HB16.out⟩,by simp [intOf];omega⟩
  ·obtain rfl:k=ps.length:=by omega
   rw [← HLN.out,List.take_length] at ERo
   go_wp2
   go_ret2
   exact ⟨_,rfl,ERo.out,HBr.out⟩
end Go.Proofs.YteieahbadclppaaGreat.P

namespace Go.Proofs.YteieahbadclppaaGreat.P
open Go.RowKit Go.Proofs.YteieahbadclppaaGreatW.PrintWords Go.Proofs.YteieahbadclppaaGreatW.PrintLast Go.Proofs.YteieahbadclppaaGreatW.PrintMore
attribute [local go_sem] zI zJ zO zP zX zY z8 z9
set_option linter.unusedVariables false
set_option linter.unusedSimpArgs false
theorem znJ:∀(W:World) (l:List (Int×Bool×Int)) (n:Nat) (a:Int) (p:Bool),(Instr.lookup 64 (.map (some W.heap.size)) (.agg #[.int .i64 a,.bool p]) false).run Tryz.prog ((W.alloc (za1 l)).drewN n)=.ok (.int .i64 ((has l a p).getD 0)) ((W.alloc (za1 l)).drewN n):=fun W l n a p =>
 zdK (w:=(W.alloc (za1 l)).drewN n) (b:=W.heap.size) (heap_alloc_new W (za1 l)) a p false
theorem zlv {a b:Int} (h:a=b):Ending.returned (.tuple #[.int .i64 a,.int .i64 0])=.returned (.tuple #[.int .i64 b,.int .i64 0]):=by rw [h]
theorem zjh {W:World} {g:Nat} {cs:Array Value} {t:TypeId} (h:W.heap[g]?=some (.cells cs t (0,0))) (X:Obj) (j:Nat):(W.alloc X).cell? ⟨g,j,none⟩=cs[j]? :=
 (World.cell?_alloc_lt _ _ _ (zf h)).trans (zc h j)
set_option maxHeartbeats 8000000 in
set_option maxRecDepth 100000 in
theorem zlw (k:Nat) (a0_0:Int) (a0_1:Int) (a0_2:Int) (a0_3:Int) (a0_4:Int) (a0_5:Bool) (A1:Option Addr) (c1:Nat) (l1:List Int) (w:World) (hr1:Kd.C (Kd.int .i64) w A1 l1.length l1) (hc1:l1.length≤c1)
  (t208:List S59) (t211 t212 t213:Int) (A30:plan_Passes.f k a0_0 a0_1 a0_2 a0_3 a0_4 a0_5=some (t208,t211)) (c4:t211=0) (c5:(l1.length:Int)=(t208.length:Int)) (A60:budget_Start.f a0_0 a0_1 a0_2 a0_3 a0_4 a0_5=some (t212,t213)) (c7:a0_2=2) :
  Calls Tryz.prog 10 #[.agg #[.int .i64 a0_0,.int .i64 a0_1,.int .i64 a0_2,.int .i64 a0_3,.int .i64 a0_4,.bool a0_5],.slice A1 l1.length c1] w fun e w'=>e=.returned (.tuple #[.int .i64 (wrap64 (t212+wrap64 (224*a0_1))),.int .i64 0])∧Below w.heap.size w w':=by
 have hu23:=Tryz.underlying24
 have hu77:=Tryz.underlying67
 have hu34:=Tryz.underlying59
 have HR1:=Aside0.mk hr1
 have HC1:=Aside0.mk hc1
 clear hr1 hc1
 have HB:=Aside0.mk (Below.refl w.heap.size w)
 have A3:=Aside0.mk A30
 clear A30
 have c4b0:(t211 == 0)=true:=beq_iff_eq.mpr c4
 have c4b1:(t211 != 0)=false:=bne_eq_false_iff_eq.mpr c4
 clear c4
 have c5b0:((l1.length:Int) == (t208.length:Int))=true:=beq_iff_eq.mpr c5
 have c5b1:((l1.length:Int) != (t208.length:Int))=false:=bne_eq_false_iff_eq.mpr c5
 have c5b2:(l1.length == t208.length)=true:=by first | simpa using c5 | (simp at c5 ⊢;omega)
 clear c5
 have A6:=Aside0.mk A60
 clear A60
 have c7b0:(a0_2 == 2)=true:=beq_iff_eq.mpr c7
 have c7b1:(a0_2 != 2)=false:=bne_eq_false_iff_eq.mpr c7
 clear c7
 have hlk:=znJ
 go_enter Tryz.func10,Tryz.ntmps10
 go_wp2_with (first | ((with_reducible refine zg (N:=2) rfl ?_);refine ba_ 2 #[.int .i64 a0_0,.int .i64 a0_1,.int .i64 a0_2,.int .i64 a0_3,.int .i64 a0_4,.bool a0_5] 24 ?_;intro gb207 hg w8 hbox hb;have n0_:=Aside0.mk (zb (by repeat (first | (with_reducible first | exact HB.out | apply ze | apply zd | apply zh) | exact HB.out)) hb);have n1_:=Aside0.mk (hbox);have n2_:=Aside0.mk ((by rw [hg];exact (zj (by repeat (first | (with_reducible first | exact HB.out | apply ze | apply zd | apply zh) | exact HB.out))):w.heap.size≤gb207));have n3_:=Aside0.mk ((by rw [hg];exact (zj (by repeat (first | (with_reducible first | exact HB.out | apply ze | apply zd | apply zh) | exact HB.out))):w.heap.size≤gb207));clear HB;have HB:=n0_;have BK207:=n1_;have GW207:=n2_;have GE207:=n3_;clear n0_ n1_ n2_ n3_;clear hb hbox hg;have hcz9_0:w8.cell? ⟨gb207,0,none⟩=some (.int .i64 a0_0):=(zc BK207.out 0).trans rfl;have hcz9_1:w8.cell? ⟨gb207,1,none⟩=some (.int .i64 a0_1):=(zc BK207.out 1).trans rfl;have hcz9_2:w8.cell? ⟨gb207,2,none⟩=some (.int .i64 a0_2):=(zc BK207.out 2).trans rfl;have hcz9_3:w8.cell? ⟨gb207,3,none⟩=some (.int .i64 a0_3):=(zc BK207.out 3).trans rfl;have hcz9_4:w8.cell? ⟨gb207,4,none⟩=some (.int .i64 a0_4):=(zc BK207.out 4).trans rfl;have hcz9_5:w8.cell? ⟨gb207,5,none⟩=some (.bool a0_5):=(zc BK207.out 5).trans rfl;have hfz9_0:=zi BK207.out 0;have hfz9_1:=zi BK207.out 1;have hfz9_2:=zi BK207.out 2;have hfz9_3:=zi BK207.out 3;have hfz9_4:=zi BK207.out 4;have hfz9_5:=zi BK207.out 5) | ((with_reducible refine zy (f:=18) rfl ?_);refine zQ (some 17) rfl rfl Tryz.func18 (by kernel_rfl) rfl #[.agg #[.int .i64 a0_0,.int .i64 a0_1,.int .i64 a0_2,.int .i64 a0_3,.int .i64 a0_4,.bool a0_5]] rfl (by (try simp only [List.map_toArray,List.map_cons,List.map_nil]);first | done | rfl | (simp only [List.length_drop,List.length_take];rfl)) ?_;(with_reducible refine (plan_Passes.calls k a0_0 a0_1 a0_2 a0_3 a0_4 a0_5 t208 t211 _ A3.out).mono ?_);rintro e w10 ⟨v209,rfl,ho0,hb⟩;refine ⟨_,rfl,?_⟩;have n0_:=Aside0.mk (Kd.R_lower ho0 (zj (by repeat (first | (with_reducible first | exact HB.out | apply ze | apply zd | apply zh | refine zp ?_ GE207.out) | exact HB.out))));have n1_:=Aside0.mk (za (g:=gb207) (o:=.cells #[.int .i64 a0_0,.int .i64 a0_1,.int .i64 a0_2,.int .i64 a0_3,.int .i64 a0_4,.bool a0_5] 24 (0,0)) (by (with_reducible repeat (first | refine zn ?_ _ | refine zq ?_ | refine zm ?_ _));exact BK207.out) hb);have n2_:=Aside0.mk (zb (by repeat (first | (with_reducible first | exact HB.out | apply ze | apply zd | apply zh | refine zp ?_ GE207.out) | exact HB.out)) hb);clear BK207;clear HB;have HO210:=n0_;have BK207:=n1_;have HB:=n2_;clear n0_ n1_ n2_;(try clear hb);(try clear hb2);(try clear hk);(try clear hi);(try clear ho0);obtain ⟨Ao11,co11,eo11⟩:=Kd.R_slice HO210.out;subst eo11;have hcz12_0:w10.cell? ⟨gb207,0,none⟩=some (.int .i64 a0_0):=(zc BK207.out 0).trans rfl;have hcz12_1:w10.cell? ⟨gb207,1,none⟩=some (.int .i64 a0_1):=(zc BK207.out 1).trans rfl;have hcz12_2:w10.cell? ⟨gb207,2,none⟩=some (.int .i64 a0_2):=(zc BK207.out 2).trans rfl;have hcz12_3:w10.cell? ⟨gb207,3,none⟩=some (.int .i64 a0_3):=(zc BK207.out 3).trans rfl;have hcz12_4:w10.cell? ⟨gb207,4,none⟩=some (.int .i64 a0_4):=(zc BK207.out 4).trans rfl;have hcz12_5:w10.cell? ⟨gb207,5,none⟩=some (.bool a0_5):=(zc BK207.out 5).trans rfl;have hfz12_0:=zi BK207.out 0;have hfz12_1:=zi BK207.out 1;have hfz12_2:=zi BK207.out 2;have hfz12_3:=zi BK207.out 3;have hfz12_4:=zi BK207.out 4;have hfz12_5:=zi BK207.out 5) | ((with_reducible refine zy (f:=22) rfl ?_);refine zQ (some 30) rfl rfl Tryz.func22 (by kernel_rfl) rfl #[.agg #[.int .i64 a0_0,.int .i64 a0_1,.int .i64 a0_2,.int .i64 a0_3,.int .i64 a0_4,.bool a0_5]] rfl (by (try simp only [List.map_toArray,List.map_cons,List.map_nil]);first | done | rfl | (simp only [List.length_drop,List.length_take];rfl)) ?_;(with_reducible refine (budget_Start.calls a0_0 a0_1 a0_2 a0_3 a0_4 a0_5 t212 t213 _ A6.out).mono ?_);rintro e w13 ⟨rfl,hb⟩;refine ⟨_,rfl,?_⟩;have n0_:=Aside0.mk (Kd.R_below (by (with_reducible repeat (first | apply Kd.R_alloc | apply Kd.R_drewN | apply Kd.R_drew));exact HO210.out) hb);have n1_:=Aside0.mk (za (g:=gb207) (o:=.cells #[.int .i64 a0_0,.int .i64 a0_1,.int .i64 a0_2,.int .i64 a0_3,.int .i64 a0_4,.bool a0_5] 24 (0,0)) (by (with_reducible repeat (first | refine zn ?_ _ | refine zq ?_ | refine zm ?_ _));exact BK207.out) hb);have n2_:=Aside0.mk (zb (by repeat (first | (with_reducible first | exact HB.out | apply ze | apply zd | apply zh | refine zp ?_ GE207.out) | exact HB.out)) hb);clear HO210;clear BK207;clear HB;have HO210:=n0_;have BK207:=n1_;have HB:=n2_;clear n0_ n1_ n2_;(try clear hb);(try clear hb2);(try clear hk);(try clear hi);have hcz14_0:w13.cell? ⟨gb207,0,none⟩=some (.int .i64 a0_0):=(zc BK207.out 0).trans rfl;have hcz14_1:w13.cell? ⟨gb207,1,none⟩=some (.int .i64 a0_1):=(zc BK207.out 1).trans rfl;have hcz14_2:w13.cell? ⟨gb207,2,none⟩=some (.int .i64 a0_2):=(zc BK207.out 2).trans rfl;have hcz14_3:w13.cell? ⟨gb207,3,none⟩=some (.int .i64 a0_3):=(zc BK207.out 3).trans rfl;have hcz14_4:w13.cell? ⟨gb207,4,none⟩=some (.int .i64 a0_4):=(zc BK207.out 4).trans rfl;have hcz14_5:w13.cell? ⟨gb207,5,none⟩=some (.bool a0_5):=(zc BK207.out 5).trans rfl;have hfz14_0:=zi BK207.out 0;have hfz14_1:=zi BK207.out 1;have hfz14_2:=zi BK207.out 2;have hfz14_3:=zi BK207.out 3;have hfz14_4:=zi BK207.out 4;have hfz14_5:=zi BK207.out 5))
 have hq:=fun X:Obj=>(zjh BK207.out X 1).trans rfl
 go_region_with (go_at_call 23;refine (zbN _).mono ?_;rintro e1 w1 ⟨l,rfl,hs,n,rfl⟩)
 all_goals
  clear hlk
  go_wp2
  go_ret2
  refine ⟨zlv ?_,zd (ze HB.out _) _⟩
  rw [hs]
  simp only [IntWalk.i64_left]
  rfl
end Go.Proofs.YteieahbadclppaaGreat.P

namespace Go.Proofs.YteieahbadclppaaGreat.P
open Go.RowKit Go.Proofs.YteieahbadclppaaGreatW.PrintWords Go.Proofs.YteieahbadclppaaGreatW.PrintLast Go.Proofs.YteieahbadclppaaGreatW.PrintMore
attribute [local go_sem] zI zJ zO zP
set_option linter.unusedVariables false
set_option linter.unusedSimpArgs false
theorem zhX (a b c:Int):plan_in.f a b c=some (decide (b≤a) && decide (a≤c)):=by
 unfold plan_in.f
 by_cases h:b≤a
 ·rw [if_pos h,decide_eq_true h,Bool.true_and]
 ·rw [if_neg h,decide_eq_false h,Bool.false_and]
theorem zii (p0 p1 p2 p4:Int) (p5:Bool):plan_Check.f p0 p1 p2 0 p4 p5=some 4∨(0≤p0∧p0≤1)∧(2≤p1∧p1≤6)∧(0≤p2∧p2≤2)∧0≤p4∧p4≤2:=by
 unfold plan_Check.f
 rw [zhX,zhX,zhX,zhX,zhX]
 simp only [Option.bind_some,Bool.and_eq_true,decide_eq_true_eq]
 by_cases h0:0≤p0∧p0≤1
 ·rw [if_pos h0]
  by_cases h1:2≤p1∧p1≤6
  ·rw [if_pos h1]
   by_cases h2:0≤p2∧p2≤2
   ·rw [if_pos h2]
    by_cases h4:0≤p4∧p4≤2
    ·exact .inr ⟨h0,h1,h2,h4⟩
    ·left
     rw [if_pos (by decide),if_neg h4]
   ·left;rw [if_neg h2]
  ·left;rw [if_neg h1]
 ·left;rw [if_neg h0]
def zlM (p0 p1 p2 p4:Int) (p5:Bool) (bad:Int) (A:Option Addr) (c:Nat) (l:List S38) (w:World):Prop :=
 Calls Tryz.prog 7 #[.slice A l.length c,.agg (zaj p0 p1 p2 0 p4 p5)] w fun e w'=>e=.returned (.tuple #[.agg #[.slice none 0 0,.int .i64 0,.bool false,.slice none 0 0],.int .i64 bad])∧Below w.heap.size w w'
theorem zkw (p0 p1 p2 p4:Int) (p5:Bool) (A:Option Addr) (c:Nat) (l:List S38) (hc:l.length≤c) :
  (∃bad,bad≠0∧∀w:World,Kd.C k38 w A l.length l→zlM p0 p1 p2 p4 p5 bad A c l w) ∨
  ∃fm g ker mode:Nat,p0=fm∧p1=g∧p2=ker∧p4=mode∧fm < 2∧(2≤g∧g≤6)∧ker < 3∧mode < 3∧l.length=2^g∧l.any (zaG (-(4*2^bN fm)) (4*2^bN fm - 1))=false:=by
 rcases zii p0 p1 p2 p4 p5 with h | ⟨h0,h1,h2,h4⟩
 ·exact .inl ⟨4,by decide,fun w hr=>zdZ p0 p1 p2 0 p4 4 p5 A c l w hr (by decide) (fun W hC=>zkr p0 p1 p2 0 p4 4 p5 A l.length c W h (by decide))⟩
 ·obtain ⟨fm,rfl⟩:∃n:Nat,p0=n:=⟨p0.toNat,by omega⟩
  obtain ⟨g,rfl⟩:∃n:Nat,p1=n:=⟨p1.toNat,by omega⟩
  obtain ⟨ker,rfl⟩:∃n:Nat,p2=n:=⟨p2.toNat,by omega⟩
  obtain ⟨mode,rfl⟩:∃n:Nat,p4=n:=⟨p4.toNat,by omega⟩
  have hf:fm < 2:=by omega
  obtain ⟨t1,t2,t3⟩:=zbC (fm:=fm) (g:=g) hf (by omega) (by omega)
  have hck:=zhP (fm:=fm) (g:=g) (ker:=ker) (mode:=mode) p5 hf (by omega) (by omega) (by omega) (by omega)
  have hg:(2:Int)^((g:Nat):Int).toNat=((2^g:Nat):Int):=by rw [Int.toNat_natCast];exact (zcG g).symm
  have hbN:fm=0∨fm=1:=by omega
  by_cases hl:l.length=2^g
  ·have hn:(l.length:Int)=2^((g:Nat):Int).toNat:=by rw [hg,hl]
   cases ho:l.any (zaG (-(4*2^bN fm)) (4*2^bN fm - 1)) with
   | false=>exact .inr ⟨fm,g,ker,mode,rfl,rfl,rfl,rfl,hf,by omega,by omega,by omega,hl,ho⟩
   | true =>
    left
    refine ⟨2,by decide,fun w hr=>?_⟩
    rcases hbN with rfl | rfl
    ·exact zdZ 0 g ker 0 mode 2 p5 A c l w hr (by decide) (fun W hC=>zem 0 15 (-32768) 32767 rfl (.inl ⟨rfl,rfl,rfl⟩) g ker mode 2 p5 (twL 0 g) A c l W hC hck t1 (by decide) (fun W2 hC2=>zcl true 0 g ker 0 mode p5 (-32768) 32767 A c l W2 hC2 hc (by omega) (by omega) hn ho))
    ·exact zdZ 1 g ker 0 mode 2 p5 A c l w hr (by decide) (fun W hC=>zem 1 31 (-2147483648) 2147483647 rfl (.inr ⟨rfl,rfl,rfl⟩) g ker mode 2 p5 (twL 1 g) A c l W hC hck t1 (by decide) (fun W2 hC2=>zcl true 1 g ker 0 mode p5 (-2147483648) 2147483647 A c l W2 hC2 hc (by omega) (by omega) hn ho))
  ·left
   have hn:(l.length:Int)≠2^((g:Nat):Int).toNat:=by rw [hg];omega
   refine ⟨3,by decide,fun w hr=>?_⟩
   rcases hbN with rfl | rfl
   ·exact zdZ 0 g ker 0 mode 3 p5 A c l w hr (by decide) (fun W hC=>zem 0 15 (-32768) 32767 rfl (.inl ⟨rfl,rfl,rfl⟩) g ker mode 3 p5 (twL 0 g) A c l W hC hck t1 (by decide) (fun W2 hC2=>ze3 0 g ker 0 mode p5 (-32768) 32767 A c l W2 hC2 hc (by omega) (by omega) hn))
   ·exact zdZ 1 g ker 0 mode 3 p5 A c l w hr (by decide) (fun W hC=>zem 1 31 (-2147483648) 2147483647 rfl (.inr ⟨rfl,rfl,rfl⟩) g ker mode 3 p5 (twL 1 g) A c l W hC hck t1 (by decide) (fun W2 hC2=>ze3 1 g ker 0 mode p5 (-2147483648) 2147483647 A c l W2 hC2 hc (by omega) (by omega) hn))
def za6 (ker g:Nat):List Int:=if ker=2 then [] else (pcL ker g).map fun p=>if p.1 then 2 else 1
def zcS (ker g:Nat):Nat→Int
 | 0=>91
 | k+1=>zcS ker g k+if ((pcL ker g).getD k (false,0)).1 then 288 else 224
def znc (fm g ker mode:Nat) (inv:Bool):Bool:=(budget_Start.f fm g ker 0 mode inv == some (91,0)) && ((plan_Passes.f 40 fm g 2 0 mode inv).map fun r=>(r.1.length,r.2)) == some (0,0) && (zcS ker g (pcL ker g).length == zaY g ker) && (List.range (pcL ker g).length).all fun k=>decide (0≤rd (za6 ker g) k) && (budget_greatest.f fm g ker 0 mode inv ((psL ker g).getD k z59).f0 == some (rd (za6 ker g) k,true) && budget_step.f (zcS ker g k) ((psL ker g).getD k z59).f0 0 (rd (za6 ker g) k) == some (zcS ker g (k+1)))
theorem zmw:([0,1].all fun fm=>[2,3,4,5,6].all fun g=>[0,1].all fun ker=>[0,1,2].all fun mode=>[true,false].all fun inv=>znc fm g ker mode inv)=true:=by decide +kernel
theorem znd:([0,1].all fun fm=>[2,3,4,5,6].all fun g=>[0,1,2].all fun mode=>[true,false].all fun inv=>budget_Start.f (fm:Nat) (g:Nat) 2 0 (mode:Nat) inv == some (91,0))=true:=by decide +kernel
theorem zfS {fm g ker mode:Nat} (inv:Bool) (hf:fm < 2) (h2:2≤g) (h6:g≤6) (hk:ker < 2) (hm:mode < 3):budget_Start.f fm g ker 0 mode inv=some (91,0)∧plan_Passes.f 40 fm g 2 0 mode inv=some ([],0)∧zcS ker g (pcL ker g).length=zaY g ker∧∀k,k < (pcL ker g).length→0≤rd (za6 ker g) k∧budget_greatest.f fm g ker 0 mode inv ((psL ker g).getD k z59).f0=some (rd (za6 ker g) k,true)∧budget_step.f (zcS ker g k) ((psL ker g).getD k z59).f0 0 (rd (za6 ker g) k)=some (zcS ker g (k+1)):=by
 have h:=List.all_eq_true.1 (List.all_eq_true.1 (List.all_eq_true.1 (List.all_eq_true.1 (List.all_eq_true.1 zmw fm (zbH hf)) g (zbZ h2 h6)) ker (zbH hk)) mode (by simp;omega)) inv (by cases inv <;> simp)
 unfold znc at h
 rw [Bool.and_eq_true,Bool.and_eq_true,Bool.and_eq_true,beq_iff_eq,beq_iff_eq,beq_iff_eq,List.all_eq_true] at h
 obtain ⟨⟨⟨a1,a2⟩,a3⟩,a4⟩:=h
 refine ⟨a1,?_,a3,fun k hk1=>?_⟩
 ·obtain ⟨⟨x,y⟩,e1,e2⟩:=Option.map_eq_some_iff.1 a2
  simp only [Prod.mk.injEq,List.length_eq_zero_iff] at e2
  rw [e1,e2.1,e2.2]
 ·have h1:=a4 k (List.mem_range.2 hk1)
  simpa only [Bool.and_eq_true,decide_eq_true_eq,beq_iff_eq] using h1
theorem zkx {fm g ker mode:Nat} (inv:Bool) (hf:fm < 2) (h2:2≤g) (h6:g≤6) (hk:ker < 3) (hm:mode < 3) (w:World):Calls Tryz.prog 9 #[.agg #[.int .i64 fm,.int .i64 g,.int .i64 ker,.int .i64 0,.int .i64 mode,.bool inv]] w fun e w'=>∃v:Value,e=.returned (.tuple #[v,.int .i64 0])∧Kd.R (Kd.int .i64) 3 w' w.heap.size (fun _=>True) v (za6 ker g)∧Below w.heap.size w w':=by
 by_cases h:ker=2
 ·subst h
  exact zeM fm g 2 mode inv 40 [] [] w (by simp) rfl (zfS inv hf h2 h6 (show 0 < 2 by decide) hm).2.1 (fun k hk=>by simp at hk)
 ·have hl:=zfF h2 h6 (show ker < 2 by omega)
  obtain ⟨b1,b2,b3,b4⟩:=zfS inv hf h2 h6 (show ker < 2 by omega) hm
  exact zeM fm g ker mode inv 40 (psL ker g) (za6 ker g) w (by simp [psL];omega) (by simp [psL,za6,h]) (zfl inv hf h2 h6 (by omega) hm) (fun k hk1=>(b4 k (by simpa [psL] using hk1)).2.1)
theorem zne {fm g ker mode:Nat} (inv:Bool) (hf:fm < 2) (h2:2≤g) (h6:g≤6) (hk:ker < 3) (hm:mode < 3) (w:World) (A:Option Addr) (c:Nat) (hr:Kd.C (Kd.int .i64) w A (za6 ker g).length (za6 ker g)) (hc:(za6 ker g).length≤c):Calls Tryz.prog 10 #[.agg #[.int .i64 fm,.int .i64 g,.int .i64 ker,.int .i64 0,.int .i64 mode,.bool inv],.slice A (za6 ker g).length c] w fun e w'=>e=.returned (.tuple #[.int .i64 (zaY g ker),.int .i64 0])∧Below w.heap.size w w':=by
 by_cases h:ker=2
 ·subst h
  have hst:budget_Start.f fm g 2 0 mode inv=some (91,0):=beq_iff_eq.1 (List.all_eq_true.1 (List.all_eq_true.1 (List.all_eq_true.1 (List.all_eq_true.1 znd fm (zbH hf)) g (zbZ h2 h6)) mode (by simp;omega)) inv (by cases inv <;> simp))
  have h1:=zlw 40 fm g 2 0 mode inv A c (za6 2 g) w hr hc [] 0 91 0 (zfS inv hf h2 h6 (show 0 < 2 by decide) hm).2.1 rfl rfl hst rfl
  have e:wrap64 (91+wrap64 (224*(g:Int)))=zaY g 2:=by
   rw [zw (x:=224*(g:Int)) (by omega) (by omega),zw (by omega) (by omega)]
   rfl
  rw [e] at h1
  exact h1
 ·have hl:=zfF h2 h6 (show ker < 2 by omega)
  obtain ⟨b1,b2,b3,b4⟩:=zfS inv hf h2 h6 (show ker < 2 by omega) hm
  have hpl:(psL ker g).length=(pcL ker g).length:=by simp [psL]
  have h1:=zkv fm g ker mode inv 40 (psL ker g) (zcS ker g) (za6 ker g) A c w hr hc (by omega) (by simp;omega) (by simp [psL,za6,h]) (zfl inv hf h2 h6 (by omega) hm) b1 (fun k hk1=>b4 k (by omega))
  rw [hpl,b3] at h1
  exact h1
set_option maxRecDepth 100000 in
theorem ziE (A:Option Addr) (c:Nat) (l:List S38) (m:Nat) (w:World) (hm:m=min l.length 70) (hc:l.length≤c):Calls Tryz.prog 6 #[.slice A l.length c] w fun e w'=>e=.returned (.slice A m c)∧Below w.heap.size w w':=by
 have HM:=hhd hm
 obtain ⟨i06,hi06,_,hsz6,_⟩:=info_parts zb3
 have hmin:(if 70 < (l.length:Int) then 70 else (l.length:Int))=(m:Int):=by split <;> omega
 have hcut:=zmE (P:=Tryz.prog) 22 38 .i64 Tryz.underlying22 hi06 A l.length c (m:Int) (by omega) (by omega) hc
 rw [Int.toNat_natCast] at hcut
 have hqle:((m:Int)≤(l.length:Int))=True:=eq_true (by omega)
 have HB:=hhd (Below.refl w.heap.size w)
 clear hm hc hi06 hsz6
 go_enter Tryz.func6,Tryz.ntmps6
 go_wp2
 go_ret
 exact ⟨rfl,HB.out⟩
end Go.Proofs.YteieahbadclppaaGreat.P

