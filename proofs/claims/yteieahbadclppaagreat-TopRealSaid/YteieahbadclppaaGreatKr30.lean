/- Part 30 of 36 of the proof: the texts that it reaches, one behind the other. No condition. -/
import Derived.Test.YteieahbadclppaaGreatKr29
namespace Go.Proofs.YteieahbadclppaaGreat.P
open Go.RowKit Go.Shelf Go.Proofs.YteieahbadclppaaGreatW.PrintWords Go.Proofs.YteieahbadclppaaGreatW.PrintLast Go.Proofs.YteieahbadclppaaGreatW.PrintMore
set_option linter.unusedVariables false
set_option linter.unusedSimpArgs false
theorem zhU {n:Nat} (h:n≤64):wrap64 (n:Int)=n:=zv (by omega) (by omega)
theorem lt2 {k n:Nat} (h:k < n):k < 2*n:=by omega
theorem zhV (q:Nat):(Value.int .i64 ((q:Int)+1))=.int .i64 ((q+1:Nat):Int):=rfl
theorem zkC (Y:List S38) (fr h j:Nat) (O:Nat→S38) (q:Nat):zda Y fr h j O (q+1)=(zda Y fr h j O q).set (fr+(q*h+j)) (O q):=rfl
theorem zos {k n:Nat} (h:k < n):(k:Int) < 2*(n:Int):=by omega
theorem zot {k n:Nat} (h:k < n):((n+k:Nat):Int) < 2*(n:Int):=by omega
theorem zoc {hN xl n byN:Nat} (h1:1≤hN) (h16:hN≤16) (hxl:xl=4*hN) (hby:n / (4*hN)=byN) (hb:byN≤64):(n:Int).tdiv xl=byN∧wrap64 (byN:Int)=byN∧((xl:Int)=0)=False∧(xl=0)=False∧wrap64 ((xl:Int) / 4)=hN:=by
 refine ⟨?_,zv (by omega) (by omega),eq_false (by omega),eq_false (by omega),?_⟩
 ·rw [hxl,Int.tdiv_eq_ediv_of_nonneg (by omega),← Int.natCast_ediv,hby]
 ·rw [zv (by omega) (by omega)];omega
theorem zjo {hN k n byN:Nat} (h1:1≤hN) (h16:hN≤16) (hk:k < hN) (hn0:0 < n) (hn:n≤64) (hd:byN*(4*hN)≤n) :
  wrap64 ((k:Int)+1)=(k:Int)+1∧wrap64 ((hN:Int)+k)=((hN+k:Nat):Int)∧(0:Int)≤((hN+k:Nat):Int)∧((hN+k:Nat):Int) < ((2*hN:Nat):Int)∧wrap64 ((k:Int)*byN)=((k*byN:Nat):Int)∧wrap64 (3*(k:Int))=3*(k:Int)∧wrap64 (3*(k:Int)*byN)=((3*k*byN:Nat):Int) ∧
  ((0:Int)≤((k*byN:Nat):Int)∧((k*byN:Nat):Int) < n)∧((0:Int)≤((3*k*byN:Nat):Int)∧((3*k*byN:Nat):Int) < n):=by
 have hkb:3*k*byN < n:=by
  rcases Nat.eq_zero_or_pos byN with e | e
  ·rw [e];exact hn0
  ·have h1:3*k*byN < 4*hN*byN:=Nat.mul_lt_mul_of_pos_right (by omega) e
   rw [Nat.mul_comm] at hd
   omega
 have hkb1:k*byN < n:=by
  have h1:k*byN≤3*k*byN:=Nat.mul_le_mul_right _ (by omega)
  omega
 refine ⟨zv (by omega) (by omega),?_,by omega,by omega,?_,zv (by omega) (by omega),?_,⟨by omega,by omega⟩,⟨by omega,by omega⟩⟩
 ·rw [zv (by omega) (by omega)];omega
 ·rw [← Int.natCast_mul];exact zhU (by omega)
 ·rw [show (3*(k:Int)*byN)=((3*k*byN:Nat):Int) by rw [Int.natCast_mul,Int.natCast_mul];rfl];exact zhU (by omega)
theorem zod {hN k xl q:Nat} (h16:hN≤16) (hk:k < hN) (hxl:xl=4*hN) (hq:q < 4) :
  wrap64 ((q:Int)*xl)=(q:Int)*xl∧wrap64 (((q:Int)*xl).tdiv 4)=((q*hN:Nat):Int)∧wrap64 (((q*hN:Nat):Int)+k)=((q*hN+k:Nat):Int)∧0≤((q*hN+k:Nat):Int)∧((q*hN+k:Nat):Int) < xl∧0+(q*hN+k) < xl∧((q*hN+k:Nat):Int).toNat=q*hN+k:=by
 have qh:q*hN≤3*hN:=Nat.mul_le_mul_right _ (by omega)
 have qe:(q:Int)*xl=4*((q*hN:Nat):Int):=by rw [hxl,Int.natCast_mul,Int.natCast_mul];show (q:Int)*(4*↑hN)=_;grind
 refine ⟨zv (by omega) (by omega),?_,?_,by omega,by omega,by omega,by omega⟩
 ·rw [qe,Int.tdiv_eq_ediv_of_nonneg (by omega),zv (by omega) (by omega)];omega
 ·rw [zv (by omega) (by omega)];omega
theorem zgl {inv:Bool} {x:S38} (h:inB 536870912 x=true):inB 536870912 (zH inv x)=true:=by
 obtain ⟨d0,d1,d2,d3⟩:=zaj h
 unfold zH
 split
 ·have e:wrap64 (-x.f1)=-x.f1:=zv (by omega) (by omega)
  exact za3 (by dsimp only;rw [e];omega)
 ·exact h
set_option maxRecDepth 100000 in
set_option maxHeartbeats 8000000 in
theorem zlK (Aw:Option Addr) (cw:Nat) (wl:List S38) (bits mode:Int) (inv:Bool) (l:Nat) (hl6:l≤4) (hcw:wl.length≤cw) (hwl:wl.length≤64) (hwl0:0 < wl.length) (hw:∀x,x∈wl→inB 536870912 x=true) (hb0:0≤bits) (hb1:bits≤29) (m0:0≤mode) (m1:mode < 3)
  (h0:zdp Aw cw wl bits mode inv l) (h1:zdp Aw cw wl bits mode inv (l+1)):zdp Aw cw wl bits mode inv (l+2):=by
 intro x Ax cx w hl hok hC hc hwC
 have hmx:Tryz.prog.follows .mixedOrders=true:=by kernel_rfl
 have bB:=hhd (Below.refl w.heap.size w)
 have HX:=hhd hC
 have HW:=hhd hwC
 have HCX:=hhd hc
 have HCW:=hhd hcw
 have H0:=hhd h0
 have H1:=hhd h1
 have HWI:=hhd hw
 have HS:=hhd (And.intro hb0 (And.intro hb1 (And.intro m0 m1)))
 obtain ⟨k1,k2,k3,k4,k5,k6⟩:=hok
 have K1:=hhd k1
 have K2:=hhd k2
 have K3:=hhd k3
 have K4:=hhd k4
 have K5:=hhd k5
 have K6:=hhd k6
 have hp1:2^(l+1)=2*2^l:=by rw [Nat.pow_succ];omega
 have hp2:2^(l+2)=4*2^l:=by rw [Nat.pow_succ,Nat.pow_succ];omega
 have hN1:1≤2^l:=Nat.one_le_two_pow
 have hN16:2^l≤16:=Nat.le_trans (Nat.pow_le_pow_right (by decide) hl6) (by decide)
 have HSP:=hhd (show zaq wl bits mode inv (l+2) x=zbu (zaq wl bits mode inv (l+1) (zB x 0 2 (2^(l+1)))) (zaq wl bits mode inv l (zB x 1 4 (2^l))) (zaq wl bits mode inv l (zB x 3 4 (2^l))) wl (wl.length / 2^(l+2)) bits mode inv (2^l) (2^l) from rfl)
 have HLE:=hhd (zbB wl bits mode inv (l+1) (zB x 0 2 (2^(l+1))) (zP x 0 2 _))
 have HLF:=hhd (zbB wl bits mode inv l (zB x 1 4 (2^l)) (zP x 1 4 _))
 have HLG:=hhd (zbB wl bits mode inv l (zB x 3 4 (2^l)) (zP x 3 4 _))
 have HPP:=hhd (And.intro hp1 hp2)
 have HXL:=hhd hl
 rw [hp2] at hl
 rw [hp2] at HSP
 rw [hp1] at K1 K4 HSP HLE
 generalize hE:zaq wl bits mode inv (l+1) (zB x 0 2 (2*2^l))=E at *
 generalize hF:zaq wl bits mode inv l (zB x 1 4 (2^l))=F at *
 generalize hG:zaq wl bits mode inv l (zB x 3 4 (2^l))=G at *
 have HEE:=hhd hE
 have HFF:=hhd hF
 have HGG:=hhd hG
 have HLL:=hhd hl
 have HWL:=hhd (And.intro hwl0 hwl)
 have HNN:=hhd (And.intro hN1 hN16)
 have HPL:=hhd (show (2:Nat)^l=2^l from rfl)
 have e1:((x.length:Int) == 1)=false:=by rw [beq_eq_false_iff_ne];omega
 have e2:((x.length:Int) == 2)=false:=by rw [beq_eq_false_iff_ne];omega
 have e3:(x.length=1)=False:=eq_false (by omega)
 have e4:(x.length=2)=False:=eq_false (by omega)
 have ZB:=hhd (show ((x.length:Nat):Int).toNat*16≤281474976710656 from by rw [Int.toNat_natCast];omega)
 have ZC:=hhd (show 0 < (List.replicate (((x.length:Nat):Int).toNat) z38).length from by rw [Int.toNat_natCast,List.length_replicate];omega)
 clear hE hF hG hl hC hwC hc hcw h0 h1 hw hb0 hb1 m0 m1 k1 k2 k3 k4 k5 k6 hwl hwl0 hp1 hp2
 go_enter Tryz.func48,Tryz.ntmps48
 go_wp2_with (first
  | ((with_reducible refine zf (N:=2) rfl ?_);refine bb_ 2 rfl bB #[.slice Aw wl.length cw,.int .i64 bits,.int .i64 mode,.int .i64 (zaV inv)] 95 ?_;intro g2 W1 hg aC L2 aE aD;have bH:=zc_ HX aD;have bI:=zc_ HW aD;obtain ⟨bC,bD,bE,bF⟩:=bk4 aE;clear aC hg))
 clear e1 e2 e3 e4
 have m0:=(za aE 0).trans rfl
 have m1:=(za aE 1).trans rfl
 have m2:=(za aE 2).trans rfl
 have m3:=(za aE 3).trans rfl
 refine z7 (S:=fun w'=>Below W1.heap.size W1 w') (ds:=[4]) (fl 6 0) hmx rfl rfl (Below.refl _ _).drew (fun I=>?_)
 refine px_ 1 rfl ?_
 refine tx_ 0 rfl I (by rintro w' hs;obtain ⟨j_m0,j_m1,j_m2,j_m3⟩:=bg4 hs m0 m1 m2 m3;go_simp;with_reducible rfl) ?_
 refine ox_ 2 (some 81) rfl rfl fun K hK=>?_
 refine zJ Tryz.func72 (by kernel_rfl) rfl #[.slice Ax x.length cx,.int .i64 0,.int .i64 2] (by rfl) rfl rfl (by go_simp) ?_
 refine (zeR Ax x.length cx 0 2 _).mono ?_
 rintro e Wa ⟨ga,gb,gc,rfl,ba,bb,bc,-,-,-,aC⟩
 refine ⟨_,rfl,?_⟩
 refine hK.out _ _ (zb I aC) (fun aA=>?_)
 have BA:=hhd ba
 have BB:=hhd bb
 have BC:=hhd bc
 clear ba bb bc
 clear hK K I aC
 have I:=aA
 clear aA
 refine nx_ ?_
 refine ox_ 3 (some 82) rfl rfl fun K hK=>?_
 refine zJ Tryz.func71 (by kernel_rfl) rfl #[.func (.func 103) #[] #[.pointer (some ⟨ga,0,none⟩),.pointer (some ⟨gb,0,none⟩),.pointer (some ⟨gc,0,none⟩)]] (by rfl) rfl rfl (by go_simp) ?_
 refine (zdY ga gb gc Ax cx x 0 2 (2*2^l) _ (Kd.C_below HX.out (zb aD I)) (by have:=HLL.out;have:=HNN.out.2;omega) (by decide) (by decide) (by decide) (by have:=HNN.out.2;omega) (by have:=HLL.out;intro k hk;omega) (by have:=HLL.out;have:=HNN.out.1;omega) BA.out BB.out BC.out).mono ?_
 rintro e Wb ⟨v,rfl,hR,aC⟩
 obtain ⟨Av,cv,hv,hcv,hCv⟩:=Kd.R_reads hR
 subst hv
 refine ⟨_,rfl,?_⟩
 refine hK.out _ _ (zb I aC) (fun aA=>?_)
 have CV:=hhd hCv
 have HCV:=hhd hcv
 clear hR hCv hcv BA BB BC
 clear hK K I aC
 have I:=aA
 clear aA
 refine nx_ ?_
 refine lx_ 4 (some 83) rfl rfl fun K hK=>?_
 refine zJ Tryz.func48 (by kernel_rfl) rfl #[.agg #[.slice Aw wl.length cw,.int .i64 bits,.int .i64 mode,.int .i64 (zaV inv)],.slice Av (zB x 0 2 (2*2^l)).length cv] (by rfl) rfl rfl (by go_simp) ?_
 refine (H1.out (zB x 0 2 (2*2^l)) Av cv _ ((zP x 0 2 _).trans HPP.out.1.symm) K1.out CV.out HCV.out (Kd.C_below HW.out (zb aD I))).mono ?_
 rintro e W9 ⟨AE,cE,he,hcr,hCr,-,aC⟩
 rw [HPP.out.1] at he hcr hCr
 subst he
 refine ⟨_,rfl,?_⟩
 refine hK.out _ _ ?_
 have HBq:=zb I aC
 have aU:=zs_ aD HBq
 have P9:=za_ aE HBq
 rw [HEE.out] at hCr
 have CE:=hhd hCr
 clear hK K I aC hCr hcr HBq CV HCV
 refine nx_ ?_
 refine px_ 5 rfl ?_
 refine zE (by kernel_rfl) ?_
 clear m0 m1 m2 m3
 go_wp2
 have m0:=(za P9 0).trans rfl
 have m1:=(za P9 1).trans rfl
 have m2:=(za P9 2).trans rfl
 have m3:=(za P9 3).trans rfl
 refine z7 (S:=fun w'=>Below W9.heap.size W9 w') (ds:=[4]) (fl 6 0) hmx rfl rfl (Below.refl _ _).drew (fun I=>?_)
 refine px_ 1 rfl ?_
 refine tx_ 0 rfl I (by rintro w' hs;obtain ⟨j_m0,j_m1,j_m2,j_m3⟩:=bg4 hs m0 m1 m2 m3;go_simp;with_reducible rfl) ?_
 refine ox_ 2 (some 86) rfl rfl fun K hK=>?_
 refine zJ Tryz.func72 (by kernel_rfl) rfl #[.slice Ax x.length cx,.int .i64 1,.int .i64 4] (by rfl) rfl rfl (by go_simp) ?_
 refine (zeR Ax x.length cx 1 4 _).mono ?_
 rintro e Wa ⟨ga,gb,gc,rfl,ba,bb,bc,-,-,-,aC⟩
 refine ⟨_,rfl,?_⟩
 refine hK.out _ _ (zb I aC) (fun aA=>?_)
 have BA:=hhd ba
 have BB:=hhd bb
 have BC:=hhd bc
 clear ba bb bc
 clear hK K I aC
 have I:=aA
 clear aA
 refine nx_ ?_
 refine ox_ 3 (some 87) rfl rfl fun K hK=>?_
 refine zJ Tryz.func71 (by kernel_rfl) rfl #[.func (.func 103) #[] #[.pointer (some ⟨ga,0,none⟩),.pointer (some ⟨gb,0,none⟩),.pointer (some ⟨gc,0,none⟩)]] (by rfl) rfl rfl (by go_simp) ?_
 refine (zdY ga gb gc Ax cx x 1 4 (2^l) _ (Kd.C_below HX.out (zb aU I)) (by have:=HLL.out;have:=HNN.out.2;omega) (by decide) (by decide) (by decide) (by have:=HNN.out.2;omega) (by have:=HLL.out;intro k hk;omega) (by have:=HLL.out;have:=HNN.out.1;omega) BA.out BB.out BC.out).mono ?_
 rintro e Wb ⟨v,rfl,hR,aC⟩
 obtain ⟨Av,cv,hv,hcv,hCv⟩:=Kd.R_reads hR
 subst hv
 refine ⟨_,rfl,?_⟩
 refine hK.out _ _ (zb I aC) (fun aA=>?_)
 have CV:=hhd hCv
 have HCV:=hhd hcv
 clear hR hCv hcv BA BB BC
 clear hK K I aC
 have I:=aA
 clear aA
 refine nx_ ?_
 refine lx_ 4 (some 88) rfl rfl fun K hK=>?_
 refine zJ Tryz.func48 (by kernel_rfl) rfl #[.agg #[.slice Aw wl.length cw,.int .i64 bits,.int .i64 mode,.int .i64 (zaV inv)],.slice Av (zB x 1 4 (2^l)).length cv] (by rfl) rfl rfl (by go_simp) ?_
 refine (H0.out (zB x 1 4 (2^l)) Av cv _ (zP x 1 4 _) K2.out CV.out HCV.out (Kd.C_below HW.out (zb aU I))).mono ?_
 rintro e aZ ⟨AF,cF,he,hcr,hCr,-,aC⟩
 subst he
 refine ⟨_,rfl,?_⟩
 refine hK.out _ _ ?_
 have HBq:=zb I aC
 have aJ:=zs_ aU HBq
 have P10:=za_ P9 HBq
 rw [HFF.out] at hCr
 have CF:=hhd hCr
 replace CE:=hhd (Kd.C_below CE.out HBq)
 clear hK K I aC hCr hcr HBq CV HCV
 refine nx_ ?_
 refine px_ 5 rfl ?_
 refine zE (by kernel_rfl) ?_
 clear m0 m1 m2 m3
 go_wp2
 have m0:=(za P10 0).trans rfl
 have m1:=(za P10 1).trans rfl
 have m2:=(za P10 2).trans rfl
 have m3:=(za P10 3).trans rfl
 refine z7 (S:=fun w'=>Below aZ.heap.size aZ w') (ds:=[4]) (fl 6 0) hmx rfl rfl (Below.refl _ _).drew (fun I=>?_)
 refine px_ 1 rfl ?_
 refine tx_ 0 rfl I (by rintro w' hs;obtain ⟨j_m0,j_m1,j_m2,j_m3⟩:=bg4 hs m0 m1 m2 m3;go_simp;with_reducible rfl) ?_
 refine ox_ 2 (some 91) rfl rfl fun K hK=>?_
 refine zJ Tryz.func72 (by kernel_rfl) rfl #[.slice Ax x.length cx,.int .i64 3,.int .i64 4] (by rfl) rfl rfl (by go_simp) ?_
 refine (zeR Ax x.length cx 3 4 _).mono ?_
 rintro e Wa ⟨ga,gb,gc,rfl,ba,bb,bc,-,-,-,aC⟩
 refine ⟨_,rfl,?_⟩
 refine hK.out _ _ (zb I aC) (fun aA=>?_)
 have BA:=hhd ba
 have BB:=hhd bb
 have BC:=hhd bc
 clear ba bb bc
 clear hK K I aC
 have I:=aA
 clear aA
 refine nx_ ?_
 refine ox_ 3 (some 92) rfl rfl fun K hK=>?_
 refine zJ Tryz.func71 (by kernel_rfl) rfl #[.func (.func 103) #[] #[.pointer (some ⟨ga,0,none⟩),.pointer (some ⟨gb,0,none⟩),.pointer (some ⟨gc,0,none⟩)]] (by rfl) rfl rfl (by go_simp) ?_
 refine (zdY ga gb gc Ax cx x 3 4 (2^l) _ (Kd.C_below HX.out (zb aJ I)) (by have:=HLL.out;have:=HNN.out.2;omega) (by decide) (by decide) (by decide) (by have:=HNN.out.2;omega) (by have:=HLL.out;intro k hk;omega) (by have:=HLL.out;have:=HNN.out.1;omega) BA.out BB.out BC.out).mono ?_
 rintro e Wb ⟨v,rfl,hR,aC⟩
 obtain ⟨Av,cv,hv,hcv,hCv⟩:=Kd.R_reads hR
 subst hv
 refine ⟨_,rfl,?_⟩
 refine hK.out _ _ (zb I aC) (fun aA=>?_)
 have CV:=hhd hCv
 have HCV:=hhd hcv
 clear hR hCv hcv BA BB BC
 clear hK K I aC
 have I:=aA
 clear aA
 refine nx_ ?_
 refine lx_ 4 (some 93) rfl rfl fun K hK=>?_
 refine zJ Tryz.func48 (by kernel_rfl) rfl #[.agg #[.slice Aw wl.length cw,.int .i64 bits,.int .i64 mode,.int .i64 (zaV inv)],.slice Av (zB x 3 4 (2^l)).length cv] (by rfl) rfl rfl (by go_simp) ?_
 refine (H0.out (zB x 3 4 (2^l)) Av cv _ (zP x 3 4 _) K3.out CV.out HCV.out (Kd.C_below HW.out (zb aJ I))).mono ?_
 rintro e aH ⟨AG,cG,he,hcr,hCr,-,aC⟩
 subst he
 refine ⟨_,rfl,?_⟩
 refine hK.out _ _ ?_
 have HBq:=zb I aC
 have aK:=zs_ aJ HBq
 have P11:=za_ P10 HBq
 rw [HGG.out] at hCr
 have CG:=hhd hCr
 replace CE:=hhd (Kd.C_below CE.out HBq)
 replace CF:=hhd (Kd.C_below CF.out HBq)
 clear hK K I aC hCr hcr HBq CV HCV
 refine nx_ ?_
 refine px_ 5 rfl ?_
 refine zE (by kernel_rfl) ?_
 clear m0 m1 m2 m3
 generalize hNe:2^l=hN at *
 have HCW11:=zc_ HW aK
 obtain ⟨byN,hby⟩:∃b:Nat,wl.length / (4*hN)=b:=⟨_,rfl⟩
 have HBY:=hhd hby
 have HDM:=hhd (show byN*(4*hN)≤wl.length by rw [← HBY.out];exact Nat.div_mul_le_self _ _)
 have a7:=hhd (show byN≤64 by rw [← HBY.out];exact Nat.le_trans (Nat.div_le_self wl.length (4*hN)) HWL.out.2)
 obtain ⟨z0,z1,z3,z4,z5⟩:=zoc HNN.out.1 HNN.out.2 HLL.out HBY.out a7.out
 clear hby
 have p0:aH.cell? ⟨g2,0,none⟩=some (.slice Aw wl.length cw):=(za P11 0).trans rfl
 go_wp2_with ((with_reducible refine zf (N:=95) rfl ?_);refine Kd.R_make k38 _ 38 rfl (N:=95) rfl 22 _ _ rfl (x.length:Int) rfl rfl Tryz.underlying22 (.agg #[(.int .i64 0),(.int .i64 0)]) 16 zbF rfl (by decide) (by decide) z38 (ok:=fun _=>True) (okp:=fun _=>True) (zaA _ _ _ z38) (fun _ hk=>hk) trivial (Int.natCast_nonneg _) ZB.out (Below.refl _ _) (Nat.le_refl _) ?_;intro v95 aI ho hb hg_ hnew_;obtain ⟨g,cap,hv,hg1,hg2,_⟩:=Kd.R_form ho ZC.out;rw [List.length_replicate,Int.toNat_natCast] at hv;rw [Int.toNat_natCast] at ho;subst hv;have RO:=hhd ho;have HBW:=hhd (zhL (g:=g) hb);have H00:aH.heap.size≤aI.heap.size:=hb.size;replace p0:aI.cell? ⟨g2,0,none⟩=some (.slice Aw wl.length cw):=(za (zd P11 hb) 0).trans rfl;clear ho hb hg_ hnew_ hg1 hg2)
 simp only [z1,z5]
 clear p0 z0 z1 z3 z4
 go_loopw [103] (fun s103 wr=>∃k:Nat,k≤hN∧s103=.int .i64 k∧Kd.R k38 38 wr aH.heap.size (fun _=>True) (.slice (some ⟨g,0,none⟩) x.length cap) (zbu E F G wl byN bits mode inv hN k)∧Own g aH aI wr) (fun i _=>hN - (intOf i).toNat)
 case atStart=>exact ⟨0,Nat.zero_le _,rfl,by have:=RO.out;rw [HLL.out] at this ⊢;exact this,HBW.out⟩
 case round =>
  obtain ⟨k,hk,rfl,ro,hb⟩:=hrel
  have RK:=hhd ro
  have HBr:=hhd hb
  clear ro hb RO HBW
  have hcmp:(↑k:Int) < ↑hN↔k < hN:=Int.ofNat_lt
  by_cases hlt:k < hN
  ·have HLK:=hhd hlt
   have c1:(↑k:Int) < ↑hN:=hcmp.2 hlt
   clear hcmp
   have c2:=zos hlt
   have c3:=zot hlt
   obtain ⟨hwj,q0,q1,q2,wk1,wk2,wk3,hr1,hr3⟩:=zjo HNN.out.1 HNN.out.2 hlt HWL.out.1 HWL.out.2 HDM.out
   have HR1:=hhd hr1
   have HR3:=hhd hr3
   clear hr1 hr3
   have HSTEP:=hhd (show zbu E F G wl byN bits mode inv hN (k+1)=zda (zbu E F G wl byN bits mode inv hN k) 0 hN k (za9 (zk E k) (zk E ((hN+k:Nat):Int)) (zk F k) (zk G k) (zH inv (zk wl ((k*byN:Nat):Int))) (zH inv (zk wl ((3*k*byN:Nat):Int))) bits mode inv) 4 from rfl)
   generalize zbu E F G wl byN bits mode inv hN k=Yk at *
   have CEr:=Kd.C_below CE.out HBr.out.below
   have CFr:=Kd.C_below CF.out HBr.out.below
   have CGr:=Kd.C_below CG.out HBr.out.below
   have HCWr:=hhd (Kd.C_below HCW11.out HBr.out.below)
   have HQ1:=hhd (zgl (inv:=inv) (zdb HWI.out HR1.out.1 HR1.out.2))
   have HQ3:=hhd (zgl (inv:=inv) (zdb HWI.out HR3.out.1 HR3.out.2))
   have HU:=hhd (zdb K4.out (i:=(k:Int)) (Int.natCast_nonneg _) (by rw [HLE.out];exact Int.ofNat_lt.2 (lt2 hlt)))
   have HV:=hhd (zdb K4.out (i:=((hN+k:Nat):Int)) q1 (by rw [HLE.out];exact q2))
   have HY:=hhd (zdb K5.out (i:=(k:Int)) (Int.natCast_nonneg _) (by rw [HLF.out];exact c1))
   have HZ:=hhd (zdb K6.out (i:=(k:Int)) (Int.natCast_nonneg _) (by rw [HLG.out];exact c1))
   obtain ⟨adE,rfl,xu0,xu1⟩:=zag CEr (k:Int) (Int.natCast_nonneg _) (Int.ofNat_lt.2 (lt2 hlt))
   obtain ⟨adE2,hEe,xv0,xv1⟩:=zag CEr ((hN+k:Nat):Int) q1 q2
   obtain rfl:=Option.some.inj hEe
   obtain ⟨adF,rfl,xy0,xy1⟩:=zag CFr (k:Int) (Int.natCast_nonneg _) c1
   obtain ⟨adG,rfl,xz0,xz1⟩:=zag CGr (k:Int) (Int.natCast_nonneg _) c1
   generalize ((hN+k:Nat):Int)=iE at *
   generalize ((k*byN:Nat):Int)=i1 at *
   generalize ((3*k*byN:Nat):Int)=i3 at *
   generalize zk E k=u at *
   generalize zk E iE=v at *
   generalize zk F k=y at *
   generalize zk G k=zz at *
   rw [Int.toNat_natCast] at xu0 xu1 xy0 xy1 xz0 xz1
   have HRC1:=hhd (fun (W:World) (h:Kd.C k38 W Aw wl.length wl)=>zhR Aw cw wl bits mode inv i1 HR1.out.1 HR1.out.2 HWI.out W h HCW.out)
   have HRC3:=hhd (fun (W:World) (h:Kd.C k38 W Aw wl.length wl)=>zhR Aw cw wl bits mode inv i3 HR3.out.1 HR3.out.2 HWI.out W h HCW.out)
   have HJN:=hhd (fun (W:World)=>zlF Aw wl.length cw u v y zz (zH inv (zk wl i1)) (zH inv (zk wl i3)) bits mode inv HS.out.1 HS.out.2.1 HS.out.2.2.1 HS.out.2.2.2 HU.out HV.out HY.out HZ.out HQ1.out HQ3.out W)
   generalize zH inv (zk wl i1)=r1 at *
   generalize zH inv (zk wl i3)=r3 at *
   generalize za9 u v y zz r1 r3 bits mode inv=jv at *
   have m0:wr.cell? ⟨g2,0,none⟩=some (.slice Aw wl.length cw):=(za (zd P11 HBr.out.below) 0).trans rfl
   have m1:wr.cell? ⟨g2,1,none⟩=some (.int .i64 bits):=(za (zd P11 HBr.out.below) 1).trans rfl
   have m2:wr.cell? ⟨g2,2,none⟩=some (.int .i64 mode):=(za (zd P11 HBr.out.below) 2).trans rfl
   have m3:wr.cell? ⟨g2,3,none⟩=some (.int .i64 (zaV inv)):=(za (zd P11 HBr.out.below) 3).trans rfl
   clear CEr CFr CGr
   go_wp2
   refine z7 (S:=fun w'=>Below wr.heap.size wr w') (ds:=[31]) (fl 33 0) hmx rfl rfl (Below.refl _ _).drew (fun I=>?_)
   refine px_ 1 rfl ?_
   refine px_ 2 rfl ?_
   refine px_ 3 rfl ?_
   refine px_ 5 rfl ?_
   refine px_ 6 rfl ?_
   refine px_ 7 rfl ?_
   refine px_ 8 rfl ?_
   refine px_ 9 rfl ?_
   refine px_ 10 rfl ?_
   refine px_ 12 rfl ?_
   refine px_ 13 rfl ?_
   refine px_ 14 rfl ?_
   refine px_ 16 rfl ?_
   refine px_ 17 rfl ?_
   refine px_ 18 rfl ?_
   refine px_ 21 rfl ?_
   refine px_ 22 rfl ?_
   refine px_ 23 rfl ?_
   refine px_ 26 rfl ?_
   refine px_ 27 rfl ?_
   refine px_ 28 rfl ?_
   refine px_ 29 rfl ?_
   refine px_ 32 rfl ?_
   refine tx_ 0 rfl I (by rintro w' hs;obtain ⟨j_m0,j_m1,j_m2,j_m3,j_xu0,j_xu1⟩:=bg6 hs m0 m1 m2 m3 xu0 xu1;obtain ⟨j_xv0,j_xv1,j_xy0,j_xy1,j_xz0,j_xz1⟩:=bg6 hs xv0 xv1 xy0 xy1 xz0 xz1;go_simp;with_reducible rfl) ?_
   refine tx_ 4 rfl I (by rintro w' hs;obtain ⟨j_m0,j_m1,j_m2,j_m3,j_xu0,j_xu1⟩:=bg6 hs m0 m1 m2 m3 xu0 xu1;obtain ⟨j_xv0,j_xv1,j_xy0,j_xy1,j_xz0,j_xz1⟩:=bg6 hs xv0 xv1 xy0 xy1 xz0 xz1;go_simp;with_reducible rfl) ?_
   refine tx_ 11 rfl I (by rintro w' hs;obtain ⟨j_m0,j_m1,j_m2,j_m3,j_xu0,j_xu1⟩:=bg6 hs m0 m1 m2 m3 xu0 xu1;obtain ⟨j_xv0,j_xv1,j_xy0,j_xy1,j_xz0,j_xz1⟩:=bg6 hs xv0 xv1 xy0 xy1 xz0 xz1;go_simp;with_reducible rfl) ?_
   refine tx_ 15 rfl I (by rintro w' hs;obtain ⟨j_m0,j_m1,j_m2,j_m3,j_xu0,j_xu1⟩:=bg6 hs m0 m1 m2 m3 xu0 xu1;obtain ⟨j_xv0,j_xv1,j_xy0,j_xy1,j_xz0,j_xz1⟩:=bg6 hs xv0 xv1 xy0 xy1 xz0 xz1;go_simp;with_reducible rfl) ?_
   refine tx_ 19 rfl I (by rintro w' hs;obtain ⟨j_m0,j_m1,j_m2,j_m3,j_xu0,j_xu1⟩:=bg6 hs m0 m1 m2 m3 xu0 xu1;obtain ⟨j_xv0,j_xv1,j_xy0,j_xy1,j_xz0,j_xz1⟩:=bg6 hs xv0 xv1 xy0 xy1 xz0 xz1;go_simp;with_reducible rfl) ?_
   refine tx_ 20 rfl I (by rintro w' hs;obtain ⟨j_m0,j_m1,j_m2,j_m3,j_xu0,j_xu1⟩:=bg6 hs m0 m1 m2 m3 xu0 xu1;obtain ⟨j_xv0,j_xv1,j_xy0,j_xy1,j_xz0,j_xz1⟩:=bg6 hs xv0 xv1 xy0 xy1 xz0 xz1;go_simp;with_reducible rfl) ?_
   refine tx_ 25 rfl I (by rintro w' hs;obtain ⟨j_m0,j_m1,j_m2,j_m3,j_xu0,j_xu1⟩:=bg6 hs m0 m1 m2 m3 xu0 xu1;obtain ⟨j_xv0,j_xv1,j_xy0,j_xy1,j_xz0,j_xz1⟩:=bg6 hs xv0 xv1 xy0 xy1 xz0 xz1;go_simp;with_reducible rfl) ?_
   refine ox_ 24 (some 130) rfl rfl fun K hK=>?_
   refine zJ Tryz.func74 (by kernel_rfl) rfl #[.agg #[.slice Aw wl.length cw,.int .i64 bits,.int .i64 mode,.int .i64 (zaV inv)],.int .i64 i1] (by rfl) rfl rfl (by go_simp) ?_
   refine (HRC1.out _ (Kd.C_below HCWr.out I)).mono ?_
   rintro e Wc ⟨rfl,aC⟩
   refine ⟨_,rfl,?_⟩
   refine hK.out _ _ (zb I aC) (fun aA=>?_)
   clear hK K I aC
   have I:=aA
   clear aA
   refine nx_ ?_
   refine ox_ 30 (some 136) rfl rfl fun K hK=>?_
   refine zJ Tryz.func74 (by kernel_rfl) rfl #[.agg #[.slice Aw wl.length cw,.int .i64 bits,.int .i64 mode,.int .i64 (zaV inv)],.int .i64 i3] (by rfl) rfl rfl (by go_simp) ?_
   refine (HRC3.out _ (Kd.C_below HCWr.out I)).mono ?_
   rintro e Wc ⟨rfl,aC⟩
   refine ⟨_,rfl,?_⟩
   refine hK.out _ _ (zb I aC) (fun aA=>?_)
   clear hK K I aC
   have I:=aA
   clear aA
   refine nx_ ?_
   refine lx_ 31 (some 137) rfl rfl fun K hK=>?_
   refine zJ Tryz.func73 (by kernel_rfl) rfl #[.agg #[.slice Aw wl.length cw,.int .i64 bits,.int .i64 mode,.int .i64 (zaV inv)],.agg #[.int .i64 u.f0,.int .i64 u.f1],.agg #[.int .i64 v.f0,.int .i64 v.f1],.agg #[.int .i64 y.f0,.int .i64 y.f1],.agg #[.int .i64 zz.f0,.int .i64 zz.f1],.agg #[.int .i64 r1.f0,.int .i64 r1.f1],.agg #[.int .i64 r3.f0,.int .i64 r3.f1]] (by rfl) rfl rfl (by go_simp) ?_
   refine (HJN.out _).mono ?_
   rintro e Wd ⟨rfl,aC⟩
   refine ⟨_,rfl,?_⟩
   refine hK.out _ _ ?_
   have RD:=hhd (Kd.R_below RK.out (zb I aC))
   have HBd:=hhd (zce HBr.out (zb I aC))
   clear hK K I aC
   refine nx_ ?_
   refine zE (by kernel_rfl) ?_
   clear z5 q0 wk1 wk2 wk3 m0 m1 m2 m3 xu0 xu1 xv0 xv1 xy0 xy1 xz0 xz1
   go_wp2
   go_loopw [138] (fun s138 wq=>∃q:Nat,q≤4∧s138=.int .i64 q∧Kd.R k38 38 wq aH.heap.size (fun _=>True) (.slice (some ⟨g,0,none⟩) x.length cap) (zda Yk 0 hN k jv q)∧Own g aH aI wq) (fun i _=>4 - (intOf i).toNat)
   case atStart=>exact ⟨0,by decide,rfl,RD.out,HBd.out⟩
   case round =>
    obtain ⟨q,hq,rfl,ro,hb⟩:=hrel
    have RO:=hhd ro
    replace HBr:=hhd hb
    clear ro hb RD HBd RK
    by_cases hq4:q < 4
    ·have hix:=zkn jv q hq4
     obtain ⟨z1_,z2_,z3_,z4_,z5_,hlt_,z6_⟩:=zod HNN.out.2 HLK.out HLL.out hq4
     have HLT:=hhd hlt_
     generalize ((q*hN+k:Nat):Int)=iq at *
     generalize ((q*hN:Nat):Int)=vq at *
     have HOFF:=hhd (show iq.toNat*2=(0+(q*hN+k))*2 by rw [z6_];omega)
     clear z6_ hlt_
     go_wp2_with (first
      | ((with_reducible refine zf (N:=17) rfl ?_);refine ba_ 17 rfl #[.int .i64 0,.int .i64 0] 38 ?_;intro g17 hg W1 aV aC;have bG:aI.heap.size≤g17:=(by rw [hg];exact zdz HBr.out);have aM:=hhd aV;have aD:=hhd (zce HBr.out aC);have aW:=zr_ RO aC;obtain ⟨aQ,aT⟩:=bk2 aM;have NR17:=hhd (show some g17≠_ from by rw [hg];exact Kd.R_ne_new RO.out 0);clear aV aC hg)
      | ((with_reducible refine zo (t:=38) (p:=17) rfl ?_);refine zN rfl 38 _ _ rfl g17 #[.int .i64 (jv q).f0,.int .i64 (jv q).f1] rfl rfl 38 #[.int .i64 0,.int .i64 0] aM.out (zw _ _) rfl (zM _ _) ?_;intro W2 hq aG aX;have aN:=hhd hq;have a8:=hhd (own_put aD.out H00 bG aG aX);have aY:=hhd (zI aW.out aG NR17.out);clear aQ aT;obtain ⟨a9,bA⟩:=bk2 aN;clear hq aG aX)
      | ((with_reducible refine zf (N:=149) rfl ?_);refine lr_ 149 rfl 38 aN Tryz.underlying38 ?_)
      | ((with_reducible refine zo (t:=38) (p:=150) rfl ?_);refine own_store rfl rfl _ _ rfl (0+(q*hN+k)) _ HOFF.out _ (jv q) (fun _=>True) rfl rfl zbZ aY.out HLT.out a8.out ?_;intro Wz hR hO aG;have RZ:=hhd hR;have HBz:=hhd hO;clear hR hO aG))
     go_roundw
     case rel=>exact ⟨q+1,hq4,zhV q,by rw [zkC];exact RZ.out,HBz.out⟩
     case measure=>exact zdo hq4
    ·obtain rfl:q=4:=Nat.le_antisymm hq (Nat.le_of_not_lt hq4)
     go_wp2
     go_roundw
     case rel=>exact ⟨k+1,HLK.out,zhV k,by rw [HSTEP.out];exact RO.out,HBr.out⟩
     case measure=>exact zdo HLK.out
  ·obtain rfl:k=hN:=Nat.le_antisymm hk (Nat.le_of_not_lt hlt)
   have c1:¬(↑k:Int) < ↑k:=Int.lt_irrefl _
   clear hcmp
   go_wp2
   go_ret
   have hR:=Kd.R_lower RK.out (zi aK)
   obtain ⟨A',c',hv,hc',hC'⟩:=Kd.R_reads hR
   rw [HPP.out.2,HSP.out,HBY.out]
   have hlen:=zen E F G wl byN bits mode inv k k
   rw [HLL.out] at hR hv ⊢
   rw [hlen] at hv hc' hC'
   injection hv with a1 a2 a3
   subst a1;subst a3
   exact ⟨_,_,rfl,hc',hC',hR,zb aK HBr.out.below⟩
end Go.Proofs.YteieahbadclppaaGreat.P

namespace Go.Proofs.YteieahbadclppaaGreat.P
open Go.RowKit Go.Proofs.YteieahbadclppaaGreatW.PrintWords Go.Proofs.YteieahbadclppaaGreatW.PrintLast Go.Proofs.YteieahbadclppaaGreatW.PrintMore
set_option linter.unusedVariables false
set_option linter.unusedSimpArgs false
theorem zbK (l:List S38) (fr b:Nat):∀n k,k < n→(zB l fr b n).getD k z38=l.getD (fr+k*b) z38
 | 0,_,h=>by omega
 | n+1,k,h=>by
  rw [zB,List.getD_eq_getElem?_getD]
  by_cases hk:k < n
  ·rw [List.getElem?_append_left (by rw [zP];exact hk),← List.getD_eq_getElem?_getD,zbK l fr b n k hk]
  ·obtain rfl:k=n:=by omega
   rw [List.getElem?_append_right (by rw [zP];exact Nat.le_refl _),zP,Nat.sub_self,zbV]
   rfl
theorem zeq {x v:List S38} {D:Nat} {E:Int} (h:zaC D E x v) (fr b n:Nat) (hn:∀k,k < n→fr+k*b < x.length):zaC D E (zB x fr b n) (zB v fr b n):=by
 refine ⟨by rw [zP,zP],h.2.1,fun k hk=>?_⟩
 rw [zP] at hk
 rw [zbK _ _ _ _ _ hk,zbK _ _ _ _ _ hk]
 exact h.2.2 _ (hn k hk)
theorem zer {x:List S38} {M:Int} (h:zak M x) (fr b n:Nat) (hn:∀k,k < n→fr+k*b < x.length):zak M (zB x fr b n):=by
 refine ⟨h.1,fun k hk=>?_⟩
 rw [zP] at hk
 rw [zbK _ _ _ _ _ hk]
 exact h.2 _ (hn k hk)
def zcx:List Row:=[[(⟨1,0⟩,1,0),(⟨1,0⟩,1,1)],[(⟨1,0⟩,1,0),(⟨-1,0⟩,1,1)]]
def zbh (wl:List S38) (bits:Nat) (inv:Bool):Nat→List S38→List S38
 | 0,v=>v
 | 1,v=>lsc (2^(bits+1)) (zai zcx v)
 | l+2,v=>zai (zb8 wl bits inv (wl.length / 2^(l+2)) (2^l)) (zbh wl bits inv (l+1) (zB v 0 2 (2^(l+1)))++lsc (2^(bits+2)) (zbh wl bits inv l (zB v 1 4 (2^l)))++lsc (2^(bits+2)) (zbh wl bits inv l (zB v 3 4 (2^l))))
theorem zlL (x:List S38) (mode:Int):[shC 1 mode (zao (zk x 0) (zk x 1)),shC 1 mode (zaE (zk x 0) (zk x 1))]=zaf 1 mode zcx x:=by
 have e0:zk x 0=x.getD 0 z38:=zbV x 0
 have e1:zk x 1=x.getD 1 z38:=zbV x 1
 rw [e0,e1]
 have a0:zao (x.getD 0 z38) (x.getD 1 z38)=dot x [(⟨1,0⟩,1,0),(⟨1,0⟩,1,1)]:=by
  unfold dot dot dot zaz zaR zao z38
  apply zau <;> dsimp only <;> omega
 have a1:zaE (x.getD 0 z38) (x.getD 1 z38)=dot x [(⟨1,0⟩,1,0),(⟨-1,0⟩,1,1)]:=by
  unfold dot dot dot zaz zaR zaE z38
  apply zau <;> dsimp only <;> omega
 rw [a0,a1]
 rfl
theorem p29 {bits:Nat} (hb:bits≤29):(1:Int)≤2^bits∧(2:Int)^bits≤536870912:=by
 have h1:(0:Int) < 2^bits:=Int.pow_pos (by decide)
 have:=zaG (a:=bits) (b:=29) hb
 have e:(2:Int)^29=536870912:=by decide
 omega
theorem znw {p E M:Int} (hp:1≤p) (hp2:p≤536870912) (hE:E≤2*p) (hM0:0≤M) (hM:M≤218*p):(4*p+2)*E≤4*p*(E+1)∧(4*p+2)*M+91*(4*p)≤4*p*(M+200)∧(4*p+2)*M≤64*4611686018427387904:=by
 refine ⟨by grind,by grind,?_⟩
 have h1:(4*p+2)*M≤2147483650*117037858816:=Int.mul_le_mul (by omega) (by omega) hM0 (by decide)
 omega
theorem zdg (wl:List S38) (bits:Nat) (mode:Int) (inv:Bool) (hb:bits≤29) (hw:∀z,z∈wl→zX z (2^bits+1)) (hwl:0 < wl.length) (hwl6:wl.length≤64) :
  ∀(l:Nat) (x v:List S38) (D:Nat) (E M:Int),l≤6→x.length=2^l→zaC D E x v→zak M x→E+92*6≤2*2^bits→M+200*l≤218*2^bits →
   zaC (D+(bits+2)*l) (E+92*l) (zaq wl bits mode inv l x) (zbh wl bits inv l v)∧zak (M+200*l) (zaq wl bits mode inv l x)∧okS wl bits mode inv l x
 | 0,x,v,D,E,M,hl,hx,hn,hm,hE,hM=>by
  obtain ⟨p0,p1⟩:=p29 hb
  refine ⟨?_,?_,hm.in (by omega)⟩
  ·have e:E+92*((0:Nat):Int)=E:=by omega
   rw [e]
   exact hn
  ·have e:M+200*((0:Nat):Int)=M:=by omega
   rw [e]
   exact hm
 | 1,x,v,D,E,M,hl,hx,hn,hm,hE,hM=>by
  obtain ⟨p0,p1⟩:=p29 hb
  have hm0:=hm.1
  have hr:zcw x.length 1 E M (M+200) zcx:=by
   intro r hr
   rw [hx]
   simp only [zcx,List.mem_cons,List.not_mem_nil,or_false] at hr
   rcases hr with rfl | rfl <;> exact ⟨by decide,by simp only [zax];omega,by simp only [zax];omega,by simp only [zax];omega⟩
  obtain ⟨h1,h2⟩:=zcL (mode:=mode) hn hm (by omega) hr (by decide)
  have e:zaq wl bits mode inv 1 x=zaf 1 mode zcx x:=zlL x mode
  rw [e]
  refine ⟨?_,?_,hm.in (by omega)⟩
  ·have h3:=h1.shift (d:=bits+1)
   rw [show D+(bits+2)*1=D+1+(bits+1) by omega]
   exact h3
  ·exact h2
 | l+2,x,v,D,E,M,hl,hx,hn,hm,hE,hM=>by
  obtain ⟨p0,p1⟩:=p29 hb
  have hm0:=hm.1
  have q1:2^(l+1)=2*2^l:=by rw [Nat.pow_succ];omega
  have q2:2^(l+2)=4*2^l:=by rw [Nat.pow_succ,Nat.pow_succ];omega
  have hN1:1≤2^l:=Nat.one_le_two_pow
  have hN16:2^l≤16:=Nat.le_trans (Nat.pow_le_pow_right (by decide) (show l≤4 by omega)) (by decide)
  rw [q2] at hx
  have w0:∀k,k < 2^(l+1)→0+k*2 < x.length:=fun k hk=>by rw [q1] at hk;omega
  have w1:∀k,k < 2^l→1+k*4 < x.length:=fun k hk=>by omega
  have w3:∀k,k < 2^l→3+k*4 < x.length:=fun k hk=>by omega
  obtain ⟨a1,a2,a3⟩:=zdg wl bits mode inv hb hw hwl hwl6 (l+1) _ _ D E M (by omega) (zP _ _ _ _) (zeq hn 0 2 _ w0) (zer hm 0 2 _ w0) hE (by omega)
  obtain ⟨b1,b2,b3⟩:=zdg wl bits mode inv hb hw hwl hwl6 l _ _ D E M (by omega) (zP _ _ _ _) (zeq hn 1 4 _ w1) (zer hm 1 4 _ w1) hE (by omega)
  obtain ⟨c1,c2,c3⟩:=zdg wl bits mode inv hb hw hwl hwl6 l _ _ D E M (by omega) (zP _ _ _ _) (zeq hn 3 4 _ w3) (zer hm 3 4 _ w3) hE (by omega)
  have lE:=zbB wl bits mode inv (l+1) (zB x 0 2 (2^(l+1))) (zP _ _ _ _)
  have lF:=zbB wl bits mode inv l (zB x 1 4 (2^l)) (zP _ _ _ _)
  have lG:=zbB wl bits mode inv l (zB x 3 4 (2^l)) (zP _ _ _ _)
  have hD:D+(bits+2)*(l+1)=D+(bits+2)*l+(bits+2):=by rw [Nat.mul_succ];omega
  have hEe:E+92*((l:Nat):Int)≤E+92*((l+1:Nat):Int):=by omega
  have b4:=(b1.up hEe).shift (d:=bits+2)
  have c4:=(c1.up hEe).shift (d:=bits+2)
  rw [← hD] at b4 c4
  have n1:=(a1.append b4).append c4
  have m1:=(a2.append (b2.up (show M+200*(l:Int)≤M+200*((l+1:Nat):Int) by omega))).append (c2.up (show M+200*(l:Int)≤M+200*((l+1:Nat):Int) by omega))
  have hck:zjm (2^l)=true:=List.all_eq_true.1 zlH l (List.mem_range.2 (by omega))
  have e:=zir (zaq wl bits mode inv (l+1) (zB x 0 2 (2^(l+1)))) (zaq wl bits mode inv l (zB x 1 4 (2^l))) (zaq wl bits mode inv l (zB x 3 4 (2^l))) wl mode bits inv (wl.length / 2^(l+2)) (2^l) (bits+2) (by rw [lE,q1]) lF lG hck (by omega)
  have eS:zaq wl bits mode inv (l+2) x=_:=e
  have hp2:(2:Int)^(bits+2)=4*2^bits:=by rw [Int.pow_add];omega
  obtain ⟨j1,j2,j3⟩:=znw (E:=E+92*((l+1:Nat):Int)) (M:=M+200*((l+1:Nat):Int)) p0 p1 (by omega) (by omega) (by omega)
  have hrd:∀i:Nat,i < wl.length→zX (zk wl (i:Int)) (2^bits+1):=fun i hi=>hw _ (zeF wl i hi)
  have hr:=zhT wl bits inv (wl.length / 2^(l+2)) (2^l) (bits+2) (E+92*((l+1:Nat):Int)) (M+200*((l+1:Nat):Int)) (M+200*((l+1:Nat):Int)+200) hN1 (by omega)
   (fun k hk=>by
    have hd:wl.length / 2^(l+2)*(4*2^l)≤wl.length:=by rw [← q2];exact Nat.div_mul_le_self _ _
    obtain ⟨_,_,_,_,_,_,_,r1,r3⟩:=zjo hN1 hN16 hk hwl hwl6 hd
    exact ⟨hrd _ (by omega),hrd _ (by omega)⟩)
   (by rw [hp2];exact j1) (by rw [hp2];exact j2) j3
  have hlen:(zaq wl bits mode inv (l+1) (zB x 0 2 (2^(l+1)))++zaq wl bits mode inv l (zB x 1 4 (2^l))++zaq wl bits mode inv l (zB x 3 4 (2^l))).length=4*2^l:=by
   rw [List.length_append,List.length_append,lE,lF,lG,q1];omega
  obtain ⟨f1,f2⟩:=zcL (mode:=mode) (c:=bits+2) (M':=M+200*((l+1:Nat):Int)+200) n1 m1 (by omega) (by rw [hlen];exact hr) (by omega)
  rw [eS]
  refine ⟨?_,?_,a3,b3,c3,a2.in (by omega),b2.in (by omega),c2.in (by omega)⟩
  ·rw [show D+(bits+2)*(l+2)=D+(bits+2)*(l+1)+(bits+2) by rw [show (bits+2)*(l+2)=(bits+2)*(l+1)+(bits+2) from Nat.mul_succ _ _];omega,show E+92*((l+2:Nat):Int)=E+92*((l+1:Nat):Int)+92 by omega]
   exact f1
  ·rw [show M+200*((l+2:Nat):Int)=M+200*((l+1:Nat):Int)+200 by omega]
   exact f2
theorem ZL.every {n m:Nat} {F:List Int→List S38} (h:ZL n m F) (fr b cnt:Nat):ZL n cnt (fun x=>zB (F x) fr b cnt) :=
 ZL.of (f:=fun x k=>(F x).getD (fr+k*b) z38) (fun x hx=>zP _ _ _ _) (fun x k hx hk=>zbK _ _ _ _ _ hk)
  (fun x y k hx hy hk=>h.get_add hx hy _) (fun c x k hx hk=>h.get_scl c hx _)
theorem zdP (wl:List S38) (bits:Nat) (inv:Bool) {n:Nat}:∀(l:Nat) (F:List Int→List S38),ZL n (2^l) F→ZL n (2^l) (fun x=>zbh wl bits inv l (F x))
 | 0,F,h=>h
 | 1,F,h=>(h.rows zcx).scaled (2^(bits+1))
 | l+2,F,h=>by
  have a:=zdP wl bits inv (l+1) _ (h.every 0 2 (2^(l+1)))
  have b:=(zdP wl bits inv l _ (h.every 1 4 (2^l))).scaled (2^(bits+2))
  have c:=(zdP wl bits inv l _ (h.every 3 4 (2^l))).scaled (2^(bits+2))
  have d:=((a.append b).append c).rows (zb8 wl bits inv (wl.length / 2^(l+2)) (2^l))
  have e:(zb8 wl bits inv (wl.length / 2^(l+2)) (2^l)).length=2^(l+2):=by
   rw [zb8,List.length_map,List.length_range,Nat.pow_succ,Nat.pow_succ];omega
  rw [e] at d
  exact d
def zcR (e:Int) (v:List S38):Prop:=∀k,k < v.length→zX (v.getD k z38) e
theorem zcR.append {e:Int} {x y:List S38} (h:zcR e x) (g:zcR e y):zcR e (x++y):=by
 intro k hk
 rw [List.length_append] at hk
 by_cases hk1:k < x.length
 ·have:=h k hk1
  rw [List.getD_eq_getElem?_getD] at this ⊢
  rw [List.getElem?_append_left hk1]
  exact this
 ·have:=g (k - x.length) (by omega)
  rw [List.getD_eq_getElem?_getD] at this ⊢
  rw [List.getElem?_append_right (by omega)]
  exact this
theorem zcR.up {e e':Int} {x:List S38} (h:zcR e x) (he:e≤e'):zcR e' x:=fun k hk=>(h k hk).up he
theorem zcR.scl {e:Int} {x:List S38} (n:Int) (hn:0≤n) (h:zcR e x):zcR (n*e) (lsc n x):=by
 intro k hk
 rw [zaO] at hk
 rw [zbs]
 exact (h k hk).scl n hn
theorem zcR.every {e:Int} {x:List S38} (h:zcR e x) (fr b n:Nat) (hn:∀k,k < n→fr+k*b < x.length):zcR e (zB x fr b n):=by
 intro k hk
 rw [zP] at hk
 rw [zbK _ _ _ _ _ hk]
 exact h _ (hn k hk)
theorem zes {a b:Nat} (h:a≤b):(2:Int)^a≤2^b:=zaG h
theorem zdh (wl:List S38) (bits:Nat) (inv:Bool):∀(l:Nat) (v:List S38),v.length=2^l→(zbh wl bits inv l v).length=2^l
 | 0,v,h=>h
 | 1,v,h=>by simp [zbh,lsc,zai,zcx]
 | l+2,v,h=>by simp [zbh,zai,zb8,Nat.pow_succ];omega
theorem zdQ (wl:List S38) (bits:Nat) (inv:Bool) (hb:bits≤29) (hw:∀z,z∈wl→zX z (2^bits+1)) (hwl:0 < wl.length) (hwl6:wl.length≤64) {e:Int} (he:0≤e) :
  ∀(l:Nat) (v:List S38),l≤6→v.length=2^l→zcR e v→zcR (2^((bits+3)*l)*e) (zbh wl bits inv l v)
 | 0,v,hl,hv,hn=>hn.up (by rw [Nat.mul_zero];omega)
 | 1,v,hl,hv,hn=>by
  have h1:=zcP (n:=2) (c:=1) (rows:=zcx) (fun r hr=>by
   simp only [zcx,List.mem_cons,List.not_mem_nil,or_false] at hr
   rcases hr with rfl | rfl <;> exact ⟨by decide,by decide⟩) hv he (fun k hk=>hn k (by rw [hv];exact hk))
  have h2:zcR (2^1*e) (zai zcx v):=fun k hk=>h1 k (by rw [zai,List.length_map] at hk;exact hk)
  refine (h2.scl (2^(bits+1)) (Int.le_of_lt (two_pow_pos _))).up ?_
  rw [← Int.mul_assoc,← Int.pow_add]
  exact Int.mul_le_mul_of_nonneg_right (zes (by omega)) he
 | l+2,v,hl,hv,hn=>by
  have q1:2^(l+1)=2*2^l:=by rw [Nat.pow_succ];omega
  have q2:2^(l+2)=4*2^l:=by rw [Nat.pow_succ,Nat.pow_succ];omega
  have hN1:1≤2^l:=Nat.one_le_two_pow
  have hN16:2^l≤16:=Nat.le_trans (Nat.pow_le_pow_right (by decide) (show l≤4 by omega)) (by decide)
  rw [q2] at hv
  have a:=zdQ wl bits inv hb hw hwl hwl6 he (l+1) (zB v 0 2 (2^(l+1))) (by omega) (zP _ _ _ _) (hn.every 0 2 _ (fun k hk=>by rw [q1] at hk;omega))
  have b:=zdQ wl bits inv hb hw hwl hwl6 he l (zB v 1 4 (2^l)) (by omega) (zP _ _ _ _) (hn.every 1 4 _ (fun k hk=>by omega))
  have c:=zdQ wl bits inv hb hw hwl hwl6 he l (zB v 3 4 (2^l)) (by omega) (zP _ _ _ _) (hn.every 3 4 _ (fun k hk=>by omega))
  have hle:(2:Int)^(bits+2)*(2^((bits+3)*l)*e)≤2^((bits+3)*(l+1))*e:=by
   rw [← Int.mul_assoc,← Int.pow_add]
   exact Int.mul_le_mul_of_nonneg_right (zes (by rw [Nat.mul_succ];omega)) he
  have b2:=(b.scl (2^(bits+2)) (Int.le_of_lt (two_pow_pos _))).up hle
  have c2:=(c.scl (2^(bits+2)) (Int.le_of_lt (two_pow_pos _))).up hle
  have abc:=(a.append b2).append c2
  have lA:=zdh wl bits inv (l+1) (zB v 0 2 (2^(l+1))) (zP _ _ _ _)
  have lB:=zdh wl bits inv l (zB v 1 4 (2^l)) (zP _ _ _ _)
  have lC:=zdh wl bits inv l (zB v 3 4 (2^l)) (zP _ _ _ _)
  have hlen:(zbh wl bits inv (l+1) (zB v 0 2 (2^(l+1)))++lsc (2^(bits+2)) (zbh wl bits inv l (zB v 1 4 (2^l)))++lsc (2^(bits+2)) (zbh wl bits inv l (zB v 3 4 (2^l)))).length=4*2^l:=by
   rw [List.length_append,List.length_append,zaO,zaO,lA,lB,lC,q1];omega
  have hrd:∀i:Nat,i < wl.length→zX (zk wl (i:Int)) (2^bits+1):=fun i hi=>hw _ (zeF wl i hi)
  have p0:(0:Int) < 2^bits:=two_pow_pos _
  have hp2:(2:Int)^(bits+2)=4*2^bits:=by rw [Int.pow_add];omega
  have hr:=zhT wl bits inv (wl.length / 2^(l+2)) (2^l) (bits+2) 1 0 91 hN1 (by omega)
   (fun k hk=>by
    have hd:wl.length / 2^(l+2)*(4*2^l)≤wl.length:=by rw [← q2];exact Nat.div_mul_le_self _ _
    obtain ⟨_,_,_,_,_,_,_,r1,r3⟩:=zjo hN1 hN16 hk hwl hwl6 hd
    exact ⟨hrd _ (by omega),hrd _ (by omega)⟩)
   (by rw [hp2];omega) (by rw [hp2];omega) (by omega)
  have big:=zcP (c:=bits+3) (rows:=zb8 wl bits inv (wl.length / 2^(l+2)) (2^l)) (fun r hr1=>⟨(hr r hr1).1,by have:=(hr r hr1).2.1;rw [show bits+3=bits+2+1 by omega,Int.pow_succ];omega⟩) hlen (Int.mul_nonneg (Int.le_of_lt (two_pow_pos _)) he) (fun k hk=>abc k (by rw [hlen];exact hk))
  intro k hk
  have h3:=big k (by rw [zbh,zai,List.length_map] at hk;exact hk)
  rw [← Int.mul_assoc,← Int.pow_add] at h3
  rw [show (bits+3)*(l+2)=bits+3+(bits+3)*(l+1) by rw [show (bits+3)*(l+2)=(bits+3)*(l+1)+(bits+3) from Nat.mul_succ _ _];omega]
  exact h3
theorem zkD (mode:Int) {n:Nat} {x:List S38} (hx:x.length=n):x.map (shC 1 mode)=zaf 1 mode (zaM id n) x:=by
 rw [zgE]
 congr 1
 subst hx
 exact zfR x
def zgX (fm g:Nat) (inv:Bool) (mode:Int) (x:List S38):List S38:=zaq (twL fm g) (bN fm) mode inv g (x.map (shC 1 mode))
def zjp (fm g:Nat) (inv:Bool) (v:List S38):List S38:=zbh (twL fm g) (bN fm) inv g (zai (zaM id (2^g)) v)
theorem zgF {fm g:Nat} (inv:Bool) (mode:Int) (hf:fm < 2) (h2:2≤g) (h6:g≤6) {x v:List S38} {D0:Nat} {I:Int} (hx:x.length=2^g) (hn:zaC D0 I x v) (hm:zak (364*2^bN fm) x) (hE:I≤1000) :
  zaC (D0+1+(bN fm+2)*g) (I+92+92*g) (zgX fm g inv mode x) (zjp fm g inv v)∧zak (184*2^bN fm) (zgX fm g inv mode x)∧okS (twL fm g) (bN fm) mode inv g (x.map (shC 1 mode)):=by
 have hq:=qN fm
 have hb:=zep fm
 obtain ⟨t1,t2,t3⟩:=za7 hf h2 h6
 have hg:1≤2^g∧2^g≤64:=⟨Nat.one_le_two_pow,Nat.le_trans (Nat.pow_le_pow_right (by decide) h6) (by decide)⟩
 have r1:=ziJ (fm:=fm) (n:=2^g) (s:=id) (fun k hk=>hk) hn.2.1 (M:=364*2^bN fm) (M':=182*2^bN fm+91) (by omega) (by omega)
 have s:=zcL (mode:=mode) (M':=182*2^bN fm+91) hn hm (by omega) (by rw [hx];exact r1) (by decide)
 rw [← zkD mode hx] at s
 have h:=zdg (twL fm g) (bN fm) mode inv (by omega) (fun z hz=>(t3 z hz).1) (by rw [t2];omega) (by rw [t2];omega) g _ _ _ _ _ h6 (by rw [List.length_map,hx]) s.1 s.2 (by omega) (by omega)
 exact ⟨h.1,h.2.1.up (by omega),h.2.2⟩
theorem zou {fm g:Nat} (inv:Bool) (mode:Int) (hf:fm < 2) (h2:2≤g) (h6:g≤6):Tr fm g (zgX fm g inv mode) (zjp fm g inv) (1+(bN fm+2)*g) ((bN fm+3)*g) (92+92*g) where
 near x v D0 I hx hn hm hE:=by
  have h:=zgF inv mode hf h2 h6 hx hn hm hE
  rw [show D0+(1+(bN fm+2)*g)=D0+1+(bN fm+2)*g by omega,show I+(92+92*(g:Int))=I+92+92*g by omega]
  exact ⟨h.1,h.2.1,zbB _ _ _ _ _ _ (by rw [List.length_map,hx])⟩
 zl n F h:=by
  have h1:=h.rows (zaM id (2^g))
  rw [show (zaM id (2^g)).length=2^g by simp [zaM]] at h1
  exact zdP (twL fm g) (bN fm) inv g _ h1
 big v e hv he hn:=by
  have hb:=zep fm
  obtain ⟨t1,t2,t3⟩:=za7 hf h2 h6
  have hg:1≤2^g∧2^g≤64:=⟨Nat.one_le_two_pow,Nat.le_trans (Nat.pow_le_pow_right (by decide) h6) (by decide)⟩
  have h1:=zcP (n:=2^g) (c:=0) (rows:=zaM id (2^g)) (fun r hr=>by
   obtain ⟨k,hk,rfl⟩:=List.mem_map.1 hr
   exact ⟨zaF zdA (List.mem_range.1 hk) rfl,by show (1:Int)+0≤2^0;decide⟩) hv he hn
  rw [show (zaM id (2^g)).length=2^g by simp [zaM],show (2:Int)^0*e=e by omega] at h1
  have hl:(zai (zaM id (2^g)) v).length=2^g:=by simp [zai,zaM]
  have h3:=zdQ (twL fm g) (bN fm) inv (by omega) (fun z hz=>(t3 z hz).1) (by rw [t2];omega) (by rw [t2];omega) he g _ h6 hl (fun k hk=>h1 k (by rw [hl] at hk;exact hk))
  intro k hk
  exact h3 k (by rw [zdh _ _ _ _ _ hl];exact hk)
def zaU (fm g ker:Nat) (inv:Bool) (mode:Int):List S38→List S38:=if ker=2 then zgX fm g inv mode else zjn fm g ker inv mode
def zcS (fm g ker:Nat) (inv:Bool):List S38→List S38:=if ker=2 then zjp fm g inv else zl5 fm g ker inv
def dA (fm g ker:Nat):Nat:=if ker=2 then 1+(bN fm+2)*g else 1+csN fm (pcL ker g)
def kA (fm g ker:Nat):Nat:=if ker=2 then (bN fm+3)*g else csN fm (pcL ker g)+(pcL ker g).length
def eA (g ker:Nat):Int:=if ker=2 then 92+92*g else 92+92*(pcL ker g).length
theorem trA {fm g ker:Nat} (inv:Bool) (mode:Int) (hf:fm < 2) (h2:2≤g) (h6:g≤6) (hk:ker < 3):Tr fm g (zaU fm g ker inv mode) (zcS fm g ker inv) (dA fm g ker) (kA fm g ker) (eA g ker):=by
 unfold zaU zcS dA kA eA
 by_cases h:ker=2
 ·simp only [h,if_true]
  exact zou inv mode hf h2 h6
 ·simp only [h,if_false]
  exact zor inv mode hf h2 h6 (by omega)
def fN {α:Type} (n:Nat) (k:Nat→α):α:=match n with
 | 0=>k 0
 | Nat.succ m=>k (Nat.succ m)
def fI {α:Type} (x:Int) (k:Int→α):α:=match x with
 | .ofNat n=>fN n fun n=>k (.ofNat n)
 | .negSucc n=>fN n fun n=>k (.negSucc n)
def fC {α:Type} (z:S38) (k:S38→α):α:=fI z.f0 fun a=>fI z.f1 fun b=>k ⟨a,b⟩
def fL {α:Type}:List S38→(List S38→α)→α
 | [],k=>k []
 | z :: l,k=>fC z fun z=>fL l fun l=>k (z :: l)
theorem zdi {α:Type} (n:Nat) (k:Nat→α):fN n k=k n:=by cases n <;> rfl
theorem zdj {α:Type} (x:Int) (k:Int→α):fI x k=k x:=by
 cases x
 ·exact zdi _ (fun n=>k (.ofNat n))
 ·exact zdi _ (fun n=>k (.negSucc n))
theorem zoe {α:Type} (z:S38) (k:S38→α):fC z k=k z:=by
 unfold fC
 rw [zdj,zdj]
theorem zbo {α:Type}:∀(l:List S38) (k:List S38→α),fL l k=k l
 | [],k=>rfl
 | z :: l,k=>by rw [fL,zoe,zbo l]
def zjq (wl:List S38) (fm g:Nat) (inv:Bool) (p:Bool×Nat):List Row :=
 if p.1 then zcY wl (2^p.2) ((2^g / (4*2^p.2):Nat):Int) (bN fm) inv (2^g)
 else zdL wl (bN fm) inv (2^p.2) (2^g / (2*2^p.2)) (2^g)
def idF {α:Type} (wl:List S38) (fm g:Nat) (inv:Bool):List (Bool×Nat)→List S38→(List S38→α)→α
 | [],v,k=>k v
 | p :: ps,v,k=>fL (zai (zjq wl fm g inv p) v) fun u=>idF wl fm g inv ps u k
theorem zkE {α:Type} (fm g:Nat) (inv:Bool):∀(ps:List (Bool×Nat)) (v:List S38) (k:List S38→α),idF (twL fm g) fm g inv ps v k=k (idT (ps.map (zad fm g inv)) v)
 | [],v,k=>rfl
 | p :: ps,v,k=>by
  rw [idF,zbo,zkE fm g inv ps]
  have e:zjq (twL fm g) fm g inv p=(zad fm g inv p).2:=by unfold zjq zad;split <;> rfl
  rw [e]
  rfl
def spF {α:Type} (wl:List S38) (bits:Nat) (inv:Bool):Nat→List S38→(List S38→α)→α
 | 0,v,k=>k v
 | 1,v,k=>fL (lsc (2^(bits+1)) (zai zcx v)) k
 | l+2,v,k=>fL (zB v 0 2 (2^(l+1))) fun a=>fL (zB v 1 4 (2^l)) fun b=>fL (zB v 3 4 (2^l)) fun c =>
  spF wl bits inv (l+1) a fun a=>spF wl bits inv l b fun b=>spF wl bits inv l c fun c=>fL (a++lsc (2^(bits+2)) b++lsc (2^(bits+2)) c) fun d=>fL (zai (zb8 wl bits inv (wl.length / 2^(l+2)) (2^l)) d) k
theorem zfX {α:Type} (wl:List S38) (bits:Nat) (inv:Bool):∀(l:Nat) (v:List S38) (k:List S38→α),spF wl bits inv l v k=k (zbh wl bits inv l v)
 | 0,v,k=>rfl
 | 1,v,k=>by rw [spF,zbo];rfl
 | l+2,v,k=>by rw [spF,zbo,zbo,zbo,zfX wl bits inv (l+1),zfX wl bits inv l,zfX wl bits inv l,zbo,zbo];rfl
def aF {α:Type} (wl:List S38) (fm g ker:Nat) (inv:Bool) (v:List S38) (k:List S38→α):α :=
 if ker=2 then fL (zai (zaM id (2^g)) v) fun u=>spF wl (bN fm) inv g u k else fL (zai (zaM (zbt g) (2^g)) v) fun u=>idF wl fm g inv (pcL ker g) u k
theorem zl6 {α:Type} (fm g ker:Nat) (inv:Bool) (v:List S38) (k:List S38→α):aF (twL fm g) fm g ker inv v k=k (zcS fm g ker inv v):=by
 unfold aF zcS
 split
 ·rw [zbo,zfX];rfl
 ·rw [zbo,zkE];rfl
def asN (H H2:Nat):Nat→Nat→Nat→Nat
 | 0,_,acc=>acc
 | k+1,y,acc=>fN (Nat.div y H2) fun q=>fN (Nat.mod y H2) fun d=>fN (Nat.add acc (Nat.add (Nat.sub d H) (Nat.sub H d))) fun a=>asN H H2 k q a
def zet (H:Int):Nat→Int
 | 0=>0
 | k+1=>H+2*H*zet H k
theorem zhW (H:Nat) (hH:0 < H):∀(k:Nat) (y:Int) (n acc:Nat),y+zet H k=n→asN H (2*H) k n acc=acc+zcq (zei H k y)
 | 0,y,n,acc,h=>rfl
 | k+1,y,n,acc,h=>by
  rw [asN,zdi,zdi,zdi,zei,zcq]
  have hp:(0:Int) < 2*(H:Int):=by omega
  have e0:(n:Int)=(y+H)+2*(H:Int)*zet H k:=by rw [← h,zet];omega
  have e1:((Nat.div n (2*H):Nat):Int)=(y+H) / (2*H)+zet H k:=by
   show ((n / (2*H):Nat):Int)=_
   rw [Int.natCast_ediv,e0,show (((2*H:Nat)):Int)=2*(H:Int) by omega,Int.add_mul_ediv_left _ _ (by omega)]
  have e2:((Nat.mod n (2*H):Nat):Int)=(y+H) % (2*H):=by
   show ((n % (2*H):Nat):Int)=_
   rw [Int.natCast_emod,e0,show (((2*H:Nat)):Int)=2*(H:Int) by omega,Int.add_mul_emod_self_left]
  rw [zhW H hH k ((y+H) / (2*H)) _ _ e1.symm]
  have e3:Nat.add acc (Nat.add (Nat.sub (Nat.mod n (2*H)) H) (Nat.sub H (Nat.mod n (2*H))))=acc+((y+H) % (2*H) - H).natAbs:=by
   show acc+(Nat.mod n (2*H) - H+(H - Nat.mod n (2*H)))=_
   rw [← e2]
   omega
  rw [e3]
  omega
def zlM (y:Int) (k:Nat→Bool):Bool:=match y with
 | .ofNat n=>fN n k
 | .negSucc _=>false
theorem ziK {y:Int} {k:Nat→Bool} (h:zlM y k=true):∃n:Nat,y=n∧k n=true:=by
 cases y with
 | ofNat n=>exact ⟨n,rfl,by rw [← h];exact (zdi n k).symm⟩
 | negSucc n=>cases h
def zgm (H H2:Nat) (S O:Int) (n B:Nat):List S38→Int→Bool
 | [],_=>true
 | z :: l,i=>fI (i*S) fun T=>zlM (z.f0+T+O) fun y0=>zlM (z.f1+T+O) fun y1=>(asN H H2 n y0 0).ble B && ((asN H H2 n y1 0).ble B && fI (i+1) fun i=>zgm H H2 S O n B l i)
theorem zhX {H:Nat} {S:Int} {n B:Nat} (hH:0 < H):∀(l:List S38) (i:Int),zgm H (2*H) S (zet H n) n B l i=true→∀k,k < l.length→zcq (zei H n ((l.getD k z38).f0+(i+k)*S))≤B∧zcq (zei H n ((l.getD k z38).f1+(i+k)*S))≤B
 | [],_,_,k,hk=>by simp at hk
 | z :: l,i,h,k,hk=>by
  rw [zgm,zdj] at h
  obtain ⟨n0,h0,h⟩:=ziK h
  obtain ⟨n1,h1,h⟩:=ziK h
  rw [zdj,zhW H hH n _ n0 0 h0,zhW H hH n _ n1 0 h1,Bool.and_eq_true,Bool.and_eq_true,Nat.zero_add,Nat.zero_add,Nat.ble_eq,Nat.ble_eq] at h
  cases k with
  | zero =>
   rw [show i+((0:Nat):Int)=i by omega]
   exact ⟨h.1,h.2.1⟩
  | succ k =>
   have h2:=zhX hH l (i+1) h.2.2 k (by simpa using hk)
   rw [show i+((k+1:Nat):Int)=i+1+k by omega]
   exact h2
theorem zhY {x y:List Int} (h:x.length=y.length) (c:Nat→Int):∀k,zas (zcH x y) c k=zas x c k+zas y c k
 | 0=>rfl
 | k+1=>by
  rw [zas,zas,zas,zhY h c k,zlk h,Int.add_mul]
  omega
theorem zhZ (a:Int) (x:List Int) (c:Nat→Int):∀k,zas (zb0 a x) c k=a*zas x c k
 | 0=>by simp [zas]
 | k+1=>by
  rw [zas,zas,zhZ a x c k,zll,Int.mul_add,Int.mul_assoc]
def zfY (n m:Nat) (z:List Int):List S38:=(List.range m).map fun i:Nat=>⟨(1000+(i:Int))*zas z (fun j=>(j:Int)+1) n,(1000+(i:Int))*zas z (fun j=>(j:Int)+1) n⟩
def zdR (n m:Nat):Nat:=n*((1000+m)*n)
theorem zh0 (n m:Nat) (z:List Int) (i:Nat) (hi:i < m):(zfY n m z).getD i z38=⟨(1000+(i:Int))*zas z (fun j=>(j:Int)+1) n,(1000+(i:Int))*zas z (fun j=>(j:Int)+1) n⟩:=by
 simp [zfY,List.getD_eq_getElem?_getD,hi]
theorem ziL (n m:Nat):ZL n m (zfY n m) :=
 ZL.of (f:=fun x i=>⟨(1000+(i:Int))*zas x (fun j=>(j:Int)+1) n,(1000+(i:Int))*zas x (fun j=>(j:Int)+1) n⟩) (fun x hx=>by simp [zfY]) (fun x k hx hk=>zh0 n m x k hk)
  (fun x y k hx hy hk=>by
   rw [zhY (hx.trans hy.symm)]
   apply zau <;> simp only [zaz] <;> grind)
  (fun c x k hx hk=>by
   rw [zhZ]
   apply zau <;> simp only [zah] <;> grind)
theorem ziM {c:Nat→Int} {M:Nat}:∀n,(∀j,j < n→(c j).natAbs≤M)→zcr c n≤n*M
 | 0,_=>by simp [zcr]
 | n+1,h=>by
  have h1:=ziM n (fun j hj=>h j (by omega))
  have h2:=h n (by omega)
  rw [zcr,Nat.succ_mul]
  omega
theorem zh1 (x:List Int) (c:Nat→Int) (a:Int):∀k,zas x (fun j=>a*c j) k=a*zas x c k
 | 0=>by simp [zas]
 | k+1=>by
  rw [zas,zas,zh1 x c a k,Int.mul_add]
  grind
theorem zfZ {n:Nat} (c:Nat→Int) {j:Nat} (hj:j < n):∀k,k≤n→zas (zav n j) c k=if j < k then c j else 0
 | 0,_=>by simp [zas]
 | k+1,hk=>by
  have e:(zav n j).getD k 0=if j=k then 1 else 0:=by
   simp only [zav,List.getD_eq_getElem?_getD,List.getElem?_set,List.length_replicate,List.getElem?_replicate]
   by_cases h:j=k
   ·subst h;simp [hj]
   ·simp [h,show k < n by omega]
  rw [zas,zfZ c hj k (by omega),e]
  by_cases h:j=k
  ·subst h;simp
  ·rw [if_neg h]
   by_cases h2:j < k
   ·rw [if_pos h2,if_pos (by omega)];omega
   ·rw [if_neg h2,if_neg (by omega)];omega
theorem zmN {n m:Nat} {F:List Int→List S38} (h:ZL n m F) (hn:n≤128) (hm:m≤128) {H:Nat} {Hh:Int} {B:Nat} (hH:Hh+200000 < H) (hh:0≤Hh)
  (hM:∀i,i < m→∀j,j < n→zbg ((F (zav n j)).getD i z38) Hh) (hB:zgm H (2*H) (zbU (2*H) (fun j=>(j:Int)+1) n) (zet H n) n B (F (zcd (2*H) n 1)) 1000=true)
  {x:List Int} (hx:x.length=n) {X:Int} (hX0:0≤X) (hX:∀k,x.getD k 0≤X∧-X≤x.getD k 0) (i:Nat) (hi:i < m):zbg ((F x).getD i z38) (X*((B:Int)+zdR n m)):=by
 have hz:=h.sum (ziL n m)
 have hp:=zfp (2*H) n 1
 have hget:∀y:List Int,y.length=n→(zaB (F y) (zfY n m y)).getD i z38=⟨((F y).getD i z38).f0+(1000+(i:Int))*zas y (fun j=>(j:Int)+1) n,((F y).getD i z38).f1+(1000+(i:Int))*zas y (fun j=>(j:Int)+1) n⟩:=by
  intro y hy
  rw [zcc (by rw [h.len y hy,(ziL n m).len y hy]),zh0 n m y i hi]
  rfl
 have hb:=zhX (by omega) _ _ hB i (by rw [h.len _ hp];exact hi)
 have e:=zej (2*H) n 1 (fun j=>(j:Int)+1)
 rw [Int.one_mul] at e
 have h1:=zlo hz (H:=H) (by omega) (B:=B) i
  (fun j hj=>by
   have hj2:=hM i hi j hj
   rw [hget _ (zcj n j),zfZ _ hj n (Nat.le_refl _),if_pos hj]
   unfold zbg at hj2
   have q:=Int.mul_le_mul (show (1000+(i:Int))≤1128 by omega) (show ((j:Int)+1)≤128 by omega) (by omega) (by decide)
   have q2:0≤(1000+(i:Int))*((j:Int)+1):=Int.mul_nonneg (by omega) (by omega)
   dsimp only
   omega)
  (by rw [hget _ hp,e];exact hb) hx hX0 hX
 rw [hget x hx] at h1
 have s:=ze4 hX (fun j=>(1000+(i:Int))*((j:Int)+1)) n
 rw [zh1] at s
 have c1:zcr (fun j=>(1000+(i:Int))*((j:Int)+1)) n≤zdR n m:=ziM n (fun j hj=>by
  have q:=Int.mul_le_mul (show (1000+(i:Int))≤1000+m by omega) (show ((j:Int)+1)≤n by omega) (by omega) (by omega)
  have q2:0≤(1000+(i:Int))*((j:Int)+1):=Int.mul_nonneg (by omega) (by omega)
  have q3:(((1000+m)*n:Nat):Int)=(1000+(m:Int))*n:=by rw [Int.natCast_mul,Int.natCast_add];rfl
  omega)
 have c2:X*((zcr (fun j=>(1000+(i:Int))*((j:Int)+1)) n:Nat):Int)≤X*(zdR n m:Nat):=Int.mul_le_mul_of_nonneg_left (by omega) hX0
 rw [Int.mul_add]
 unfold zbg at h1 ⊢
 dsimp only at h1
 omega
def zaW (g ker:Nat):Int:=if ker=2 then 91+224*g else (pcL ker g).foldl (fun e p=>e+if p.1 then 288 else 224) 91
theorem zeu (x:List S38):zaC 0 0 x x:=by
 refine ⟨rfl,by decide,fun k hk=>?_⟩
 generalize x.getD k z38=u
 have e:zbN 0 u u=z38:=by
  unfold zbN zaz zah z38
  apply zau <;> dsimp only <;> omega
 rw [e]
 exact zX.zero
theorem ze8 {m:Int} (hm:0≤m) {x:List S38} (h:∀z,z∈x→inB m z=true):zak (91*m) x:=by
 refine ⟨by omega,fun k hk=>?_⟩
 have h1:=h (x.getD k z38) (by rw [List.getD_eq_getElem?_getD,List.getElem?_eq_getElem hk];exact List.getElem_mem hk)
 obtain ⟨a,b,c,d⟩:=zaj h1
 exact zX.box hm a c b d
def zgn (wl:List S38) (bits m k:Nat):Row :=
 [(⟨2^bits,0⟩,2^bits,k % m),(⟨2^bits,0⟩,2^bits,m+(m - k) % m),(zab 3 (wl.getD k z38),2^bits+1,k % m),(zbW (zab 3 (wl.getD k z38)),2^bits+1,m+(m - k) % m)]
def zb9 (wl:List S38) (bits m:Nat):List Row:=(List.range (m+1)).map (zgn wl bits m)
def zbR (x:List S38):List S38:=x++x.map zaN
def zb1 (wl:List S38) (bits m:Nat) (mode:Int) (x:List S38):List S38:=zaf (bits+2) mode (zb9 wl bits m) (zbR x)
def zgo (wl:List S38) (bits m:Nat) (v:List S38):List S38:=zai (zb9 wl bits m) (zbR v)
theorem zdB (x:List S38) (k:Nat):(x.map zaN).getD k z38=zaN (x.getD k z38):=by
 rw [List.getD_eq_getElem?_getD,List.getD_eq_getElem?_getD,List.getElem?_map]
 cases x[k]? <;> rfl
theorem zeS {z:S38} {r:Int} (h:zX z r):zX (zaN z) r:=by
 obtain ⟨h0,h1⟩:=h
 refine ⟨h0,?_⟩
 unfold zaN
 dsimp only
 grind
theorem zaC.conj {D:Nat} {E:Int} {x v:List S38} (h:zaC D E x v):zaC D E (x.map zaN) (v.map zaN):=by
 refine ⟨by rw [List.length_map,List.length_map,h.1],h.2.1,fun k hk=>?_⟩
 rw [List.length_map] at hk
 have h1:=zeS (h.2.2 k hk)
 rw [zdB,zdB]
 have e:zaN (zbN D (x.getD k z38) (v.getD k z38))=zbN D (zaN (x.getD k z38)) (zaN (v.getD k z38)):=by
  unfold zaN zbN zaz zah
  apply zau <;> dsimp only <;> grind
 rw [← e]
 exact h1
theorem zak.conj {M:Int} {x:List S38} (h:zak M x):zak M (x.map zaN):=by
 refine ⟨h.1,fun k hk=>?_⟩
 rw [List.length_map] at hk
 have h1:=zeS (h.2 k hk)
 rw [zdB]
 have e:zaN (zah 64 (x.getD k z38))=zah 64 (zaN (x.getD k z38)):=by
  unfold zaN zah
  apply zau <;> dsimp only <;> grind
 rw [← e]
 exact h1
theorem zh2 {wl:List S38} {bits m c:Nat} {E M M':Int} (hm:0 < m) (hw:∀z,z∈wl→zX z (2^bits+1))
  (h1:(4*2^bits+2)*E≤2^c*(E+1)) (h2:(4*2^bits+2)*M+91*2^c≤2^c*M') (h3:(4*2^bits+2)*M≤64*4611686018427387904):zcw (2*m) c E M M' (zb9 wl bits m):=by
 intro r hr
 obtain ⟨k,hk,rfl⟩:=List.mem_map.1 hr
 have p0:(0:Int) < 2^bits:=two_pow_pos _
 have hn:zX (wl.getD k z38) (2^bits+1):=by
  rw [List.getD_eq_getElem?_getD]
  by_cases hi:k < wl.length
  ·rw [List.getElem?_eq_getElem hi];exact hw _ (List.getElem_mem hi)
  ·rw [List.getElem?_eq_none (by omega)];exact zX.zero.up (by omega)
 have a1:k % m < m:=Nat.mod_lt _ hm
 have a2:(m - k) % m < m:=Nat.mod_lt _ hm
 have hN:zax (zgn wl bits m k)=4*2^bits+2:=by
  unfold zgn zax zax zax zax zax
  dsimp only
  omega
 rw [hN]
 exact ⟨zaF (zcM bits) (by dsimp only;omega) (zaF (zcM bits) (by dsimp only;omega) (zaF (zbC _ hn) (by dsimp only;omega) (zaF (zcN (zbC _ hn)) (by dsimp only;omega) rfl))),h1,h2,h3⟩
theorem zgG (x:List S38):(zbR x).length=2*x.length:=by
 unfold zbR
 rw [List.length_append,List.length_map]
 omega
theorem zlN {fm g:Nat} (mode:Int) (hf:fm < 2) (h6:g≤5) (h2:2≤g) {x v:List S38} {D:Nat} {E:Int} (hx:x.length=2^g) (hn:zaC D E x v) (hm:zak (184*2^bN fm) x) (hE:E≤2000) :
  zaC (D+(bN fm+2)) (E+92) (zb1 (twL fm (g+1)) (bN fm) (2^g) mode x) (zgo (twL fm (g+1)) (bN fm) (2^g) v)∧zak (184*2^bN fm+400) (zb1 (twL fm (g+1)) (bN fm) (2^g) mode x):=by
 obtain ⟨q0,q1⟩:=qN fm
 have hb:=zep fm
 obtain ⟨t1,t2,t3⟩:=za7 hf (show 2≤g+1 by omega) (show g+1≤6 by omega)
 have e0:=hn.2.1
 have ec:(2:Int)^(bN fm+2)=4*2^bN fm:=by rw [Int.pow_add];omega
 have hr:=zh2 (wl:=twL fm (g+1)) (bits:=bN fm) (m:=2^g) (c:=bN fm+2) (E:=E) (M:=184*2^bN fm) (M':=184*2^bN fm+400) (Nat.pow_pos (by decide)) (fun z hz=>(t3 z hz).1)
  (by rw [ec];generalize (2:Int)^bN fm=Q at *;grind) (by rw [ec];generalize (2:Int)^bN fm=Q at *;grind) (by
   have h:=Int.mul_le_mul (show 4*2^bN fm+2≤(2147483650:Int) by omega) (show 184*2^bN fm≤(98784247808:Int) by omega) (by omega) (by decide)
   omega)
 exact zcL (mode:=mode) (hn.append hn.conj) (hm.append hm.conj) (by omega) (by show zcw (zbR x).length _ _ _ _ _;rw [zgG,hx];exact hr) (by omega)
theorem znx {n m:Nat} (wl:List S38) (bits:Nat) {F:List Int→List S38} (h:ZL n m F):ZL n (m+1) (fun x=>zgo wl bits m (F x)):=by
 have h1:=(h.append h.conj).rows (zb9 wl bits m)
 rw [show (zb9 wl bits m).length=m+1 by simp [zb9]] at h1
 exact h1
theorem zmO {fm g:Nat} (hf:fm < 2) (h6:g≤5) (h2:2≤g) {v:List S38} {e:Int} (hv:v.length=2^g) (he:0≤e) (hn:∀k,k < 2^g→zX (v.getD k z38) e):∀k,k < 2^g+1→zX ((zgo (twL fm (g+1)) (bN fm) (2^g) v).getD k z38) (2^(bN fm+3)*e):=by
 obtain ⟨q0,q1⟩:=qN fm
 obtain ⟨t1,t2,t3⟩:=za7 hf (show 2≤g+1 by omega) (show g+1≤6 by omega)
 have ec:(2:Int)^(bN fm+3)=8*2^bN fm:=by rw [Int.pow_add];omega
 have ec2:(2:Int)^(bN fm+2)=4*2^bN fm:=by rw [Int.pow_add];omega
 have hr:=zh2 (wl:=twL fm (g+1)) (bits:=bN fm) (m:=2^g) (c:=bN fm+2) (E:=1) (M:=0) (M':=91) (Nat.pow_pos (by decide)) (fun z hz=>(t3 z hz).1) (by omega) (by omega) (by omega)
 have a:zcR e (zbR v):=zcR.append (fun k hk=>hn k (by omega)) (fun k hk=>by rw [zdB];exact zeS (hn k (by rw [List.length_map] at hk;omega)))
 have hl:(zbR v).length=2*2^g:=by rw [zgG,hv]
 have big:=zcP (c:=bN fm+3) (rows:=zb9 (twL fm (g+1)) (bN fm) (2^g)) (fun r hr1=>⟨(hr r hr1).1,by have:=(hr r hr1).2.1;omega⟩) hl he (fun k hk=>a k (by omega))
 intro k hk
 exact big k (by simpa [zb9] using hk)
def zcy (fm g ker:Nat):Nat:=dA fm g ker+(bN fm+2)
def zcz (fm g ker:Nat):Nat:=dA fm (g+1) ker
def reF (fm g ker:Nat) (z:List Int):List S38:=zaB (lsc (2^zcz fm g ker) (zgo (twL fm (g+1)) (bN fm) (2^g) (zcS fm g ker false (z8 z)))) (lsc (-(2^zcy fm g ker)) ((zcS fm (g+1) ker false (zac z)).take (2^g+1)))
def reE (g ker:Nat):Int:=eA g ker+92+eA (g+1) ker
def reL (g ker:Nat):Int:=zaW g ker+256+zaW (g+1) ker
def reM (fm g ker:Nat):Nat:=((reL g ker - reE g ker)*2^(zcy fm g ker+zcz fm g ker) / (256*2^bN fm)).toNat - zdR (2*2^g) (2^g+1)
def reK (fm g ker:Nat):Nat:=zcy fm g ker+zcz fm g ker+bN fm+3+kA fm g ker+kA fm (g+1) ker
def reH (fm g ker:Nat):Nat:=2^(reK fm g ker+2)
def reB (fm g ker:Nat):Bool :=
 fL (twL fm g) fun wl=>fL (twL fm (g+1)) fun wl2=>fN (reH fm g ker) fun H=>fN (2*reH fm g ker) fun H2=>fI (2*(reH fm g ker:Int)) fun HI=>fN (reM fm g ker) fun B=>fI (2^zcz fm g ker) fun G2=>fI (-(2^zcy fm g ker)) fun G1=>fI (zbU HI (fun j=>(j:Int)+1) (2*2^g)) fun S=>fI (zet (reH fm g ker) (2*2^g)) fun O =>
  fL (z8 (zcd HI (2*2^g) 1)) fun p=>fL (zac (zcd HI (2*2^g) 1)) fun q=>aF wl fm g ker false p fun y=>fL (zbR y) fun y=>fL (zai (zb9 wl2 (bN fm) (2^g)) y) fun y=>aF wl2 fm (g+1) ker false q fun z=>fL (zaB (lsc G2 y) (lsc G1 (z.take (2^g+1)))) fun l=>zgm H H2 S O (2*2^g) B l 1000
theorem zny (fm g ker:Nat):reB fm g ker=zgm (reH fm g ker) (2*reH fm g ker) (zbU (2*reH fm g ker) (fun j=>(j:Int)+1) (2*2^g)) (zet (reH fm g ker) (2*2^g)) (2*2^g) (reM fm g ker) (reF fm g ker (zcd (2*reH fm g ker) (2*2^g) 1)) 1000:=by
 unfold reB
 rw [zbo,zbo,zdi,zdi,zdj,zdi,zdj,zdj,zdj,zdj,zbo,zbo,zl6,zbo,zbo,zl6,zbo]
 rfl
end Go.Proofs.YteieahbadclppaaGreat.P

