/- Part 6 of 36 of the proof: the texts that it reaches, one behind the other. No condition. -/
import Derived.Test.YteieahbadclppaaGreatKr5
namespace Go.Proofs.YteieahbadclppaaGreat.P
open Go.RowKit Go.Proofs.YteieahbadclppaaGreatW.PrintWords Go.Proofs.YteieahbadclppaaGreatW.PrintLast Go.Proofs.YteieahbadclppaaGreatW.PrintMore
attribute [local go_sem] zF zG zK zL
set_option linter.unusedVariables false
set_option linter.unusedSimpArgs false
def zaH (a b:Int) (x:S38):Bool:=decide (x.f0 < a∨x.f1 < a∨b < x.f0∨b < x.f1)
set_option maxRecDepth 100000 in
set_option maxHeartbeats 4000000 in
theorem zl1 (Ba Bb:Nat) (a b:Int) (x:S38) (w:World) (ha:w.heap[Ba]?=some (.cells #[.int .i64 a] 3 (0,0))) (hb:w.heap[Bb]?=some (.cells #[.int .i64 b] 3 (0,0))) :
  Calls Tryz.prog 65 #[.agg #[.int .i64 x.f0,.int .i64 x.f1],.pointer (some ⟨Ba,0,none⟩),.pointer (some ⟨Bb,0,none⟩)] w fun e w'=>e=.returned (.bool (zaH a b x))∧Below w.heap.size w w':=by
 have HA:=hhd ha
 have HBb:=hhd hb
 clear ha hb
 by_cases c:x.f0 < x.f1
 ·have c1:(x.f0 < x.f1)=True:=eq_true c
  have c2:(x.f1 < x.f0)=False:=eq_false (by omega)
  by_cases e:x.f0 < a
  ·have HO:=hhd (show zaH a b x=true from decide_eq_true (by omega))
   have e1:(x.f0 < a)=True:=eq_true e
   have e2:decide (x.f0 < a)=true:=decide_eq_true e
   clear e
   try clear c
   go_enter Tryz.func65,Tryz.ntmps65
   go_wp2_with ((with_reducible refine zf (N:=3) rfl ?_);refine ba_ 3 rfl #[.int .i64 x.f0,.int .i64 x.f1] 38 ?_;intro g2 hg W0 I aA;have B2:=hhd I;have aC:=hhd aA;have k0:W0.cell? ⟨g2,0,none⟩=some (.int .i64 x.f0):=(za I 0).trans rfl;have k1:W0.cell? ⟨g2,1,none⟩=some (.int .i64 x.f1):=(za I 1).trans rfl;have ka:W0.cell? ⟨Ba,0,none⟩=some (.int .i64 a):=(za (zd HA aA) 0).trans rfl;have kb:W0.cell? ⟨Bb,0,none⟩=some (.int .i64 b):=(za (zd HBb aA) 0).trans rfl;clear I aA hg)
   go_ret
   exact ⟨by rw [HO.out];rfl,aC.out⟩
  ·have e1:(x.f0 < a)=False:=eq_false e
   have e2:decide (x.f0 < a)=false:=decide_eq_false e
   by_cases f:b < x.f1
   ·have HO:=hhd (show zaH a b x=true from decide_eq_true (by omega))
    have f1:(b < x.f1)=True:=eq_true f
    have f2:decide (b < x.f1)=true:=decide_eq_true f
    clear e f
    try clear c
    go_enter Tryz.func65,Tryz.ntmps65
    go_wp2_with ((with_reducible refine zf (N:=3) rfl ?_);refine ba_ 3 rfl #[.int .i64 x.f0,.int .i64 x.f1] 38 ?_;intro g2 hg W0 I aA;have B2:=hhd I;have aC:=hhd aA;have k0:W0.cell? ⟨g2,0,none⟩=some (.int .i64 x.f0):=(za I 0).trans rfl;have k1:W0.cell? ⟨g2,1,none⟩=some (.int .i64 x.f1):=(za I 1).trans rfl;have ka:W0.cell? ⟨Ba,0,none⟩=some (.int .i64 a):=(za (zd HA aA) 0).trans rfl;have kb:W0.cell? ⟨Bb,0,none⟩=some (.int .i64 b):=(za (zd HBb aA) 0).trans rfl;clear I aA hg)
    go_ret
    exact ⟨by rw [HO.out];rfl,aC.out⟩
   ·have HO:=hhd (show zaH a b x=false from decide_eq_false (by omega))
    have f1:(b < x.f1)=False:=eq_false f
    have f2:decide (b < x.f1)=false:=decide_eq_false f
    clear e f
    try clear c
    go_enter Tryz.func65,Tryz.ntmps65
    go_wp2_with ((with_reducible refine zf (N:=3) rfl ?_);refine ba_ 3 rfl #[.int .i64 x.f0,.int .i64 x.f1] 38 ?_;intro g2 hg W0 I aA;have B2:=hhd I;have aC:=hhd aA;have k0:W0.cell? ⟨g2,0,none⟩=some (.int .i64 x.f0):=(za I 0).trans rfl;have k1:W0.cell? ⟨g2,1,none⟩=some (.int .i64 x.f1):=(za I 1).trans rfl;have ka:W0.cell? ⟨Ba,0,none⟩=some (.int .i64 a):=(za (zd HA aA) 0).trans rfl;have kb:W0.cell? ⟨Bb,0,none⟩=some (.int .i64 b):=(za (zd HBb aA) 0).trans rfl;clear I aA hg)
    go_ret
    exact ⟨by rw [HO.out];rfl,aC.out⟩
 ·have c1:(x.f0 < x.f1)=False:=eq_false c
  by_cases c':x.f1 < x.f0
  ·have c2:(x.f1 < x.f0)=True:=eq_true c'
   by_cases e:x.f1 < a
   ·have HO:=hhd (show zaH a b x=true from decide_eq_true (by omega))
    have e1:(x.f1 < a)=True:=eq_true e
    have e2:decide (x.f1 < a)=true:=decide_eq_true e
    clear e
    try clear c c'
    go_enter Tryz.func65,Tryz.ntmps65
    go_wp2_with ((with_reducible refine zf (N:=3) rfl ?_);refine ba_ 3 rfl #[.int .i64 x.f0,.int .i64 x.f1] 38 ?_;intro g2 hg W0 I aA;have B2:=hhd I;have aC:=hhd aA;have k0:W0.cell? ⟨g2,0,none⟩=some (.int .i64 x.f0):=(za I 0).trans rfl;have k1:W0.cell? ⟨g2,1,none⟩=some (.int .i64 x.f1):=(za I 1).trans rfl;have ka:W0.cell? ⟨Ba,0,none⟩=some (.int .i64 a):=(za (zd HA aA) 0).trans rfl;have kb:W0.cell? ⟨Bb,0,none⟩=some (.int .i64 b):=(za (zd HBb aA) 0).trans rfl;clear I aA hg)
    go_ret
    exact ⟨by rw [HO.out];rfl,aC.out⟩
   ·have e1:(x.f1 < a)=False:=eq_false e
    have e2:decide (x.f1 < a)=false:=decide_eq_false e
    by_cases f:b < x.f0
    ·have HO:=hhd (show zaH a b x=true from decide_eq_true (by omega))
     have f1:(b < x.f0)=True:=eq_true f
     have f2:decide (b < x.f0)=true:=decide_eq_true f
     clear e f
     try clear c c'
     go_enter Tryz.func65,Tryz.ntmps65
     go_wp2_with ((with_reducible refine zf (N:=3) rfl ?_);refine ba_ 3 rfl #[.int .i64 x.f0,.int .i64 x.f1] 38 ?_;intro g2 hg W0 I aA;have B2:=hhd I;have aC:=hhd aA;have k0:W0.cell? ⟨g2,0,none⟩=some (.int .i64 x.f0):=(za I 0).trans rfl;have k1:W0.cell? ⟨g2,1,none⟩=some (.int .i64 x.f1):=(za I 1).trans rfl;have ka:W0.cell? ⟨Ba,0,none⟩=some (.int .i64 a):=(za (zd HA aA) 0).trans rfl;have kb:W0.cell? ⟨Bb,0,none⟩=some (.int .i64 b):=(za (zd HBb aA) 0).trans rfl;clear I aA hg)
     go_ret
     exact ⟨by rw [HO.out];rfl,aC.out⟩
    ·have HO:=hhd (show zaH a b x=false from decide_eq_false (by omega))
     have f1:(b < x.f0)=False:=eq_false f
     have f2:decide (b < x.f0)=false:=decide_eq_false f
     clear e f
     try clear c c'
     go_enter Tryz.func65,Tryz.ntmps65
     go_wp2_with ((with_reducible refine zf (N:=3) rfl ?_);refine ba_ 3 rfl #[.int .i64 x.f0,.int .i64 x.f1] 38 ?_;intro g2 hg W0 I aA;have B2:=hhd I;have aC:=hhd aA;have k0:W0.cell? ⟨g2,0,none⟩=some (.int .i64 x.f0):=(za I 0).trans rfl;have k1:W0.cell? ⟨g2,1,none⟩=some (.int .i64 x.f1):=(za I 1).trans rfl;have ka:W0.cell? ⟨Ba,0,none⟩=some (.int .i64 a):=(za (zd HA aA) 0).trans rfl;have kb:W0.cell? ⟨Bb,0,none⟩=some (.int .i64 b):=(za (zd HBb aA) 0).trans rfl;clear I aA hg)
     go_ret
     exact ⟨by rw [HO.out];rfl,aC.out⟩
  ·have c2:(x.f1 < x.f0)=False:=eq_false c'
   have hx:x.f1=x.f0:=by omega
   by_cases e:x.f0 < a
   ·have HO:=hhd (show zaH a b x=true from decide_eq_true (by omega))
    have e1:(x.f0 < a)=True:=eq_true e
    have e2:decide (x.f0 < a)=true:=decide_eq_true e
    clear e
    try clear c c'
    go_enter Tryz.func65,Tryz.ntmps65
    go_wp2_with ((with_reducible refine zf (N:=3) rfl ?_);refine ba_ 3 rfl #[.int .i64 x.f0,.int .i64 x.f1] 38 ?_;intro g2 hg W0 I aA;have B2:=hhd I;have aC:=hhd aA;have k0:W0.cell? ⟨g2,0,none⟩=some (.int .i64 x.f0):=(za I 0).trans rfl;have k1:W0.cell? ⟨g2,1,none⟩=some (.int .i64 x.f1):=(za I 1).trans rfl;have ka:W0.cell? ⟨Ba,0,none⟩=some (.int .i64 a):=(za (zd HA aA) 0).trans rfl;have kb:W0.cell? ⟨Bb,0,none⟩=some (.int .i64 b):=(za (zd HBb aA) 0).trans rfl;clear I aA hg)
    go_ret
    exact ⟨by rw [HO.out];rfl,aC.out⟩
   ·have e1:(x.f0 < a)=False:=eq_false e
    have e2:decide (x.f0 < a)=false:=decide_eq_false e
    by_cases f:b < x.f0
    ·have HO:=hhd (show zaH a b x=true from decide_eq_true (by omega))
     have f1:(b < x.f0)=True:=eq_true f
     have f2:decide (b < x.f0)=true:=decide_eq_true f
     clear e f
     try clear c c'
     go_enter Tryz.func65,Tryz.ntmps65
     go_wp2_with ((with_reducible refine zf (N:=3) rfl ?_);refine ba_ 3 rfl #[.int .i64 x.f0,.int .i64 x.f1] 38 ?_;intro g2 hg W0 I aA;have B2:=hhd I;have aC:=hhd aA;have k0:W0.cell? ⟨g2,0,none⟩=some (.int .i64 x.f0):=(za I 0).trans rfl;have k1:W0.cell? ⟨g2,1,none⟩=some (.int .i64 x.f1):=(za I 1).trans rfl;have ka:W0.cell? ⟨Ba,0,none⟩=some (.int .i64 a):=(za (zd HA aA) 0).trans rfl;have kb:W0.cell? ⟨Bb,0,none⟩=some (.int .i64 b):=(za (zd HBb aA) 0).trans rfl;clear I aA hg)
     go_ret
     exact ⟨by rw [HO.out];rfl,aC.out⟩
    ·have HO:=hhd (show zaH a b x=false from decide_eq_false (by omega))
     have f1:(b < x.f0)=False:=eq_false f
     have f2:decide (b < x.f0)=false:=decide_eq_false f
     clear e f
     try clear c c'
     go_enter Tryz.func65,Tryz.ntmps65
     go_wp2_with ((with_reducible refine zf (N:=3) rfl ?_);refine ba_ 3 rfl #[.int .i64 x.f0,.int .i64 x.f1] 38 ?_;intro g2 hg W0 I aA;have B2:=hhd I;have aC:=hhd aA;have k0:W0.cell? ⟨g2,0,none⟩=some (.int .i64 x.f0):=(za I 0).trans rfl;have k1:W0.cell? ⟨g2,1,none⟩=some (.int .i64 x.f1):=(za I 1).trans rfl;have ka:W0.cell? ⟨Ba,0,none⟩=some (.int .i64 a):=(za (zd HA aA) 0).trans rfl;have kb:W0.cell? ⟨Bb,0,none⟩=some (.int .i64 b):=(za (zd HBb aA) 0).trans rfl;clear I aA hg)
     go_ret
     exact ⟨by rw [HO.out];rfl,aC.out⟩
set_option maxRecDepth 100000 in
set_option maxHeartbeats 4000000 in
theorem zkY (Ba Bb:Nat) (a b:Int) (A:Option Addr) (c:Nat) (l:List S38) (w:World) (hr:Kd.C k38 w A l.length l) (hc:l.length≤c) (ha:w.heap[Ba]?=some (.cells #[.int .i64 a] 3 (0,0))) (hb:w.heap[Bb]?=some (.cells #[.int .i64 b] 3 (0,0))) :
  Calls Tryz.prog 69 #[.slice A l.length c,.func (.func 65) #[] #[.pointer (some ⟨Ba,0,none⟩),.pointer (some ⟨Bb,0,none⟩)]] w fun e w'=>e=.returned (.int .i64 (zdt (zaH a b) l 0))∧Below w.heap.size w w':=by
 have hmax:=hr.2.1
 unfold maxLen at hmax
 have HR:=hhd hr
 have CA:=hhd ha
 have CB:=hhd hb
 clear hr ha hb
 have HB:=hhd (Below.refl w.heap.size w)
 go_enter Tryz.func69,Tryz.ntmps69
 go_wp2
 go_loopw [8] (fun s8 wr=>∃k:Nat,k≤l.length∧s8=.int .i64 k∧zdt (zaH a b) l 0=zdt (zaH a b) (l.drop k) k∧Below w.heap.size w wr) (fun i _=>l.length - (intOf i).toNat)
 case atStart=>exact ⟨0,by omega,rfl,rfl,HB.out⟩
 case round =>
  obtain ⟨k,hk,rfl,hf,hb⟩:=hrel
  have HF:=hhd hf
  have HBR:=hhd hb
  have DA:=za_ CA hb
  have DB:=za_ CB hb
  clear hf hb HB
  by_cases hlt:k < l.length
  ·obtain ⟨ad,rfl,h0,h1⟩:=zag HR.out (k:Int) (by omega) (by omega)
   rw [Int.toNat_natCast] at h0 h1
   replace h0:=(HBR.out.cell (World.block_lt_of_cell? w _ h0)).trans h0
   replace h1:=(HBR.out.cell (World.block_lt_of_cell? w _ h1)).trans h1
   have hd:l.drop k=zk l k :: l.drop (k+1):=by
    rw [List.drop_eq_getElem_cons hlt]
    unfold zk
    rw [Int.toNat_natCast,List.getD_eq_getElem?_getD,List.getElem?_eq_getElem hlt]
    rfl
   have HD:=hhd hd
   clear hd
   generalize zk l k=x at *
   cases hn:zaH a b x with
   | false =>
    have HN:=hhd hn
    have HX:=hhd (show zdt (zaH a b) l 0=zdt (zaH a b) (l.drop (k+1)) (k+1) by rw [HF.out,HD.out,zdt,hn];rfl)
    clear hn
    go_wp2_with (go_at_call 65;refine (zl1 Ba Bb a b x _ DA.out DB.out).mono ?_;rw [HN.out];rintro e w1 ⟨rfl,hb⟩;have I:=zs_ HBR hb;clear hb)
    go_roundw
    case rel=>exact ⟨k+1,by omega,by go_num,HX.out,I.out⟩
    case measure=>simp [intOf];omega
   | true =>
    have HN:=hhd hn
    have HX:=hhd (show zdt (zaH a b) l 0=k by rw [HF.out,HD.out,zdt,hn];rfl)
    clear hn
    go_wp2_with (go_at_call 65;refine (zl1 Ba Bb a b x _ DA.out DB.out).mono ?_;rw [HN.out];rintro e w1 ⟨rfl,hb⟩;have I:=zs_ HBR hb;clear hb)
    go_ret
    exact ⟨by rw [HX.out];rfl,I.out⟩
  ·obtain rfl:k=l.length:=by omega
   go_wp2
   go_ret
   exact ⟨by rw [HF.out,List.drop_length];rfl,HBR.out⟩
set_option maxRecDepth 100000 in
set_option maxHeartbeats 4000000 in
theorem zfd (Ba Bb:Nat) (a b:Int) (A:Option Addr) (c:Nat) (l:List S38) (w:World) (hr:Kd.C k38 w A l.length l) (hc:l.length≤c) (ha:w.heap[Ba]?=some (.cells #[.int .i64 a] 3 (0,0))) (hb:w.heap[Bb]?=some (.cells #[.int .i64 b] 3 (0,0))) :
  Calls Tryz.prog 43 #[.slice A l.length c,.func (.func 65) #[] #[.pointer (some ⟨Ba,0,none⟩),.pointer (some ⟨Bb,0,none⟩)]] w fun e w'=>e=.returned (.bool (l.any (zaH a b)))∧Below w.heap.size w w':=by
 have HI:=hhd (zkY Ba Bb a b A c l w hr hc ha hb)
 have HS:=hhd (zjL (zaH a b) l 0)
 clear hr ha hb
 go_enter Tryz.func43,Tryz.ntmps43
 go_wp2_with (go_at_call 69;refine HI.out.mono ?_;rintro e w1 ⟨rfl,hb⟩)
 go_ret
 exact ⟨congrArg (fun q=>Ending.returned (.bool q)) HS.out,hb⟩
def zay (p0 p1 p2 p3 p4:Int) (p5:Bool):Array Value:=#[.int .i64 p0,.int .i64 p1,.int .i64 p2,.int .i64 p3,.int .i64 p4,.bool p5]
theorem zc_ {α:Type} {d:Kd α} {w w1:World} {A:Option Addr} {n:Nat} {xs:List α} (h:RowKit.Hid (d.C w A n xs)) (hb:RowKit.Hid (Below w.heap.size w w1)):RowKit.Hid (d.C w1 A n xs):=Kd.C_below h.out hb.out
set_option maxRecDepth 100000 in
set_option maxHeartbeats 4000000 in
theorem zcl (v:Bool) (p0 p1 p2 p3 p4:Int) (p5:Bool) (a b:Int) (A:Option Addr) (c:Nat) (l:List S38) (w:World) (hr:Kd.C k38 w A l.length l) (hc:l.length≤c) (h0:0≤p1) (h1:p1≤40) (hn:(l.length:Int)=2^p1.toNat) (hv:l.any (zaH a b)=v) :
  Calls Tryz.prog 38 #[.slice A l.length c,.agg (zay p0 p1 p2 p3 p4 p5),.int .i64 a,.int .i64 b] w fun e w'=>e=.returned (.int .i64 (if v then 2 else 0))∧Below w.heap.size w w':=by
 have hm2:(0:Int)≤2^p1.toNat∧(2:Int)^p1.toNat≤2^40:=⟨Int.pow_nonneg (by decide),zaG (by omega)⟩
 have HR:=hhd hr
 have HC:=hhd hc
 have HV:=hhd hv
 clear hr hc hv
 have hw:IntKind.i64.wrap (2^p1.toNat)=(l.length:Int):=by rw [hn,zD];unfold wrap64;omega
 have hw2:wrap64 (2^p1.toNat)=(l.length:Int):=(zD _).symm.trans hw
 clear hm2 hn
 cases v with
 | true =>
  go_enter Tryz.func38,Tryz.ntmps38
  go_wp2_with (first
   | ((with_reducible refine zf (N:=5) rfl ?_);refine zR ?hg (N:=5) ?hd (cs:=zay p0 p1 p2 p3 p4 p5) (t:=24) ?hr ?_;(case hd=>rfl);(case hg=>rfl);(case hr=>first | (go_simp;done) | (go_simp;rfl));intro g5 hg W5 I aA;have B5:=hhd I;have aD:=hhd aA;clear I aA hg)
   | ((with_reducible refine zf (N:=6) rfl ?_);refine ba_ 6 rfl #[.int .i64 a] 3 ?_;intro g6 hg W6 I aA;have B6:=hhd I;have B56:=za_ B5 aA;have aE:=zs_ aD aA;clear I aA hg)
   | ((with_reducible refine zf (N:=7) rfl ?_);refine ba_ 7 rfl #[.int .i64 b] 3 ?_;intro g7 hg W7 I aA;have B7:=hhd I;have B67:=za_ B6 aA;have aC:=zs_ aE aA;have k5:W7.cell? ⟨g5,1,none⟩=some (.int .i64 p1):=(za (zd B56 aA) 1).trans rfl;have R7:=zc_ HR aC;clear I aA hg)
   | (go_at_call 43;refine (zfd g6 g7 a b A c l _ R7.out HC.out B67.out B7.out).mono ?_;rw [HV.out];rintro e W8 ⟨rfl,hb⟩;have aG:=zs_ aC hb;clear hb))
  go_ret
  exact ⟨rfl,aG.out⟩
 | false =>
  go_enter Tryz.func38,Tryz.ntmps38
  go_wp2_with (first
   | ((with_reducible refine zf (N:=5) rfl ?_);refine zR ?hg (N:=5) ?hd (cs:=zay p0 p1 p2 p3 p4 p5) (t:=24) ?hr ?_;(case hd=>rfl);(case hg=>rfl);(case hr=>first | (go_simp;done) | (go_simp;rfl));intro g5 hg W5 I aA;have B5:=hhd I;have aD:=hhd aA;clear I aA hg)
   | ((with_reducible refine zf (N:=6) rfl ?_);refine ba_ 6 rfl #[.int .i64 a] 3 ?_;intro g6 hg W6 I aA;have B6:=hhd I;have B56:=za_ B5 aA;have aE:=zs_ aD aA;clear I aA hg)
   | ((with_reducible refine zf (N:=7) rfl ?_);refine ba_ 7 rfl #[.int .i64 b] 3 ?_;intro g7 hg W7 I aA;have B7:=hhd I;have B67:=za_ B6 aA;have aC:=zs_ aE aA;have k5:W7.cell? ⟨g5,1,none⟩=some (.int .i64 p1):=(za (zd B56 aA) 1).trans rfl;have R7:=zc_ HR aC;clear I aA hg)
   | (go_at_call 43;refine (zfd g6 g7 a b A c l _ R7.out HC.out B67.out B7.out).mono ?_;rw [HV.out];rintro e W8 ⟨rfl,hb⟩;have aG:=zs_ aC hb;clear hb))
  go_ret
  exact ⟨rfl,aG.out⟩
end Go.Proofs.YteieahbadclppaaGreat.P

namespace Go.Proofs.YteieahbadclppaaGreat.P
open Go.RowKit Go.Proofs.YteieahbadclppaaGreatW.PrintWords Go.Proofs.YteieahbadclppaaGreatW.PrintLast Go.Proofs.YteieahbadclppaaGreatW.PrintMore
attribute [local go_sem] zF zG zK zL zY zZ z9 zaa
set_option linter.unusedVariables false
set_option linter.unusedSimpArgs false
def sat_Bits.f (a0:Int):Option (Int×Int):=if a0=0 then (some (15,0)) else (if a0=1 then (some (31,0)) else (some (0,1)))
set_option maxHeartbeats 8000000 in
set_option maxRecDepth 100000 in
theorem sat_Bits.calls (a0:Int) (r1:Int) (r2:Int) (w:World) (h:sat_Bits.f a0=some (r1,r2)) :
  Calls Tryz.prog 41 #[.int .i64 a0] w fun e w'=>e=.returned (.tuple #[.int .i64 r1,.int .i64 r2])∧Drawn0 w w':=by
 have H:(if a0=0 then (some (15,0)) else (if a0=1 then (some (31,0)) else (some (0,1))))=some (r1,r2):=h
 clear h
 by_cases c2:a0=0
 ·rw [if_pos c2] at H
  have c2b0:(a0 == 0)=true:=beq_iff_eq.mpr c2
  have c2b1:(a0 != 0)=false:=bne_eq_false_iff_eq.mpr c2
  clear c2
  simp only [Option.some.injEq,Prod.mk.injEq] at H
  obtain ⟨rfl,rfl⟩:=H
  go_enter Tryz.func41,Tryz.ntmps41
  go_wp2
  go_ret2
  exact ⟨by first | rfl | (simp;done) | (simp [*];done),by repeat (first | exact Drawn0.refl _ | apply Drawn0.step)⟩
 ·rw [if_neg c2] at H
  have c2b0:(a0 == 0)=false:=beq_eq_false_iff_ne.mpr c2
  have c2b1:(a0 != 0)=true:=bne_iff_ne.mpr c2
  by_cases c3:a0=1
  ·rw [if_pos c3] at H
   have c3b0:(a0 == 1)=true:=beq_iff_eq.mpr c3
   have c3b1:(a0 != 1)=false:=bne_eq_false_iff_eq.mpr c3
   clear c3
   simp only [Option.some.injEq,Prod.mk.injEq] at H
   obtain ⟨rfl,rfl⟩:=H
   go_enter Tryz.func41,Tryz.ntmps41
   go_wp2
   go_ret2
   exact ⟨by first | rfl | (simp;done) | (simp [*];done),by repeat (first | exact Drawn0.refl _ | apply Drawn0.step)⟩
  ·rw [if_neg c3] at H
   have c3b0:(a0 == 1)=false:=beq_eq_false_iff_ne.mpr c3
   have c3b1:(a0 != 1)=true:=bne_iff_ne.mpr c3
   simp only [Option.some.injEq,Prod.mk.injEq] at H
   obtain ⟨rfl,rfl⟩:=H
   go_enter Tryz.func41,Tryz.ntmps41
   go_wp2
   go_ret2
   exact ⟨by first | rfl | (simp;done) | (simp [*];done),by repeat (first | exact Drawn0.refl _ | apply Drawn0.step)⟩

end Go.Proofs.YteieahbadclppaaGreat.P

