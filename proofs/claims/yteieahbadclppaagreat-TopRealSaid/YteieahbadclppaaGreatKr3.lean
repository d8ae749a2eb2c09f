/- Part 3 of 36 of the proof: the texts that it reaches, one behind the other. No condition. -/
import Derived.Test.YteieahbadclppaaGreatKr2
import Derived.Test.YteieahbadclppaaGreatProg
import Derived.Below
import Derived.Deep.Draws
import Derived.Deep.AppendLies
import Derived.Maps.AppendAt
import Derived.OwnWalk
import Derived.Laws.BytesArg
import Derived.Laws.MakeOwn
import Derived.Laws.OwnMore
import Derived.Deep.OwnRows
import Derived.Tactics
import Derived.Lib.ConvBytes
import Derived.Laws.Slices
import Derived.WalkKit
import Derived.KernelRfl
import Derived.RowKit3
import Derived.Deep.LoopGhost
import Derived.Deep.QuietTactic
import Derived.BigQuiet
import Derived.WideLaws
import Derived.Deep.DeepCutAuto
import Derived.Deep.CutBlock
import Derived.Deep.RegionHeld3
import Derived.Laws.Rows
import Derived.Lib.AppendStr
import Derived.ArgAppend
import Derived.Laws.IdiomCopy
import Derived.OrdersHeld
import Derived.Laws.BitsLemmas
import Derived.RowKit
namespace Go.Proofs.YteieahbadclppaaGreat.P
open Go.RowKit Go.Proofs.YteieahbadclppaaGreatW.PrintWords Go.Proofs.YteieahbadclppaaGreatW.PrintLast Go.Proofs.YteieahbadclppaaGreatW.PrintMore
attribute [local go_sem] zF zG zK zL zY zZ z9 zaa
set_option linter.unusedVariables false
set_option linter.unusedSimpArgs false
def zm6:Option Int→Value
 | none=>.nilIface
 | some c=>.iface 0 (.int .i64 c)
theorem zq:zm6 none=.nilIface:=rfl
theorem zt (c:Int):zm6 (some c)=.iface 0 (.int .i64 c):=rfl

theorem zfG:(Tryz.prog.info? 3).map (fun i=>(i.zero,i.size,i.bytes))=some (some (.int .i64 0),1,8):=by kernel_rfl
theorem zbF:(Tryz.prog.info? 38).map (fun i=>(i.zero,i.size,i.bytes))=some (some (.agg #[(.int .i64 0),(.int .i64 0)]),2,16):=by kernel_rfl
theorem zfH:(Tryz.prog.info? 59).map (fun i=>(i.zero,i.size,i.bytes))=some (some (.agg #[(.int .i64 0),(.int .i64 0)]),2,16):=by kernel_rfl
structure S38 where
 f0:Int
 f1:Int
def z38:S38:=⟨(0:Int),(0:Int)⟩
def k38:Kd S38:=Kd.iso (Kd.pair (Kd.int .i64) (Kd.int .i64)) (fun x:S38=>(x.f0,x.f1))
theorem zkU {w:World} {x:S38} {cs:List Value} (h:k38.K w x cs):cs=[.int .i64 x.f0,.int .i64 x.f1]:=by
 obtain ⟨_,_,rfl,rfl,rfl⟩:=h
 exact rfl
theorem zbk {w:World} {base:Nat} {ok:Nat→Prop} {x:S38} {cs:List Value} (h:k38.M w base ok x cs):cs=[.int .i64 x.f0,.int .i64 x.f1]:=by
 obtain ⟨_,_,rfl,rfl,rfl⟩:=h
 exact rfl
theorem zm7 (w:World) (x:S38) :k38.K w x [.int .i64 x.f0,.int .i64 x.f1]:=⟨[.int .i64 x.f0],[.int .i64 x.f1],rfl,rfl,rfl⟩
theorem zaA (w:World) (base:Nat) (ok:Nat→Prop) (x:S38) :k38.M w base ok x [.int .i64 x.f0,.int .i64 x.f1]:=⟨[.int .i64 x.f0],[.int .i64 x.f1],rfl,rfl,rfl⟩
def zk (xs:List S38) (i:Int):S38:=xs.getD i.toNat z38
theorem zag {w:World} {A:Option Addr} {n:Nat} {xs:List S38} (h:Kd.C k38 w A n xs) (i:Int) (h0:0≤i) (h1:i < n):∃ad ,A=some ad∧w.cell? (ad.add (i.toNat*2))=some (.int .i64 (zk xs i).f0)∧w.cell? ⟨(ad.add (i.toNat*2)).block,(ad.add (i.toNat*2)).off+1,none⟩=some (.int .i64 (zk xs i).f1):=by
 obtain ⟨ad,c,e,_,hK,hc0⟩:=Kd.C_get h z38 i h0 h1
 have hc:∀j u,c[j]?=some u→w.cell? (ad.add (i.toNat*2+j))=some u:=hc0
 obtain rfl:=zkU hK
 exact ⟨ad,e,hc 0 _ rfl,by rw [← zgt _ _ 1 (by omega)];exact hc 1 _ rfl⟩

structure S59 where
 f0:Int
 f1:Int
def z59:S59:=⟨(0:Int),(0:Int)⟩
def k59:Kd S59:=Kd.iso (Kd.pair (Kd.int .i64) (Kd.int .i64)) (fun x:S59=>(x.f0,x.f1))
theorem zkV {w:World} {x:S59} {cs:List Value} (h:k59.K w x cs):cs=[.int .i64 x.f0,.int .i64 x.f1]:=by
 obtain ⟨_,_,rfl,rfl,rfl⟩:=h
 exact rfl
theorem zeX (w:World) (base:Nat) (ok:Nat→Prop) (x:S59) :k59.M w base ok x [.int .i64 x.f0,.int .i64 x.f1]:=⟨[.int .i64 x.f0],[.int .i64 x.f1],rfl,rfl,rfl⟩
def zb4 (xs:List S59) (i:Int):S59:=xs.getD i.toNat z59
theorem zfI {w:World} {A:Option Addr} {n:Nat} {xs:List S59} (h:Kd.C k59 w A n xs) (i:Int) (h0:0≤i) (h1:i < n):∃ad ,A=some ad∧w.cell? (ad.add (i.toNat*2))=some (.int .i64 (zb4 xs i).f0)∧w.cell? ⟨(ad.add (i.toNat*2)).block,(ad.add (i.toNat*2)).off+1,none⟩=some (.int .i64 (zb4 xs i).f1):=by
 obtain ⟨ad,c,e,_,hK,hc0⟩:=Kd.C_get h z59 i h0 h1
 have hc:∀j u,c[j]?=some u→w.cell? (ad.add (i.toNat*2+j))=some u:=hc0
 obtain rfl:=zkV hK
 exact ⟨ad,e,hc 0 _ rfl,by rw [← zgt _ _ 1 (by omega)];exact hc 1 _ rfl⟩

structure S24 where
 f0:Int
 f1:Int
 f2:Int
 f3:Int
 f4:Int
 f5:Bool
def cx_within.l0:Nat→Int→List (S38)→Int→Int→Option (Bool)
 | 0,_,_,_,_=>none
 | k+1,x0,x7,x8,x9=>if x9 < x8 then (if 0≤x9 then (if x9 < (x7.length:Int) then (if (mx ((zk x7 x9).f0) ((zk x7 x9).f1)) > x0 then (some false) else (if (mn ((zk x7 x9).f0) ((zk x7 x9).f1)) < (wrap64 (-x0)) then (some false) else (cx_within.l0 k x0 x7 x8 (wrap64 (x9+1))))) else (none)) else (none)) else (some true)
def cx_within.f (k:Nat) (a0:Int) (l1:List (S38)):Option (Bool):=cx_within.l0 k a0 l1 (l1.length:Int) 0
set_option maxHeartbeats 8000000 in
set_option maxRecDepth 100000 in
theorem cx_within.calls (k:Nat) (a0:Int) (A1:Option Addr) (c1:Nat) (l1:List (S38)) (r:Bool) (w:World) (hr1:Kd.C k38 w A1 l1.length l1) (hc1:l1.length≤c1) (h:cx_within.f k a0 l1=some r) :
  Calls Tryz.prog 94 #[.int .i64 a0,.slice A1 l1.length c1] w fun e w'=>e=.returned (.bool r)∧Below w.heap.size w w':=by
 have hu38:=Tryz.underlying38
 have HR1:=Aside0.mk hr1
 have HC1:=Aside0.mk hc1
 clear hr1 hc1
 have HB:=Aside0.mk (Below.refl w.heap.size w)
 have H:(cx_within.l0 k a0 l1 (l1.length:Int) 0)=some r:=h
 clear h
 have H':=Aside0.mk H
 clear H
 go_enter Tryz.func94,Tryz.ntmps94
 go_wp2
 go_loopg [9] k (fun kq v9 w'=>∃(x9_1:Int),v9=.int .i64 x9_1∧Aside0 (cx_within.l0 kq a0 l1 (l1.length:Int) x9_1=some r)∧Aside0 (kq≤k)∧Aside0 (Below w.heap.size w w'))
 case atStart=>exact ⟨(0),(by first | rfl | (simp;done) | (simp [*];done)),H',⟨Nat.le_refl _⟩,⟨by repeat (first | (with_reducible first | exact HB.out | apply ze | apply zc | apply zg) | exact HB.out)⟩⟩
 case round =>
  clear H'
  try clear c1
  try clear p2
  obtain ⟨x9_1,rfl,HA,HK1,HB⟩:=hrel
  cases gk with
  | zero=>exact absurd HA.out (by simp [cx_within.l0])
  | succ k1 =>
   have H:=HA.out
   clear HA
   simp only [cx_within.l0] at H
   by_cases c3:x9_1 < (l1.length:Int)
   ·rw [if_pos c3] at H
    have c3b0:decide (x9_1 < (l1.length:Int))=true:=decide_eq_true c3
    clear c3
    by_cases c4:0≤x9_1
    ·rw [if_pos c4] at H
     have c4b0:decide (0≤x9_1)=true:=decide_eq_true c4
     clear c4
     by_cases c5:x9_1 < (l1.length:Int)
     ·rw [if_pos c5] at H
      have c5b0:decide (x9_1 < (l1.length:Int))=true:=decide_eq_true c5
      clear c5
      obtain ⟨ji6,hji6⟩:∃j_:Int,(mx ((zk l1 x9_1).f0) ((zk l1 x9_1).f1))=j_:=⟨_,rfl⟩
      replace H:(if (ji6) > a0 then (some false) else (if (mn ((zk l1 x9_1).f0) ((zk l1 x9_1).f1)) < (wrap64 (-a0)) then (some false) else (cx_within.l0 k1 a0 l1 (l1.length:Int) (wrap64 (x9_1+1)))))=some r:=by first | (rw [hji6] at H;exact H) | (simp only [hji6] at H ⊢;exact H)
      have hji6_:(if ((zk l1 x9_1).f0) < ((zk l1 x9_1).f1) then ((zk l1 x9_1).f1) else ((zk l1 x9_1).f0))=ji6:=hji6
      by_cases c7:(ji6) > a0
      ·rw [if_pos c7] at H
       have c7b0:decide (a0 < (ji6))=true:=decide_eq_true c7
       clear c7
       obtain rfl:=Option.some.inj H
       have p106:0≤(x9_1:Int):=of_decide_eq_true (by first | (with_reducible assumption) | assumption)
       have q106:x9_1 < (l1.length:Int):=of_decide_eq_true (by first | (with_reducible assumption) | assumption)
       obtain ⟨ad106,e106,hx106_0,hx106_1⟩:=zag HR1.out x9_1 p106 q106
       cases e106
       replace hx106_0:=(HB.out.cell (World.block_lt_of_cell? w _ hx106_0)).trans hx106_0
       replace hx106_1:=(HB.out.cell (World.block_lt_of_cell? w _ hx106_1)).trans hx106_1
       replace p106:=eq_true p106
       replace q106:=eq_true q106
       go_wp2_with (first | ((with_reducible refine zf (N:=6) rfl ?_);(try (refine zea (by rfl) ?_;dsimp only));refine zR ?hg (N:=6) ?hd (cs:=#[.int .i64 0,.int .i64 0]) (t:=38) ?hr ?_;(case hd=>rfl);(case hg=>rfl);(case hr=>first | (go_simp;done) | (go_simp;rfl));intro gb107 hg w8 I hb;have n0_:=Aside0.mk (zb (by repeat (first | (with_reducible first | exact HB.out | apply ze | apply zc | apply zg) | exact HB.out)) hb);have n1_:=Aside0.mk (I);have n2_:=Aside0.mk ((by rw [hg];exact (zi (by repeat (first | (with_reducible first | exact HB.out | apply ze | apply zc | apply zg) | exact HB.out))):w.heap.size≤gb107));have n3_:=Aside0.mk ((by rw [hg];exact (zi (by repeat (first | (with_reducible first | exact HB.out | apply ze | apply zc | apply zg) | exact HB.out))):w.heap.size≤gb107));clear HB;have HB:=n0_;have BK107:=n1_;have GW107:=n2_;have GE107:=n3_;clear n0_ n1_ n2_ n3_;clear hb I hg;have hcz9_0:w8.cell? ⟨gb107,0,none⟩=some (.int .i64 0):=(za BK107.out 0).trans rfl;have hcz9_1:w8.cell? ⟨gb107,1,none⟩=some (.int .i64 0):=(za BK107.out 1).trans rfl;have hfz9_0:=zh BK107.out 0;have hfz9_1:=zh BK107.out 1))
       go_ret
       exact ⟨by first | rfl | (simp [zq,zt] <;> rfl) | (simp only [← hji6];first | rfl | (simp [zq,zt] <;> rfl)) | (simp [*,zq,zt] <;> rfl),by repeat (first | (with_reducible first | exact HB.out | apply ze | apply zc | apply zg | refine zp ?_ GE107.out) | exact HB.out)⟩
      ·rw [if_neg c7] at H
       have c7b0:decide (a0 < (ji6))=false:=decide_eq_false c7
       clear c7
       obtain ⟨ji10,hji10⟩:∃j_:Int,(mn ((zk l1 x9_1).f0) ((zk l1 x9_1).f1))=j_:=⟨_,rfl⟩
       replace H:(if (ji10) < (wrap64 (-a0)) then (some false) else (cx_within.l0 k1 a0 l1 (l1.length:Int) (wrap64 (x9_1+1))))=some r:=by first | (rw [hji10] at H;exact H) | (simp only [hji10] at H ⊢;exact H)
       have hji10_:(if ((zk l1 x9_1).f1) < ((zk l1 x9_1).f0) then ((zk l1 x9_1).f1) else ((zk l1 x9_1).f0))=ji10:=hji10
       by_cases c11:(ji10) < (wrap64 (-a0))
       ·rw [if_pos c11] at H
        have c11b0:decide ((ji10) < (wrap64 (-a0)))=true:=decide_eq_true c11
        clear c11
        obtain rfl:=Option.some.inj H
        have p106:0≤(x9_1:Int):=of_decide_eq_true (by first | (with_reducible assumption) | assumption)
        have q106:x9_1 < (l1.length:Int):=of_decide_eq_true (by first | (with_reducible assumption) | assumption)
        obtain ⟨ad106,e106,hx106_0,hx106_1⟩:=zag HR1.out x9_1 p106 q106
        cases e106
        replace hx106_0:=(HB.out.cell (World.block_lt_of_cell? w _ hx106_0)).trans hx106_0
        replace hx106_1:=(HB.out.cell (World.block_lt_of_cell? w _ hx106_1)).trans hx106_1
        replace p106:=eq_true p106
        replace q106:=eq_true q106
        go_wp2_with (first | ((with_reducible refine zf (N:=6) rfl ?_);(try (refine zea (by rfl) ?_;dsimp only));refine zR ?hg (N:=6) ?hd (cs:=#[.int .i64 0,.int .i64 0]) (t:=38) ?hr ?_;(case hd=>rfl);(case hg=>rfl);(case hr=>first | (go_simp;done) | (go_simp;rfl));intro gb107 hg w12 I hb;have n0_:=Aside0.mk (zb (by repeat (first | (with_reducible first | exact HB.out | apply ze | apply zc | apply zg) | exact HB.out)) hb);have n1_:=Aside0.mk (I);have n2_:=Aside0.mk ((by rw [hg];exact (zi (by repeat (first | (with_reducible first | exact HB.out | apply ze | apply zc | apply zg) | exact HB.out))):w.heap.size≤gb107));have n3_:=Aside0.mk ((by rw [hg];exact (zi (by repeat (first | (with_reducible first | exact HB.out | apply ze | apply zc | apply zg) | exact HB.out))):w.heap.size≤gb107));clear HB;have HB:=n0_;have BK107:=n1_;have GW107:=n2_;have GE107:=n3_;clear n0_ n1_ n2_ n3_;clear hb I hg;have hcz13_0:w12.cell? ⟨gb107,0,none⟩=some (.int .i64 0):=(za BK107.out 0).trans rfl;have hcz13_1:w12.cell? ⟨gb107,1,none⟩=some (.int .i64 0):=(za BK107.out 1).trans rfl;have hfz13_0:=zh BK107.out 0;have hfz13_1:=zh BK107.out 1))
        go_ret
        exact ⟨by first | rfl | (simp [zq,zt] <;> rfl) | (simp only [← hji6,← hji10];first | rfl | (simp [zq,zt] <;> rfl)) | (simp [*,zq,zt] <;> rfl),by repeat (first | (with_reducible first | exact HB.out | apply ze | apply zc | apply zg | refine zp ?_ GE107.out) | exact HB.out)⟩
       ·rw [if_neg c11] at H
        have c11b0:decide ((ji10) < (wrap64 (-a0)))=false:=decide_eq_false c11
        clear c11
        have H':=Aside0.mk H
        clear H
        have p106:0≤(x9_1:Int):=of_decide_eq_true (by first | (with_reducible assumption) | assumption)
        have q106:x9_1 < (l1.length:Int):=of_decide_eq_true (by first | (with_reducible assumption) | assumption)
        obtain ⟨ad106,e106,hx106_0,hx106_1⟩:=zag HR1.out x9_1 p106 q106
        cases e106
        replace hx106_0:=(HB.out.cell (World.block_lt_of_cell? w _ hx106_0)).trans hx106_0
        replace hx106_1:=(HB.out.cell (World.block_lt_of_cell? w _ hx106_1)).trans hx106_1
        replace p106:=eq_true p106
        replace q106:=eq_true q106
        go_wp2_with (first | ((with_reducible refine zf (N:=6) rfl ?_);(try (refine zea (by rfl) ?_;dsimp only));refine zR ?hg (N:=6) ?hd (cs:=#[.int .i64 0,.int .i64 0]) (t:=38) ?hr ?_;(case hd=>rfl);(case hg=>rfl);(case hr=>first | (go_simp;done) | (go_simp;rfl));intro gb107 hg w14 I hb;have n0_:=Aside0.mk (zb (by repeat (first | (with_reducible first | exact HB.out | apply ze | apply zc | apply zg) | exact HB.out)) hb);have n1_:=Aside0.mk (I);have n2_:=Aside0.mk ((by rw [hg];exact (zi (by repeat (first | (with_reducible first | exact HB.out | apply ze | apply zc | apply zg) | exact HB.out))):w.heap.size≤gb107));have n3_:=Aside0.mk ((by rw [hg];exact (zi (by repeat (first | (with_reducible first | exact HB.out | apply ze | apply zc | apply zg) | exact HB.out))):w.heap.size≤gb107));clear HB;have HB:=n0_;have BK107:=n1_;have GW107:=n2_;have GE107:=n3_;clear n0_ n1_ n2_ n3_;clear hb I hg;have hcz15_0:w14.cell? ⟨gb107,0,none⟩=some (.int .i64 0):=(za BK107.out 0).trans rfl;have hcz15_1:w14.cell? ⟨gb107,1,none⟩=some (.int .i64 0):=(za BK107.out 1).trans rfl;have hfz15_0:=zh BK107.out 0;have hfz15_1:=zh BK107.out 1))
        go_roundg k1
        case measure=>have:=HK1.out;omega
        case rel=>exact ⟨(wrap64 (x9_1+1)),(by first | rfl | (simp;done) | (simp [*];done)),H',⟨by have:=HK1.out;omega⟩,⟨by repeat (first | (with_reducible first | exact HB.out | apply ze | apply zc | apply zg | refine zp ?_ GE107.out) | exact HB.out)⟩⟩
     ·rw [if_neg c5] at H
      exact absurd H (by simp)
    ·rw [if_neg c4] at H
     exact absurd H (by simp)
   ·rw [if_neg c3] at H
    have c3b0:decide (x9_1 < (l1.length:Int))=false:=decide_eq_false c3
    clear c3
    obtain rfl:=Option.some.inj H
    go_wp2
    go_ret
    exact ⟨by first | rfl | (simp [zq,zt] <;> rfl) | (simp [*,zq,zt] <;> rfl),by repeat (first | (with_reducible first | exact HB.out | apply ze | apply zc | apply zg) | exact HB.out)⟩

end Go.Proofs.YteieahbadclppaaGreat.P

