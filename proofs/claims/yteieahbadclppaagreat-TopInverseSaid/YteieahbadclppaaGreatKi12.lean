/- Part 12 of 18 of the proof: the texts that it reaches, one behind the other. No condition. -/
import Derived.Test.YteieahbadclppaaGreatKi11
namespace Go.Proofs.YteieahbadclppaaGreat.P
open Go.RowKit Go.Proofs.YteieahbadclppaaGreatW.PrintWords Go.Proofs.YteieahbadclppaaGreatW.PrintLast Go.Proofs.YteieahbadclppaaGreatW.PrintMore
attribute [local go_sem] zI zJ zO zP z8 z9
set_option linter.unusedVariables false
set_option linter.unusedSimpArgs false
set_option maxRecDepth 100000 in
set_option maxHeartbeats 4000000 in
theorem zmx (A:Option Addr) (c:Nat) (l0 l:List S38) (m:Nat) (p0 p1 p2 p3 p4 bad:Int) (p5:Bool) (w:World) (hr:Kd.C k38 w A l0.length l0) (hc:l0.length≤c) (hm:m=min l0.length 70) (hl:l=l0.take m) (hb:bad≠0)
  (hrun:∀W:World,Kd.C k38 W A m l→Calls Tryz.prog 7 #[.slice A m c,.agg #[.int .i64 p0,.int .i64 p1,.int .i64 p2,.int .i64 0,.int .i64 p4,.bool p5]] W fun e w'=>e=.returned (.tuple #[.agg #[.slice none 0 0,.int .i64 0,.bool false,.slice none 0 0],.int .i64 bad])∧Below W.heap.size W w') :
  Calls Tryz.prog 3 #[.slice A l0.length c,.agg #[.int .i64 p0,.int .i64 p1,.int .i64 p2,.int .i64 p3,.int .i64 p4,.bool p5]] w fun e w'=>e=.returned (.bool true)∧Below w.heap.size w w':=by
 have HRUN:=hhd hrun
 have hb1:(bad == 0)=false:=by simpa using hb
 have hb2:(bad=0)=False:=eq_false hb
 have HC:=hhd hc
 have HM:=hhd hm
 have HB0:=hhd (Below.refl w.heap.size w)
 have hrl:Kd.C k38 w A m l:=by have h:=Kd.C_take (m:=m) hr (by omega);rw [← hl] at h;have e:l.length=m:=(by rw [hl,List.length_take];omega);rwa [e] at h
 have HRL:=hhd hrl
 clear hr hrun hrl hc hm hl
 go_enter Tryz.func3,Tryz.ntmps3
 go_wp2_with (first
  | ((with_reducible refine zg (N:=3) rfl ?_);refine ba_ 3 #[.int .i64 p0,.int .i64 p1,.int .i64 p2,.int .i64 p3,.int .i64 p4,.bool p5] 24 ?_;intro g3 hg W1 hbox hbl;have L3:=gf_ hg HB0.out;have B3_1:=hhd hbox;have HB_1:=hhd (zb HB0.out hbl);have Cx_1:=hhd (Kd.C_below HRL.out HB_1.out);obtain ⟨k3_0_1,k3_1_1,k3_2_1,k3_3_1,k3_4_1,k3_5_1⟩:=bk6 B3_1.out;clear hbox hbl hg)
  | (go_at_call 6;( refine (ziE A c l0 m _ HM.out HC.out).mono ?_);rintro e W2 ⟨rfl,hb⟩;have HB_2:=hhd (zb HB_1.out hb);have B3_2:=hhd (za B3_1.out hb);have Cx_2:=hhd (Kd.C_below HRL.out HB_2.out);obtain ⟨k3_0_2,k3_1_2,k3_2_2,k3_3_2,k3_4_2,k3_5_2⟩:=bk6 B3_2.out;clear k3_0_1 k3_1_1 k3_2_1 k3_3_1 k3_4_1 k3_5_1;clear hb)
  | ((with_reducible refine zo (t:=3) (p:=23) rfl ?_);refine zbq rfl rfl 3 _ _ rfl g3 3 (.int .i64 0) rfl rfl 24 _ B3_2.out (show (3:Nat) < 6 from by decide) zbY rfl rfl #[.int .i64 p0,.int .i64 p1,.int .i64 p2,.int .i64 0,.int .i64 p4,.bool p5] rfl ?_;intro W3 hq hoth hbel;have B3_3:=hhd hq;have HB_3:=hhd (hbel _ _ L3 HB_2.out);clear k3_0_2 k3_1_2 k3_2_2 k3_3_2 k3_4_2 k3_5_2;obtain ⟨k3_0_3,k3_1_3,k3_2_3,k3_3_3,k3_4_3,k3_5_3⟩:=bk6 B3_3.out;have Cx_3:=hhd (Kd.C_below HRL.out HB_3.out);clear hq hoth hbel)
  | ((with_reducible refine zg (N:=26) rfl ?_);refine wpList_load_row rfl 24 _ rfl g3 rfl 24 #[.int .i64 p0,.int .i64 p1,.int .i64 p2,.int .i64 0,.int .i64 p4,.bool p5] (0,0) _ B3_3.out Tryz.underlying24 rfl (zat _ _ _ _ _ _) ?_)
  | (go_at_call 7;refine (HRUN.out _ Cx_3.out).mono ?_;rintro e W4 ⟨rfl,hb⟩;have HB_4:=hhd (zb HB_3.out hb);have B3_4:=hhd (za B3_3.out hb);have Cx_4:=hhd (Kd.C_below HRL.out HB_4.out);obtain ⟨k3_0_4,k3_1_4,k3_2_4,k3_3_4,k3_4_4,k3_5_4⟩:=bk6 B3_4.out;clear k3_0_3 k3_1_3 k3_2_3 k3_3_3 k3_4_3 k3_5_3;clear hb)
  | ((with_reducible refine zg (N:=5) rfl ?_);refine ba_ 5 #[.slice none 0 0,.int .i64 0,.bool false,.slice none 0 0] 28 ?_;intro g5 hg W5 hbox hbl;have L5:=gf_ hg HB_4.out;have B5_5:=hhd hbox;have HB_5:=hhd (zb HB_4.out hbl);have B3_5:=hhd (za B3_4.out hbl);have Cx_5:=hhd (Kd.C_below HRL.out HB_5.out);obtain ⟨k3_0_5,k3_1_5,k3_2_5,k3_3_5,k3_4_5,k3_5_5⟩:=bk6 B3_5.out;clear k3_0_4 k3_1_4 k3_2_4 k3_3_4 k3_4_4 k3_5_4;obtain ⟨k5_0_5,k5_1_5,k5_2_5,k5_3_5⟩:=bk4 B5_5.out;have NE3_5:=hhd (show g3≠g5 from fun e=>by have:=zf B3_4.out;omega);clear hbox hbl hg)
  | ((with_reducible refine zo (t:=28) (p:=5) rfl ?_);refine zv rfl 28 _ _ rfl g5 #[.slice none 0 0,.int .i64 0,.bool false,.slice none 0 0] rfl rfl 28 #[.slice none 0 0,.int .i64 0,.bool false,.slice none 0 0] B5_5.out (zD _ _ _ _) rfl (z7 _ _ _ _ _ _ _ _) ?_;intro W6 hq hoth hbel;have B5_6:=hhd hq;have HB_6:=hhd (hbel _ _ L5 HB_5.out);have B3_6:=hhd ((hoth _ NE3_5.out).trans B3_5.out);obtain ⟨k3_0_6,k3_1_6,k3_2_6,k3_3_6,k3_4_6,k3_5_6⟩:=bk6 B3_6.out;clear k3_0_5 k3_1_5 k3_2_5 k3_3_5 k3_4_5 k3_5_5 k5_0_5 k5_1_5 k5_2_5 k5_3_5;obtain ⟨k5_0_6,k5_1_6,k5_2_6,k5_3_6⟩:=bk4 B5_6.out;have Cx_6:=hhd (Kd.C_below HRL.out HB_6.out);clear hq hoth hbel)
  | (go_at_call 8;(with_reducible refine (zgq _).mono ?_);rintro e W7 ⟨rfl,hb⟩;have HB_7:=hhd (zb HB_6.out hb);have B3_7:=hhd (za B3_6.out hb);have B5_7:=hhd (za B5_6.out hb);have Cx_7:=hhd (Kd.C_below HRL.out HB_7.out);obtain ⟨k3_0_7,k3_1_7,k3_2_7,k3_3_7,k3_4_7,k3_5_7⟩:=bk6 B3_7.out;obtain ⟨k5_0_7,k5_1_7,k5_2_7,k5_3_7⟩:=bk4 B5_7.out;clear k3_0_6 k3_1_6 k3_2_6 k3_3_6 k3_4_6 k3_5_6 k5_0_6 k5_1_6 k5_2_6 k5_3_6;clear hb))
 go_ret
 exact ⟨rfl,HB_7.out⟩
def reV (a x:Int) (m:Nat) (ex:Int):Int:=wrap64 (wrap64 (a*2^min (ex+ex+8).toNat 64) - wrap64 (wrap64 (x*m)*256))
def LeB (BD v:Int):Prop:=v≤BD∧wrap64 (-v)≤BD
theorem znK (a b c d e:Int) (f:Bool):(#[.int .i64 a,.int .i64 b,.int .i64 c,.int .i64 d,.int .i64 e,.bool f]:Array Value).all (·.oneCell')=true:=by simp [Value.oneCell']
set_option maxRecDepth 100000 in
set_option maxHeartbeats 4000000 in
theorem zlx (A:Option Addr) (c:Nat) (l0 l Y Z:List S38) (sh:List Int) (m:Nat) (p0 p1 p2 p3 p4 ex L BD:Int) (p5:Bool) (w:World) (hex0:0≤ex) (hex1:ex≤100) (hL0:0≤L) (hL1:L≤100000) (hBD:wrap64 (wrap64 (wrap64 (↑m*L)*2^min (ex+2).toNat 64)+wrap64 (L*2^min (ex+ex+2).toNat 64))=BD) (hZ:Z.length=m)
  (hle:∀k:Nat,k < m→LeB BD (reV (zk Z k).f0 (zk l k).f0 m ex)∧LeB BD (reV (zk Z k).f1 (zk l k).f1 m ex))
  (hr:Kd.C k38 w A l0.length l0) (hc:l0.length≤c) (hm:m=min l0.length 70) (hl:l=l0.take m)
  (hrun:∀W:World,Kd.C k38 W A m l→Calls Tryz.prog 7 #[.slice A m c,.agg #[.int .i64 p0,.int .i64 p1,.int .i64 p2,.int .i64 0,.int .i64 p4,.bool p5]] W fun e w'=>∃A' c' As' m' cs',e=.returned (.tuple #[.agg #[.slice A' m c',.int .i64 ex,.bool false,.slice As' m' cs'],.int .i64 0])∧Kd.R k38 38 w' W.heap.size (fun _=>True) (.slice A' m c') Y∧Below W.heap.size W w')
  (hrun2:∀(W:World) (A1:Option Addr) (c1:Nat),Kd.C k38 W A1 m Y→m≤c1→Calls Tryz.prog 7 #[.slice A1 m c1,.agg #[.int .i64 p0,.int .i64 p1,.int .i64 p2,.int .i64 0,.int .i64 p4,.bool (!p5)]] W fun e w'=>∃A' c' As' m' cs',e=.returned (.tuple #[.agg #[.slice A' m c',.int .i64 ex,.bool false,.slice As' m' cs'],.int .i64 0])∧Kd.R k38 38 w' W.heap.size (fun _=>True) (.slice A' m c') Z∧Below W.heap.size W w')
  (hfix:∀W:World,Calls Tryz.prog 9 #[.agg #[.int .i64 p0,.int .i64 p1,.int .i64 p2,.int .i64 0,.int .i64 p4,.bool p5]] W fun e w'=>∃v:Value,e=.returned (.tuple #[v,.int .i64 0])∧Kd.R (Kd.int .i64) 3 w' W.heap.size (fun _=>True) v sh∧Below W.heap.size W w')
  (hof:∀(W:World) (A1:Option Addr) (c1:Nat),Kd.C (Kd.int .i64) W A1 sh.length sh→sh.length≤c1→Calls Tryz.prog 10 #[.agg #[.int .i64 p0,.int .i64 p1,.int .i64 p2,.int .i64 0,.int .i64 p4,.bool p5],.slice A1 sh.length c1] W fun e w'=>e=.returned (.tuple #[.int .i64 L,.int .i64 0])∧Below W.heap.size W w') :
  Calls Tryz.prog 3 #[.slice A l0.length c,.agg #[.int .i64 p0,.int .i64 p1,.int .i64 p2,.int .i64 p3,.int .i64 p4,.bool p5]] w fun e w'=>e=.returned (.bool true)∧Below w.heap.size w w':=by
 have HBD:=hhd hBD
 have HZ:=hhd hZ
 have HLE:=hhd hle
 have HRUN:=hhd hrun
 have HRUN2:=hhd hrun2
 have HFIX:=hhd hfix
 have HOF:=hhd hof
 have s1:IntKind.i64.wrap (ex+ex)=ex+ex:=by rw [zL];exact zw (by omega) (by omega)
 have s1b:wrap64 (ex+ex)=ex+ex:=zw (by omega) (by omega)
 have s2:IntKind.i64.wrap (ex+2)=ex+2:=by rw [zL];exact zw (by omega) (by omega)
 have s3:IntKind.i64.wrap (ex+ex+2)=ex+ex+2:=by rw [zL];exact zw (by omega) (by omega)
 have HX:=hhd (show 0≤ex∧ex≤100∧0≤L∧L≤100000 from ⟨hex0,hex1,hL0,hL1⟩)
 have s4:IntKind.i64.wrap (ex+ex+8)=ex+ex+8:=by rw [zL];exact zw (by omega) (by omega)
 have g3:(0≤ex+ex+8)=True:=eq_true (by omega)
 have g3b:decide (0≤ex+ex+8)=true:=decide_eq_true (by omega)
 have hLm:l.length=m:=by rw [hl,List.length_take];omega
 have HLM:=hhd hLm
 have hm70:m≤70:=by omega
 have g1:(0≤ex+2)=True:=eq_true (by omega)
 have g2:(0≤ex+ex+2)=True:=eq_true (by omega)
 have g1b:decide (0≤ex+2)=true:=decide_eq_true (by omega)
 have g2b:decide (0≤ex+ex+2)=true:=decide_eq_true (by omega)
 have HC:=hhd hc
 have HM:=hhd hm
 have HB0:=hhd (Below.refl w.heap.size w)
 have hrl:Kd.C k38 w A m l:=by have h:=Kd.C_take (m:=m) hr (by omega);rw [← hl] at h;have e:l.length=m:=(by rw [hl,List.length_take];omega);rwa [e] at h
 have HRL:=hhd hrl
 clear hBD hZ hle hLm hr hrun hrun2 hfix hof hrl hc hm hl hex0 hex1 hL0 hL1
 go_enter Tryz.func3,Tryz.ntmps3
 go_wp2_with (first
  | ((with_reducible refine zg (N:=3) rfl ?_);refine ba_ 3 #[.int .i64 p0,.int .i64 p1,.int .i64 p2,.int .i64 p3,.int .i64 p4,.bool p5] 24 ?_;intro g3 hg W1 hbox hbl;have L3:=gf_ hg HB0.out;have B3_1:=hhd hbox;have HB_1:=hhd (zb HB0.out hbl);have Cx_1:=hhd (Kd.C_below HRL.out HB_1.out);obtain ⟨k3_0_1,k3_1_1,k3_2_1,k3_3_1,k3_4_1,k3_5_1⟩:=bk6 B3_1.out;clear hbox hbl hg)
  | (go_at_call 6;( refine (ziE A c l0 m _ HM.out HC.out).mono ?_);rintro e W2 ⟨rfl,hb⟩;have HB_2:=hhd (zb HB_1.out hb);have B3_2:=hhd (za B3_1.out hb);have Cx_2:=hhd (Kd.C_below HRL.out HB_2.out);obtain ⟨k3_0_2,k3_1_2,k3_2_2,k3_3_2,k3_4_2,k3_5_2⟩:=bk6 B3_2.out;clear k3_0_1 k3_1_1 k3_2_1 k3_3_1 k3_4_1 k3_5_1;clear hb)
  | ((with_reducible refine zo (t:=3) (p:=23) rfl ?_);refine zbq rfl rfl 3 _ _ rfl g3 3 (.int .i64 0) rfl rfl 24 _ B3_2.out (show (3:Nat) < 6 from by decide) zbY rfl rfl #[.int .i64 p0,.int .i64 p1,.int .i64 p2,.int .i64 0,.int .i64 p4,.bool p5] rfl ?_;intro W3 hq hoth hbel;have B3_3:=hhd hq;have HB_3:=hhd (hbel _ _ L3 HB_2.out);clear k3_0_2 k3_1_2 k3_2_2 k3_3_2 k3_4_2 k3_5_2;obtain ⟨k3_0_3,k3_1_3,k3_2_3,k3_3_3,k3_4_3,k3_5_3⟩:=bk6 B3_3.out;have Cx_3:=hhd (Kd.C_below HRL.out HB_3.out);clear hq hoth hbel)
  | ((with_reducible refine zg (N:=26) rfl ?_);refine wpList_load_row rfl 24 _ rfl g3 rfl 24 #[.int .i64 p0,.int .i64 p1,.int .i64 p2,.int .i64 0,.int .i64 p4,.bool p5] (0,0) _ B3_3.out Tryz.underlying24 rfl (zat _ _ _ _ _ _) ?_)
  | (go_at_call 7;with_reducible refine (HRUN.out _ Cx_3.out).mono ?_;rintro e W4 ⟨Ay,cy,Asy,my,csy,rfl,ho,hb⟩;have Ry_4:=hhd (Kd.R_lower ho (zj HB_3.out));have HB_4:=hhd (zb HB_3.out hb);have B3_4:=hhd (za B3_3.out hb);have Cx_4:=hhd (Kd.C_below HRL.out HB_4.out);obtain ⟨k3_0_4,k3_1_4,k3_2_4,k3_3_4,k3_4_4,k3_5_4⟩:=bk6 B3_4.out;clear k3_0_3 k3_1_3 k3_2_3 k3_3_3 k3_4_3 k3_5_3;clear ho hb)
  | ((with_reducible refine zg (N:=5) rfl ?_);refine ba_ 5 #[.slice none 0 0,.int .i64 0,.bool false,.slice none 0 0] 28 ?_;intro g5 hg W5 hbox hbl;have L5:=gf_ hg HB_4.out;have B5_5:=hhd hbox;have HB_5:=hhd (zb HB_4.out hbl);have B3_5:=hhd (za B3_4.out hbl);have Ry_5:=hhd (Kd.R_below Ry_4.out hbl);have Cx_5:=hhd (Kd.C_below HRL.out HB_5.out);obtain ⟨k3_0_5,k3_1_5,k3_2_5,k3_3_5,k3_4_5,k3_5_5⟩:=bk6 B3_5.out;clear k3_0_4 k3_1_4 k3_2_4 k3_3_4 k3_4_4 k3_5_4;obtain ⟨k5_0_5,k5_1_5,k5_2_5,k5_3_5⟩:=bk4 B5_5.out;have NE3_5:=hhd (show g3≠g5 from fun e=>by have:=zf B3_4.out;omega);clear hbox hbl hg)
  | ((with_reducible refine zo (t:=28) (p:=5) rfl ?_);refine zv rfl 28 _ _ rfl g5 #[.slice Ay m cy,.int .i64 ex,.bool false,.slice Asy my csy] rfl rfl 28 #[.slice none 0 0,.int .i64 0,.bool false,.slice none 0 0] B5_5.out (zD _ _ _ _) rfl (z7 _ _ _ _ _ _ _ _) ?_;intro W6 hq hoth hbel;have B5_6:=hhd hq;have HB_6:=hhd (hbel _ _ L5 HB_5.out);have B3_6:=hhd ((hoth _ NE3_5.out).trans B3_5.out);have Ry_6:=hhd (zE rfl Ry_5.out B5_5.out (by decide) hoth);obtain ⟨k3_0_6,k3_1_6,k3_2_6,k3_3_6,k3_4_6,k3_5_6⟩:=bk6 B3_6.out;clear k3_0_5 k3_1_5 k3_2_5 k3_3_5 k3_4_5 k3_5_5 k5_0_5 k5_1_5 k5_2_5 k5_3_5;obtain ⟨k5_0_6,k5_1_6,k5_2_6,k5_3_6⟩:=bk4 B5_6.out;have Cx_6:=hhd (Kd.C_below HRL.out HB_6.out);clear hq hoth hbel)
  | ((with_reducible refine zg (N:=39) rfl ?_);refine wpList_load_row rfl 24 _ rfl g3 rfl 24 #[.int .i64 p0,.int .i64 p1,.int .i64 p2,.int .i64 0,.int .i64 p4,.bool p5] (0,0) _ B3_6.out Tryz.underlying24 rfl (zat _ _ _ _ _ _) ?_)
  | ((with_reducible refine zg (N:=7) rfl ?_);refine ba_ 7 #[.int .i64 0,.int .i64 0,.int .i64 0,.int .i64 0,.int .i64 0,.bool false] 24 ?_;intro g7 hg W7 hbox hbl;have L7:=gf_ hg HB_6.out;have B7_7:=hhd hbox;have HB_7:=hhd (zb HB_6.out hbl);have B3_7:=hhd (za B3_6.out hbl);have B5_7:=hhd (za B5_6.out hbl);have Ry_7:=hhd (Kd.R_below Ry_6.out hbl);have Cx_7:=hhd (Kd.C_below HRL.out HB_7.out);obtain ⟨k3_0_7,k3_1_7,k3_2_7,k3_3_7,k3_4_7,k3_5_7⟩:=bk6 B3_7.out;obtain ⟨k5_0_7,k5_1_7,k5_2_7,k5_3_7⟩:=bk4 B5_7.out;clear k3_0_6 k3_1_6 k3_2_6 k3_3_6 k3_4_6 k3_5_6 k5_0_6 k5_1_6 k5_2_6 k5_3_6;obtain ⟨k7_0_7,k7_1_7,k7_2_7,k7_3_7,k7_4_7,k7_5_7⟩:=bk6 B7_7.out;have NE3_7:=hhd (show g3≠g7 from fun e=>by have:=zf B3_6.out;omega);have NE5_7:=hhd (show g5≠g7 from fun e=>by have:=zf B5_6.out;omega);clear hbox hbl hg)
  | ((with_reducible refine zo (t:=24) (p:=7) rfl ?_);refine zv rfl 24 _ _ rfl g7 #[.int .i64 p0,.int .i64 p1,.int .i64 p2,.int .i64 0,.int .i64 p4,.bool p5] rfl rfl 24 #[.int .i64 0,.int .i64 0,.int .i64 0,.int .i64 0,.int .i64 0,.bool false] B7_7.out (zat _ _ _ _ _ _) rfl (znK _ _ _ _ _ _) ?_;intro W8 hq hoth hbel;have B7_8:=hhd hq;have HB_8:=hhd (hbel _ _ L7 HB_7.out);have B3_8:=hhd ((hoth _ NE3_7.out).trans B3_7.out);have B5_8:=hhd ((hoth _ NE5_7.out).trans B5_7.out);have Ry_8:=hhd (zE rfl Ry_7.out B7_7.out (by decide) hoth);obtain ⟨k3_0_8,k3_1_8,k3_2_8,k3_3_8,k3_4_8,k3_5_8⟩:=bk6 B3_8.out;obtain ⟨k5_0_8,k5_1_8,k5_2_8,k5_3_8⟩:=bk4 B5_8.out;clear k3_0_7 k3_1_7 k3_2_7 k3_3_7 k3_4_7 k3_5_7 k5_0_7 k5_1_7 k5_2_7 k5_3_7 k7_0_7 k7_1_7 k7_2_7 k7_3_7 k7_4_7 k7_5_7;obtain ⟨k7_0_8,k7_1_8,k7_2_8,k7_3_8,k7_4_8,k7_5_8⟩:=bk6 B7_8.out;have Cx_8:=hhd (Kd.C_below HRL.out HB_8.out);clear hq hoth hbel)
  | ((with_reducible refine zo (t:=4) (p:=43) rfl ?_);refine zbq rfl rfl 4 _ _ rfl g7 5 (.bool (!p5)) rfl rfl 24 _ B7_8.out (show (5:Nat) < 6 from by decide) zit rfl rfl #[.int .i64 p0,.int .i64 p1,.int .i64 p2,.int .i64 0,.int .i64 p4,.bool (!p5)] rfl ?_;intro W9 hq hoth hbel;have B7_9:=hhd hq;have HB_9:=hhd (hbel _ _ L7 HB_8.out);have B3_9:=hhd ((hoth _ NE3_7.out).trans B3_8.out);have B5_9:=hhd ((hoth _ NE5_7.out).trans B5_8.out);have Ry_9:=hhd (zE rfl Ry_8.out B7_8.out (by decide) hoth);obtain ⟨k3_0_9,k3_1_9,k3_2_9,k3_3_9,k3_4_9,k3_5_9⟩:=bk6 B3_9.out;obtain ⟨k5_0_9,k5_1_9,k5_2_9,k5_3_9⟩:=bk4 B5_9.out;clear k3_0_8 k3_1_8 k3_2_8 k3_3_8 k3_4_8 k3_5_8 k5_0_8 k5_1_8 k5_2_8 k5_3_8 k7_0_8 k7_1_8 k7_2_8 k7_3_8 k7_4_8 k7_5_8;obtain ⟨k7_0_9,k7_1_9,k7_2_9,k7_3_9,k7_4_9,k7_5_9⟩:=bk6 B7_9.out;have Cx_9:=hhd (Kd.C_below HRL.out HB_9.out);clear hq hoth hbel)
  | ((with_reducible refine zg (N:=47) rfl ?_);refine wpList_load_row rfl 24 _ rfl g7 rfl 24 #[.int .i64 p0,.int .i64 p1,.int .i64 p2,.int .i64 0,.int .i64 p4,.bool (!p5)] (0,0) _ B7_9.out Tryz.underlying24 rfl (zat _ _ _ _ _ _) ?_)
  | (go_at_call 7;with_reducible refine (HRUN2.out _ Ay cy (zjf Ry_9.out).2 (zjf Ry_9.out).1).mono ?_;rintro e W10 ⟨Az,cz,Asz,mz,csz,rfl,ho,hb⟩;have Rz_10:=hhd (Kd.R_lower ho (zj HB_9.out));have HB_10:=hhd (zb HB_9.out hb);have B3_10:=hhd (za B3_9.out hb);have B5_10:=hhd (za B5_9.out hb);have B7_10:=hhd (za B7_9.out hb);have Ry_10:=hhd (Kd.R_below Ry_9.out hb);have Cx_10:=hhd (Kd.C_below HRL.out HB_10.out);obtain ⟨k3_0_10,k3_1_10,k3_2_10,k3_3_10,k3_4_10,k3_5_10⟩:=bk6 B3_10.out;obtain ⟨k5_0_10,k5_1_10,k5_2_10,k5_3_10⟩:=bk4 B5_10.out;obtain ⟨k7_0_10,k7_1_10,k7_2_10,k7_3_10,k7_4_10,k7_5_10⟩:=bk6 B7_10.out;clear k3_0_9 k3_1_9 k3_2_9 k3_3_9 k3_4_9 k3_5_9 k5_0_9 k5_1_9 k5_2_9 k5_3_9 k7_0_9 k7_1_9 k7_2_9 k7_3_9 k7_4_9 k7_5_9;clear ho hb)
  | ((with_reducible refine zg (N:=8) rfl ?_);refine ba_ 8 #[.slice none 0 0,.int .i64 0,.bool false,.slice none 0 0] 28 ?_;intro g8 hg W11 hbox hbl;have L8:=gf_ hg HB_10.out;have B8_11:=hhd hbox;have HB_11:=hhd (zb HB_10.out hbl);have B3_11:=hhd (za B3_10.out hbl);have B5_11:=hhd (za B5_10.out hbl);have B7_11:=hhd (za B7_10.out hbl);have Rz_11:=hhd (Kd.R_below Rz_10.out hbl);have Cx_11:=hhd (Kd.C_below HRL.out HB_11.out);obtain ⟨k3_0_11,k3_1_11,k3_2_11,k3_3_11,k3_4_11,k3_5_11⟩:=bk6 B3_11.out;obtain ⟨k5_0_11,k5_1_11,k5_2_11,k5_3_11⟩:=bk4 B5_11.out;obtain ⟨k7_0_11,k7_1_11,k7_2_11,k7_3_11,k7_4_11,k7_5_11⟩:=bk6 B7_11.out;clear k3_0_10 k3_1_10 k3_2_10 k3_3_10 k3_4_10 k3_5_10 k5_0_10 k5_1_10 k5_2_10 k5_3_10 k7_0_10 k7_1_10 k7_2_10 k7_3_10 k7_4_10 k7_5_10;obtain ⟨k8_0_11,k8_1_11,k8_2_11,k8_3_11⟩:=bk4 B8_11.out;have NE3_8:=hhd (show g3≠g8 from fun e=>by have:=zf B3_10.out;omega);have NE5_8:=hhd (show g5≠g8 from fun e=>by have:=zf B5_10.out;omega);have NE7_8:=hhd (show g7≠g8 from fun e=>by have:=zf B7_10.out;omega);clear hbox hbl hg)
  | ((with_reducible refine zo (t:=28) (p:=8) rfl ?_);refine zv rfl 28 _ _ rfl g8 #[.slice Az m cz,.int .i64 ex,.bool false,.slice Asz mz csz] rfl rfl 28 #[.slice none 0 0,.int .i64 0,.bool false,.slice none 0 0] B8_11.out (zD _ _ _ _) rfl (z7 _ _ _ _ _ _ _ _) ?_;intro W12 hq hoth hbel;have B8_12:=hhd hq;have HB_12:=hhd (hbel _ _ L8 HB_11.out);have B3_12:=hhd ((hoth _ NE3_8.out).trans B3_11.out);have B5_12:=hhd ((hoth _ NE5_8.out).trans B5_11.out);have B7_12:=hhd ((hoth _ NE7_8.out).trans B7_11.out);have Rz_12:=hhd (zE rfl Rz_11.out B8_11.out (by decide) hoth);obtain ⟨k3_0_12,k3_1_12,k3_2_12,k3_3_12,k3_4_12,k3_5_12⟩:=bk6 B3_12.out;obtain ⟨k5_0_12,k5_1_12,k5_2_12,k5_3_12⟩:=bk4 B5_12.out;obtain ⟨k7_0_12,k7_1_12,k7_2_12,k7_3_12,k7_4_12,k7_5_12⟩:=bk6 B7_12.out;clear k3_0_11 k3_1_11 k3_2_11 k3_3_11 k3_4_11 k3_5_11 k5_0_11 k5_1_11 k5_2_11 k5_3_11 k7_0_11 k7_1_11 k7_2_11 k7_3_11 k7_4_11 k7_5_11 k8_0_11 k8_1_11 k8_2_11 k8_3_11;obtain ⟨k8_0_12,k8_1_12,k8_2_12,k8_3_12⟩:=bk4 B8_12.out;have Cx_12:=hhd (Kd.C_below HRL.out HB_12.out);clear hq hoth hbel)
  | ((with_reducible refine zg (N:=52) rfl ?_);refine wpList_load_row rfl 24 _ rfl g3 rfl 24 #[.int .i64 p0,.int .i64 p1,.int .i64 p2,.int .i64 0,.int .i64 p4,.bool p5] (0,0) _ B3_12.out Tryz.underlying24 rfl (zat _ _ _ _ _ _) ?_)
  | (go_at_call 9;refine (HFIX.out _).mono ?_;rintro e W13 ⟨vf,rfl,ho,hb⟩;obtain ⟨Af,cf,ev⟩:=Kd.R_slice ho;subst ev;have Rf_13:=hhd (Kd.R_lower ho (zj HB_12.out));have HB_13:=hhd (zb HB_12.out hb);have B3_13:=hhd (za B3_12.out hb);have B5_13:=hhd (za B5_12.out hb);have B7_13:=hhd (za B7_12.out hb);have B8_13:=hhd (za B8_12.out hb);have Rz_13:=hhd (Kd.R_below Rz_12.out hb);have Cx_13:=hhd (Kd.C_below HRL.out HB_13.out);obtain ⟨k3_0_13,k3_1_13,k3_2_13,k3_3_13,k3_4_13,k3_5_13⟩:=bk6 B3_13.out;obtain ⟨k5_0_13,k5_1_13,k5_2_13,k5_3_13⟩:=bk4 B5_13.out;obtain ⟨k7_0_13,k7_1_13,k7_2_13,k7_3_13,k7_4_13,k7_5_13⟩:=bk6 B7_13.out;obtain ⟨k8_0_13,k8_1_13,k8_2_13,k8_3_13⟩:=bk4 B8_13.out;clear k3_0_12 k3_1_12 k3_2_12 k3_3_12 k3_4_12 k3_5_12 k5_0_12 k5_1_12 k5_2_12 k5_3_12 k7_0_12 k7_1_12 k7_2_12 k7_3_12 k7_4_12 k7_5_12 k8_0_12 k8_1_12 k8_2_12 k8_3_12;clear ho hb)
  | ((with_reducible refine zg (N:=57) rfl ?_);refine wpList_load_row rfl 24 _ rfl g3 rfl 24 #[.int .i64 p0,.int .i64 p1,.int .i64 p2,.int .i64 0,.int .i64 p4,.bool p5] (0,0) _ B3_13.out Tryz.underlying24 rfl (zat _ _ _ _ _ _) ?_)
  | (go_at_call 10;( refine (HOF.out _ Af cf (zdV Rf_13.out).2.2 (zdV Rf_13.out).2.1).mono ?_);rintro e W14 ⟨rfl,hb⟩;have HB_14:=hhd (zb HB_13.out hb);have B3_14:=hhd (za B3_13.out hb);have B5_14:=hhd (za B5_13.out hb);have B7_14:=hhd (za B7_13.out hb);have B8_14:=hhd (za B8_13.out hb);have Rz_14:=hhd (Kd.R_below Rz_13.out hb);have Rf_14:=hhd (Kd.R_below Rf_13.out hb);have Cx_14:=hhd (Kd.C_below HRL.out HB_14.out);obtain ⟨k3_0_14,k3_1_14,k3_2_14,k3_3_14,k3_4_14,k3_5_14⟩:=bk6 B3_14.out;obtain ⟨k5_0_14,k5_1_14,k5_2_14,k5_3_14⟩:=bk4 B5_14.out;obtain ⟨k7_0_14,k7_1_14,k7_2_14,k7_3_14,k7_4_14,k7_5_14⟩:=bk6 B7_14.out;obtain ⟨k8_0_14,k8_1_14,k8_2_14,k8_3_14⟩:=bk4 B8_14.out;clear k3_0_13 k3_1_13 k3_2_13 k3_3_13 k3_4_13 k3_5_13 k5_0_13 k5_1_13 k5_2_13 k5_3_13 k7_0_13 k7_1_13 k7_2_13 k7_3_13 k7_4_13 k7_5_13 k8_0_13 k8_1_13 k8_2_13 k8_3_13;clear hb)
  | (go_at_call 8;(with_reducible refine (zgq _).mono ?_);rintro e W15 ⟨rfl,hb⟩;have HB_15:=hhd (zb HB_14.out hb);have B3_15:=hhd (za B3_14.out hb);have B5_15:=hhd (za B5_14.out hb);have B7_15:=hhd (za B7_14.out hb);have B8_15:=hhd (za B8_14.out hb);have Rz_15:=hhd (Kd.R_below Rz_14.out hb);have Cx_15:=hhd (Kd.C_below HRL.out HB_15.out);obtain ⟨k3_0_15,k3_1_15,k3_2_15,k3_3_15,k3_4_15,k3_5_15⟩:=bk6 B3_15.out;obtain ⟨k5_0_15,k5_1_15,k5_2_15,k5_3_15⟩:=bk4 B5_15.out;obtain ⟨k7_0_15,k7_1_15,k7_2_15,k7_3_15,k7_4_15,k7_5_15⟩:=bk6 B7_15.out;obtain ⟨k8_0_15,k8_1_15,k8_2_15,k8_3_15⟩:=bk4 B8_15.out;clear k3_0_14 k3_1_14 k3_2_14 k3_3_14 k3_4_14 k3_5_14 k5_0_14 k5_1_14 k5_2_14 k5_3_14 k7_0_14 k7_1_14 k7_2_14 k7_3_14 k7_4_14 k7_5_14 k8_0_14 k8_1_14 k8_2_14 k8_3_14;clear hb))
 go_quiet (fail)
 go_wp2
 go_quiet (fail)
 go_wp2
 simp only [HBD.out]
 go_loopw [106] (fun s106 wr=>∃k:Nat,k≤m∧s106=.int .i64 k∧Kd.R k38 38 wr w.heap.size (fun _=>True) (.slice Az m cz) Z∧Below w.heap.size w wr) (fun i _=>m - (intOf i).toNat)
 case atStart=>exact ⟨0,by omega,rfl,Kd.R_below Rz_15.out (zd (Below.refl _ _) _),zd HB_15.out _⟩
 case round =>
  obtain ⟨k,hk,rfl,ho,hb⟩:=hrel
  have HZr:=hhd ho
  have HBr:=hhd hb
  clear ho hb HB_15
  by_cases hlt:k < m
  ·obtain ⟨ad,e_,z0,z1⟩:=zam (R_C HZr.out).2 (k:Int) (by omega) (by rw [HZ.out];omega)
   cases e_
   have HL2:Kd.C k38 w A l.length l:=by rw [HLM.out];exact HRL.out
   obtain ⟨ax,e_,x0,x1⟩:=zam HL2 (k:Int) (by omega) (by rw [HLM.out];omega)
   cases e_
   rw [Int.toNat_natCast] at z0 z1 x0 x1
   replace x0:=(HBr.out.cell (World.block_lt_of_cell? w _ x0)).trans x0
   replace x1:=(HBr.out.cell (World.block_lt_of_cell? w _ x1)).trans x1
   obtain ⟨le0,le1⟩:=HLE.out k hlt
   have LE0:=hhd le0
   have LE1:=hhd le1
   clear le0 le1 HL2
   generalize zk Z k=z at *
   generalize zk l k=x at *
   go_wp2
   have hbl:=ze (Below.refl wr.heap.size wr) (Obj.cells #[Value.int IntKind.i64 z.f0,Value.int IntKind.i64 z.f1] 38)
   have X0:=(hbl.cell (World.block_lt_of_cell? _ _ x0)).trans x0
   have X1:=(hbl.cell (World.block_lt_of_cell? _ _ x1)).trans x1
   have HBA:=hhd (zb HBr.out hbl)
   have HZA:=hhd (Kd.R_below HZr.out hbl)
   clear hbl
   go_quiet (fail)
   have LA:LeB BD (wrap64 (wrap64 (z.f0*2^min (ex+ex+8).toNat 64) - wrap64 (wrap64 (x.f0*↑m)*256))):=LE0.out
   have LB:LeB BD (wrap64 (wrap64 (z.f1*2^min (ex+ex+8).toNat 64) - wrap64 (wrap64 (x.f1*↑m)*256))):=LE1.out
   clear LE0 LE1 X0 X1 x0 x1 z0 z1
   generalize wrap64 (wrap64 (z.f0*2^min (ex+ex+8).toNat 64) - wrap64 (wrap64 (x.f0*↑m)*256))=re at *
   generalize wrap64 (wrap64 (z.f1*2^min (ex+ex+8).toNat 64) - wrap64 (wrap64 (x.f1*↑m)*256))=im at *
   obtain ⟨la0,la1⟩:=LA
   obtain ⟨lb0,lb1⟩:=LB
   have LA0:=hhd la0
   have LA1:=hhd la1
   have LB0:=hhd lb0
   have LB1:=hhd lb1
   obtain ⟨m1,hm1⟩:∃m1,(if re < wrap64 (-re) then wrap64 (-re) else re)=m1:=⟨_,rfl⟩
   obtain ⟨m2,hm2⟩:∃m2,(if m1 < im then im else m1)=m2:=⟨_,rfl⟩
   obtain ⟨m3,hm3⟩:∃m3,(if m2 < wrap64 (-im) then wrap64 (-im) else m2)=m3:=⟨_,rfl⟩
   have h1:m1≤BD:=by rw [← hm1];split <;> omega
   have h2:m2≤BD:=by rw [← hm2];split <;> omega
   have h3:m3≤BD:=by rw [← hm3];split <;> omega
   have h4:(BD < m3)=False:=eq_false (by omega)
   have h5:decide (BD < m3)=false:=decide_eq_false (by omega)
   clear la0 la1 lb0 lb1 h1 h2 h3
   go_wp2
   refine ⟨⟨k+1,by omega,rfl,Kd.R_below HZA.out (zd (Below.refl _ _) _),zd HBA.out _⟩,?_⟩
   simp [intOf]
   omega
  ·obtain rfl:k=m:=by omega
   go_wp2
   go_ret
   exact ⟨rfl,HBr.out⟩
end Go.Proofs.YteieahbadclppaaGreat.P

