/- Part 5 of 18 of the proof: the texts that it reaches, one behind the other. No condition. -/
import Derived.Test.YteieahbadclppaaGreatKi4
namespace Go.Proofs.YteieahbadclppaaGreat.P
open Go.RowKit Go.Proofs.YteieahbadclppaaGreatW.PrintWords Go.Proofs.YteieahbadclppaaGreatW.PrintLast Go.Proofs.YteieahbadclppaaGreatW.PrintMore
attribute [local go_sem] zI zJ zO zP
set_option linter.unusedVariables false
set_option linter.unusedSimpArgs false
theorem R_C {e base:Nat} {ok:Nat→Prop} {w:World} {A:Option Addr} {n c:Nat} {xs:List S38} (h:Kd.R k38 e w base ok (.slice A n c) xs):xs.length≤c∧Kd.C k38 w A xs.length xs:=by
 obtain ⟨A',c',hv,h1,h2⟩:=Kd.R_reads h
 injection hv with e1 e2 e3
 subst e1;subst e3
 exact ⟨h1,h2⟩
theorem zD (a b c d:Value):(Tryz.prog.info? 28).map (·.size)=some (#[a,b,c,d]:Array Value).size:=by kernel_rfl
theorem z7 (A B:Option Addr) (n c m d:Nat) (e:Int) (s:Bool):(#[.slice A n c,.int .i64 e,.bool s,.slice B m d]:Array Value).all (·.oneCell')=true:=by simp [Value.oneCell']
set_option maxRecDepth 100000 in
set_option maxHeartbeats 4000000 in
theorem zkV (p0 p1 p4 b:Int) (p5:Bool) (Aw:Option Addr) (wn cw:Nat) (A:Option Addr) (c:Nat) (l:List S38) (h0:0≤p4) (h1:p4 < 3) (w:World) (hr:Kd.C k38 w A l.length l) (hc:l.length≤c) (hl:l.length≤1000) :
  Calls Tryz.prog 39 #[.agg #[.int .i64 p0,.int .i64 p1,.int .i64 2,.int .i64 0,.int .i64 p4,.bool p5,.iface 97 (.agg #[]),.int .i64 b,.slice Aw wn cw],.slice A l.length c] w fun e w'=>∃A' c',e=.returned (.agg #[.slice A' l.length c',.int .i64 1,.bool false,.slice none 0 0])∧Kd.R k38 38 w' w.heap.size (fun _=>True) (.slice A' l.length c') (l.map (shC 1 p4))∧Below w.heap.size w w':=by
 have hm : ∀ w, (method 294 97 (.agg #[]) "headroom/fft.first").run Tryz.prog w = .ok (144, .agg #[]) w := fun _ => by kernel_rfl
 have HR:=hhd hr
 have HC:=hhd hc
 have HL:=hhd hl
 have HB0:=hhd (Below.refl w.heap.size w)
 clear hr hc hl
 go_enter Tryz.func39,Tryz.ntmps39
 go_wp2_with (first
  | ((with_reducible refine zg (N:=2) rfl ?_);refine ba_ 2 #[.int .i64 p0,.int .i64 p1,.int .i64 2,.int .i64 0,.int .i64 p4,.bool p5,.iface 97 (.agg #[]),.int .i64 b,.slice Aw wn cw] 56 ?_;intro g2 hg W1 hbox hbl;have L2:=gf_ hg HB0.out;have B2_1:=hhd hbox;have HB_1:=hhd (zb HB0.out hbl);have Cx_1:=hhd (Kd.C_below HR.out HB_1.out);obtain ⟨k2_0_1,k2_1_1,k2_2_1,k2_3_1,k2_4_1,k2_5_1,k2_6_1,k2_7_1,k2_8_1⟩:=bk9 B2_1.out;clear hbox hbl hg)
  | ((with_reducible refine zg (N:=4) rfl ?_);refine ba_ 4 #[.slice none 0 0,.int .i64 0,.bool false,.slice none 0 0] 28 ?_;intro g4 hg W2 hbox hbl;have L4:=gf_ hg HB_1.out;have B4_2:=hhd hbox;have HB_2:=hhd (zb HB_1.out hbl);have B2_2:=hhd (za B2_1.out hbl);have Cx_2:=hhd (Kd.C_below HR.out HB_2.out);obtain ⟨k2_0_2,k2_1_2,k2_2_2,k2_3_2,k2_4_2,k2_5_2,k2_6_2,k2_7_2,k2_8_2⟩:=bk9 B2_2.out;clear k2_0_1 k2_1_1 k2_2_1 k2_3_1 k2_4_1 k2_5_1 k2_6_1 k2_7_1 k2_8_1;obtain ⟨k4_0_2,k4_1_2,k4_2_2,k4_3_2⟩:=bk4 B4_2.out;have NE24:=hhd (show g2≠g4 from fun e=>by have:=zf B2_1.out;omega);clear hbox hbl hg)
  | (go_at_call 144;(with_reducible refine (zhb A l.length c _).mono ?_);rintro e W3 ⟨rfl,hb⟩;have HB_3:=hhd (zb HB_2.out hb);have B2_3:=hhd (za B2_2.out hb);have B4_3:=hhd (za B4_2.out hb);have Cx_3:=hhd (Kd.C_below HR.out HB_3.out);obtain ⟨k2_0_3,k2_1_3,k2_2_3,k2_3_3,k2_4_3,k2_5_3,k2_6_3,k2_7_3,k2_8_3⟩:=bk9 B2_3.out;obtain ⟨k4_0_3,k4_1_3,k4_2_3,k4_3_3⟩:=bk4 B4_3.out;clear k2_0_2 k2_1_2 k2_2_2 k2_3_2 k2_4_2 k2_5_2 k2_6_2 k2_7_2 k2_8_2 k4_0_2 k4_1_2 k4_2_2 k4_3_2;clear hb)
  | (go_at_call 67;(with_reducible refine (zg2 p4 h0 h1 A c l _ (Cx_3.out) (HC.out) HL.out).mono ?_);rintro e W4 ⟨vt,rfl,ho,hb⟩;obtain ⟨A2,c2,ev⟩:=Kd.R_slice ho;rw [List.length_map] at ev;subst ev;have Rz_4:=hhd (Kd.R_lower ho (zj HB_3.out));have NR4:=hhd (show some g4≠(Value.slice A2 _ c2).ownBlock from fun e=>Nat.lt_irrefl _ (Nat.lt_of_lt_of_le (zf B4_3.out) (Kd.R_base ho g4 e.symm)));have HB_4:=hhd (zb HB_3.out hb);have B2_4:=hhd (za B2_3.out hb);have B4_4:=hhd (za B4_3.out hb);have Cx_4:=hhd (Kd.C_below HR.out HB_4.out);obtain ⟨k2_0_4,k2_1_4,k2_2_4,k2_3_4,k2_4_4,k2_5_4,k2_6_4,k2_7_4,k2_8_4⟩:=bk9 B2_4.out;obtain ⟨k4_0_4,k4_1_4,k4_2_4,k4_3_4⟩:=bk4 B4_4.out;clear k2_0_3 k2_1_3 k2_2_3 k2_3_3 k2_4_3 k2_5_3 k2_6_3 k2_7_3 k2_8_3 k4_0_3 k4_1_3 k4_2_3 k4_3_3;clear hb ho)
  | ((with_reducible refine zo (t:=28) (p:=4) rfl ?_);refine zv rfl 28 _ _ rfl g4 #[.slice A2 l.length c2,.int .i64 1,.bool false,.slice none 0 0] rfl rfl 28 #[.slice none 0 0,.int .i64 0,.bool false,.slice none 0 0] B4_4.out (zD _ _ _ _) rfl (z7 _ _ _ _ _ _ _ _) ?_;intro W5 hq hoth hbel;have B4_5:=hhd hq;have HB_5:=hhd (hbel _ _ L4 HB_4.out);have B2_5:=hhd ((hoth _ NE24.out).trans B2_4.out);have Rz_5:=hhd (zK Rz_4.out hoth NR4.out);obtain ⟨k2_0_5,k2_1_5,k2_2_5,k2_3_5,k2_4_5,k2_5_5,k2_6_5,k2_7_5,k2_8_5⟩:=bk9 B2_5.out;clear k2_0_4 k2_1_4 k2_2_4 k2_3_4 k2_4_4 k2_5_4 k2_6_4 k2_7_4 k2_8_4 k4_0_4 k4_1_4 k4_2_4 k4_3_4;obtain ⟨k4_0_5,k4_1_5,k4_2_5,k4_3_5⟩:=bk4 B4_5.out;have Cx_5:=hhd (Kd.C_below HR.out HB_5.out);clear hq hoth hbel))
 refine bodyPost_ret (results_cell_row rfl _ _ g4 28 #[.slice A2 l.length c2,.int .i64 1,.bool false,.slice none 0 0] (0,0) _ rfl B4_5.out Tryz.underlying28 rfl (zD _ _ _ _)) rfl ?_
 exact ⟨A2,c2,rfl,Rz_5.out,HB_5.out⟩
set_option maxRecDepth 100000 in
set_option maxHeartbeats 4000000 in
theorem zkW (p0 p1 p2 p4 b:Int) (p5:Bool) (Aw:Option Addr) (wn cw:Nat) (A:Option Addr) (c:Nat) (l l1:List S38) (k:Nat) (h0:0≤p4) (h1:p4 < 3) (w:World) (hr:Kd.C k38 w A l.length l) (hc:l.length≤c) (hl:l1.length≤1000) (hf:flip_Flip.f k l=some (l1,0)) (h2:(p2 != 2)=true) :
  Calls Tryz.prog 39 #[.agg #[.int .i64 p0,.int .i64 p1,.int .i64 p2,.int .i64 0,.int .i64 p4,.bool p5,.iface 97 (.agg #[]),.int .i64 b,.slice Aw wn cw],.slice A l.length c] w fun e w'=>∃A' c',e=.returned (.agg #[.slice A' l1.length c',.int .i64 1,.bool false,.slice none 0 0])∧Kd.R k38 38 w' w.heap.size (fun _=>True) (.slice A' l1.length c') (l1.map (shC 1 p4))∧Below w.heap.size w w':=by
 have hm : ∀ w, (method 294 97 (.agg #[]) "headroom/fft.first").run Tryz.prog w = .ok (144, .agg #[]) w := fun _ => by kernel_rfl
 have HR:=hhd hr
 have HC:=hhd hc
 have HL:=hhd hl
 have HF:=hhd hf
 have HB0:=hhd (Below.refl w.heap.size w)
 clear hr hc hl hf
 go_enter Tryz.func39,Tryz.ntmps39
 go_wp2_with (first
  | ((with_reducible refine zg (N:=2) rfl ?_);refine ba_ 2 #[.int .i64 p0,.int .i64 p1,.int .i64 p2,.int .i64 0,.int .i64 p4,.bool p5,.iface 97 (.agg #[]),.int .i64 b,.slice Aw wn cw] 56 ?_;intro g2 hg W1 hbox hbl;have L2:=gf_ hg HB0.out;have B2_1:=hhd hbox;have HB_1:=hhd (zb HB0.out hbl);have Cx_1:=hhd (Kd.C_below HR.out HB_1.out);obtain ⟨k2_0_1,k2_1_1,k2_2_1,k2_3_1,k2_4_1,k2_5_1,k2_6_1,k2_7_1,k2_8_1⟩:=bk9 B2_1.out;clear hbox hbl hg)
  | ((with_reducible refine zg (N:=4) rfl ?_);refine ba_ 4 #[.slice none 0 0,.int .i64 0,.bool false,.slice none 0 0] 28 ?_;intro g4 hg W2 hbox hbl;have L4:=gf_ hg HB_1.out;have B4_2:=hhd hbox;have HB_2:=hhd (zb HB_1.out hbl);have B2_2:=hhd (za B2_1.out hbl);have Cx_2:=hhd (Kd.C_below HR.out HB_2.out);obtain ⟨k2_0_2,k2_1_2,k2_2_2,k2_3_2,k2_4_2,k2_5_2,k2_6_2,k2_7_2,k2_8_2⟩:=bk9 B2_2.out;clear k2_0_1 k2_1_1 k2_2_1 k2_3_1 k2_4_1 k2_5_1 k2_6_1 k2_7_1 k2_8_1;obtain ⟨k4_0_2,k4_1_2,k4_2_2,k4_3_2⟩:=bk4 B4_2.out;have NE24:=hhd (show g2≠g4 from fun e=>by have:=zf B2_1.out;omega);clear hbox hbl hg)
  | (go_at_call 66;(with_reducible refine (flip_Flip.calls k A c l l1 0 _ Cx_2.out HC.out HF.out).mono ?_);rintro e W3 ⟨vt,rfl,ho,hb⟩;obtain ⟨A1,c1,ev⟩:=Kd.R_slice ho;subst ev;have Ry_3:=hhd (Kd.R_lower ho (zj HB_2.out));have HB_3:=hhd (zb HB_2.out hb);have B2_3:=hhd (za B2_2.out hb);have B4_3:=hhd (za B4_2.out hb);have Cx_3:=hhd (Kd.C_below HR.out HB_3.out);obtain ⟨k2_0_3,k2_1_3,k2_2_3,k2_3_3,k2_4_3,k2_5_3,k2_6_3,k2_7_3,k2_8_3⟩:=bk9 B2_3.out;obtain ⟨k4_0_3,k4_1_3,k4_2_3,k4_3_3⟩:=bk4 B4_3.out;clear k2_0_2 k2_1_2 k2_2_2 k2_3_2 k2_4_2 k2_5_2 k2_6_2 k2_7_2 k2_8_2 k4_0_2 k4_1_2 k4_2_2 k4_3_2;clear hb ho)
  | (go_at_call 144;(with_reducible refine (zhb A1 l1.length c1 _).mono ?_);rintro e W4 ⟨rfl,hb⟩;have HB_4:=hhd (zb HB_3.out hb);have B2_4:=hhd (za B2_3.out hb);have B4_4:=hhd (za B4_3.out hb);have Ry_4:=hhd (Kd.R_below Ry_3.out hb);have Cx_4:=hhd (Kd.C_below HR.out HB_4.out);obtain ⟨k2_0_4,k2_1_4,k2_2_4,k2_3_4,k2_4_4,k2_5_4,k2_6_4,k2_7_4,k2_8_4⟩:=bk9 B2_4.out;obtain ⟨k4_0_4,k4_1_4,k4_2_4,k4_3_4⟩:=bk4 B4_4.out;clear k2_0_3 k2_1_3 k2_2_3 k2_3_3 k2_4_3 k2_5_3 k2_6_3 k2_7_3 k2_8_3 k4_0_3 k4_1_3 k4_2_3 k4_3_3;clear hb)
  | (go_at_call 67;(with_reducible refine (zg2 p4 h0 h1 A1 c1 l1 _ ((R_C Ry_4.out).2) ((R_C Ry_4.out).1) HL.out).mono ?_);rintro e W5 ⟨vt,rfl,ho,hb⟩;obtain ⟨A2,c2,ev⟩:=Kd.R_slice ho;rw [List.length_map] at ev;subst ev;have Rz_5:=hhd (Kd.R_lower ho (zj HB_4.out));have NR4:=hhd (show some g4≠(Value.slice A2 _ c2).ownBlock from fun e=>Nat.lt_irrefl _ (Nat.lt_of_lt_of_le (zf B4_4.out) (Kd.R_base ho g4 e.symm)));have HB_5:=hhd (zb HB_4.out hb);have B2_5:=hhd (za B2_4.out hb);have B4_5:=hhd (za B4_4.out hb);have Ry_5:=hhd (Kd.R_below Ry_4.out hb);have Cx_5:=hhd (Kd.C_below HR.out HB_5.out);obtain ⟨k2_0_5,k2_1_5,k2_2_5,k2_3_5,k2_4_5,k2_5_5,k2_6_5,k2_7_5,k2_8_5⟩:=bk9 B2_5.out;obtain ⟨k4_0_5,k4_1_5,k4_2_5,k4_3_5⟩:=bk4 B4_5.out;clear k2_0_4 k2_1_4 k2_2_4 k2_3_4 k2_4_4 k2_5_4 k2_6_4 k2_7_4 k2_8_4 k4_0_4 k4_1_4 k4_2_4 k4_3_4;clear hb ho)
  | ((with_reducible refine zo (t:=28) (p:=4) rfl ?_);refine zv rfl 28 _ _ rfl g4 #[.slice A2 l1.length c2,.int .i64 1,.bool false,.slice none 0 0] rfl rfl 28 #[.slice none 0 0,.int .i64 0,.bool false,.slice none 0 0] B4_5.out (zD _ _ _ _) rfl (z7 _ _ _ _ _ _ _ _) ?_;intro W6 hq hoth hbel;have B4_6:=hhd hq;have HB_6:=hhd (hbel _ _ L4 HB_5.out);have B2_6:=hhd ((hoth _ NE24.out).trans B2_5.out);have Rz_6:=hhd (zK Rz_5.out hoth NR4.out);obtain ⟨k2_0_6,k2_1_6,k2_2_6,k2_3_6,k2_4_6,k2_5_6,k2_6_6,k2_7_6,k2_8_6⟩:=bk9 B2_6.out;clear k2_0_5 k2_1_5 k2_2_5 k2_3_5 k2_4_5 k2_5_5 k2_6_5 k2_7_5 k2_8_5 k4_0_5 k4_1_5 k4_2_5 k4_3_5;obtain ⟨k4_0_6,k4_1_6,k4_2_6,k4_3_6⟩:=bk4 B4_6.out;have Cx_6:=hhd (Kd.C_below HR.out HB_6.out);clear hq hoth hbel))
 refine bodyPost_ret (results_cell_row rfl _ _ g4 28 #[.slice A2 l1.length c2,.int .i64 1,.bool false,.slice none 0 0] (0,0) _ rfl B4_6.out Tryz.underlying28 rfl (zD _ _ _ _)) rfl ?_
 exact ⟨A2,c2,rfl,Rz_6.out,HB_6.out⟩
set_option maxRecDepth 100000 in
set_option maxHeartbeats 4000000 in
theorem zkX (p0 p1 p2 p4 b:Int) (p5:Bool) (Aw:Option Addr) (wn cw:Nat) (A:Option Addr) (c:Nat) (l l1:List S38) (k:Nat) (h0:0≤p4) (h1:p4 < 3) (w:World) (hr:Kd.C k38 w A l.length l) (hc:l.length≤c) (hl:l1.length≤1000) (hf:flip_Flip.f k l=some (l1,0)) (h2:(p2 != 2)=true) :
  Calls Tryz.prog 39 #[.agg #[.int .i64 p0,.int .i64 p1,.int .i64 p2,.int .i64 2,.int .i64 p4,.bool p5,.iface 100 (.agg #[]),.int .i64 b,.slice Aw wn cw],.slice A l.length c] w fun e w'=>∃A' c',e=.returned (.agg #[.slice A' l1.length c',.int .i64 0,.bool false,.slice none 0 0])∧Kd.R k38 38 w' w.heap.size (fun _=>True) (.slice A' l1.length c') (l1.map (shC 0 p4))∧Below w.heap.size w w':=by
 have hm : ∀ w, (method 294 100 (.agg #[]) "headroom/fft.first").run Tryz.prog w = .ok (151, .agg #[]) w := fun _ => by kernel_rfl
 have HR:=hhd hr
 have HC:=hhd hc
 have HL:=hhd hl
 have HF:=hhd hf
 have HB0:=hhd (Below.refl w.heap.size w)
 clear hr hc hl hf
 go_enter Tryz.func39,Tryz.ntmps39
 go_wp2_with (first
  | ((with_reducible refine zg (N:=2) rfl ?_);refine ba_ 2 #[.int .i64 p0,.int .i64 p1,.int .i64 p2,.int .i64 2,.int .i64 p4,.bool p5,.iface 100 (.agg #[]),.int .i64 b,.slice Aw wn cw] 56 ?_;intro g2 hg W1 hbox hbl;have L2:=gf_ hg HB0.out;have B2_1:=hhd hbox;have HB_1:=hhd (zb HB0.out hbl);have Cx_1:=hhd (Kd.C_below HR.out HB_1.out);obtain ⟨k2_0_1,k2_1_1,k2_2_1,k2_3_1,k2_4_1,k2_5_1,k2_6_1,k2_7_1,k2_8_1⟩:=bk9 B2_1.out;clear hbox hbl hg)
  | ((with_reducible refine zg (N:=4) rfl ?_);refine ba_ 4 #[.slice none 0 0,.int .i64 0,.bool false,.slice none 0 0] 28 ?_;intro g4 hg W2 hbox hbl;have L4:=gf_ hg HB_1.out;have B4_2:=hhd hbox;have HB_2:=hhd (zb HB_1.out hbl);have B2_2:=hhd (za B2_1.out hbl);have Cx_2:=hhd (Kd.C_below HR.out HB_2.out);obtain ⟨k2_0_2,k2_1_2,k2_2_2,k2_3_2,k2_4_2,k2_5_2,k2_6_2,k2_7_2,k2_8_2⟩:=bk9 B2_2.out;clear k2_0_1 k2_1_1 k2_2_1 k2_3_1 k2_4_1 k2_5_1 k2_6_1 k2_7_1 k2_8_1;obtain ⟨k4_0_2,k4_1_2,k4_2_2,k4_3_2⟩:=bk4 B4_2.out;have NE24:=hhd (show g2≠g4 from fun e=>by have:=zf B2_1.out;omega);clear hbox hbl hg)
  | (go_at_call 66;(with_reducible refine (flip_Flip.calls k A c l l1 0 _ Cx_2.out HC.out HF.out).mono ?_);rintro e W3 ⟨vt,rfl,ho,hb⟩;obtain ⟨A1,c1,ev⟩:=Kd.R_slice ho;subst ev;have Ry_3:=hhd (Kd.R_lower ho (zj HB_2.out));have HB_3:=hhd (zb HB_2.out hb);have B2_3:=hhd (za B2_2.out hb);have B4_3:=hhd (za B4_2.out hb);have Cx_3:=hhd (Kd.C_below HR.out HB_3.out);obtain ⟨k2_0_3,k2_1_3,k2_2_3,k2_3_3,k2_4_3,k2_5_3,k2_6_3,k2_7_3,k2_8_3⟩:=bk9 B2_3.out;obtain ⟨k4_0_3,k4_1_3,k4_2_3,k4_3_3⟩:=bk4 B4_3.out;clear k2_0_2 k2_1_2 k2_2_2 k2_3_2 k2_4_2 k2_5_2 k2_6_2 k2_7_2 k2_8_2 k4_0_2 k4_1_2 k4_2_2 k4_3_2;clear hb ho)
  | (go_at_call 151;(with_reducible refine (zkT A1 l1.length c1 _).mono ?_);rintro e W4 ⟨rfl,hb⟩;have HB_4:=hhd (zb HB_3.out hb);have B2_4:=hhd (za B2_3.out hb);have B4_4:=hhd (za B4_3.out hb);have Ry_4:=hhd (Kd.R_below Ry_3.out hb);have Cx_4:=hhd (Kd.C_below HR.out HB_4.out);obtain ⟨k2_0_4,k2_1_4,k2_2_4,k2_3_4,k2_4_4,k2_5_4,k2_6_4,k2_7_4,k2_8_4⟩:=bk9 B2_4.out;obtain ⟨k4_0_4,k4_1_4,k4_2_4,k4_3_4⟩:=bk4 B4_4.out;clear k2_0_3 k2_1_3 k2_2_3 k2_3_3 k2_4_3 k2_5_3 k2_6_3 k2_7_3 k2_8_3 k4_0_3 k4_1_3 k4_2_3 k4_3_3;clear hb)
  | (go_at_call 67;(with_reducible refine (zkH p4 h0 h1 A1 c1 l1 _ ((R_C Ry_4.out).2) ((R_C Ry_4.out).1) HL.out).mono ?_);rintro e W5 ⟨vt,rfl,ho,hb⟩;obtain ⟨A2,c2,ev⟩:=Kd.R_slice ho;rw [List.length_map] at ev;subst ev;have Rz_5:=hhd (Kd.R_lower ho (zj HB_4.out));have NR4:=hhd (show some g4≠(Value.slice A2 _ c2).ownBlock from fun e=>Nat.lt_irrefl _ (Nat.lt_of_lt_of_le (zf B4_4.out) (Kd.R_base ho g4 e.symm)));have HB_5:=hhd (zb HB_4.out hb);have B2_5:=hhd (za B2_4.out hb);have B4_5:=hhd (za B4_4.out hb);have Ry_5:=hhd (Kd.R_below Ry_4.out hb);have Cx_5:=hhd (Kd.C_below HR.out HB_5.out);obtain ⟨k2_0_5,k2_1_5,k2_2_5,k2_3_5,k2_4_5,k2_5_5,k2_6_5,k2_7_5,k2_8_5⟩:=bk9 B2_5.out;obtain ⟨k4_0_5,k4_1_5,k4_2_5,k4_3_5⟩:=bk4 B4_5.out;clear k2_0_4 k2_1_4 k2_2_4 k2_3_4 k2_4_4 k2_5_4 k2_6_4 k2_7_4 k2_8_4 k4_0_4 k4_1_4 k4_2_4 k4_3_4;clear hb ho)
  | ((with_reducible refine zo (t:=28) (p:=4) rfl ?_);refine zv rfl 28 _ _ rfl g4 #[.slice A2 l1.length c2,.int .i64 0,.bool false,.slice none 0 0] rfl rfl 28 #[.slice none 0 0,.int .i64 0,.bool false,.slice none 0 0] B4_5.out (zD _ _ _ _) rfl (z7 _ _ _ _ _ _ _ _) ?_;intro W6 hq hoth hbel;have B4_6:=hhd hq;have HB_6:=hhd (hbel _ _ L4 HB_5.out);have B2_6:=hhd ((hoth _ NE24.out).trans B2_5.out);have Rz_6:=hhd (zK Rz_5.out hoth NR4.out);obtain ⟨k2_0_6,k2_1_6,k2_2_6,k2_3_6,k2_4_6,k2_5_6,k2_6_6,k2_7_6,k2_8_6⟩:=bk9 B2_6.out;clear k2_0_5 k2_1_5 k2_2_5 k2_3_5 k2_4_5 k2_5_5 k2_6_5 k2_7_5 k2_8_5 k4_0_5 k4_1_5 k4_2_5 k4_3_5;obtain ⟨k4_0_6,k4_1_6,k4_2_6,k4_3_6⟩:=bk4 B4_6.out;have Cx_6:=hhd (Kd.C_below HR.out HB_6.out);clear hq hoth hbel))
 refine bodyPost_ret (results_cell_row rfl _ _ g4 28 #[.slice A2 l1.length c2,.int .i64 0,.bool false,.slice none 0 0] (0,0) _ rfl B4_6.out Tryz.underlying28 rfl (zD _ _ _ _)) rfl ?_
 exact ⟨A2,c2,rfl,Rz_6.out,HB_6.out⟩
def zcm (x f:Int):Int:=if f=0 then (if x < -32768 then -32768 else if x > 32767 then 32767 else x) else (if x < -2147483648 then -2147483648 else if x > 2147483647 then 2147483647 else x)
set_option maxRecDepth 100000 in
set_option maxHeartbeats 4000000 in
theorem zl6 (x:Int) (w:World):Calls Tryz.prog 87 #[.int .i64 x,.int .i64 0] w fun e w'=>e=.returned (.tuple #[.int .i64 (zcm x 0),.bool (zcm x 0 != x),.int .i64 0])∧Drawn0 w w':=by
 have HS:=hhd (show sat_Bits.f 0=some (15,0) from rfl)
 have HV:=hhd (show zcm x 0=if x < -32768 then -32768 else if x > 32767 then 32767 else x from by unfold zcm;rw [if_pos rfl])
 by_cases h1:x < -32768
 ·have e1:zcm x 0=-32768:=by rw [HV.out,if_pos h1]
  have c1:(x < -32768)=True:=eq_true h1
  have c2:(-32768 != x)=true:=by simp;omega
  rw [e1]
  clear h1 e1 HV
  go_enter Tryz.func87,Tryz.ntmps87
  go_wp2_with (go_at_call 41;(with_reducible refine (sat_Bits.calls 0 15 0 _ HS.out).mono ?_);rintro e w' ⟨rfl,⟨nd,rfl⟩⟩)
  go_quiet (fail)
  go_wp2
  go_ret3
  exact ⟨congrArg (fun b=>Ending.returned (.tuple #[.int .i64 (-32768),.bool b,.int .i64 0])) c2.symm,⟨⟨_,rfl⟩⟩⟩
 ·by_cases h2:x > 32767
  ·have e1:zcm x 0=32767:=by rw [HV.out,if_neg h1,if_pos h2]
   have c1:(x < -32768)=False:=eq_false h1
   have c2:(32767 < x)=True:=eq_true h2
   have c3:(32767 != x)=true:=by simp;omega
   rw [e1]
   clear h1 e1 HV h2
   go_enter Tryz.func87,Tryz.ntmps87
   go_wp2_with (go_at_call 41;(with_reducible refine (sat_Bits.calls 0 15 0 _ HS.out).mono ?_);rintro e w' ⟨rfl,⟨nd,rfl⟩⟩)
   go_quiet (fail)
   go_wp2
   go_ret3
   exact ⟨congrArg (fun b=>Ending.returned (.tuple #[.int .i64 32767,.bool b,.int .i64 0])) c3.symm,⟨⟨_,rfl⟩⟩⟩
  ·have e1:zcm x 0=x:=by rw [HV.out,if_neg h1,if_neg h2]
   have c1:(x < -32768)=False:=eq_false h1
   have c2:(32767 < x)=False:=eq_false h2
   rw [e1]
   clear h1 e1 HV h2
   go_enter Tryz.func87,Tryz.ntmps87
   go_wp2_with (go_at_call 41;(with_reducible refine (sat_Bits.calls 0 15 0 _ HS.out).mono ?_);rintro e w' ⟨rfl,⟨nd,rfl⟩⟩)
   go_quiet (fail)
   go_wp2
   go_ret3
   exact ⟨congrArg (fun b=>Ending.returned (.tuple #[.int .i64 x,.bool b,.int .i64 0])) (show false=(x != x) by simp),⟨⟨_,rfl⟩⟩⟩
end Go.Proofs.YteieahbadclppaaGreat.P

namespace Go.Proofs.YteieahbadclppaaGreat.P
open Go.RowKit Go.Proofs.YteieahbadclppaaGreatW.PrintWords Go.Proofs.YteieahbadclppaaGreatW.PrintLast Go.Proofs.YteieahbadclppaaGreatW.PrintMore
attribute [local go_sem] zI zJ zO zP zX zY z8 z9
set_option linter.unusedVariables false
set_option linter.unusedSimpArgs false
end Go.Proofs.YteieahbadclppaaGreat.P

