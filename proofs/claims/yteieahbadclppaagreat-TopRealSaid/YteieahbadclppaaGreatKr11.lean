/- Part 11 of 36 of the proof: the texts that it reaches, one behind the other. No condition. -/
import Derived.Test.YteieahbadclppaaGreatKr10
import Derived.WalkSpells
import Derived.RangeFuncNested
import Derived.RangeFuncBound
import Derived.RangeFuncCalls
import Derived.RangeFuncLeaves
import Derived.RangeFuncBox
import Derived.Shelf.Abstract
import Derived.WalkKit
import Derived.OwnWalkIn
import Derived.TacticsInMore
import Derived.LoopNIn
import Derived.LoopIn
import Derived.RegionIn
import Derived.Outline
import Derived.Lib.Hide
import Derived.Maps.AppendAt
import Derived.OrdersIn
import Derived.OrdersHeld
namespace Go.Proofs.YteieahbadclppaaGreat.P
open Go.RowKit Go.Proofs.YteieahbadclppaaGreatW.PrintWords Go.Proofs.YteieahbadclppaaGreatW.PrintLast Go.Proofs.YteieahbadclppaaGreatW.PrintMore
attribute [local go_sem] zF zG zK zL zY zZ z9 zaa
set_option linter.unusedVariables false
set_option linter.unusedSimpArgs false
def api_Cx_79a.f (l0:List (S38)):Option ((List (S38))):=(some (([]:List (S38)):List (S38))).bind fun y215=>(if y215.length+l0.length < 8796093022208 then (some (y215++l0)) else (none))
set_option maxHeartbeats 8000000 in
set_option maxRecDepth 100000 in
theorem api_Cx_79a.calls (A0:Option Addr) (c0:Nat) (l0:List (S38)) (r:List (S38)) (w:World) (hr0:Kd.C k38 w A0 l0.length l0) (hc0:l0.length≤c0) (hA:A0.isNone=false) (h:api_Cx_79a.f l0=some r) :
  Calls Tryz.prog 79 #[.slice A0 l0.length c0] w fun e w'=>∃v0_:Value,e=.returned (v0_)∧Kd.R k38 38 w' w.heap.size (fun _=>True) v0_ r∧Below w.heap.size w w':=by
 have HR0:=Aside0.mk hr0
 have HC0:=Aside0.mk hc0
 clear hr0 hc0
 have HB:=Aside0.mk (Below.refl w.heap.size w)
 have H:((some (([]:List (S38)):List (S38))).bind fun y215=>(if y215.length+l0.length < 8796093022208 then (some (y215++l0)) else (none)))=some r:=h
 clear h
 obtain ⟨y215,hy215⟩:∃y_:List (S38),y_=(([]:List (S38))):=⟨_,rfl⟩
 replace H:(if y215.length+l0.length < 8796093022208 then (some (y215++l0)) else (none))=some r:=by first | (rw [hy215];with_reducible exact H) | (have H2_:=(Option.bind_some _ _).symm.trans H;rw [hy215];with_reducible exact H2_) | (have H2_:=(Option.bind_some _ _).symm.trans H;with_reducible exact H2_) | with_reducible exact H | (rw [hy215];exact H) | exact H
 have Ny215:=Aside0.mk hy215
 clear hy215
 by_cases c2:y215.length+l0.length < 8796093022208
 ·rw [if_pos c2] at H
  have LMc2:=Aside0.mk c2
  clear c2
  obtain ⟨y218,hy218⟩:∃y_:List (S38),y_=(y215++l0):=⟨_,rfl⟩
  replace H:(some y218)=some r:=by first | (rw [hy218];with_reducible exact H) | (have H2_:=(Option.bind_some _ _).symm.trans H;rw [hy218];with_reducible exact H2_) | (have H2_:=(Option.bind_some _ _).symm.trans H;with_reducible exact H2_) | with_reducible exact H | (rw [hy218];exact H) | exact H
  have Ny218:=Aside0.mk hy218
  clear hy218
  obtain rfl:=Option.some.inj H
  have hsn:=fun W:World=>Lib.run_eql_slice_nil (P:=Tryz.prog) W 22 38 A0 l0.length c0 0 0 Tryz.underlying22
  go_enter Tryz.func79,Tryz.ntmps79
  go_wp2_with (first | ((with_reducible refine zf (N:=5) rfl ?_);refine Kd.R_lit k38 _ 38 ?hg (N:=5) ?hd (xs:=([]:List (S38))) (inner:=[]) (ok:=fun _=>True) (okp:=fun _=>True) ?hr ?hp (fun _ hk=>hk) trivial (Below.refl _ _) (Nat.le_refl _) (by simp) ?_;(case hd=>rfl);(case hg=>rfl);(case hr=>first | (go_simp;done) | (go_simp;rfl));(case hp=>exact (zat.none _ _));intro v216 w3 ho4 hb hg_ hnew_;clear hg_ hnew_;(first | rw [← Ny215.out] at ho4 | (simp only [Int.reduceToNat] at ho4;rw [← Ny215.out] at ho4));have n0_:=Aside0.mk (Kd.R_lower ho4 (zi (by repeat (first | (with_reducible first | exact HB.out | apply ze | apply zc | apply zg) | exact HB.out))));have n1_:=Aside0.mk (zb (by repeat (first | (with_reducible first | exact HB.out | apply ze | apply zc | apply zg) | exact HB.out)) hb);clear HB;have I:=n0_;have HB:=n1_;clear n0_ n1_;clear hb ho4) | ((with_reducible refine zaw (b:=.append) (xs:=#[.tmp 5,.tmp 6]) rfl ?_);at_builtin;refine Kd.R_append_rows k38 (w0:=w) w.heap.size rfl (.tmp 5) (.tmp 6) 22 38 (.agg #[(.int .i64 0),(.int .i64 0)]) 16 rfl Tryz.underlying22 zbF rfl (by decide) (by omega) v216 y215 l0 _ _ _ (fun _=>True) (fun _=>False) rfl rfl ?aO ?aR (fun _ _ h=>h) (fun _ h=>h.elim) ?aF ?aB ?aS ?aL ?_;(case aR=>repeat (first | exact (Kd.C_below HR0.out HB.out) | (with_reducible refine Kd.C_alloc ?_ _) | (with_reducible refine Kd.C_drewN ?_ _) | (with_reducible refine Kd.C_drew ?_)));(case aB=>exact (by repeat (first | (with_reducible first | exact HB.out | apply ze | apply zc | apply zg) | exact HB.out)));(case aF=>exact (fun _ _=>trivial));(case aO=>exact (by (with_reducible repeat (first | apply Kd.R_alloc | apply Kd.R_drewN | apply Kd.R_drew));exact I.out));(case aS=>exact (zi (by repeat (first | (with_reducible first | exact HB.out | apply ze | apply zc | apply zg) | exact HB.out))));(case aL=>have:=LMc2.out;omega);intro v219 w5 ho hb hg hat;rw [← Ny218.out] at ho;have n0_:=Aside0.mk (hb);have n1_:=Aside0.mk (ho);clear HB;clear I;have HB:=n0_;have aA:=n1_;clear n0_ n1_;clear ho hb hg hat))
  go_ret
  exact ⟨_,by first | rfl | (simp [zq,zt] <;> rfl) | (simp [*,zq,zt] <;> rfl),by (with_reducible repeat (first | apply Kd.R_alloc | apply Kd.R_drewN | apply Kd.R_drew));exact aA.out,by repeat (first | (with_reducible first | exact HB.out | apply ze | apply zc | apply zg) | exact HB.out)⟩
 ·rw [if_neg c2] at H
  exact absurd H (by simp)
set_option maxHeartbeats 8000000 in
set_option maxRecDepth 100000 in
theorem zgR (c0:Nat) (w:World) :
  Calls Tryz.prog 79 #[.slice none 0 c0] w fun e w'=>∃v0_:Value,e=.returned (v0_)∧Kd.R k38 38 w' w.heap.size (fun _=>True) v0_ []∧Below w.heap.size w w':=by
 have hsn:=fun W:World=>Lib.run_eql_slice_nil (P:=Tryz.prog) W 22 38 none 0 c0 0 0 Tryz.underlying22
 go_enter Tryz.func79,Tryz.ntmps79
 go_wp2
 go_ret
 exact ⟨_,rfl,Kd.R_nil _ _ _ _ _,Below.refl _ _⟩
def api_Cx_79.f (l0:List (S38)):Option (List (S38)):=api_Cx_79a.f l0
theorem api_Cx_79.calls (A0:Option Addr) (c0:Nat) (l0:List (S38)) (r:List (S38)) (w:World) (hr0:Kd.C k38 w A0 l0.length l0) (hc0:l0.length≤c0) (h:api_Cx_79.f l0=some r) :
  Calls Tryz.prog 79 #[.slice A0 l0.length c0] w fun e w'=>∃v0_:Value,e=.returned (v0_)∧Kd.R k38 38 w' w.heap.size (fun _=>True) v0_ r∧Below w.heap.size w w':=by
 cases A0 with
 | some ad=>exact api_Cx_79a.calls (some ad) c0 l0 r w hr0 hc0 rfl h
 | none =>
  have hl:l0=[]:=by
   cases l0 with
   | nil=>rfl
   | cons x xs=>obtain ⟨ad,e,_⟩:=hr0.2.2 (by simp);cases e
  subst hl
  have hr:r=[]:=by
   unfold api_Cx_79.f api_Cx_79a.f at h
   simpa using h.symm
  subst hr
  exact zgR c0 w

end Go.Proofs.YteieahbadclppaaGreat.P

namespace Go.Proofs.YteieahbadclppaaGreat.P
open Go.RowKit Go.Proofs.YteieahbadclppaaGreatW.PrintWords Go.Proofs.YteieahbadclppaaGreatW.PrintLast Go.Proofs.YteieahbadclppaaGreatW.PrintMore
attribute [local go_sem] zF zG zK zL
set_option linter.unusedVariables false
set_option linter.unusedSimpArgs false
set_option maxRecDepth 100000 in
set_option maxHeartbeats 4000000 in
def zc7 (x:S38):Bool:=decide (-32768≤x.f0∧x.f0≤32767∧-32768≤x.f1∧x.f1≤32767)
theorem zj3 {x:Int} (h0:-32768≤x) (h1:x≤32767):zcm x 0=x:=by
 unfold zcm
 rw [if_pos rfl,if_neg (by omega),if_neg (by omega)]
theorem zho {x:Int} (h0:-32768≤x) (h1:x≤32767) (w:World):Calls Tryz.prog 87 #[.int .i64 x,.int .i64 0] w fun e w'=>e=.returned (.tuple #[.int .i64 x,.bool false,.int .i64 0])∧∃n,w'=w.drewN n:=by
 have h:=zmt x w
 rw [zj3 h0 h1] at h
 have e:(x != x)=false:=by simp
 rw [e] at h
 exact h.mono fun e w' hh=>⟨hh.1,hh.2.out⟩
theorem zgc {x:S38} (h:zc7 x=true):-32768≤x.f0∧x.f0≤32767∧-32768≤x.f1∧x.f1≤32767:=of_decide_eq_true h
theorem zeF (l:List S38) (k:Nat) (h:k < l.length):zk l k∈l:=by
 unfold zk
 rw [Int.toNat_natCast,List.getD_eq_getElem?_getD,List.getElem?_eq_getElem h]
 exact List.getElem_mem h
theorem zle (g n:Nat):(⟨g,0,none⟩:Addr).add n=⟨g,n,none⟩:=by
 unfold Addr.add
 split
 ·next h=>rw [h]
 ·rw [Nat.zero_add]
theorem zbc {e base:Nat} {ok:Nat→Prop} {w:World} {g n cap:Nat} {xs:List S38} (h:Kd.R k38 e w base ok (.slice (some ⟨g,0,none⟩) n cap) xs) (k:Nat) (hk:k < xs.length) :
  w.cell? ⟨g,k*2,none⟩=some (.int .i64 (zk xs k).f0)∧w.cell? ⟨g,k*2+1,none⟩=some (.int .i64 (zk xs k).f1):=by
 obtain ⟨ad,had,h0,h1⟩:=zag (R_C h).2 (k:Int) (by omega) (by omega)
 cases had
 rw [Int.toNat_natCast,zle] at h0 h1
 exact ⟨h0,h1⟩
section
variable {P:Program} {ops:Array Oper} {rest:List Oper} {o:Oper} {a:Act} {Q:Exit→Act→World→Prop}
theorem zj4 {w0 W:World} (base:Nat) (hN:o.dst=none) (hgd:o.guard=none) (p x:Operand) (ho:o.op=.store 3 p x) {g n cap:Nat} (i:Nat) (xs:List S38) (y:S38) (u:Int)
  (haddr:a.eval p=.pointer (some ⟨g,i*2,none⟩)) (hx:a.eval x=.int .i64 u) (ht:(P.info? 3).map (·.size)=some 1)
  (HO:Kd.R k38 38 W base (fun _=>True) (.slice (some ⟨g,0,none⟩) n cap) xs) (hi:i < n) (hy:y=⟨u,(xs.getD i z38).f1⟩) (HB:Below base w0 W)
  (h:∀w1,Kd.R k38 38 w1 base (fun _=>True) (.slice (some ⟨g,0,none⟩) n cap) (xs.set i y)→Below base w0 w1→W.grownBy w1 (some g)→wpList P ops Q rest (a.put o.dst undef) w1):wpList P ops Q (o :: rest) a W:=by
 rw [hN] at h
 obtain ⟨c,hcl,hM,hcc,hfr⟩:=Kd.R_elem HO z38 (i:Int) (by omega) (by omega)
 obtain rfl:=zbk hM
 subst hy
 refine Kd.R_store k38 base hN hgd 3 p x ho 38 (i:Int) 0 xs ⟨u,(xs.getD i z38).f1⟩ (.int .i64 u) [.int .i64 u] _ (fun _=>True) (fun _=>False) haddr (by rw [Int.toNat_natCast];rfl) hx rfl ht (by simp [Value.oneCell']) HO (by omega) (by omega) hcl hcc (Nat.le_of_ble_eq_true rfl) ?_ (fun _ h=>h.elim) HB ?_
 ·rw [Int.toNat_natCast]
  exact zaA W base _ ⟨u,(xs.getD i z38).f1⟩
 intro w1 h1 h2 h3
 rw [Int.toNat_natCast] at h1
 exact h w1 h1 h2 h3
theorem zj5 {w0 W:World} (base:Nat) (hN:o.dst=none) (hgd:o.guard=none) (p x:Operand) (ho:o.op=.store 3 p x) {g n cap:Nat} (i:Nat) (xs:List S38) (y:S38) (u:Int)
  (haddr:a.eval p=.pointer (some ⟨g,i*2+1,none⟩)) (hx:a.eval x=.int .i64 u) (ht:(P.info? 3).map (·.size)=some 1)
  (HO:Kd.R k38 38 W base (fun _=>True) (.slice (some ⟨g,0,none⟩) n cap) xs) (hi:i < n) (hy:y=⟨(xs.getD i z38).f0,u⟩) (HB:Below base w0 W)
  (h:∀w1,Kd.R k38 38 w1 base (fun _=>True) (.slice (some ⟨g,0,none⟩) n cap) (xs.set i y)→Below base w0 w1→W.grownBy w1 (some g)→wpList P ops Q rest (a.put o.dst undef) w1):wpList P ops Q (o :: rest) a W:=by
 rw [hN] at h
 obtain ⟨c,hcl,hM,hcc,hfr⟩:=Kd.R_elem HO z38 (i:Int) (by omega) (by omega)
 obtain rfl:=zbk hM
 subst hy
 refine Kd.R_store k38 base hN hgd 3 p x ho 38 (i:Int) 1 xs ⟨(xs.getD i z38).f0,u⟩ (.int .i64 u) [.int .i64 u] _ (fun _=>True) (fun _=>False) haddr (by rw [Int.toNat_natCast];rfl) hx rfl ht (by simp [Value.oneCell']) HO (by omega) (by omega) hcl hcc (Nat.le_of_ble_eq_true rfl) ?_ (fun _ h=>h.elim) HB ?_
 ·rw [Int.toNat_natCast]
  exact zaA W base _ ⟨(xs.getD i z38).f0,u⟩
 intro w1 h1 h2 h3
 rw [Int.toNat_natCast] at h1
 exact h w1 h1 h2 h3
end
theorem zbP:(Tryz.prog.info? 3).map (·.size)=some 1:=by kernel_rfl
theorem zlf (l:List S38) (k:Nat) (h:k < l.length):l.set k (zk l k)=l:=by
 unfold zk
 rw [Int.toNat_natCast,List.getD_eq_getElem?_getD,List.getElem?_eq_getElem h]
 simp
set_option maxRecDepth 100000 in
set_option maxHeartbeats 4000000 in
theorem zjc (p1 p2 p4 b:Int) (p5:Bool) (Aw:Option Addr) (wn cw:Nat) (A:Option Addr) (c:Nat) (l:List S38) (w:World) (hr:Kd.C k38 w A l.length l) (hc:l.length≤c) (hn0:0 < l.length) (hl:l.length≤64) (hx:∀x,x∈l→zc7 x=true) :
  Calls Tryz.prog 52 #[.agg #[.int .i64 0,.int .i64 p1,.int .i64 p2,.int .i64 2,.int .i64 p4,.bool p5,.iface 100 (.agg #[]),.int .i64 b,.slice Aw wn cw],.slice A l.length c] w fun e w'=>∃A' c',e=.returned (.tuple #[.slice A' l.length c',.bool false])∧Kd.R k38 38 w' w.heap.size (fun _=>True) (.slice A' l.length c') l∧Below w.heap.size w w':=by
 have HCL:=hhd (show api_Cx_79.f l=some l by unfold api_Cx_79.f api_Cx_79a.f;rw [Option.bind_some,if_pos (by simp;omega)];rfl)
 have HR:=hhd hr
 have HC:=hhd hc
 have HX:=hhd hx
 have HNE:=hhd hn0
 have bC:=hhd (Below.refl w.heap.size w)
 clear hr hc hx
 go_enter Tryz.func52,Tryz.ntmps52
 go_wp2_with (first
  | ((with_reducible refine zf (N:=2) rfl ?_);refine bb_ 2 rfl bC #[.int .i64 0,.int .i64 p1,.int .i64 p2,.int .i64 2,.int .i64 p4,.bool p5,.iface 100 (.agg #[]),.int .i64 b,.slice Aw wn cw] 56 ?_;intro g2 W1 hg bD L2 aC I;have bB:=zc_ HR I;obtain ⟨aD,aE,aG,aH,aI,aJ,aK,aM,aN⟩:=bk9 aC;clear bD hg)
  | (go_at_call 79;(with_reducible refine (api_Cx_79.calls A c l l _ bB.out HC.out HCL.out).mono ?_);rintro e W2 ⟨v20,rfl,ho,hb⟩;obtain ⟨g,cap,hv,hg1,hg2,_⟩:=Kd.R_form ho HNE.out;subst hv;have Rout:=hhd (Kd.R_lower ho (zi I));have aA:=zs_ I hb;have aQ:=za_ aC hb;have bK:=zc_ HR aA;obtain ⟨aT,aU,aV,aW,aX,aY,aZ,a7,a8⟩:=bk9 aQ;clear aD aE aG aH aI aJ aK aM aN;clear hb ho hg1 hg2))
 go_loopw [7,20] (fun s7 s20 wr=>∃k:Nat,k≤l.length∧s20=.int .i64 k∧s7=.bool false∧wr.heap[g2]?=some (.cells #[.int .i64 0,.int .i64 p1,.int .i64 p2,.int .i64 2,.int .i64 p4,.bool p5,.iface 100 (.agg #[]),.int .i64 b,.slice Aw wn cw] 56 (0,0))∧Kd.R k38 38 wr w.heap.size (fun _=>True) (.slice (some ⟨g,0,none⟩) l.length cap) l∧Below w.heap.size w wr) (fun _ i _=>l.length - (intOf i).toNat)
 case atStart=>exact ⟨0,by omega,rfl,rfl,aQ.out,Rout.out,aA.out⟩
 case round =>
  obtain ⟨k,hk,rfl,rfl,hb2,ho,hb⟩:=hrel
  have B2r:=hhd hb2
  have HOr:=hhd ho
  have HBr:=hhd hb
  clear ho hb hb2 Rout aA aT aU aV aW aX aY aZ a7 a8
  by_cases hlt:k < l.length
  ·obtain ⟨h0,h1⟩:=zbc HOr.out k hlt
   have k2:=(za B2r 0).trans rfl
   obtain ⟨q0,q1,q2,q3⟩:=zgc (HX.out (zk l k) (zeF l k hlt))
   have HS:=hhd (zlf l k hlt)
   have HY:=hhd (show zk l k=⟨(zk l k).f0,(l.getD k z38).f1⟩ from rfl)
   have HY1:=hhd (show zk l k=⟨(l.getD k z38).f0,(zk l k).f1⟩ from rfl)
   generalize zk l k=y at *
   go_wp2
   go_quiet ((go_at_call 87;exact Calls.quiet_of (zho q0 q1 _)))
   generalize hW:wr.drewN _=W5
   have hb5:Below wr.heap.size wr W5:=by rw [← hW];exact zc (Below.refl _ _) _
   have B5:=za_ B2r hb5
   have bE:=zr_ HOr hb5
   have bF:=zs_ HBr hb5
   have h05:=(hb5.cell (World.block_lt_of_cell? _ _ h0)).trans h0
   have h15:=(hb5.cell (World.block_lt_of_cell? _ _ h1)).trans h1
   have k25:=(za B5 0).trans rfl
   clear hb5 hW h0 h1 k2
   go_wp2
   go_quiet ((go_at_call 87;exact Calls.quiet_of (zho q2 q3 _)))
   generalize hW:W5.drewN _=W6
   have hb6:Below W5.heap.size W5 W6:=by rw [← hW];exact zc (Below.refl _ _) _
   have B6:=za_ B5 hb6
   have a9:=zr_ bE hb6
   have bG:=zs_ bF hb6
   have h06:=(hb6.cell (World.block_lt_of_cell? _ _ h05)).trans h05
   have h16:=(hb6.cell (World.block_lt_of_cell? _ _ h15)).trans h15
   have k26:=(za B6 0).trans rfl
   clear hb6 hW h05 h15 k25
   go_wp2_with (first
    | ((with_reducible refine zo (t:=3) (p:=62) rfl ?_);refine zj4 (w0:=w) w.heap.size rfl rfl _ _ rfl k l y y.f0 ?ha rfl zbP a9.out hlt HY.out bG.out ?_;(case ha=>first | rfl | go_simp);intro W7 ho hb hg;rw [HS.out] at ho;have bA:=hhd ho;have bH:=hhd hb;have B7:=hhd ((hg.block g2 (zj B6) (Kd.R_ne a9.out B6.out (by decide))).trans B6.out);clear ho hb hg)
    | ((with_reducible refine zo (t:=3) (p:=64) rfl ?_);refine zj5 (w0:=w) w.heap.size rfl rfl _ _ rfl k l y y.f1 ?ha rfl zbP bA.out hlt HY1.out bH.out ?_;(case ha=>first | rfl | go_simp);intro W8 ho hb hg;rw [HS.out] at ho;have bI:=hhd ho;have bJ:=hhd hb;have B8:=hhd ((hg.block g2 (zj B7) (Kd.R_ne bA.out B7.out (by decide))).trans B7.out);clear ho hb hg))
   go_roundw
   case rel=>exact ⟨k+1,by omega,by go_num,rfl,B8.out,bI.out,bJ.out⟩
   case measure=>simp [intOf];omega
  ·obtain rfl:k=l.length:=by omega
   go_wp2
   go_ret2
   exact ⟨_,_,rfl,HOr.out,HBr.out⟩
end Go.Proofs.YteieahbadclppaaGreat.P

namespace Go.Proofs.YteieahbadclppaaGreat.P
open Go.RowKit Go.Proofs.YteieahbadclppaaGreatW.PrintWords Go.Proofs.YteieahbadclppaaGreatW.PrintLast Go.Proofs.YteieahbadclppaaGreatW.PrintMore
set_option linter.unusedVariables false
set_option linter.unusedSimpArgs false
section
variable {P:Program} {ops:Array Oper} {Q:Exit→Act→World→Prop} {md:Region.Mode}
theorem zgS {l n:Nat} {f:FuncId} {args:Array Value} {w:World} {R:Ending→World→Prop} (h:Calls P f args w R):CallsIn (Fence.wide.inRound l) n P f args w R :=
 let g:CallsIn Fence.wide n P f args w R:=callsIn_wide.2 h
 ⟨trivial,fun cs hr=>g.2 cs (room_wide _)⟩
theorem zhp {l n:Nat} {row:String} {args:Array Value} {w:World} {R:Value→World→Prop} (h:Rows P row args w R):RowsIn (Fence.wide.inRound l) n P row args w R :=
 fun c cs _=>let ⟨v,w',r,s⟩:=h c cs;⟨v,w',r,(stepsIn_wide (P:=P)).2 s⟩
theorem zeG {l n:Nat} {o:Oper} {a:Act} {w:World} {K:Act→World→Prop} (hd:∀c,o.op≠.defer c) (h:o.wp P a w K Q):o.wpIn (Fence.wide.inRound l) n P a w K Q:=by
 refine ⟨fun _ _=>trivial,?_⟩
 rw [show (Fence.wide.inRound l).round=some l from rfl,Oper.semAt_some l _ o hd]
 unfold Oper.wp at h
 generalize (execOp a.eval o).run P w=r at *
 cases r with
 | ok x w' =>
  cases x <;> simp only [Oper.upon,Oper.uponIn] at h ⊢ <;>
   first
    | exact h
    | exact ⟨fun h0=>absurd h0 (by simp [Fence.inRound,Fence.wide]),(zgS h).mono (fun e w2 he=>by cases e <;> exact he)⟩
    | exact ⟨fun h0=>absurd h0 (by simp [Fence.inRound,Fence.wide]),zhp h⟩
    | exact h.elim
 | halt x w'=>cases x <;> simp only [Oper.upon,Oper.uponIn] at h ⊢ <;> exact h
theorem zcX {l n:Nat} (hd:∀(i:Nat) (o:Oper) c,ops[i]?=some o→o.op≠.defer c) (hL:¬LetsOut Q):∀(fuel:Nat) (listed:Array Bool) (a:Act) (w:World),wpAny P md ops Q fuel listed a w→wpAnyIn (Fence.wide.inRound l) n P md ops Q fuel listed a w
 | 0,_,_,_,h=>h
 | fuel+1,listed,a,w,h=>by
  refine ⟨h.1,fun i hi=>?_⟩
  have h2:=h.2 i hi
  unfold wpOp at h2
  unfold wpOpIn
  cases ho:ops[i]? with
  | none=>rw [ho] at h2;exact zcX hd hL fuel _ _ _ h2
  | some o =>
   rw [ho] at h2
   dsimp only at h2 ⊢
   by_cases hw:Region.wanted o (yielded ops a.tmps)=true
   ·rw [if_pos hw] at h2 ⊢
    rcases h2 with h3 | h3
    ·exact zeG (fun c=>hd i o c ho) (Oper.wp_mono (fun a' w'=>zcX hd hL fuel _ a' w') h3)
    ·exact absurd h3.2 hL
   ·rw [if_neg hw] at h2 ⊢
    exact ⟨fun _ _=>trivial,zcX hd hL fuel _ _ _ h2⟩
def zcF (o:Oper):Bool:=match o.op with | .defer _=>false | _=>true
theorem ze1 {S:World→Prop} {ds:List Nat} {id n l m:Nat} {a:Act} {w:World} (fl:Array Bool) (hm:P.follows .mixedOrders=true) (hn:ops.size=m) (hl:Array.replicate m false=fl) (hd:ops.all zcF=true) (hL:¬LetsOut Q) (hS:S w.drew)
  (h:S w.drew→zC P .any ops Q S ds m fl a w.drew):(Code.region id ops true).wpIn (Fence.wide.inRound l) n P Q a w:=by
 subst hn
 subst hl
 refine wpIn_region_draw fun t=>?_
 simp only [Region.schedule,hm,Bool.true_or,if_true]
 refine wpAnyIn_sound ops.size t _ a _ (zcX (fun i o c ho hc=>?_) hL _ _ _ _ (zc6 _ _ _ _ (h hS)))
 have h1:=(Array.all_eq_true.1 hd) i (Array.getElem?_eq_some_iff.1 ho).1
 rw [(Array.getElem?_eq_some_iff.1 ho).2] at h1
 unfold zcF at h1
 rw [hc] at h1
 cases h1
end
end Go.Proofs.YteieahbadclppaaGreat.P

namespace Go.Proofs.YteieahbadclppaaGreat.P
open Go.RowKit Go.Proofs.YteieahbadclppaaGreatW.PrintWords Go.Proofs.YteieahbadclppaaGreatW.PrintLast Go.Proofs.YteieahbadclppaaGreatW.PrintMore
open Go.Proofs.YteieahbadclppaaGreatW.PrintLast.Region
set_option linter.unusedVariables false
set_option linter.unusedSimpArgs false
section
variable {n0:Nat} {P:Program} {ops:Array Oper} {Q:Exit→Act→World→Prop} {md:Go.Region.Mode} {S:World→Prop} {ds:List Nat}
theorem zbQ {i:Nat} {o:Oper} {v:Value} {a:Act} (hi:ops[i]?=some o) (hy:YieldsIf P ops S o v a) {K:Act→World→Prop} {w:World} (hS:S w) (h:K (a.put o.dst v) w):wpOpIn Fence.wide n0 P ops Q i K a w:=by
 unfold wpOpIn
 simp only [hi]
 rcases hy with ⟨hw,hv⟩ | ⟨hw,rfl⟩
 ·rw [if_pos hw]
  refine ⟨fun _ _=>trivial,?_⟩
  rw [show Fence.wide.round=none from rfl,Oper.semAt_none,hv w hS]
  exact h
 ·rw [if_neg (by rw [hw];decide)]
  exact ⟨fun _ _=>trivial,h⟩
theorem zhq {o:Oper} {v:Value} {a:Act} (h:YieldsIf P ops (fun _=>True) o v a):Yields P ops o v a:=h.imp (fun ⟨hw,hv⟩=>⟨hw,fun w=>hv w trivial⟩) id
theorem zhr {j:Nat} {oj:Oper} (hj:ops[j]?=some oj) {K:Act→World→Prop} {a:Act} {w:World} (h:wpOpIn Fence.wide n0 P ops Q j K a w) :
  wpOpIn Fence.wide n0 P ops Q j (fun a' w'=>(∃u,a'=a.put oj.dst u∨∃d:Deferred,a'=({ a with defers:=d :: a.defers }:Act).put oj.dst u)∧K a' w') a w:=by
 unfold wpOpIn at *
 simp only [hj] at *
 by_cases hw:Region.wanted oj (yielded ops a.tmps)=true
 ·rw [if_pos hw] at h ⊢
  refine ⟨h.1,?_⟩
  have h2:=h.2
  generalize (oj.semAt Fence.wide.round a.eval).run P w=r at *
  cases r with
  | ok x w' =>
   cases x <;> simp only [Oper.uponIn] at h2 ⊢
   case value u=>exact ⟨⟨u,.inl rfl⟩,h2⟩
   case skip=>exact ⟨⟨undef,.inl rfl⟩,h2⟩
   case defer d=>exact ⟨⟨undef,.inr ⟨d,rfl⟩⟩,h2⟩
   case enter f args=>exact ⟨h2.1,CallsIn.mono h2.2 fun e w2 he=>by cases e <;> first | exact ⟨⟨_,.inl rfl⟩,he⟩ | exact he⟩
   case row row args=>exact ⟨h2.1,RowsIn.mono h2.2 fun u w2 he=>⟨⟨u,.inl rfl⟩,he⟩⟩
   case round l f tmps assign body=>exact ⟨h2.1,RoundIn.mono h2.2 fun e w2 he=>by cases e <;> first | exact ⟨⟨_,.inl rfl⟩,he⟩ | exact he⟩
  | halt x w'=>cases x <;> simp only [Oper.uponIn] at h2 ⊢ <;> exact h2
 ·rw [if_neg hw] at h ⊢
  exact ⟨h.1,⟨undef,.inl rfl⟩,h.2⟩
theorem zeH {j:Nat} {oi oj:Oper} {v:Value} (hj:ops[j]?=some oj) (hap:oi.apart ops oj=true)
  (hsi:∀cs b,oi.op≠.select cs b) (hsj:∀cs b,oj.op≠.select cs b)
  (hQ:∀c a w,Q (.panic c) (a.put oi.dst v) w→Q (.panic c) a w) {K:Act→World→Prop} {a:Act} {w:World}
  (hy:YieldsIf P ops S oi v a) (h:wpOpIn Fence.wide n0 P ops Q j K (a.put oi.dst v) w) :
  wpOpIn Fence.wide n0 P ops Q j (fun a' w'=>YieldsIf P ops S oi v a'∧K (a'.put oi.dst v) w') a w:=by
 obtain ⟨h1,h2,h3⟩:=Oper.apart_spec hap
 have hap2:({ oi with op:=.move (.const v),guard:=none }:Oper).apart ops oj=true:=by
  have hl:({ oi with op:=.move (.const v),guard:=none }:Oper).looksAt ops=[]:=rfl
  unfold Oper.apart at hap ⊢
  rw [hl]
  revert hap
  cases oi.dst <;> cases oj.dst <;> simp <;> (intro q1 q2 q3;exact ⟨q1,q2⟩)
 have h4:=wpOpIn_put (oi:={ oi with op:=.move (.const v),guard:=none }) (v:=v) rfl hj hap2 (fun cs b=>by simp) hsj hQ ⟨.inl ⟨rfl,fun W=>rfl⟩,fun W=>rfl⟩ h
 refine wpOpIn_mono (fun a' w' h5=>⟨?_,h5.2.2⟩) (zhr hj h4)
 obtain ⟨u,rfl | ⟨d,rfl⟩⟩:=h5.1
 ·exact hy.of_same (execOp_put oi hsi a oj.dst u h3) (wanted_put oi a oj.dst u h3)
 ·exact (hy.of_same (a':={ a with defers:=d :: a.defers }) rfl rfl).of_same (execOp_put oi hsi _ oj.dst u h3) (wanted_put oi _ oj.dst u h3)
def z6 (n0:Nat) (P:Program) (md:Go.Region.Mode) (ops:Array Oper) (Q:Exit→Act→World→Prop) (S:World→Prop) (ds:List Nat):Nat→Array Bool→Act→World→Prop
 | 0,listed,a,w=>Region.ready md ops listed=[]∧Q .normal a w
 | fuel+1,listed,a,w =>
  (Region.ready md ops listed=[]→Q .normal a w) ∧
  ∀i∈Region.ready md ops listed,wpOpIn Fence.wide n0 P ops Q i (fun a' w'=>(i ∉ ds→S w→S w')∧z6 n0 P md ops Q S ds fuel (listed.setIfInBounds i true) a' w') a w

theorem zfm {i:Nat} {oi:Oper} {v:Value} (hi:ops[i]?=some oi) (hsel:∀(j:Nat) (o:Oper) cs b,ops[j]?=some o→o.op≠.select cs b)
  (hQ:∀c a w,Q (.panic c) (a.put oi.dst v) w→Q (.panic c) a w) (n:Nat) :
  ∀(fuel:Nat) (listed:Array Bool) (a:Act) (w:World),
   (∀j oj,ops[j]?=some oj→j≠i→listed.getD j true=false→(∀e∈oj.after,Region.binds md e=true→e.on≠i)→oi.apart ops oj=true) →
   zbd md ops listed→(∀d∈ds,listed.getD d true=false→Region.reachB md ops i n d=true) →
   i∈Region.ready md ops listed→YieldsIf P ops S oi v a→S w →
   z6 n0 P md ops Q S ds fuel (listed.setIfInBounds i true) (a.put oi.dst v) w→z6 n0 P md ops Q S ds (fuel+1) listed a w:=by
 intro fuel
 induction fuel with
 | zero =>
  intro listed a w _ _ _ hr hy hS H
  refine ⟨fun h=>(by rw [h] at hr;cases hr),fun j hj=>?_⟩
  by_cases hji:j=i
  ·subst hji;exact zbQ hi hy hS ⟨fun _ h=>h,H⟩
  ·have:=ready_mono hj hji
   rw [H.1] at this
   cases this
 | succ fuel ih =>
  intro listed a w hfree hc hd hr hy hS H
  refine ⟨fun h=>(by rw [h] at hr;cases hr),fun j hj=>?_⟩
  by_cases hji:j=i
  ·subst hji;exact zbQ hi hy hS ⟨fun _ h=>h,H⟩
  ·have h1:=H.2 j (ready_mono hj hji)
   obtain ⟨hjun,oj,hoj,hall⟩:=mem_ready.1 hj
   have hiun:=(mem_ready.1 hr).1
   have hnot:∀e∈oj.after,Region.binds md e=true→e.on≠i:=fun e he hb heq=>by
    have h1:=hall e he hb
    rw [heq] at h1
    rcases Nat.lt_or_ge i listed.size with h' | h'
    ·simp [h'] at hiun h1;rw [hiun] at h1;cases h1
    ·simp [Array.getElem?_eq_none h'] at h1
   have hjd:j ∉ ds:=fun hm=>Region.reach_not_ready hc (hd j hm hjun) hiun hj
   have h2:=zeH hoj (hfree j oj hoj hji hjun hnot) (fun cs b=>hsel i oi cs b hi) (fun cs b=>hsel j oj cs b hoj) hQ hy h1
   have hfree':∀k ok,ops[k]?=some ok→k≠i→(listed.setIfInBounds j true).getD k true=false →
     (∀e∈ok.after,Region.binds md e=true→e.on≠i)→oi.apart ops ok=true:=fun k ok hk hki hun hno=>by
    refine hfree k ok hk hki ?_ hno
    by_cases hjk:j=k
    ·subst hjk;exact hjun
    ·rw [getD_set_ne true hjk] at hun;exact hun
   have hd':∀d∈ds,(listed.setIfInBounds j true).getD d true=false→Region.reachB md ops i n d=true:=fun d hm hun=>by
    refine hd d hm ?_
    by_cases hjk:j=d
    ·subst hjk;exact hjun
    ·rw [getD_set_ne true hjk] at hun;exact hun
   refine wpOpIn_mono (fun a' w' h3=>⟨h3.2.1,ih (listed.setIfInBounds j true) a' w' hfree' (hc.set hj) hd' (ready_mono hr (Ne.symm hji)) h3.1 (h3.2.1 hjd hS) ?_⟩) h2
   rw [Array.setIfInBounds_comm _ _ hji]
   exact h3.2.2

theorem zgd {i:Nat} {oi:Oper} {v:Value} (hi:ops[i]?=some oi) (hsel:∀(j:Nat) (o:Oper) cs b,ops[j]?=some o→o.op≠.select cs b)
  (hQ:∀c a w,Q (.panic c) (a.put oi.dst v) w→Q (.panic c) a w) :
  ∀(fuel:Nat) (listed:Array Bool) (a:Act) (w:World),
   (∀j oj,ops[j]?=some oj→j≠i→listed.getD j true=false→(∀e∈oj.after,Region.binds md e=true→e.on≠i)→oi.apart ops oj=true) →
   i∈Region.ready md ops listed→Yields P ops oi v a →
   z6 n0 P md ops Q S ds fuel (listed.setIfInBounds i true) (a.put oi.dst v) w→z6 n0 P md ops Q S ds (fuel+1) listed a w:=by
 intro fuel
 induction fuel with
 | zero =>
  intro listed a w _ hr hy H
  refine ⟨fun h=>(by rw [h] at hr;cases hr),fun j hj=>?_⟩
  by_cases hji:j=i
  ·subst hji;exact zbQ hi (hy.yieldsIf (S:=fun _=>True)) trivial ⟨fun _ h=>h,H⟩
  ·have:=ready_mono hj hji
   rw [H.1] at this
   cases this
 | succ fuel ih =>
  intro listed a w hfree hr hy H
  refine ⟨fun h=>(by rw [h] at hr;cases hr),fun j hj=>?_⟩
  by_cases hji:j=i
  ·subst hji;exact zbQ hi (hy.yieldsIf (S:=fun _=>True)) trivial ⟨fun _ h=>h,H⟩
  ·have h1:=H.2 j (ready_mono hj hji)
   obtain ⟨hjun,oj,hoj,hall⟩:=mem_ready.1 hj
   have hiun:=(mem_ready.1 hr).1
   have hnot:∀e∈oj.after,Region.binds md e=true→e.on≠i:=fun e he hb heq=>by
    have h1:=hall e he hb
    rw [heq] at h1
    rcases Nat.lt_or_ge i listed.size with h' | h'
    ·simp [h'] at hiun h1;rw [hiun] at h1;cases h1
    ·simp [Array.getElem?_eq_none h'] at h1
   have h2:=zeH hoj (hfree j oj hoj hji hjun hnot) (fun cs b=>hsel i oi cs b hi) (fun cs b=>hsel j oj cs b hoj) hQ (hy.yieldsIf (S:=fun _=>True)) h1
   have hfree':∀k ok,ops[k]?=some ok→k≠i→(listed.setIfInBounds j true).getD k true=false →
     (∀e∈ok.after,Region.binds md e=true→e.on≠i)→oi.apart ops ok=true:=fun k ok hk hki hun hno=>by
    refine hfree k ok hk hki ?_ hno
    by_cases hjk:j=k
    ·subst hjk;exact hjun
    ·rw [getD_set_ne true hjk] at hun;exact hun
   refine wpOpIn_mono (fun a' w' h3=>⟨h3.2.1,ih (listed.setIfInBounds j true) a' w' hfree' (ready_mono hr (Ne.symm hji)) (zhq h3.1) ?_⟩) h2
   rw [Array.setIfInBounds_comm _ _ hji]
   exact h3.2.2

theorem zfM {i:Nat} {oi:Oper} {v:Value} {fuel:Nat} {listed:Array Bool} {a:Act} {w:World} (hi:ops[i]?=some oi)
  (hs:Region.noSelect ops=true) (hf:Region.free md ops listed i=true) (hr:(Region.ready md ops listed).contains i=true)
  (hc:Region.closedB md ops listed=true) (hl:Region.lastB md ops listed ds i=true)
  (hQ:∀c a w,Q (.panic c) (a.put oi.dst v) w→Q (.panic c) a w) (hy:YieldsIf P ops S oi v a) (hS:S w)
  (h:z6 n0 P md ops Q S ds fuel (listed.setIfInBounds i true) (a.put oi.dst v) w):z6 n0 P md ops Q S ds (fuel+1) listed a w :=
 zfm hi (Region.noSelect_spec hs) hQ ops.size fuel listed a w (Region.free_spec hi hf) (Region.closedB_spec hc)
  (fun d hm hun=>by have:=List.all_eq_true.1 hl d hm;rw [hun] at this;simpa using this) (by simpa using hr) hy hS h

theorem zge {rs:List Nat} {fuel:Nat} {listed:Array Bool} {a:Act} {w:World} (hr:Region.ready md ops listed=rs) (hne:rs≠[])
  (h:∀i∈rs,wpOpIn Fence.wide n0 P ops Q i (fun a' w'=>(i ∉ ds→S w→S w')∧z6 n0 P md ops Q S ds fuel (listed.setIfInBounds i true) a' w') a w):z6 n0 P md ops Q S ds (fuel+1) listed a w :=
 ⟨fun h0=>absurd (hr ▸ h0) hne,hr ▸ h⟩

theorem zfN {listed:Array Bool} {a:Act} {w:World} (hr:Region.ready md ops listed=[]) (h:Q .normal a w) :
  ∀fuel,z6 n0 P md ops Q S ds fuel listed a w
 | 0=>⟨hr,h⟩
 | _+1=>⟨fun _=>h,by rw [hr];simp⟩

def zdd (n0:Nat) (P:Program) (md:Go.Region.Mode) (ops:Array Oper) (Q:Exit→Act→World→Prop) (S:World→Prop) (ds:List Nat) (fuel:Nat) (listed:Array Bool) (a:Act) (w:World) (rs:List Nat):Prop :=
 ∀i∈rs,wpOpIn Fence.wide n0 P ops Q i (fun a' w'=>(i ∉ ds→S w→S w')∧z6 n0 P md ops Q S ds fuel (listed.setIfInBounds i true) a' w') a w
theorem zdd.nil {fuel:Nat} {listed:Array Bool} {a:Act} {w:World}:zdd n0 P md ops Q S ds fuel listed a w []:=fun _ h=>by cases h
theorem zdd.cons_last {fuel:Nat} {listed:Array Bool} {a:Act} {w:World} {i:Nat} {o:Oper} {rs:List Nat} (ho:ops[i]?=some o) (hd:i∈ds)
  (h:∀K':Act→World→Prop,Shut (∀a w,z6 n0 P md ops Q S ds fuel (listed.setIfInBounds i true) a w→K' a w)→if Region.wanted o (yielded ops a.tmps)=true then Oper.wpIn Fence.wide n0 P o a w K' Q else (∀f,o.about P w a.eval=some f→Fence.wide.fn f)∧K' (a.put o.dst undef) w)
  (hs:zdd n0 P md ops Q S ds fuel listed a w rs):zdd n0 P md ops Q S ds fuel listed a w (i :: rs):=fun j hj=>by
 rcases List.mem_cons.1 hj with rfl | hj
 ·exact wpOpIn_step ho (fun K' hK=>h K' (fun a w hW=>hK a w ⟨fun hn=>absurd hd hn,hW⟩))
 ·exact hs j hj
theorem zfn {rs:List Nat} {fuel:Nat} {listed:Array Bool} {a:Act} {w:World} (hr:Region.ready md ops listed=rs) (hne:rs≠[])
  (h:zdd n0 P md ops Q S ds fuel listed a w rs):z6 n0 P md ops Q S ds (fuel+1) listed a w:=zge hr hne h
theorem znb {i:Nat} {N:Option Tmp} {oi:Oper} {v:Value} {fuel:Nat} {l:Array Bool} {a:Act} {w:World} (l':Array Bool) (hi:ops[i]?=some oi) (hN:oi.dst=N) (hc:zdc md ops ds l l' i=true)
  (hQ:∀c a w,Q (.panic c) (a.put oi.dst v) w→Q (.panic c) a w) (hy:YieldsIf P ops S oi v a) (hS:S w) {a':Act} (ha:a.put N v=a')
  (h:z6 n0 P md ops Q S ds fuel l' a' w):z6 n0 P md ops Q S ds (fuel+1) l a w:=by
 subst ha
 subst hN
 simp only [zdc,Bool.and_eq_true,beq_iff_eq] at hc
 obtain ⟨⟨⟨⟨⟨h1,h2⟩,h3⟩,h4⟩,h5⟩,h6⟩:=hc
 subst h6
 exact zfM hi h1 h2 h3 h4 h5 hQ hy hS h
theorem zbm {i:Nat} {N:Option Tmp} {oi:Oper} {v:Value} {fuel:Nat} {l:Array Bool} {a:Act} {w:World} (l':Array Bool) (hi:ops[i]?=some oi) (hN:oi.dst=N) (hc:zez md ops l l' i=true)
  (hQ:∀c a w,Q (.panic c) (a.put oi.dst v) w→Q (.panic c) a w) (hy:Yields P ops oi v a) {a':Act} (ha:a.put N v=a')
  (h:z6 n0 P md ops Q S ds fuel l' a' w):z6 n0 P md ops Q S ds (fuel+1) l a w:=by
 subst ha
 subst hN
 simp only [zez,Bool.and_eq_true,beq_iff_eq] at hc
 obtain ⟨⟨⟨h1,h2⟩,h3⟩,h6⟩:=hc
 subst h6
 exact zgd hi (Region.noSelect_spec h1) hQ fuel l a w (Region.free_spec hi h2) (by simpa using h3) hy h
theorem znc {i:Nat} {N:Option Tmp} {oi:Oper} {fuel:Nat} {l:Array Bool} {a:Act} {w:World} (l':Array Bool) (hi:ops[i]?=some oi) (hN:oi.dst=N) (hc:zb3 md ops l l' i=true) (hd:i∈ds)
  (h:∀K:Act→World→Prop,Shut (∀a' w',z6 n0 P md ops Q S ds fuel l' a' w'→K a' w')→if Region.wanted oi (yielded ops a.tmps)=true then Oper.wpIn Fence.wide n0 P oi a w K Q else (∀f,oi.about P w a.eval=some f→Fence.wide.fn f)∧K (a.put N undef) w) :
  z6 n0 P md ops Q S ds (fuel+1) l a w:=by
 subst hN
 simp only [zb3,Bool.and_eq_true,beq_iff_eq] at hc
 obtain ⟨h1,h2⟩:=hc
 subst h2
 exact zfn h1 (by simp) (zdd.cons_last hi hd (fun K hK=>h K hK) zdd.nil)
theorem zhs {l:Array Bool} {a:Act} {w:World} {n:Nat} (hr:(Region.ready md ops l == [])=true) (h:Q .normal a w):z6 n0 P md ops Q S ds n l a w:=zfN (by simpa using hr) h n

theorem zdu:∀(fuel:Nat) (listed:Array Bool) (a:Act) (w:World),z6 n0 P md ops Q S ds fuel listed a w→wpAnyIn Fence.wide n0 P md ops Q fuel listed a w
 | 0,_,_,_,h=>h
 | fuel+1,_,_,_,h=>⟨h.1,fun i hi=>wpOpIn_mono (fun a' w' h'=>zdu fuel _ a' w' h'.2) (h.2 i hi)⟩
theorem ziB {id n:Nat} {a:Act} {w:World} (l:Array Bool) (hm:P.follows .mixedOrders=true) (hn:ops.size=n) (hl:Array.replicate n false=l) (hS:S w.drew)
  (h:S w.drew→z6 n0 P .any ops Q S ds n l a w.drew):(Code.region id ops true).wpIn Fence.wide n0 P Q a w:=by
 subst hn
 subst hl
 exact wpIn_region_any hm (zdu _ _ _ _ (h hS))
end
end Go.Proofs.YteieahbadclppaaGreat.P

namespace Go.Proofs.YteieahbadclppaaGreat.P
open Go.RowKit Go.Shelf Go.Proofs.YteieahbadclppaaGreatW.PrintWords Go.Proofs.YteieahbadclppaaGreatW.PrintLast Go.Proofs.YteieahbadclppaaGreatW.PrintMore
attribute [local go_sem] Oper.semAt_some
set_option linter.unusedVariables false
set_option linter.unusedSimpArgs false
def zcn (h m:Int) (k:Int):Int:=wrap64 (Go.bits .and .i64 k (wrap64 (h - 1))*m)
def zT (h m:Int):Nat→List (Int×Int)
 | 0=>[]
 | k+1=>if Go.bits .and .i64 k h=0 then zT h m k++[((k:Int),zcn h m k)] else zT h m k
def zdm (A B:Nat) (W W':World):Prop:=W'.heap[A]?=W.heap[A]?∧W'.heap[B]?=W.heap[B]?
theorem zj6 {A B:Nat} {X Y Z:World} (h:zdm A B X Y) (k:zdm A B Y Z):zdm A B X Z:=⟨k.1.trans h.1,k.2.trans h.2⟩
theorem zj7 {A B:Nat} {w:World} (hA:A < w.heap.size) (hB:B < w.heap.size) (W:World) (l:Nat) (o o':Obj) (hl:w.heap.size≤l) (h1:W.heap[l]?=some o) (h2:o.isCells=false) (h3:o.isWalk=false):zdm A B W (W.putObj l o') :=
 ⟨World.putObj_heap_other (by omega),World.putObj_heap_other (by omega)⟩
theorem zgx (h m:Int):∀(k n:Nat),k≤n→zT h m k <+: zT h m n:=by
 intro k n hk
 induction n with
 | zero=>rw [Nat.le_zero.1 hk];exact List.prefix_refl _
 | succ n ih =>
  by_cases e:k=n+1
  ·rw [e];exact List.prefix_refl _
  ·have h1:=ih (by omega)
   rw [show zT h m (n+1)=if Go.bits .and .i64 n h=0 then zT h m n++[((n:Int),zcn h m n)] else zT h m n from rfl]
   split
   ·exact h1.trans (List.prefix_append _ _)
   ·exact h1
theorem zj8 (h m:Int):∀n:Nat,(zT h m n).length≤n:=by
 intro n
 induction n with
 | zero=>exact Nat.le_refl _
 | succ n ih =>
  unfold zT
  split
  ·simp;exact ih
  ·omega
theorem zbq {n0:Nat} {P:Program} {ops:Array Oper} {Q:Exit→Act→World→Prop} {md:Go.Region.Mode} {S:World→Prop} {ds:List Nat} (i:Nat) {oi:Oper} {v:Value} {fuel:Nat} {l:Array Bool} {a:Act} {w:World} {N:Option Tmp} (hi:ops[i]?=some oi) {a':Act} (h:z6 n0 P md ops Q S ds fuel (l.setIfInBounds i true) a' w) (hN:oi.dst=N:=by conv=>lhs;whnf) (hc:zez md ops l (l.setIfInBounds i true) i=true:=by kernel_rfl) (hQ:∀c a w,Q (.panic c) (a.put oi.dst v) w→Q (.panic c) a w:=by exact fun _ _ _ h=>h) (hy:Yields P ops oi v a:=by exact Or.inl ⟨by rfl,by intro w';go_simp;with_reducible rfl⟩) (ha:a.put N v=a':=by simp only [Act.put,zzA,zzB,zzC,zD,zU];rfl):z6 n0 P md ops Q S ds (fuel+1) l a w:=zbm _ hi hN hc hQ hy ha h
theorem zht {n0:Nat} {P:Program} {ops:Array Oper} {Q:Exit→Act→World→Prop} {md:Go.Region.Mode} {S:World→Prop} {ds:List Nat} (i:Nat) {oi:Oper} {v:Value} {fuel:Nat} {l:Array Bool} {a:Act} {w:World} {N:Option Tmp} (hi:ops[i]?=some oi) (hS:S w) (hy:∀w',S w'→(execOp a.eval oi).run P w'=.ok (.value v) w') {a':Act} (h:z6 n0 P md ops Q S ds fuel (l.setIfInBounds i true) a' w) (hN:oi.dst=N:=by conv=>lhs;whnf) (hc:zdc md ops ds l (l.setIfInBounds i true) i=true:=by kernel_rfl) (hQ:∀c a w,Q (.panic c) (a.put oi.dst v) w→Q (.panic c) a w:=by exact fun _ _ _ h=>h) (hw:Region.wanted oi (yielded ops a.tmps)=true:=by rfl) (ha:a.put N v=a':=by simp only [Act.put,zzA,zzB,zzC,zD,zU];rfl):z6 n0 P md ops Q S ds (fuel+1) l a w:=znb _ hi hN hc hQ (Or.inl ⟨hw,hy⟩) hS ha h
set_option maxRecDepth 100000 in
set_option maxHeartbeats 4000000 in
theorem zj9 (n:Nat) (hn:1≤n) (lY Bn Bh:Nat) (nn:Nat) (h m:Int) (hnn:nn≤1000) (hh:0 < h) (hh2:h≤1000) (hm:m=nn / (2*h)) (J Jx:List {p:Int×Int // p∈zT h m nn}→World→Prop)
  (hJb:∀pre W W',J pre W→Below W.heap.size W W'→J pre W')
  (hY:∀pre x W,J pre W→pre.length < nn→YieldAt Fence.wide (n - 1) Tryz.prog lY #[.int .i64 x.1.1,.int .i64 x.1.2] W fun e W' =>
   (e=.returned (.bool true)∧J (pre++[x]) W'∧zdm Bn Bh W W')∨(e=.returned (.bool false)∧Jx (pre++[x]) W'))
  (W:World) (hb1:W.heap[Bn]?=some (.cells #[.int .i64 nn] 3 (0,0))) (hb2:W.heap[Bh]?=some (.cells #[.int .i64 h] 3 (0,0))) (h0:J [] W) :
  CallsIn Fence.wide n Tryz.prog 106 #[.func (.yield lY) #[] #[],.pointer (some ⟨Bn,0,none⟩),.pointer (some ⟨Bh,0,none⟩)] W fun e W'=>(∃v,e=.returned v) ∧
   ((∃ys,ys.map Subtype.val=zT h m nn∧J ys W')∨(∃pre,pre.map Subtype.val <+: zT h m nn∧Jx pre W')):=by
 have k1:W.cell? ⟨Bn,0,none⟩=some (.int .i64 nn):=(za hb1 0).trans rfl
 have hmx:Tryz.prog.follows .mixedOrders=true:=by kernel_rfl
 have e1:wrap64 (2*h)=2*h:=by unfold wrap64;omega
 have e2:(nn:Int).tdiv (2*h)=m:=by rw [hm,Int.tdiv_eq_ediv_of_nonneg (by omega)]
 have m0:0≤m:=by rw [hm];exact Int.ediv_nonneg (by omega) (by omega)
 have m1:m≤1000:=by rw [hm];exact Int.le_trans (Int.ediv_le_self _ (by omega)) (by omega)
 have e3:wrap64 m=m:=by unfold wrap64;omega
 have e4:(2*h=0)=False:=eq_false (by omega)
 have e5:(h=0)=False:=eq_false (by omega)
 clear hm m0 m1
 refine callsIn_of_wp Tryz.func106 rfl trivial ?_ rfl
 simp only [Tryz.ntmps106,List.size_toArray,List.length_cons,List.length_nil,Nat.reduceAdd,Nat.reduceSub,Array.replicate_succ,Array.replicate_zero,List.push_toArray,List.append_toArray,List.nil_append,List.cons_append]
 gi_wp2
 gi_loopw [6] (fun v6 wr=>∃(k:Nat),k≤nn∧v6=.int .i64 k∧(∃pre:List {p:Int×Int // p∈zT h m nn},pre.map Subtype.val=zT h m k∧J pre wr)∧wr.heap[Bn]?=some (.cells #[.int .i64 nn] 3 (0,0))∧wr.heap[Bh]?=some (.cells #[.int .i64 h] 3 (0,0))) (fun v6 _=>nn - (intOf v6).toNat)
 case atStart=>exact ⟨0,by omega,rfl,⟨[],rfl,h0⟩,hb1,hb2⟩
 case round =>
  obtain ⟨k,hk,rfl,⟨pre,hpre,hJk⟩,hc1,hc2⟩:=hrel
  have HP:=hhd hpre
  have HJ:=hhd hJk
  have C1:=hhd hc1
  have C2:=hhd hc2
  have k1:wr.cell? ⟨Bn,0,none⟩=some (.int .i64 nn):=(za hc1 0).trans rfl
  have k2:wr.cell? ⟨Bh,0,none⟩=some (.int .i64 h):=(za hc2 0).trans rfl
  clear hJk hc1 hc2 h0 hb1 hb2 hpre
  by_cases hlt:k < nn
  ·by_cases c:Go.bits .and .i64 k h=0
   ·have HS:=hhd (show zT h m (k+1)=zT h m k++[((k:Int),zcn h m k)] by rw [zT,if_pos c])
    have hx:wrap64 (Go.bits .and .i64 k (wrap64 (h - 1))*m)=zcn h m k:=rfl
    have hlen:pre.length < nn:=by
     have e:=congrArg List.length HP.out
     rw [List.length_map] at e
     rw [e]
     exact Nat.lt_of_le_of_lt (zj8 h m k) hlt
    have hmem:((k:Int),zcn h m k)∈zT h m nn:=(zgx h m (k+1) nn hlt).subset (by rw [HS.out];simp)
    have HM:=hhd (show (pre++[(⟨_,hmem⟩:{p:Int×Int // p∈zT h m nn})]).map Subtype.val=zT h m (k+1) by rw [List.map_append,HP.out,HS.out];rfl)
    gi_wp2
    refine ziB (S:=fun w'=>w'.cell? ⟨Bn,0,none⟩=some (.int .i64 nn)∧w'.cell? ⟨Bh,0,none⟩=some (.int .i64 h)) (ds:=[16]) (fl 19 0) hmx rfl rfl ⟨k1,k2⟩ (fun I=>?_)
    refine zbq 0 rfl ?_
    refine zht 1 rfl I (by rintro w' ⟨s0,s1⟩;go_simp;with_reducible rfl) ?_
    refine zbq 2 rfl ?_
    refine zbq 3 rfl ?_
    refine zbq 4 rfl ?_
    refine zbq 5 rfl ?_
    refine zbq 6 rfl ?_
    refine zbq 7 rfl ?_
    refine zht 8 rfl I (by rintro w' ⟨s0,s1⟩;go_simp;with_reducible rfl) ?_
    refine zbq 9 rfl ?_
    refine zbq 10 rfl ?_
    refine zht 11 rfl I (by rintro w' ⟨s0,s1⟩;go_simp;with_reducible rfl) ?_
    refine zht 12 rfl I (by rintro w' ⟨s0,s1⟩;go_simp;with_reducible rfl) ?_
    refine zbq 13 rfl ?_
    refine zbq 14 rfl ?_
    refine zbq 15 rfl ?_
    refine znc (i:=16) (N:=some 25) (fl 19 131071) rfl rfl (by kernel_rfl) (by decide) (fun K hK=>?_)
    rw [if_pos (by kernel_rfl)]
    obtain ⟨fn,tmps,assign,body,hy,hR⟩:=hY pre ⟨((k:Int),zcn h m k),hmem⟩ wr.drew (hJb _ _ _ HJ.out (Below.refl _ _).drew) hlen
    go_simp
    refine hR.mono ?_
    rintro e W3 (⟨rfl,hJ3,hk3⟩ | ⟨rfl,hJx3⟩)
    ·have HJ3:=hhd hJ3
     have D1:=hhd (hk3.1.trans C1.out)
     have D2:=hhd (hk3.2.trans C2.out)
     clear hR hy hJ3 hk3
     refine hK.out _ _ ?_
     clear hK K
     refine zbq 17 rfl ?_
     refine zbq 18 rfl ?_
     refine zhs (by kernel_rfl) ?_
     gi_wp2
     go_roundw
     case rel=>exact ⟨k+1,by omega,by go_num,⟨_,HM.out,HJ3.out⟩,D1.out,D2.out⟩
     case measure=>simp [intOf];omega
    ·clear hR hy
     refine hK.out _ _ ?_
     clear hK K
     refine zbq 17 rfl ?_
     refine zbq 18 rfl ?_
     refine zhs (by kernel_rfl) ?_
     gi_wp2
     refine bodyPost_ret (results_none rfl _ _ _) rfl ?_
     refine ⟨⟨_,rfl⟩,.inr ⟨_,?_,hJx3⟩⟩
     rw [HM.out]
     exact zgx h m (k+1) nn hlt
   ·have HS:=hhd (show zT h m (k+1)=zT h m k by rw [zT,if_neg c])
    have c2:(Go.bits .and .i64 k h == 0)=false:=by simpa using c
    gi_wp2
    refine ziB (S:=fun w'=>w'.cell? ⟨Bn,0,none⟩=some (.int .i64 nn)∧w'.cell? ⟨Bh,0,none⟩=some (.int .i64 h)) (ds:=[]) (fl 19 0) hmx rfl rfl ⟨k1,k2⟩ (fun I=>?_)
    refine zbq 0 rfl ?_
    refine zht 1 rfl I (by rintro w' ⟨s0,s1⟩;go_simp;with_reducible rfl) ?_
    refine zbq 2 rfl ?_
    refine zbq 3 rfl ?_
    refine zbq 4 rfl ?_
    refine zbm (i:=5) (N:=some 14) (v:=undef) (a':=?_) (fl 19 63) rfl rfl (by kernel_rfl) (fun _ _ _ h=>h) (Or.inr ⟨by rfl,rfl⟩) ?_ ?_
    rotate_left
    ·simp only [Act.put,zzA,zzB,zzC,zD,zU]
     rfl
    refine zbm (i:=6) (N:=some 15) (v:=undef) (a':=?_) (fl 19 127) rfl rfl (by kernel_rfl) (fun _ _ _ h=>h) (Or.inr ⟨by rfl,rfl⟩) ?_ ?_
    rotate_left
    ·simp only [Act.put,zzA,zzB,zzC,zD,zU]
     rfl
    refine zbm (i:=7) (N:=some 16) (v:=undef) (a':=?_) (fl 19 255) rfl rfl (by kernel_rfl) (fun _ _ _ h=>h) (Or.inr ⟨by rfl,rfl⟩) ?_ ?_
    rotate_left
    ·simp only [Act.put,zzA,zzB,zzC,zD,zU]
     rfl
    refine zbm (i:=8) (N:=some 17) (v:=undef) (a':=?_) (fl 19 511) rfl rfl (by kernel_rfl) (fun _ _ _ h=>h) (Or.inr ⟨by rfl,rfl⟩) ?_ ?_
    rotate_left
    ·simp only [Act.put,zzA,zzB,zzC,zD,zU]
     rfl
    refine zbm (i:=9) (N:=some 18) (v:=undef) (a':=?_) (fl 19 1023) rfl rfl (by kernel_rfl) (fun _ _ _ h=>h) (Or.inr ⟨by rfl,rfl⟩) ?_ ?_
    rotate_left
    ·simp only [Act.put,zzA,zzB,zzC,zD,zU]
     rfl
    refine zbm (i:=10) (N:=some 19) (v:=undef) (a':=?_) (fl 19 2047) rfl rfl (by kernel_rfl) (fun _ _ _ h=>h) (Or.inr ⟨by rfl,rfl⟩) ?_ ?_
    rotate_left
    ·simp only [Act.put,zzA,zzB,zzC,zD,zU]
     rfl
    refine zbm (i:=11) (N:=some 20) (v:=undef) (a':=?_) (fl 19 4095) rfl rfl (by kernel_rfl) (fun _ _ _ h=>h) (Or.inr ⟨by rfl,rfl⟩) ?_ ?_
    rotate_left
    ·simp only [Act.put,zzA,zzB,zzC,zD,zU]
     rfl
    refine zbm (i:=12) (N:=some 21) (v:=undef) (a':=?_) (fl 19 8191) rfl rfl (by kernel_rfl) (fun _ _ _ h=>h) (Or.inr ⟨by rfl,rfl⟩) ?_ ?_
    rotate_left
    ·simp only [Act.put,zzA,zzB,zzC,zD,zU]
     rfl
    refine zbm (i:=13) (N:=some 22) (v:=undef) (a':=?_) (fl 19 16383) rfl rfl (by kernel_rfl) (fun _ _ _ h=>h) (Or.inr ⟨by rfl,rfl⟩) ?_ ?_
    rotate_left
    ·simp only [Act.put,zzA,zzB,zzC,zD,zU]
     rfl
    refine zbm (i:=14) (N:=some 23) (v:=undef) (a':=?_) (fl 19 32767) rfl rfl (by kernel_rfl) (fun _ _ _ h=>h) (Or.inr ⟨by rfl,rfl⟩) ?_ ?_
    rotate_left
    ·simp only [Act.put,zzA,zzB,zzC,zD,zU]
     rfl
    refine zbm (i:=15) (N:=some 24) (v:=undef) (a':=?_) (fl 19 65535) rfl rfl (by kernel_rfl) (fun _ _ _ h=>h) (Or.inr ⟨by rfl,rfl⟩) ?_ ?_
    rotate_left
    ·simp only [Act.put,zzA,zzB,zzC,zD,zU]
     rfl
    refine zbm (i:=16) (N:=some 25) (v:=undef) (a':=?_) (fl 19 131071) rfl rfl (by kernel_rfl) (fun _ _ _ h=>h) (Or.inr ⟨by rfl,rfl⟩) ?_ ?_
    rotate_left
    ·simp only [Act.put,zzA,zzB,zzC,zD,zU]
     rfl
    refine zbm (i:=17) (N:=some 26) (v:=undef) (a':=?_) (fl 19 262143) rfl rfl (by kernel_rfl) (fun _ _ _ h=>h) (Or.inr ⟨by rfl,rfl⟩) ?_ ?_
    rotate_left
    ·simp only [Act.put,zzA,zzB,zzC,zD,zU]
     rfl
    refine zbq 18 rfl ?_
    refine zhs (by kernel_rfl) ?_
    gi_wp2
    go_roundw
    case rel=>exact ⟨k+1,by omega,by go_num,⟨pre,by rw [HS.out];exact HP.out,hJb _ _ _ HJ.out (Below.refl _ _).drew⟩,C1.out,C2.out⟩
    case measure=>simp [intOf];omega
  ·obtain rfl:k=nn:=by omega
   gi_wp2
   go_end0
   exact ⟨⟨_,rfl⟩,.inl ⟨pre,HP.out,HJ.out⟩⟩
set_option maxRecDepth 100000 in
set_option maxHeartbeats 4000000 in
theorem zij (n:Nat) (hn:1≤n) (Bn Bh:Nat) (nn:Nat) (h m:Int) (hnn:nn≤1000) (hh:0 < h) (hh2:h≤1000) (hm:m=nn / (2*h)) (w:World)
  (hb1:w.heap[Bn]?=some (.cells #[.int .i64 nn] 3 (0,0))) (hb2:w.heap[Bh]?=some (.cells #[.int .i64 h] 3 (0,0))) :
  SeqStopsK Fence.wide n Tryz.prog 106 #[.pointer (some ⟨Bn,0,none⟩),.pointer (some ⟨Bh,0,none⟩)] (fun x:{p:Int×Int // p∈zT h m nn}=>#[Value.int .i64 x.1.1,Value.int .i64 x.1.2]) (zdm Bn Bh) (fun ys=>ys.map Subtype.val=zT h m nn) (fun pre=>pre.map Subtype.val <+: zT h m nn) nn w:=fun lY J Jx W hW hJ _ hY h0 =>
 zj9 n hn lY Bn Bh nn h m hnn hh hh2 hm J Jx (fun pre X Y h hXY=>hJ _ _ _ none h (zaZ hXY none) (fun r e=>by cases e)) hY W (zd hb1 hW) (zd hb2 hW) h0
set_option maxRecDepth 100000 in
set_option maxHeartbeats 4000000 in
theorem zka (a b:Int) (w:World) :
  Calls Tryz.prog 80 #[.int .i64 a,.int .i64 b] w fun e w'=>∃g1 g2,e=.returned (.func (.func 106) #[] #[.pointer (some ⟨g1,0,none⟩),.pointer (some ⟨g2,0,none⟩)])∧w'.heap[g1]?=some (.cells #[.int .i64 a] 3 (0,0))∧w'.heap[g2]?=some (.cells #[.int .i64 b] 3 (0,0))∧w.heap.size≤g1∧w.heap.size≤g2∧Below w.heap.size w w':=by
 go_enter Tryz.func80,Tryz.ntmps80
 go_wp2_with (first
  | ((with_reducible refine zf (N:=2) rfl ?_);refine ba_ 2 rfl #[.int .i64 a] 3 ?_;intro g2 hg W2 I aA;have L2:w.heap.size≤g2:=(by rw [hg];exact Nat.le_refl _);have B2:=hhd I;have aC:=hhd aA;clear I aA hg)
  | ((with_reducible refine zf (N:=3) rfl ?_);refine ba_ 3 rfl #[.int .i64 b] 3 ?_;intro g3 hg W3 I aA;have L3:w.heap.size≤g3:=(by rw [hg];exact zi aC);have B3:=hhd I;have B23:=za_ B2 aA;have aD:=zs_ aC aA;clear I aA hg))
 go_ret
 exact ⟨g2,g3,rfl,B23.out,B3.out,L2,L3,aD.out⟩
end Go.Proofs.YteieahbadclppaaGreat.P

namespace Go.Proofs.YteieahbadclppaaGreat.P
open Go.RowKit Go.Proofs.YteieahbadclppaaGreatW.PrintWords Go.Proofs.YteieahbadclppaaGreatW.PrintLast Go.Proofs.YteieahbadclppaaGreatW.PrintMore
set_option linter.unusedVariables false
set_option linter.unusedSimpArgs false
section
variable {P:Program} {ops:Array Oper} {rest:List Oper} {o:Oper} {a:Act} {Q:Exit→Act→World→Prop} {K:Act→World→Prop}
theorem zee {W:World} (hgd:o.guard=none) (hN:o.dst=none) (ty:TypeId) (x y:Operand) (ho:o.op=.store ty x y) (g:Nat) (v:Value) (hx:a.eval x=.pointer (some ⟨g,0,none⟩)) (hy:a.eval y=v)
  (t:TypeId) (old:Value) (hg:W.heap[g]?=some (.cells #[old] t (0,0))) (hi:(P.info? ty).map (·.size)=some 1) (hv:v.cells.toList=[v]) (h1:v.oneCell'=true)
  (h:∀w1,w1.heap[g]?=some (.cells #[v] t (0,0))→(∀k,k≠g→w1.heap[k]?=W.heap[k]?)→(∀B w0,B≤g→Below B w0 W→Below B w0 w1)→wpList P ops Q rest a w1):wpList P ops Q (o :: rest) a W:=by
 have hr:(Instr.storeAt ty (.pointer (some ⟨g,0,none⟩)) v).run P W=.ok () (W.setCells g 0 [v]):=za6 ty v [v] hg hv hi (by simp) (by simpa using h1)
 have e:W.setCells g 0 [v]=W.setCell ⟨g,0,none⟩ v:=rfl
 rw [e] at hr
 refine wpList_plain hgd fun K hK=>?_
 unfold Oper.wp execOp
 simp only [ho,hx,hy,Sem.run_bind,Sem.run_pure,Result.andThen_ok,hr]
 show K (a.put o.dst undef) _
 rw [hN]
 refine hK _ _ (h _ (zQ hg 0 v rfl) (fun k hk=>Below.heap_setCell W ⟨g,0,none⟩ v k hk) (fun B w0 hB hb=>hb.setCell (p:=⟨g,0,none⟩) hB v))
theorem box_step {W:World} {N:Option Tmp} (hw:Region.wanted o (yielded ops a.tmps)=true) (hN:o.dst=N) {cs:Array Value} {t:TypeId}
  (hrun:(execOp a.eval o).run P W=.ok (.value (.pointer (some ⟨W.heap.size,0,none⟩))) (W.alloc (.cells cs t (0,0))))
  (h:∀g,g=W.heap.size→∀w1,w1.heap[g]?=some (.cells cs t (0,0))→Below W.heap.size W w1→K (a.put N (.pointer (some ⟨g,0,none⟩))) w1) :
  if Region.wanted o (yielded ops a.tmps)=true then Oper.wp P o a W K Q else K (a.put N undef) W :=
 zfD hw hN hrun (h _ rfl _ (zbb W _) (ze (Below.refl _ _) _))
theorem zA {W:World} (hw:Region.wanted o (yielded ops a.tmps)=true) (hN:o.dst=none) (ty:TypeId) (x y:Operand) (ho:o.op=.store ty x y)
  (g:Nat) (cells:Array Value) (hx:a.eval x=.pointer (some ⟨g,0,none⟩)) (hy:a.eval y=.agg cells)
  (t:TypeId) (old:Array Value) (hg:W.heap[g]?=some (.cells old t (0,0))) (hi:(P.info? ty).map (·.size)=some cells.size)
  (hold:old.size=cells.size) (h1:cells.all (·.oneCell')=true)
  (h:∀w1,w1.heap[g]?=some (.cells cells t (0,0))→(∀k,k≠g→w1.heap[k]?=W.heap[k]?)→(∀B w0,B≤g→Below B w0 W→Below B w0 w1)→K a w1) :
  if Region.wanted o (yielded ops a.tmps)=true then Oper.wp P o a W K Q else K (a.put none undef) W:=by
 rw [if_pos hw]
 refine wp_store_row ty x y ho g cells hx hy t old hg hi hold h1 ?_
 rw [hN]
 exact h _ (setRow_heap W g old cells t (0,0) hg) (fun k hk=>setRow_other W g k cells hk) (fun B w0 hB hb=>below_setRow hb hB cells)
theorem ze2 {W:World} {base:Nat} (hw:Region.wanted o (yielded ops a.tmps)=true) (hN:o.dst=none) (p x:Operand) (ho:o.op=.store 38 p x) {g n cap:Nat} (i:Nat) (xs:List S38) (y:S38) (ok:Nat→Prop)
  (haddr:a.eval p=.pointer (some ⟨g,i*2,none⟩)) (hx:a.eval x=.agg #[.int .i64 y.f0,.int .i64 y.f1]) (ht:(P.info? 38).map (·.size)=some 2)
  (HO:Kd.R k38 38 W base ok (.slice (some ⟨g,0,none⟩) n cap) xs) (hi:i < n)
  (h:∀w1,Kd.R k38 38 w1 base ok (.slice (some ⟨g,0,none⟩) n cap) (xs.set i y)→W.grownBy w1 (some g)→(∀k,k≠g→w1.heap[k]?=W.heap[k]?)→(∀w0,Below base w0 W→Below base w0 w1)→K a w1) :
  if Region.wanted o (yielded ops a.tmps)=true then Oper.wp P o a W K Q else K (a.put none undef) W:=by
 obtain ⟨c,hcl,hM,hcc,hfr⟩:=Kd.R_elem HO z38 (i:Int) (by omega) (by omega)
 obtain rfl:=zbk hM
 obtain ⟨hrow,hg⟩:=Kd.R_seg HO (i:Int) (by omega) (by omega) (seg:=[.int .i64 y.f0,.int .i64 y.f1]) (j:=0) hcl hcc (Nat.le_refl 2) (x':=y) (okp:=fun _=>False) (zaA W base _ y) (fun _ hk=>hk.elim)
 have hbg:base≤g:=Kd.R_base HO g (by simp [Value.ownBlock])
 rw [Int.toNat_natCast] at hrow hg
 have hrun:(Instr.storeAt 38 (.pointer (some ⟨g,i*2,none⟩)) (.agg #[.int .i64 y.f0,.int .i64 y.f1])).run P W=.ok () (W.setCells g (i*2) [.int .i64 y.f0,.int .i64 y.f1]):=by
  obtain ⟨_,inner,hown,hr⟩:=HO
  rcases hown.2 with ⟨hv,_⟩ | ⟨g',cap',cur,hv,hb,hh,hnc,hcm,hcs,_⟩
  ·cases hv
  injection hv with ha _ hc
  injection ha with ha
  injection ha with hg'
  subst hg';subst hc
  refine za6 38 _ _ hh rfl ht ?_ (by simp [Value.oneCell'])
  have h2:k38.sz=2:=rfl
  rw [h2] at hcs
  rw [hcs]
  simp only [List.length_cons,List.length_nil]
  omega
 rw [if_pos hw]
 unfold Oper.wp execOp
 simp only [ho,haddr,hx,Sem.run_bind,Sem.run_pure,Result.andThen_ok,hrun]
 show K (a.put o.dst undef) _
 rw [hN]
 exact h _ hrow hg (fun k hk=>zbr _ _ k hk) (fun w0 hb=>hb.grown hg (Nat.le_of_lt (Nat.lt_of_le_of_lt hbg (Kd.R_lt HO g (by simp [Value.ownBlock])))) (fun k e=>by cases e;exact hbg))
end
end Go.Proofs.YteieahbadclppaaGreat.P

namespace Go.Proofs.YteieahbadclppaaGreat.P
open Go.RowKit Go.Proofs.YteieahbadclppaaGreatW.PrintWords Go.Proofs.YteieahbadclppaaGreatW.PrintLast Go.Proofs.YteieahbadclppaaGreatW.PrintMore
attribute [local go_sem] zF zG zK zL zY zZ z9 zaa
set_option linter.unusedVariables false
set_option linter.unusedSimpArgs false
def cx_Times.f (a0:Int) (a1:Int) (b0:Int) (b1:Int):Option (Int×Int×Int) :=
 if inB 2147483648 ⟨a0,a1⟩=true then (if inB 1073741824 ⟨b0,b1⟩=true then some (zbx ⟨a0,a1⟩ ⟨b0,b1⟩,zby ⟨a0,a1⟩ ⟨b0,b1⟩,0) else none) else none
theorem cx_Times.calls (a0_0:Int) (a0_1:Int) (a1_0:Int) (a1_1:Int) (r1:Int) (r2:Int) (r3:Int) (w:World) (h:cx_Times.f a0_0 a0_1 a1_0 a1_1=some (r1,r2,r3)) :
  Calls Tryz.prog 104 #[.agg #[.int .i64 a0_0,.int .i64 a0_1],.agg #[.int .i64 a1_0,.int .i64 a1_1]] w fun e w'=>e=.returned (.tuple #[.agg #[.int .i64 r1,.int .i64 r2],.int .i64 r3])∧Below w.heap.size w w':=by
 unfold cx_Times.f at h
 by_cases hm:inB 2147483648 ⟨a0_0,a0_1⟩=true
 ·rw [if_pos hm] at h
  by_cases hn:inB 1073741824 ⟨a1_0,a1_1⟩=true
  ·rw [if_pos hn] at h
   simp only [Option.some.injEq,Prod.mk.injEq] at h
   obtain ⟨rfl,rfl,rfl⟩:=h
   exact zeD ⟨a0_0,a0_1⟩ ⟨a1_0,a1_1⟩ hm hn w
  ·rw [if_neg hn] at h
   cases h
 ·rw [if_neg hm] at h
  cases h

end Go.Proofs.YteieahbadclppaaGreat.P

