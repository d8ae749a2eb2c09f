/- Part 4 of 18 of the proof: the texts that it reaches, one behind the other. No condition. -/
import Derived.Test.YteieahbadclppaaGreatKi3
import Derived.Lib.Hide
import Derived.LoopIn
import Derived.LoopNIn
import Derived.Maps.AppendAt
import Derived.Outline
import Derived.OwnWalkIn
import Derived.RangeFuncBound
import Derived.RangeFuncBox
import Derived.RangeFuncCalls
import Derived.RangeFuncLeaves
import Derived.RangeFuncNested
import Derived.RegionIn
import Derived.Shelf.Abstract
import Derived.Shelf.RegionOpen
import Derived.TacticsInMore
import Derived.WalkKit
import Derived.Great.BuildSlice
import Derived.Laws.CopyOwn
import Derived.Deep.QuietTactic
import Derived.BigQuiet
import Derived.Deep.RegionHeld3
import Derived.Laws.CopyRow
namespace Go.Proofs.YteieahbadclppaaGreat.P
open Go.RowKit Go.Proofs.YteieahbadclppaaGreatW.PrintWords Go.Proofs.YteieahbadclppaaGreatW.PrintLast Go.Proofs.YteieahbadclppaaGreatW.PrintMore
attribute [local go_sem] zI zJ zO zP zX zY z8 z9
set_option linter.unusedVariables false
set_option linter.unusedSimpArgs false
section
open Go.Shelf
set_option maxHeartbeats 1000000 in
theorem zkJ (x d:Int) (w:World) (hx:0≤x∧x≤9223372036854775807) (hd:1≤d) :
  Calls Tryz.prog 128 #[.int .i64 x,.int .i64 d] w fun e w'=>e=.returned (.tuple #[.int .i64 (x / d),.int .i64 0])∧w=w':=by
 obtain ⟨hx0,hx1⟩:=hx
 have h1:0≤x % d:=Int.emod_nonneg _ (by omega)
 go_enter Tryz.func128,Tryz.ntmps128
 go_wp2
 go_ret2
 exact ⟨rfl,rfl⟩
set_option maxHeartbeats 1000000 in
theorem zf0 (x d:Int) (w:World) (hx:0≤x∧x≤9223372036854775807) (hd:1≤d) :
  Calls Tryz.prog 126 #[.int .i64 x,.int .i64 d] w fun e w'=>e=.returned (.int .i64 (x / d))∧w=w':=by
 go_enter Tryz.func126,Tryz.ntmps126
 go_wp2_with (go_at_call 128;refine (zkJ _ _ _ hx hd).mono ?_;rintro e w' ⟨rfl,rfl⟩)
 go_ret
 exact ⟨rfl,rfl⟩

attribute [local go_sem] Oper.semAt_some
def zcz (ty:TypeId) (B:Nat) (W W':World):Prop:=∀v,Boxed W B ty v→Boxed W' B ty v
theorem zjG {ty:TypeId} {B:Nat} {X Y Z:World} (h:zcz ty B X Y) (k:zcz ty B Y Z):zcz ty B X Z:=fun v hv=>k v (h v hv)
theorem zjH {ty:TypeId} {B s:Nat} (hB:B < s) (W:World) (l:Nat) (o o':Obj) (hl:s≤l) (_:W.heap[l]?=some o) (_:o.isCells=false) (_:o.isWalk=false):zcz ty B W (W.putObj l o'):=fun v hv =>
 (World.putObj_heap_other (by omega)).trans hv
theorem zh4 {ty:TypeId} {B:Nat} (W:World) {B':Nat} (hne:B≠B') (u:Value):zcz ty B W (W.setCell ⟨B',0,none⟩ u):=fun v hv=>hv.other hne u
def zbS (n:Int):Nat→Int→Int→Int→List Int
 | 0,_,_,_=>[]
 | f+1,p,s,o=>if 0 < p then s*(p / o) :: zbS n f (p / n / n) (-s) (o+2) else []
def zb5 (n:Int):List Int:=zbS n 60 (72057594037927936 / n) 1 1
theorem ziV {p n:Int} {f:Nat} (hn:2≤n) (hp:0 < p) (hf:p < 4^(f+1)):0≤p / n / n∧p / n / n < 4^f∧p / n / n < p∧0≤p / n∧p / n≤p:=by
 have a0:0≤p / n:=Int.ediv_nonneg (by omega) (by omega)
 have a1:p / n≤p / 2:=by
  have:=Int.ediv_mul_le p (show n≠0 by omega)
  have h2:p / n*2≤p / n*n:=Int.mul_le_mul_of_nonneg_left hn a0
  omega
 have b0:0≤p / n / n:=Int.ediv_nonneg a0 (by omega)
 have b1:p / n / n≤p / n / 2:=by
  have:=Int.ediv_mul_le (p / n) (show n≠0 by omega)
  have h2:p / n / n*2≤p / n / n*n:=Int.mul_le_mul_of_nonneg_left hn b0
  omega
 rw [Int.pow_succ] at hf
 generalize (4:Int)^f=q at hf ⊢
 exact ⟨b0,by omega,by omega,a0,by omega⟩
theorem zh5 {p s o:Int} (hp:0≤p∧p≤36028797018963968) (hs:s=1∨s=-1) (ho:1≤o):0≤p / o∧p / o≤36028797018963968∧wrap64 (s*(p / o))=s*(p / o):=by
 have h0:0≤p / o:=Int.ediv_nonneg hp.1 (by omega)
 have h1:p / o≤p:=Int.ediv_le_self _ hp.1
 refine ⟨h0,by omega,?_⟩
 rcases hs with rfl | rfl <;> unfold wrap64 <;> omega

set_option maxRecDepth 100000 in
set_option maxHeartbeats 2000000 in
theorem zjI (n:Nat) (hn:1≤n) (l Bn:Nat) (m:Int) (hm0:2≤m) (hm1:m≤17592186044416) (J Jx:List Int→World→Prop)
  (hJd:∀pre W k,J pre W→J pre (World.drewN W k))
  (hY:∀pre x W,J pre W→pre.length < (zb5 m).length→YieldAt Fence.wide (n - 1) Tryz.prog l #[.int .i64 x] W fun e W' =>
   (e=.returned (.bool true)∧J (pre++[x]) W'∧zcz 3 Bn W W')∨(e=.returned (.bool false)∧Jx (pre++[x]) W'))
  (W:World) (hbx:Boxed W Bn 3 (.int .i64 m)) (h0:J [] W) :
  CallsIn Fence.wide n Tryz.prog 125 #[.func (.yield l) #[] #[],.pointer (some ⟨Bn,0,none⟩)] W fun e W'=>(∃v,e=.returned v) ∧
   ((∃ys,ys=zb5 m∧J ys W')∨(∃pre,pre <+: zb5 m∧Jx pre W')):=by
 have hc:=hbx.cell
 have hmx:Tryz.prog.follows .mixedOrders=true:=by kernel_rfl
 have hq:0≤72057594037927936 / m:=Int.ediv_nonneg (by decide) (by omega)
 have hq1:72057594037927936 / m≤36028797018963968:=by
  have:=Int.ediv_mul_le 72057594037927936 (show m≠0 by omega)
  have h2:72057594037927936 / m*2≤72057594037927936 / m*m:=Int.mul_le_mul_of_nonneg_left hm0 hq
  omega
 refine callsIn_of_wp Tryz.func125 rfl trivial ?_ rfl
 simp only [Tryz.ntmps125,List.size_toArray,List.length_cons,List.length_nil,Nat.reduceAdd,Nat.reduceSub,Array.replicate_succ,Array.replicate_zero,List.push_toArray,List.append_toArray,List.nil_append,List.cons_append]
 gi_wp2_with (refine ⟨trivial,?_⟩;gi_at_call 126;refine (callsIn_wide.2 (zf0 _ _ _ (by decide) (by omega))).mono ?_;rintro e w' ⟨rfl,rfl⟩)
 gi_loopw [3,4,5] (fun vs vo vp wr=>∃(pre:List Int) (f:Nat) (p s o:Int),vs=.int .i64 s∧vo=.int .i64 o∧vp=.int .i64 p∧zb5 m=pre++zbS m f p s o∧(0≤p∧p≤36028797018963968)∧p < 4^f∧(s=1∨s=-1)∧(1≤o∧o+2*(f:Int)≤1000)∧J pre wr∧Boxed wr Bn 3 (.int .i64 m))
  (fun _ _ vp _=>(intOf vp).toNat)
 case atStart =>
  exact ⟨[],60,_,1,1,rfl,rfl,rfl,rfl,⟨hq,hq1⟩,by omega,.inl rfl,by omega,h0,hbx⟩
 case round =>
  obtain ⟨pre,f,p,s,o,rfl,rfl,rfl,hx,hp,hpf,hs,ho,hJs,hbs⟩:=hrel
  have hcs:=hbs.cell
  by_cases hpos:0 < p
  ·obtain ⟨f,rfl⟩:∃g,f=g+1:=by
    cases f with
    | zero=>simp at hpf;omega
    | succ g=>exact ⟨g,rfl⟩
   have hb:=ziV hm0 hpos hpf
   obtain ⟨t0,t1,t2⟩:=zh5 hp hs ho.1
   have hx':zb5 m=(pre++[s*(p / o)])++zbS m f (p / m / m) (-s) (o+2):=by rw [hx];simp [zbS,hpos]
   have Hx':=hhd hx'
   clear hx' hx
   obtain ⟨fn,tmps,assign,body,hy,hR⟩:=hY pre (s*(p / o)) wr hJs (by rw [Hx'.out];simp)
   have Ht2:=t2
   gi_wp2_with (refine ⟨trivial,?_⟩;gi_at_call 126;refine (callsIn_wide.2 (zf0 _ _ _ (by omega) (by omega))).mono ?_;rintro e w' ⟨rfl,rfl⟩)
   refine hR.mono ?_
   rintro e W3 (⟨rfl,hJ3,hk3⟩ | ⟨rfl,hJx3⟩)
   ·have hb3:=hk3 _ hbs
    have hc3:=hb3.cell
    clear hR hy
    gi_wp2
    gi_region_with_o (refine ⟨trivial,?_⟩;gi_at_call 126;refine (callsIn_wide.2 (zf0 _ _ _ (by omega) (by omega))).mono ?_;rintro e w' ⟨rfl,rfl⟩)
    all_goals
     simp only [Act.put,zzA,zzB,zzC]
     go_roundw
     case rel=>((repeat apply Exists.intro);exact ⟨⟨pre++[s*(p / o)],f,p / m / m,-s,o+2,rfl,rfl,rfl,Hx'.out,⟨hb.1,by omega⟩,hb.2.1,by omega,by omega,hJd _ _ 1 hJ3,hb3⟩,rfl⟩)
     case measure=>simp [intOf];omega
   ·gi_wp2
    refine bodyPost_ret (results_none rfl _ _ _) rfl ?_
    exact ⟨⟨_,rfl⟩,.inr ⟨pre++[s*(p / o)],⟨_,Hx'.out.symm⟩,hJx3⟩⟩
  ·gi_wp2
   go_end0
   have hz:zbS m f p s o=[]:=by cases f <;> simp [zbS,hpos]
   exact ⟨⟨_,rfl⟩,.inl (by rw [hz];simpa using hJs)⟩

set_option maxHeartbeats 1000000 in
theorem zkK (n:Nat) (m:Int) (w:World) :
  CallsIn Fence.wide n Tryz.prog 123 #[.int .i64 m] w fun e w'=>e=.returned (.func (.func 125) #[] #[.pointer (some ⟨w.heap.size,0,none⟩)])∧w'=w.alloc (.cells #[.int .i64 m] 3):=by
 refine callsIn_of_wp Tryz.func123 rfl trivial ?_ rfl
 simp only [Tryz.ntmps123,List.size_toArray,List.length_cons,List.length_nil,Nat.reduceAdd,Nat.reduceSub,Array.replicate_succ,Array.replicate_zero,List.push_toArray,List.append_toArray,List.nil_append,List.cons_append]
 gi_wp2
 go_ret
 exact ⟨rfl,rfl⟩
theorem zh6 (n:Nat) (hn:1≤n) (Bn:Nat) (m:Int) (hm0:2≤m) (hm1:m≤17592186044416) (w:World) (hb:Boxed w Bn 3 (.int .i64 m)) :
  SeqStopsK Fence.wide n Tryz.prog 125 #[.pointer (some ⟨Bn,0,none⟩)] (fun x:Int=>#[Value.int .i64 x]) (zcz 3 Bn) (fun ys=>ys=zb5 m) (fun pre=>pre <+: zb5 m) (zb5 m).length w:=fun l J Jx W hW hJ _ hY h0 =>
 zjI n hn l Bn m hm0 hm1 J Jx (fun pre W k h=>hJ _ _ _ none h (zaZ (zd (Below.refl _ _) k) none) (fun r e=>by cases e)) hY W ((hW.block Bn hb.lt).trans hb) h0
def zfe:List Int→Int:=List.foldl (fun s v=>wrap64 (s+v)) 0
theorem zjJ (pre:List Int) (x:Int):zfe (pre++[x])=wrap64 (zfe pre+x):=by simp [zfe]

set_option maxRecDepth 100000 in
set_option maxHeartbeats 2000000 in
theorem zmK (n:Nat) (hn:3≤n) (m:Int) (hm0:2≤m) (hm1:m≤17592186044416) (w:World) :
  CallsIn Fence.wide n Tryz.prog 120 #[.int .i64 m] w fun e W'=>e=.returned (.int .i64 (zfe (zb5 m)))∧Below w.heap.size w W':=by
 have h1:1≤n:=by omega
 refine callsIn_of_wp_marks Tryz.func120 rfl trivial ?_ rfl
 simp only [Tryz.ntmps120,List.size_toArray,List.length_cons,List.length_nil,Nat.reduceAdd,Nat.reduceSub,Array.replicate_succ,Array.replicate_zero,List.push_toArray,List.append_toArray,List.nil_append,List.cons_append]
 gi_wp2_with (refine ⟨trivial,?_⟩;gi_at_call 123;refine (zkK (n - 1) _ _).mono ?_;rintro e w' ⟨rfl,rfl⟩)
 have bO:=Boxed.new w 3 (.int .i64 0)
 have bN:=Boxed.new (w.alloc (.cells #[.int .i64 0] 3)) 3 (.int .i64 m)
 rw [World.size_alloc] at bN
 have hB0:Below w.heap.size w ((w.alloc (.cells #[.int .i64 0] 3)).alloc (.cells #[.int .i64 m] 3)):=((Below.refl _ w).alloc (Nat.le_refl _) _).alloc (by simp) _
 refine wpIn_rangeFunc_ownF rfl h1 (gf:=125) (lb:=#[.pointer (some ⟨w.heap.size+1,0,none⟩)]) rfl trivial (enters_of Tryz.func125 (by kernel_rfl) rfl)
  (zh6 (n - 1) (by omega) (w.heap.size+1) m hm0 hm1 _ bN) zjG (zjH (by simp)) (Below.refl _ _) (fun _=>rfl)
  (fun pre W=>Boxed W w.heap.size 3 (.int .i64 (zfe pre))∧Below w.heap.size w W)
  (fun _ _ _=>False)
  (OwnFrom.and (Own.from (boxed_own w.heap.size 3 (fun pre=>.int .i64 (zfe pre))) _) (ownFrom_below (Nat.le_refl _) (by simp;omega)))
  (fun _ _ _ _ _ hs _ _=>hs)
  ⟨bO.alloc _,hB0⟩
  (fun x=>{ tmps:=#[.int .i64 m,undef,.int .i64 0,.pointer (some ⟨w.heap.size,0,none⟩),.int .i64 x,.int .i64 m,.func (.func 125) #[] #[.pointer (some ⟨w.heap.size+1,0,none⟩)],.int .i64 x,undef,undef,undef,undef],defers:=[] }) ?assign ?body ?done ?stop
 case assign =>
  intro l x W K hK
  gi_wp2
  exact hK
 case body =>
  rintro l pre x W ⟨hv,hB⟩ _
  have hc:=hv.cell
  have hf:=hv.frozen
  gi_wp2
  exact ⟨KeepsOthers.setCell _ _ _,zh4 W (by simp) _,by rw [zjJ];exact hv.set _,hB.setCell (p:=⟨w.heap.size,0,none⟩) (Nat.le_refl _) _⟩
 case done =>
  rintro D ys W hD rfl ⟨hv,hB⟩ hK
  have hc:=hv.cell
  gi_wp2
  refine ⟨by simp,.inl ⟨_,_,rfl,run_takeDeferred hK,?_⟩⟩
  exact ⟨_,results_tmp rfl _ _ _,rfl,hB.trans (belowK_b (w:=w) (Nat.le_refl _) W D _ _ (by simp at hD;omega) hK rfl rfl)⟩
 case stop =>
  rintro D c pre W _ _ h _
  exact h.elim
end
def arc_sum.f (a0:Int):Option Int:=if 2≤a0∧a0≤17592186044416 then some (zfe (zb5 a0)) else none
theorem arc_sum.calls (a0:Int) (r:Int) (w:World) (h:arc_sum.f a0=some r) :
  Calls Tryz.prog 120 #[.int .i64 a0] w fun e w'=>e=.returned (.int .i64 r)∧Below w.heap.size w w':=by
 unfold arc_sum.f at h
 by_cases hc:2≤a0∧a0≤17592186044416
 ·rw [if_pos hc] at h
  obtain rfl:=Option.some.inj h
  exact callsIn_wide.1 (zmK 3 (by decide) a0 hc.1 hc.2 w)
 ·rw [if_neg hc] at h
  cases h

end Go.Proofs.YteieahbadclppaaGreat.P

namespace Go.Proofs.YteieahbadclppaaGreat.P
open Go.RowKit Go.Proofs.YteieahbadclppaaGreatW.PrintWords Go.Proofs.YteieahbadclppaaGreatW.PrintLast Go.Proofs.YteieahbadclppaaGreatW.PrintMore
attribute [local go_sem] zI zJ zO zP zX zY z8 z9
set_option linter.unusedVariables false
set_option linter.unusedSimpArgs false
def arc_Arc.f (a0:Int):Option (Int×Int):=if a0 < 2 then (some (0,1)) else (if a0 > 17592186044416 then (some (0,1)) else ((arc_sum.f a0).bind fun t116=>(some (t116,0))))
set_option maxHeartbeats 8000000 in
set_option maxRecDepth 100000 in
theorem arc_Arc.calls (a0:Int) (r1:Int) (r2:Int) (w:World) (h:arc_Arc.f a0=some (r1,r2)) :
  Calls Tryz.prog 127 #[.int .i64 a0] w fun e w'=>e=.returned (.tuple #[.int .i64 r1,.int .i64 r2])∧Below w.heap.size w w':=by
 have HB:=Aside0.mk (Below.refl w.heap.size w)
 have H:(if a0 < 2 then (some (0,1)) else (if a0 > 17592186044416 then (some (0,1)) else ((arc_sum.f a0).bind fun t116=>(some (t116,0)))))=some (r1,r2):=h
 clear h
 by_cases c2:a0 < 2
 ·rw [if_pos c2] at H
  have c2b0:decide (a0 < 2)=true:=decide_eq_true c2
  clear c2
  simp only [Option.some.injEq,Prod.mk.injEq] at H
  obtain ⟨rfl,rfl⟩:=H
  go_enter Tryz.func127,Tryz.ntmps127
  go_wp2
  go_ret2
  exact ⟨by first | rfl | (simp [zr,zt] <;> rfl) | (simp [*,zr,zt] <;> rfl),by repeat (first | (with_reducible first | exact HB.out | apply ze | apply zd | apply zh) | exact HB.out)⟩
 ·rw [if_neg c2] at H
  have c2b0:decide (a0 < 2)=false:=decide_eq_false c2
  clear c2
  by_cases c3:a0 > 17592186044416
  ·rw [if_pos c3] at H
   have c3b0:decide (17592186044416 < a0)=true:=decide_eq_true c3
   clear c3
   simp only [Option.some.injEq,Prod.mk.injEq] at H
   obtain ⟨rfl,rfl⟩:=H
   go_enter Tryz.func127,Tryz.ntmps127
   go_wp2
   go_ret2
   exact ⟨by first | rfl | (simp [zr,zt] <;> rfl) | (simp [*,zr,zt] <;> rfl),by repeat (first | (with_reducible first | exact HB.out | apply ze | apply zd | apply zh) | exact HB.out)⟩
  ·rw [if_neg c3] at H
   have c3b0:decide (17592186044416 < a0)=false:=decide_eq_false c3
   clear c3
   replace H:=Option.bind_eq_some_iff.mp H
   obtain ⟨t116,A40,H⟩:=H
   replace H:(some (t116,0))=some (r1,r2):=H
   have A4:=Aside0.mk A40
   clear A40
   simp only [Option.some.injEq,Prod.mk.injEq] at H
   obtain ⟨rfl,rfl⟩:=H
   go_enter Tryz.func127,Tryz.ntmps127
   go_wp2_with (first | ((with_reducible refine zy (f:=120) rfl ?_);refine zQ (some 11) rfl rfl Tryz.func120 (by kernel_rfl) rfl #[.int .i64 a0] rfl (by (try simp only [List.map_toArray,List.map_cons,List.map_nil]);first | done | rfl | (simp only [List.length_drop,List.length_take];rfl)) ?_;(with_reducible refine (arc_sum.calls a0 t116 _ A4.out).mono ?_);rintro e w5 ⟨rfl,hb⟩;refine ⟨_,rfl,?_⟩;have n0_:=Aside0.mk (zb (by repeat (first | (with_reducible first | exact HB.out | apply ze | apply zd | apply zh) | exact HB.out)) hb);clear HB;have HB:=n0_;clear n0_;(try clear hb);(try clear hb2);(try clear hk);(try clear hi)))
   go_ret2
   exact ⟨by first | rfl | (simp [zr,zt] <;> rfl) | (simp [*,zr,zt] <;> rfl),by repeat (first | (with_reducible first | exact HB.out | apply ze | apply zd | apply zh) | exact HB.out)⟩

def arc_Quarter.f :Option (Int):=(arc_sum.f 2).bind fun t114=>((arc_sum.f 3).bind fun t115=>(some (wrap64 (t114+t115))))
set_option maxHeartbeats 8000000 in
set_option maxRecDepth 100000 in
theorem arc_Quarter.calls  (r:Int) (w:World) (h:arc_Quarter.f =some r) :
  Calls Tryz.prog 117 #[] w fun e w'=>e=.returned (.int .i64 r)∧Below w.heap.size w w':=by
 have HB:=Aside0.mk (Below.refl w.heap.size w)
 have H:((arc_sum.f 2).bind fun t114=>((arc_sum.f 3).bind fun t115=>(some (wrap64 (t114+t115)))))=some r:=h
 clear h
 replace H:=Option.bind_eq_some_iff.mp H
 obtain ⟨t114,A10,H⟩:=H
 replace H:((arc_sum.f 3).bind fun t115=>(some (wrap64 (t114+t115))))=some r:=H
 have A1:=Aside0.mk A10
 clear A10
 replace H:=Option.bind_eq_some_iff.mp H
 obtain ⟨t115,A20,H⟩:=H
 replace H:(some (wrap64 (t114+t115)))=some r:=H
 have A2:=Aside0.mk A20
 clear A20
 obtain rfl:=Option.some.inj H
 go_enter Tryz.func117,Tryz.ntmps117
 go_wp2_with (first | ((with_reducible refine zy (f:=120) rfl ?_);refine zQ (some 1) rfl rfl Tryz.func120 (by kernel_rfl) rfl #[.int .i64 2] rfl (by (try simp only [List.map_toArray,List.map_cons,List.map_nil]);first | done | rfl | (simp only [List.length_drop,List.length_take];rfl)) ?_;(with_reducible refine (arc_sum.calls 2 t114 _ A1.out).mono ?_);rintro e w3 ⟨rfl,hb⟩;refine ⟨_,rfl,?_⟩;have n0_:=Aside0.mk (zb (by repeat (first | (with_reducible first | exact HB.out | apply ze | apply zd | apply zh) | exact HB.out)) hb);clear HB;have HB:=n0_;clear n0_;(try clear hb);(try clear hb2);(try clear hk);(try clear hi)) | ((with_reducible refine zy (f:=120) rfl ?_);refine zQ (some 2) rfl rfl Tryz.func120 (by kernel_rfl) rfl #[.int .i64 3] rfl (by (try simp only [List.map_toArray,List.map_cons,List.map_nil]);first | done | rfl | (simp only [List.length_drop,List.length_take];rfl)) ?_;(with_reducible refine (arc_sum.calls 3 t115 _ A2.out).mono ?_);rintro e w4 ⟨rfl,hb⟩;refine ⟨_,rfl,?_⟩;have n0_:=Aside0.mk (zb (by repeat (first | (with_reducible first | exact HB.out | apply ze | apply zd | apply zh) | exact HB.out)) hb);clear HB;have HB:=n0_;clear n0_;(try clear hb);(try clear hb2);(try clear hk);(try clear hi)))
 go_ret
 exact ⟨by first | rfl | (simp [zr,zt] <;> rfl) | (simp [*,zr,zt] <;> rfl),by repeat (first | (with_reducible first | exact HB.out | apply ze | apply zd | apply zh) | exact HB.out)⟩

end Go.Proofs.YteieahbadclppaaGreat.P

namespace Go.Proofs.YteieahbadclppaaGreat.P
open Go.RowKit Go.Proofs.YteieahbadclppaaGreatW.PrintWords Go.Proofs.YteieahbadclppaaGreatW.PrintLast Go.Proofs.YteieahbadclppaaGreatW.PrintMore
set_option linter.unusedVariables false
set_option linter.unusedSimpArgs false
def znZ:List Int:=[56593902016227522,33409331186036029,17652573055549881,8960721713639278,4497749271019253,2251067235130761,1125808294293075,562938500594602,281473545067998,140737309398767,70368721808055,35184369292630,17592185694891,8796092978518,4398046505643,2199023254870,1099511627691,549755813878,274877906943,137438953472,68719476736,34359738368,17179869184,8589934592,4294967296,2147483648,1073741824,536870912,268435456,134217728,67108864,33554432,16777216,8388608,4194304,2097152,1048576,524288,262144,131072,65536,32768,16384,8192,4096]
def zkL (p:Nat→Bool):Nat→Bool
 | 0=>true
 | k+1=>p k && zkL p k
theorem zdc {p:Nat→Bool}:∀{K k:Nat},zkL p K=true→k < K→p k=true
 | 0,_,_,h=>by omega
 | K+1,k,h,hk=>by
  simp only [zkL,Bool.and_eq_true] at h
  by_cases e:k=K
  ·subst e;exact h.1
  ·exact zdc h.2 (by omega)
theorem zjK (k:Nat) (h1:1≤k) (h:k < 45):arc_Arc.f (2^k)=some (znZ.getD k 0,0):=by
 have:=zdc (p:=fun k=>k == 0 || decide (arc_Arc.f (2^k)=some (znZ.getD k 0,0))) (K:=45) (by decide +kernel) h
 simp only [Bool.or_eq_true,beq_iff_eq,decide_eq_true_eq] at this
 rcases this with e | e
 ·omega
 ·exact e
theorem ze4:arc_Quarter.f=some 56593902016227522:=by decide +kernel
def zf1 (k:Nat):List Int:=znZ.take k++List.replicate (45 - k) 0
def za5 (k:Nat):Array Value:=((zf1 k).map (Value.int .i64)).toArray
theorem zkM (k:Nat) (hk:k < 45):(za5 k).setIfInBounds k (.int .i64 (znZ.getD k 0))=za5 (k+1):=by
 have:=zdc (p:=fun k=>decide ((zf1 k).set k (znZ.getD k 0)=zf1 (k+1))) (K:=45) (by decide +kernel) hk
 have:=of_decide_eq_true this
 unfold za5
 rw [← this]
 simp [List.map_set]
theorem zbx (k:Nat) (hk:k≤45):(za5 k).size=45:=by
 have h:znZ.length=45:=by decide
 unfold za5 zf1
 simp [h]
 omega
theorem zl1 (k:Nat) (hk:k < 45):(za5 k)[k]?=some (.int .i64 0):=by
 have:=zdc (p:=fun k=>decide ((zf1 k)[k]?=some 0)) (K:=45) (by decide +kernel) hk
 have:=of_decide_eq_true this
 unfold za5
 simp [this]
theorem zg8 (k:Nat):(za5 k).all (·.oneCell')=true:=by
 unfold za5
 simp [Value.oneCell']
theorem zjL (k:Nat) (hk:k < 45):IntKind.i64.wrap (2^k)=2^k:=by
 have:=zdc (p:=fun k=>decide (IntKind.i64.wrap (2^k)=2^k)) (K:=45) (by decide +kernel) hk
 exact of_decide_eq_true this
theorem zkN:Tryz.prog.built 174 [(0,.int .i64 56593902016227522)]=some (za5 1):=by kernel_rfl
set_option maxRecDepth 100000 in
set_option maxHeartbeats 2000000 in
theorem ziW (w:World) :
  Calls Tryz.prog 124 #[] w fun e w'=>e=.returned (.agg (za5 45))∧Below w.heap.size w w':=by
 go_enter Tryz.func124,Tryz.ntmps124
 go_wp2_with (first
  | ((with_reducible refine zg (N:=0) rfl ?_);refine zV ?hg (N:=0) ?hd (cs:=za5 0) (t:=174) ?hr ?_;(case hd=>rfl);(case hg=>rfl);(case hr=>rfl);intro g0 hg W0 hbox hb;have B0:=hhd hbox;have HB0:=hhd hb;have G0:=hhd hg;clear hbox hb hg)
  | (go_at_call 117;refine (arc_Quarter.calls 56593902016227522 _ ze4).mono ?_;rintro e W1 ⟨rfl,hb⟩;have B1:=hhd (za B0.out hb);have HB1:=hhd (zb HB0.out hb);clear hb B0 HB0)
  | ((with_reducible refine zg (N:=4) rfl ?_);refine wpList_buildTo rfl 174 _ rfl (some 4) rfl (za5 1) zkN ?_)
  | ((with_reducible refine zg (N:=1) rfl ?_);refine zV ?hg (N:=1) ?hd (cs:=za5 0) (t:=174) ?hr ?_;(case hd=>rfl);(case hg=>rfl);(case hr=>rfl);intro g1 hg W2 hbox hb;have B2:=hhd hbox;have B02:=hhd (za B1.out hb);have HB2:=hhd (zb HB1.out hb);have N01:g0≠g1:=(by rw [hg];exact Nat.ne_of_lt (zf B1.out));have LG1:w.heap.size≤g1:=(by rw [hg];exact HB1.out.size);clear hbox hb hg HB1)
  | ((with_reducible refine zo (t:=174) (p:=1) rfl ?_);refine zv rfl 174 _ _ rfl g1 (za5 1) rfl rfl 174 (za5 0) B2.out rfl (by rw [zbx 0 (by decide),zbx 1 (by decide)]) (zg8 1) ?_;intro W3 hq hoth hbel;have B3:=hhd hq;have B03:=hhd hoth;have HB3:=hhd hbel;clear hq hoth hbel))
 have B4:=hhd ((B03.out g0 N01).trans B02.out)
 have LG0:w.heap.size≤g0:=by have:=G0.out;omega
 have HB4:=hhd (HB3.out w.heap.size w LG1 HB2.out)
 clear B03 B02 HB3 HB2 G0 B1 B2
 go_loopw [2] (fun i wr=>∃k:Nat,1≤k∧k≤45∧i=.int .i64 k∧wr.heap[g1]?=some (.cells (za5 k) 174 (0,0))∧wr.heap[g0]?=some (.cells (za5 0) 174 (0,0))∧Below w.heap.size w wr) (fun i _=>45 - (intOf i).toNat)
 case atStart=>exact ⟨1,by omega,by omega,rfl,B3.out,B4.out,HB4.out⟩
 case round =>
  obtain ⟨k,hk1,hk2,rfl,c1,c0,hbw⟩:=hrel
  have C1:=hhd c1
  have C0:=hhd c0
  have HBW:=hhd hbw
  clear c1 c0 hbw B3 B4 HB4
  by_cases hlt:k < 45
  ·have HP:=hhd (zjK k hk1 hlt)
   have hsm:=zjL k hlt
   go_wp2_with (first
    | (go_at_call 127;refine (arc_Arc.calls (2^k) (znZ.getD k 0) 0 _ HP.out).mono ?_;rintro e W5 ⟨rfl,hb⟩;have hcell:W5.cell? ⟨g1,k,none⟩=some (.int .i64 0):=(zc (za C1.out hb) k).trans (zl1 k hlt);have hfr:=zi (za C1.out hb) k;have HB5:=hhd hb;clear hb))
   go_roundw
   case rel=>exact ⟨k+1,by omega,by omega,by go_num,by rw [← zkM k hlt];exact zS (za C1.out HB5.out) k _ rfl,(Below.heap_setCell _ _ _ _ N01).trans (za C0.out HB5.out),(zb HBW.out HB5.out).setCell (p:=⟨g1,k,none⟩) LG1 _⟩
   case measure=>simp [intOf];omega
  ·obtain rfl:k=45:=by omega
   go_wp2_with (first
    | ((with_reducible refine zg (N:=17) rfl ?_);refine wpList_load_row rfl 174 _ rfl g1 rfl 174 (za5 45) (0,0) _ C1.out Tryz.underlying174 rfl (by rw [zbx 45 (by decide)];kernel_rfl) ?_)
    | ((with_reducible refine zo (t:=174) (p:=0) rfl ?_);refine zv rfl 174 _ _ rfl g0 (za5 45) rfl rfl 174 (za5 0) C0.out (by rw [zbx 45 (by decide)];kernel_rfl) (by rw [zbx 0 (by decide),zbx 45 (by decide)]) (zg8 45) ?_;intro W7 hq hoth hbel;have B7:=hhd hq;have HB7:=hhd hbel;clear hq hoth hbel))
   refine bodyPost_ret (results_cell_row rfl _ _ g0 174 (za5 45) (0,0) _ rfl B7.out Tryz.underlying174 rfl (by rw [zbx 45 (by decide)];kernel_rfl)) rfl ?_
   exact ⟨rfl,HB7.out _ _ LG0 HBW.out⟩

def zl2 (i:Nat) (by_:Int) (s:Int×Int×Int):Int×Int×Int :=
 if s.2.2≥0 then (wrap64 (s.1 - s.2.1 / 2^i),wrap64 (s.2.1+s.1 / 2^i),wrap64 (s.2.2 - by_)) else (wrap64 (s.1+s.2.1 / 2^i),wrap64 (s.2.1 - s.1 / 2^i),wrap64 (s.2.2+by_))
def zax (x z:Int):Nat→Int×Int×Int
 | 0=>(x,0,z)
 | k+1=>zl2 k (znZ.getD k 0) (zax x z k)
theorem zkO (k:Nat) (hk:k < 45):(za5 45)[k]?=some (.int .i64 (znZ.getD k 0)):=by
 have:=zdc (p:=fun k=>decide ((zf1 45)[k]?=some (znZ.getD k 0))) (K:=45) (by decide +kernel) hk
 have:=of_decide_eq_true this
 unfold za5
 simp [this]
theorem zmL (k:Nat) (hk:k < 45) (w:World):(Instr.index 174 (.agg (za5 45)) (.int .i64 k)).run Tryz.prog w=.ok (.int .i64 (znZ.getD k 0)) w:=by
 have hsz:(sizeOf 3).run Tryz.prog w=.ok 1 w:=by kernel_rfl
 have hg:=zkO k hk
 have hs:=zbx 45 (by decide)
 generalize znZ.getD k 0=v at *
 generalize za5 45=R at *
 simp [Instr.index,asIntOf,Sem.run_bind,run_underlying Tryz.underlying174,hk,part,hsz,hg,hs]
 exact (Array.getElem?_eq_some_iff.1 hg).2
set_option maxRecDepth 100000 in
set_option maxHeartbeats 4000000 in
theorem ziq (x z:Int) (w:World) :
  Calls Tryz.prog 121 #[.int .i64 x,.int .i64 z] w fun e w'=>e=.returned (.tuple #[.agg #[.int .i64 (zax x z 45).1,.int .i64 (zax x z 45).2.1],.int .i64 (zax x z 45).2.2])∧Below w.heap.size w w':=by
 go_enter Tryz.func121,Tryz.ntmps121
 go_wp2_with (first
  | ((with_reducible refine zg (N:=4) rfl ?_);refine zV ?hg (N:=4) ?hd (cs:=#[.int .i64 0,.int .i64 0]) (t:=38) ?hr ?_;(case hd=>rfl);(case hg=>rfl);(case hr=>rfl);intro g4 hg W0 hbox hb;have B4:=hhd hbox;have HB0:=hhd hb;have L4:=hhd hg;clear hbox hb hg)
  | ((with_reducible refine zg (N:=6) rfl ?_);refine zV ?hg (N:=6) ?hd (cs:=#[.int .i64 0,.int .i64 0]) (t:=38) ?hr ?_;(case hd=>rfl);(case hg=>rfl);(case hr=>rfl);intro g6 hg W1 hbox hb;have B6:=hhd hbox;have B41:=hhd (za B4.out hb);have N46:g4≠g6:=(by rw [hg];exact Nat.ne_of_lt (zf B4.out));have L6:w.heap.size≤g6:=(by rw [hg];exact HB0.out.size);have HB1:=hhd (zb HB0.out hb);clear hbox hb hg HB0 B4)
  | ((with_reducible refine zo (t:=38) (p:=6) rfl ?_);refine zv rfl 38 _ _ rfl g6 #[.int .i64 x,.int .i64 0] rfl rfl 38 #[.int .i64 0,.int .i64 0] B6.out (zu _ _) rfl (zG _ _) ?_;intro W2 hq hoth hbel;have B62:=hhd hq;have B42:=hhd ((hoth g4 N46).trans B41.out);have HB2:=hhd (hbel _ _ L6 HB1.out);clear hq hoth hbel HB1 B6 B41)
  | (go_at_call 124;refine (ziW _).mono ?_;rintro e W3 ⟨rfl,hb⟩;have B63:=hhd (za B62.out hb);have B43:=hhd (za B42.out hb);have HB3:=hhd (zb HB2.out hb);clear hb B62 B42 HB2))
 have LG4:w.heap.size≤g4:=by have:=L4.out;omega
 clear L4
 go_loopw [1,14] (fun s1 s14 wr=>∃(k:Nat) (a b c:Int),k≤45∧s14=.int .i64 k∧s1=.int .i64 c∧wr.heap[g6]?=some (.cells #[.int .i64 a,.int .i64 b] 38 (0,0))∧wr.heap[g4]?=some (.cells #[.int .i64 0,.int .i64 0] 38 (0,0))∧zax x z k=(a,b,c)∧Below w.heap.size w wr) (fun _ i _=>45 - (intOf i).toNat)
 case atStart=>exact ⟨0,x,0,z,by omega,rfl,rfl,B63.out,B43.out,rfl,HB3.out⟩
 case round =>
  obtain ⟨k,a,b,c,hk,rfl,rfl,c6,c4,hrun,hbw⟩:=hrel
  have C6:=hhd c6
  have C4:=hhd c4
  have HR:=hhd hrun
  have HBW:=hhd hbw
  clear c6 c4 hrun hbw B63 B43 HB3
  by_cases hlt:k < 45
  ·have hix:=zmL k hlt
   have ha:=(zc C6.out 0).trans rfl
   have hb:=(zc C6.out 1).trans rfl
   have hfa:=zi C6.out 0
   have hfb:=zi C6.out 1
   by_cases hc:0≤c
   ·have HN:=hhd (show zax x z (k+1)=(wrap64 (a - b / 2^k),wrap64 (b+a / 2^k),wrap64 (c - znZ.getD k 0)) from by rw [zax,HR.out];exact if_pos hc)
    go_wp2
    go_quiet (fail)
    go_wp2
    go_roundw
    case rel=>exact ⟨k+1,_,_,_,by omega,by go_num,rfl,zS (zS C6.out 0 _ rfl) 1 _ rfl,(Below.heap_setCell _ _ _ _ N46).trans ((Below.heap_setCell _ _ _ _ N46).trans C4.out),HN.out,((zd HBW.out nq).setCell (p:=⟨g6,0,none⟩) L6 _).setCell (p:=⟨g6,1,none⟩) L6 _⟩
    case measure=>simp [intOf];omega
   ·have HN:=hhd (show zax x z (k+1)=(wrap64 (a+b / 2^k),wrap64 (b - a / 2^k),wrap64 (c+znZ.getD k 0)) from by rw [zax,HR.out];exact if_neg hc)
    go_wp2
    go_quiet (fail)
    go_wp2
    go_roundw
    case rel=>exact ⟨k+1,_,_,_,by omega,by go_num,rfl,zS (zS C6.out 0 _ rfl) 1 _ rfl,(Below.heap_setCell _ _ _ _ N46).trans ((Below.heap_setCell _ _ _ _ N46).trans C4.out),HN.out,((zd HBW.out nq).setCell (p:=⟨g6,0,none⟩) L6 _).setCell (p:=⟨g6,1,none⟩) L6 _⟩
    case measure=>simp [intOf];omega
  ·obtain rfl:k=45:=by omega
   go_wp2_with (first
    | ((with_reducible refine zg (N:=53) rfl ?_);refine wpList_load_row rfl 38 _ rfl g6 rfl 38 #[.int .i64 a,.int .i64 b] (0,0) _ C6.out Tryz.underlying38 rfl (zu _ _) ?_)
    | ((with_reducible refine zo (t:=38) (p:=4) rfl ?_);refine zv rfl 38 _ _ rfl g4 #[.int .i64 a,.int .i64 b] rfl rfl 38 #[.int .i64 0,.int .i64 0] C4.out (zu _ _) rfl (zG _ _) ?_;intro W7 hq hoth hbel;have B7:=hhd hq;have HB7:=hhd hbel;clear hq hoth hbel))
   refine bodyPost_ret (zZ rfl _ _ g4 38 #[.int .i64 a,.int .i64 b] (0,0) _ rfl B7.out Tryz.underlying38 rfl (zu _ _)) rfl ?_
   rw [HR.out]
   exact ⟨rfl,HB7.out _ _ LG4 HBW.out⟩
set_option maxRecDepth 100000 in
set_option maxHeartbeats 4000000 in
theorem zkP (w:World) :
  Calls Tryz.prog 122 #[] w fun e w'=>e=.returned (.int .i64 118661582157481174)∧Below w.heap.size w w':=by
 have hv:(zax 72057594037927936 0 45).1=118661582157481174:=by decide +kernel
 have HV:=hhd hv
 clear hv
 go_enter Tryz.func122,Tryz.ntmps122
 go_wp2_with (first
  | (go_at_call 121;refine (ziq _ _ _).mono ?_;rintro e W1 ⟨rfl,hb⟩;have HB1:=hhd hb;clear hb)
  | ((with_reducible refine zg (N:=1) rfl ?_);refine zV ?hg (N:=1) ?hd (cs:=#[.int .i64 0,.int .i64 0]) (t:=38) ?hr ?_;(case hd=>rfl);(case hg=>rfl);(case hr=>rfl);intro g1 hg W2 hbox hb;have B2:=hhd hbox;have LG1:w.heap.size≤g1:=(by rw [hg];exact HB1.out.size);have HB2:=hhd (zb HB1.out hb);clear hbox hb hg HB1)
  | ((with_reducible refine zo (t:=38) (p:=1) rfl ?_);refine zv rfl 38 _ _ rfl g1 #[.int .i64 (zax 72057594037927936 0 45).1,.int .i64 (zax 72057594037927936 0 45).2.1] rfl rfl 38 #[.int .i64 0,.int .i64 0] B2.out (zu _ _) rfl (zG _ _) ?_;intro W3 hq hoth hbel;have B3:=hhd hq;have HB3:=hhd (hbel _ _ LG1 HB2.out);have hcell:=(zc B3.out 0).trans rfl;clear hq hoth hbel))
 go_ret
 exact ⟨congrArg (fun q=>Ending.returned (.int .i64 q)) HV.out,HB3.out⟩

def zl3 (g:Int) (s:Int×Int):Int×Int :=
 if wrap64 (s.1*2)≥g then (wrap64 (wrap64 (s.1*2) - g),Go.bits .or .i64 (wrap64 (s.2*2)) 1) else (wrap64 (s.1*2),wrap64 (s.2*2))
def zd6:Nat→Int×Int
 | 0=>(72057594037927936,0)
 | k+1=>zl3 118661582157481174 (zd6 k)
theorem zl4 (a b:Value):(Tryz.prog.info? 111).map (·.size)=some (#[a,b]:Array Value).size:=by kernel_rfl
set_option maxRecDepth 100000 in
set_option maxHeartbeats 4000000 in
theorem zh7 (w:World) :
  Calls Tryz.prog 119 #[] w fun e w'=>e=.returned (.int .i64 43757185469210200)∧Below w.heap.size w w':=by
 have hv:(zd6 56).2=43757185469210200:=by decide +kernel
 have HV:=hhd hv
 clear hv
 go_enter Tryz.func119,Tryz.ntmps119
 go_wp2_with (first
  | (go_at_call 122;refine (zkP _).mono ?_;rintro e W1 ⟨rfl,hb⟩;have HB1:=hhd hb;clear hb)
  | ((with_reducible refine zg (N:=2) rfl ?_);refine zV ?hg (N:=2) ?hd (cs:=#[.int .i64 0,.int .i64 0]) (t:=111) ?hr ?_;(case hd=>rfl);(case hg=>rfl);(case hr=>rfl);intro g1 hg W2 hbox hb;have B2:=hhd hbox;have LG1:w.heap.size≤g1:=(by rw [hg];exact HB1.out.size);have HB2:=hhd (zb HB1.out hb);clear hbox hb hg HB1)
  | ((with_reducible refine zo (t:=111) (p:=2) rfl ?_);refine zv rfl 111 _ _ rfl g1 #[.int .i64 72057594037927936,.int .i64 0] rfl rfl 111 #[.int .i64 0,.int .i64 0] B2.out (zl4 _ _) rfl (zG _ _) ?_;intro W3 hq hoth hbel;have B3:=hhd hq;have HB3:=hhd (hbel _ _ LG1 HB2.out);clear hq hoth hbel HB2 B2))
 go_loopw [5] (fun s5 wr=>∃(k:Nat) (a b:Int),k≤56∧s5=.int .i64 k∧wr.heap[g1]?=some (.cells #[.int .i64 a,.int .i64 b] 111 (0,0))∧zd6 k=(a,b)∧Below w.heap.size w wr) (fun i _=>56 - (intOf i).toNat)
 case atStart=>exact ⟨0,_,_,by omega,rfl,B3.out,rfl,HB3.out⟩
 case round =>
  obtain ⟨k,a,b,hk,rfl,c1,hinv,hbw⟩:=hrel
  have C1:=hhd c1
  have HI:=hhd hinv
  have HBW:=hhd hbw
  clear c1 hinv hbw B3 HB3
  have ha:=(zc C1.out 0).trans rfl
  have hb:=(zc C1.out 1).trans rfl
  have hfa:=zi C1.out 0
  have hfb:=zi C1.out 1
  by_cases hlt:k < 56
  ·by_cases hc:wrap64 (a*2)≥118661582157481174
   ·have HN:=hhd (show zd6 (k+1)=(wrap64 (wrap64 (a*2) - 118661582157481174),Go.bits .or .i64 (wrap64 (b*2)) 1) from by rw [zd6,HI.out];exact if_pos hc)
    go_wp2
    go_roundw
    case rel=>exact ⟨k+1,_,_,by omega,by go_num,zS (zS (zS (zS C1.out 0 _ rfl) 1 _ rfl) 0 _ rfl) 1 _ rfl,HN.out,(((HBW.out.setCell (p:=⟨g1,0,none⟩) LG1 _).setCell (p:=⟨g1,1,none⟩) LG1 _).setCell (p:=⟨g1,0,none⟩) LG1 _).setCell (p:=⟨g1,1,none⟩) LG1 _⟩
    case measure=>simp [intOf];omega
   ·have HN:=hhd (show zd6 (k+1)=(wrap64 (a*2),wrap64 (b*2)) from by rw [zd6,HI.out];exact if_neg hc)
    go_wp2
    go_roundw
    case rel=>exact ⟨k+1,_,_,by omega,by go_num,zS (zS C1.out 0 _ rfl) 1 _ rfl,HN.out,(HBW.out.setCell (p:=⟨g1,0,none⟩) LG1 _).setCell (p:=⟨g1,1,none⟩) LG1 _⟩
    case measure=>simp [intOf];omega
  ·obtain rfl:k=56:=by omega
   go_wp2
   go_ret
   have e:b=43757185469210200:=by rw [← HV.out,HI.out]
   exact ⟨congrArg (fun q=>Ending.returned (.int .i64 q)) e,HBW.out⟩

def gain_Run.f (a0:Int) (a1:Int):Option (Int×Int×Int×Int) :=
 if a0 < 0 then some (0,0,0,2) else if a0 > 144115188075855872 then some (0,0,0,2) else if a1 < -72057594037927936 then some (0,0,0,2) else if a1 > 72057594037927936 then some (0,0,0,2) else some ((zax a0 a1 45).1,(zax a0 a1 45).2.1,(zax a0 a1 45).2.2,0)
def zjM (x z:Int):Prop:=x < 0∨x > 144115188075855872∨z < -72057594037927936∨z > 72057594037927936
set_option maxRecDepth 100000 in
set_option maxHeartbeats 4000000 in
theorem zfy (x z:Int) (h:zjM x z) (w:World) :
  Calls Tryz.prog 118 #[.int .i64 x,.int .i64 z] w fun e w'=>e=.returned (.tuple #[.agg #[.int .i64 0,.int .i64 0],.int .i64 0,.int .i64 2])∧Below w.heap.size w w':=by
 unfold zjM at h
 by_cases h1:x < 0
 ·clear h
  go_enter Tryz.func118,Tryz.ntmps118
  go_wp2_with (first
   | ((with_reducible refine zg (N:=4) rfl ?_);refine zV ?hg (N:=4) ?hd (cs:=#[.int .i64 0,.int .i64 0]) (t:=38) ?hr ?_;(case hd=>rfl);(case hg=>rfl);(case hr=>rfl);intro g4 hg W0 hbox hb;have B0:=hhd hbox;have HB0:=hhd hb;have LG4:w.heap.size≤g4:=(by rw [hg];exact Nat.le_refl _);clear hbox hb hg)
   | ((with_reducible refine zo (t:=38) (p:=4) rfl ?_);refine zv rfl 38 _ _ rfl g4 #[.int .i64 0,.int .i64 0] rfl rfl 38 #[.int .i64 0,.int .i64 0] B0.out (zu _ _) rfl (zG _ _) ?_;intro W7 hq hoth hbel;have B7:=hhd hq;have HB7:=hhd hbel;clear hq hoth hbel))
  refine bodyPost_ret (zb2 rfl _ _ g4 38 #[.int .i64 0,.int .i64 0] (0,0) _ rfl B7.out Tryz.underlying38 rfl (zu _ _)) rfl ?_
  exact ⟨rfl,HB7.out _ _ LG4 HB0.out⟩
 ·by_cases h2:x > 144115188075855872
  ·clear h
   go_enter Tryz.func118,Tryz.ntmps118
   go_wp2_with (first
    | ((with_reducible refine zg (N:=4) rfl ?_);refine zV ?hg (N:=4) ?hd (cs:=#[.int .i64 0,.int .i64 0]) (t:=38) ?hr ?_;(case hd=>rfl);(case hg=>rfl);(case hr=>rfl);intro g4 hg W0 hbox hb;have B0:=hhd hbox;have HB0:=hhd hb;have LG4:w.heap.size≤g4:=(by rw [hg];exact Nat.le_refl _);clear hbox hb hg)
    | ((with_reducible refine zo (t:=38) (p:=4) rfl ?_);refine zv rfl 38 _ _ rfl g4 #[.int .i64 0,.int .i64 0] rfl rfl 38 #[.int .i64 0,.int .i64 0] B0.out (zu _ _) rfl (zG _ _) ?_;intro W7 hq hoth hbel;have B7:=hhd hq;have HB7:=hhd hbel;clear hq hoth hbel))
   refine bodyPost_ret (zb2 rfl _ _ g4 38 #[.int .i64 0,.int .i64 0] (0,0) _ rfl B7.out Tryz.underlying38 rfl (zu _ _)) rfl ?_
   exact ⟨rfl,HB7.out _ _ LG4 HB0.out⟩
  ·by_cases h3:z < -72057594037927936
   ·clear h
    go_enter Tryz.func118,Tryz.ntmps118
    go_wp2_with (first
     | ((with_reducible refine zg (N:=4) rfl ?_);refine zV ?hg (N:=4) ?hd (cs:=#[.int .i64 0,.int .i64 0]) (t:=38) ?hr ?_;(case hd=>rfl);(case hg=>rfl);(case hr=>rfl);intro g4 hg W0 hbox hb;have B0:=hhd hbox;have HB0:=hhd hb;have LG4:w.heap.size≤g4:=(by rw [hg];exact Nat.le_refl _);clear hbox hb hg)
     | ((with_reducible refine zo (t:=38) (p:=4) rfl ?_);refine zv rfl 38 _ _ rfl g4 #[.int .i64 0,.int .i64 0] rfl rfl 38 #[.int .i64 0,.int .i64 0] B0.out (zu _ _) rfl (zG _ _) ?_;intro W7 hq hoth hbel;have B7:=hhd hq;have HB7:=hhd hbel;clear hq hoth hbel))
    refine bodyPost_ret (zb2 rfl _ _ g4 38 #[.int .i64 0,.int .i64 0] (0,0) _ rfl B7.out Tryz.underlying38 rfl (zu _ _)) rfl ?_
    exact ⟨rfl,HB7.out _ _ LG4 HB0.out⟩
   ·have h4:z > 72057594037927936:=by omega
    clear h
    go_enter Tryz.func118,Tryz.ntmps118
    go_wp2_with (first
     | ((with_reducible refine zg (N:=4) rfl ?_);refine zV ?hg (N:=4) ?hd (cs:=#[.int .i64 0,.int .i64 0]) (t:=38) ?hr ?_;(case hd=>rfl);(case hg=>rfl);(case hr=>rfl);intro g4 hg W0 hbox hb;have B0:=hhd hbox;have HB0:=hhd hb;have LG4:w.heap.size≤g4:=(by rw [hg];exact Nat.le_refl _);clear hbox hb hg)
     | ((with_reducible refine zo (t:=38) (p:=4) rfl ?_);refine zv rfl 38 _ _ rfl g4 #[.int .i64 0,.int .i64 0] rfl rfl 38 #[.int .i64 0,.int .i64 0] B0.out (zu _ _) rfl (zG _ _) ?_;intro W7 hq hoth hbel;have B7:=hhd hq;have HB7:=hhd hbel;clear hq hoth hbel))
    refine bodyPost_ret (zb2 rfl _ _ g4 38 #[.int .i64 0,.int .i64 0] (0,0) _ rfl B7.out Tryz.underlying38 rfl (zu _ _)) rfl ?_
    exact ⟨rfl,HB7.out _ _ LG4 HB0.out⟩
set_option maxRecDepth 100000 in
set_option maxHeartbeats 4000000 in
theorem zl5 (x z:Int) (h1:0≤x) (h2:x≤144115188075855872) (h3:-72057594037927936≤z) (h4:z≤72057594037927936) (w:World) :
  Calls Tryz.prog 118 #[.int .i64 x,.int .i64 z] w fun e w'=>e=.returned (.tuple #[.agg #[.int .i64 (zax x z 45).1,.int .i64 (zax x z 45).2.1],.int .i64 (zax x z 45).2.2,.int .i64 0])∧Below w.heap.size w w':=by
 go_enter Tryz.func118,Tryz.ntmps118
 go_wp2_with (first
  | ((with_reducible refine zg (N:=4) rfl ?_);refine zV ?hg (N:=4) ?hd (cs:=#[.int .i64 0,.int .i64 0]) (t:=38) ?hr ?_;(case hd=>rfl);(case hg=>rfl);(case hr=>rfl);intro g4 hg W0 hbox hb;have B0:=hhd hbox;have HB0:=hhd hb;have LG4:w.heap.size≤g4:=(by rw [hg];exact Nat.le_refl _);clear hbox hb hg)
  | (go_at_call 121;refine (ziq _ _ _).mono ?_;rintro e W1 ⟨rfl,hb⟩;have B1:=hhd (za B0.out hb);have HB1:=hhd (zb HB0.out hb);clear hb B0 HB0)
  | ((with_reducible refine zg (N:=7) rfl ?_);refine zV ?hg (N:=7) ?hd (cs:=#[.int .i64 0,.int .i64 0]) (t:=38) ?hr ?_;(case hd=>rfl);(case hg=>rfl);(case hr=>rfl);intro g7 hg W2 hbox hb;have B2:=hhd hbox;have B42:=hhd (za B1.out hb);have N47:g4≠g7:=(by rw [hg];exact Nat.ne_of_lt (zf B1.out));have LG7:w.heap.size≤g7:=(by rw [hg];exact HB1.out.size);have HB2:=hhd (zb HB1.out hb);clear hbox hb hg HB1 B1)
  | ((with_reducible refine zo (t:=38) (p:=7) rfl ?_);refine zv rfl 38 _ _ rfl g7 #[.int .i64 (zax x z 45).1,.int .i64 (zax x z 45).2.1] rfl rfl 38 #[.int .i64 0,.int .i64 0] B2.out (zu _ _) rfl (zG _ _) ?_;intro W3 hq hoth hbel;have B3:=hhd hq;have B43:=hhd ((hoth g4 N47).trans B42.out);have HB3:=hhd (hbel _ _ LG7 HB2.out);clear hq hoth hbel HB2 B2 B42)
  | ((with_reducible refine zg (N:=30) rfl ?_);refine wpList_load_row rfl 38 _ rfl g7 rfl 38 #[.int .i64 (zax x z 45).1,.int .i64 (zax x z 45).2.1] (0,0) _ B3.out Tryz.underlying38 rfl (zu _ _) ?_)
  | ((with_reducible refine zo (t:=38) (p:=4) rfl ?_);refine zv rfl 38 _ _ rfl g4 #[.int .i64 (zax x z 45).1,.int .i64 (zax x z 45).2.1] rfl rfl 38 #[.int .i64 0,.int .i64 0] B43.out (zu _ _) rfl (zG _ _) ?_;intro W7 hq hoth hbel;have B7:=hhd hq;have HB7:=hhd hbel;clear hq hoth hbel))
 refine bodyPost_ret (zb2 rfl _ _ g4 38 #[.int .i64 (zax x z 45).1,.int .i64 (zax x z 45).2.1] (0,0) _ rfl B7.out Tryz.underlying38 rfl (zu _ _)) rfl ?_
 exact ⟨rfl,HB7.out _ _ LG4 HB3.out⟩
theorem zjN (a0:Int) (a1:Int) (r1:Int) (r2:Int) (r3:Int) (r4:Int) (w:World) (h:gain_Run.f a0 a1=some (r1,r2,r3,r4)) :
  Calls Tryz.prog 118 #[.int .i64 a0,.int .i64 a1] w fun e w'=>e=.returned (.tuple #[.agg #[.int .i64 r1,.int .i64 r2],.int .i64 r3,.int .i64 r4])∧Below w.heap.size w w':=by
 by_cases h1:a0 < 0
 ·have e:gain_Run.f a0 a1=some (0,0,0,2):=if_pos h1
  rw [e] at h
  simp only [Option.some.injEq,Prod.mk.injEq] at h
  obtain ⟨rfl,rfl,rfl,rfl⟩:=h
  exact zfy a0 a1 (.inl h1) w
 by_cases h2:a0 > 144115188075855872
 ·have e:gain_Run.f a0 a1=some (0,0,0,2):=(if_neg h1).trans (if_pos h2)
  rw [e] at h
  simp only [Option.some.injEq,Prod.mk.injEq] at h
  obtain ⟨rfl,rfl,rfl,rfl⟩:=h
  exact zfy a0 a1 (.inr (.inl h2)) w
 by_cases h3:a1 < -72057594037927936
 ·have e:gain_Run.f a0 a1=some (0,0,0,2):=(if_neg h1).trans ((if_neg h2).trans (if_pos h3))
  rw [e] at h
  simp only [Option.some.injEq,Prod.mk.injEq] at h
  obtain ⟨rfl,rfl,rfl,rfl⟩:=h
  exact zfy a0 a1 (.inr (.inr (.inl h3))) w
 by_cases h4:a1 > 72057594037927936
 ·have e:gain_Run.f a0 a1=some (0,0,0,2):=(if_neg h1).trans ((if_neg h2).trans ((if_neg h3).trans (if_pos h4)))
  rw [e] at h
  simp only [Option.some.injEq,Prod.mk.injEq] at h
  obtain ⟨rfl,rfl,rfl,rfl⟩:=h
  exact zfy a0 a1 (.inr (.inr (.inr h4))) w
 have e:gain_Run.f a0 a1=some ((zax a0 a1 45).1,(zax a0 a1 45).2.1,(zax a0 a1 45).2.2,0):=(if_neg h1).trans ((if_neg h2).trans ((if_neg h3).trans (if_neg h4)))
 rw [e] at h
 clear e
 have hy:=zl5 a0 a1 (by clear h;omega) (by clear h;omega) (by clear h;omega) (by clear h;omega) w
 generalize zax a0 a1 45=R at *
 simp only [Option.some.injEq,Prod.mk.injEq] at h
 obtain ⟨rfl,rfl,rfl,rfl⟩:=h
 exact hy
set_option maxRecDepth 100000 in
set_option maxHeartbeats 4000000 in
theorem ziX (Bl Bk:Nat) (log k:Int) (w:World) (hl:w.heap[Bl]?=some (.cells #[.int .i64 log] 3 (0,0))) (hk:w.heap[Bk]?=some (.cells #[.int .i64 k] 3 (0,0))) (h:log < 0∨log > 6∨k < 0∨k > 2^log.toNat) :
  Calls Tryz.prog 116 #[.pointer (some ⟨Bl,0,none⟩),.pointer (some ⟨Bk,0,none⟩)] w fun e w'=>e=.returned (.tuple #[.int .i64 0,.int .i64 1])∧Below w.heap.size w w':=by
 have hcl:w.cell? ⟨Bl,0,none⟩=some (.int .i64 log):=(zc hl 0).trans rfl
 have hck:w.cell? ⟨Bk,0,none⟩=some (.int .i64 k):=(zc hk 0).trans rfl
 clear hl hk
 by_cases h1:log < 0
 ·clear h
  go_enter Tryz.func116,Tryz.ntmps116
  go_wp2
  go_quiet (fail)
  go_wp2
  go_ret2
  exact ⟨rfl,zd (Below.refl _ w) nq⟩
 ·by_cases h2:log > 6
  ·clear h
   go_enter Tryz.func116,Tryz.ntmps116
   go_wp2
   go_quiet (fail)
   go_wp2
   go_ret2
   exact ⟨rfl,zd (Below.refl _ w) nq⟩
  ·by_cases h3:k < 0
   ·clear h
    go_enter Tryz.func116,Tryz.ntmps116
    go_wp2
    go_quiet (fail)
    go_wp2
    go_ret2
    exact ⟨rfl,zd (Below.refl _ w) nq⟩
   ·have b1:decide (k < 0)=false:=by simp;omega
    have hlog:log=0∨log=1∨log=2∨log=3∨log=4∨log=5∨log=6:=by omega
    have hw:IntKind.i64.wrap (2^log.toNat)=2^log.toNat:=by rcases hlog with rfl | rfl | rfl | rfl | rfl | rfl | rfl <;> rfl
    have h4:k > 2^log.toNat:=by
     rcases h with h | h | h | h
     ·exact absurd h h1
     ·exact absurd h h2
     ·exact absurd h h3
     ·exact h
    have b2:decide (2^log.toNat < k)=true:=by simp;exact h4
    have b3:decide (IntKind.i64.wrap (2^log.toNat) < k)=true:=by rw [hw];exact b2
    have h1':0≤log:=by omega
    have h2':log≤6:=by omega
    clear hlog h h4 h3 h1 h2
    go_enter Tryz.func116,Tryz.ntmps116
    go_wp2
    go_quiet (fail)
    go_wp2
    go_ret2
    exact ⟨rfl,zd (Below.refl _ w) nq⟩
set_option maxRecDepth 100000 in
set_option maxHeartbeats 4000000 in
theorem zh8 (Bl Bk:Nat) (log k:Int) (w:World) (hl:w.heap[Bl]?=some (.cells #[.int .i64 log] 3 (0,0))) (hk:w.heap[Bk]?=some (.cells #[.int .i64 k] 3 (0,0))) (h1:0≤log) (h2:log≤6) (h3:0≤k) (h4:k≤2^log.toNat) :
  Calls Tryz.prog 116 #[.pointer (some ⟨Bl,0,none⟩),.pointer (some ⟨Bk,0,none⟩)] w fun e w'=>e=.returned (.tuple #[.int .i64 (wrap64 (56593902016227522*k) / 2^log.toNat),.int .i64 0])∧Below w.heap.size w w':=by
 have hcl:w.cell? ⟨Bl,0,none⟩=some (.int .i64 log):=(zc hl 0).trans rfl
 have hck:w.cell? ⟨Bk,0,none⟩=some (.int .i64 k):=(zc hk 0).trans rfl
 have HL:=hhd hl
 have HK:=hhd hk
 clear hl hk
 have b1:decide (k < 0)=false:=by simp;omega
 have hlog:log=0∨log=1∨log=2∨log=3∨log=4∨log=5∨log=6:=by omega
 have hw:IntKind.i64.wrap (2^log.toNat)=2^log.toNat:=by rcases hlog with rfl | rfl | rfl | rfl | rfl | rfl | rfl <;> rfl
 have b2:decide (2^log.toNat < k)=false:=by simp;exact h4
 have b3:decide (IntKind.i64.wrap (2^log.toNat) < k)=false:=by rw [hw];simp;exact h4
 clear hlog h4
 go_enter Tryz.func116,Tryz.ntmps116
 go_wp2
 go_quiet (fail)
 go_wp2
 go_region_held3 (fun w'=>w'.cell? ⟨Bl,0,none⟩=some (.int .i64 log)∧w'.cell? ⟨Bk,0,none⟩=some (.int .i64 k)∧Below w.heap.size w w')
  (first
   | exact ⟨hcl,hck,(zd (Below.refl _ w) nq).drew⟩
   | go_keep
   | exact ⟨(zc (za (zn HL.out (nq+1)) hb) 0).trans rfl,(zc (za (zn HK.out (nq+1)) hb) 0).trans rfl,zb (zd (Below.refl _ w) (nq+1)) hb⟩)
  ((go_at_call 117;refine (arc_Quarter.calls 56593902016227522 _ ze4).mono ?_;rintro e W1 ⟨rfl,hb⟩))
 case _ hH =>
  go_wp2
  go_ret2
  exact ⟨congrArg (fun q=>Ending.returned (.tuple #[.int .i64 (q / 2^log.toNat),.int .i64 0])) (zL _),hH.2.2⟩
set_option maxRecDepth 100000 in
set_option maxHeartbeats 8000000 in
theorem zg9 (Bl Bk:Nat) (log k:Int) (w:World) (hbl:w.heap[Bl]?=some (.cells #[.int .i64 log] 3 (0,0))) (hbk:w.heap[Bk]?=some (.cells #[.int .i64 k] 3 (0,0))) (h:log < 0∨log > 6∨k < 0∨k > 2^log.toNat) :
  Calls Tryz.prog 115 #[.func (.func 116) #[] #[.pointer (some ⟨Bl,0,none⟩),.pointer (some ⟨Bk,0,none⟩)]] w fun x w'=>x=.returned (.tuple #[.agg #[.int .i64 0,.int .i64 0],.int .i64 1])∧Below w.heap.size w w':=by
 have HL:=hhd hbl
 have HK:=hhd hbk
 clear hbl hbk
 go_enter Tryz.func115,Tryz.ntmps115
 go_wp2_with (first
  | ((with_reducible refine zg (N:=2) rfl ?_);refine zV ?hg (N:=2) ?hd (cs:=#[.int .i64 0,.int .i64 0]) (t:=38) ?hr ?_;(case hd=>rfl);(case hg=>rfl);(case hr=>rfl);intro g4 hg W0 hbox hb;have B0:=hhd hbox;have HB0:=hhd hb;have LG4:w.heap.size≤g4:=(by rw [hg];exact Nat.le_refl _);clear hbox hb hg)
  | (go_at_call 116;refine (ziX Bl Bk log k _ (za HL.out HB0.out) (za HK.out HB0.out) h).mono ?_;rintro e W1 ⟨rfl,hb⟩;have B1:=hhd (za B0.out hb);have HB1:=hhd (zb HB0.out hb);clear hb B0 HB0)
  | ((with_reducible refine zo (t:=38) (p:=2) rfl ?_);refine zv rfl 38 _ _ rfl g4 #[.int .i64 0,.int .i64 0] rfl rfl 38 #[.int .i64 0,.int .i64 0] B1.out (zu _ _) rfl (zG _ _) ?_;intro W7 hq hoth hbel;have B7:=hhd hq;have HB7:=hhd hbel;clear hq hoth hbel))
 refine bodyPost_ret (zZ rfl _ _ g4 38 #[.int .i64 0,.int .i64 0] (0,0) _ rfl B7.out Tryz.underlying38 rfl (zu _ _)) rfl ?_
 exact ⟨rfl,HB7.out _ _ LG4 HB1.out⟩
set_option maxRecDepth 100000 in
set_option maxHeartbeats 8000000 in
theorem zh9 (Bl Bk:Nat) (log k:Int) (r1 r2 r3 r4:Int) (w:World) (hbl:w.heap[Bl]?=some (.cells #[.int .i64 log] 3 (0,0))) (hbk:w.heap[Bk]?=some (.cells #[.int .i64 k] 3 (0,0))) (h1:0≤log) (h2:log≤6) (h3:0≤k) (h4:k≤2^log.toNat)
  (h:gain_Run.f 43757185469210200 (wrap64 (56593902016227522*k) / 2^log.toNat)=some (r1,r2,r3,r4)) :
  Calls Tryz.prog 115 #[.func (.func 116) #[] #[.pointer (some ⟨Bl,0,none⟩),.pointer (some ⟨Bk,0,none⟩)]] w fun x w'=>x=.returned (.tuple #[.agg #[.int .i64 r1,.int .i64 r2],.int .i64 r4])∧Below w.heap.size w w':=by
 have HL:=hhd hbl
 have HK:=hhd hbk
 have HR:=hhd h
 have H4:=hhd h4
 clear hbl hbk h h4
 go_enter Tryz.func115,Tryz.ntmps115
 go_wp2_with (first
  | ((with_reducible refine zg (N:=2) rfl ?_);refine zV ?hg (N:=2) ?hd (cs:=#[.int .i64 0,.int .i64 0]) (t:=38) ?hr ?_;(case hd=>rfl);(case hg=>rfl);(case hr=>rfl);intro g4 hg W0 hbox hb;have B0:=hhd hbox;have HB0:=hhd hb;have LG4:w.heap.size≤g4:=(by rw [hg];exact Nat.le_refl _);clear hbox hb hg)
  | (go_at_call 116;refine (zh8 Bl Bk log k _ (za HL.out HB0.out) (za HK.out HB0.out) h1 h2 h3 H4.out).mono ?_;rintro e W1 ⟨rfl,hb⟩;have B1:=hhd (za B0.out hb);have HB1:=hhd (zb HB0.out hb);clear hb B0 HB0)
  | (go_at_call 119;refine (zh7 _).mono ?_;rintro e W2 ⟨rfl,hb⟩;have B2:=hhd (za B1.out hb);have HB2:=hhd (zb HB1.out hb);clear hb B1 HB1)
  | (go_at_call 118;refine (zjN _ _ r1 r2 r3 r4 _ HR.out).mono ?_;rintro e W3 ⟨rfl,hb⟩;have B3:=hhd (za B2.out hb);have HB3:=hhd (zb HB2.out hb);clear hb B2 HB2)
  | ((with_reducible refine zg (N:=6) rfl ?_);refine zV ?hg (N:=6) ?hd (cs:=#[.int .i64 0,.int .i64 0]) (t:=38) ?hr ?_;(case hd=>rfl);(case hg=>rfl);(case hr=>rfl);intro g7 hg W4 hbox hb;have B4:=hhd hbox;have B34:=hhd (za B3.out hb);have N47:g4≠g7:=(by rw [hg];exact Nat.ne_of_lt (zf B3.out));have LG7:w.heap.size≤g7:=(by rw [hg];exact HB3.out.size);have HB4:=hhd (zb HB3.out hb);clear hbox hb hg HB3 B3)
  | ((with_reducible refine zo (t:=38) (p:=6) rfl ?_);refine zv rfl 38 _ _ rfl g7 #[.int .i64 r1,.int .i64 r2] rfl rfl 38 #[.int .i64 0,.int .i64 0] B4.out (zu _ _) rfl (zG _ _) ?_;intro W5 hq hoth hbel;have B5:=hhd hq;have B35:=hhd ((hoth g4 N47).trans B34.out);have HB5:=hhd (hbel _ _ LG7 HB4.out);clear hq hoth hbel HB4 B4 B34)
  | ((with_reducible refine zg (N:=24) rfl ?_);refine wpList_load_row rfl 38 _ rfl g7 rfl 38 #[.int .i64 r1,.int .i64 r2] (0,0) _ B5.out Tryz.underlying38 rfl (zu _ _) ?_)
  | ((with_reducible refine zo (t:=38) (p:=2) rfl ?_);refine zv rfl 38 _ _ rfl g4 #[.int .i64 r1,.int .i64 r2] rfl rfl 38 #[.int .i64 0,.int .i64 0] B35.out (zu _ _) rfl (zG _ _) ?_;intro W7 hq hoth hbel;have B7:=hhd hq;have HB7:=hhd hbel;clear hq hoth hbel))
 refine bodyPost_ret (zZ rfl _ _ g4 38 #[.int .i64 r1,.int .i64 r2] (0,0) _ rfl B7.out Tryz.underlying38 rfl (zu _ _)) rfl ?_
 exact ⟨rfl,HB7.out _ _ LG4 HB5.out⟩
set_option maxRecDepth 100000 in
set_option maxHeartbeats 4000000 in
theorem zjO (k log:Int) (w:World) (h:log < 0∨log > 6∨k < 0∨k > 2^log.toNat) :
  Calls Tryz.prog 114 #[.int .i64 k,.int .i64 log] w fun e w'=>e=.returned (.tuple #[.agg #[.int .i64 0,.int .i64 0],.int .i64 1])∧Below w.heap.size w w':=by
 have HH:=hhd h
 clear h
 go_enter Tryz.func114,Tryz.ntmps114
 go_wp2_with (first
  | ((with_reducible refine zg (N:=2) rfl ?_);refine zV ?hg (N:=2) ?hd (cs:=#[.int .i64 k]) (t:=3) ?hr ?_;(case hd=>rfl);(case hg=>rfl);(case hr=>rfl);intro gk hg W0 hbox hb;have B0:=hhd hbox;have HB0:=hhd hb;clear hbox hb hg)
  | ((with_reducible refine zg (N:=3) rfl ?_);refine zV ?hg (N:=3) ?hd (cs:=#[.int .i64 log]) (t:=3) ?hr ?_;(case hd=>rfl);(case hg=>rfl);(case hr=>rfl);intro gl hg W1 hbox hb;have B1:=hhd hbox;have B01:=hhd (za B0.out hb);have HB1:=hhd (zb HB0.out hb);clear hbox hb hg HB0 B0)
  | ((with_reducible refine zg (N:=4) rfl ?_);refine zV ?hg (N:=4) ?hd (cs:=#[.int .i64 0,.int .i64 0]) (t:=38) ?hr ?_;(case hd=>rfl);(case hg=>rfl);(case hr=>rfl);intro g4 hg W2 hbox hb;have B2:=hhd hbox;have B12:=hhd (za B1.out hb);have B02:=hhd (za B01.out hb);have LG4:w.heap.size≤g4:=(by rw [hg];exact HB1.out.size);have HB2:=hhd (zb HB1.out hb);clear hbox hb hg HB1 B1 B01)
  | (go_at_call 115;refine (zg9 gl gk log k _ B12.out B02.out HH.out).mono ?_;rintro e W3 ⟨rfl,hb⟩;have B3:=hhd (za B2.out hb);have HB3:=hhd (zb HB2.out hb);clear hb B2 HB2)
  | ((with_reducible refine zo (t:=38) (p:=4) rfl ?_);refine zv rfl 38 _ _ rfl g4 #[.int .i64 0,.int .i64 0] rfl rfl 38 #[.int .i64 0,.int .i64 0] B3.out (zu _ _) rfl (zG _ _) ?_;intro W7 hq hoth hbel;have B7:=hhd hq;have HB7:=hhd hbel;clear hq hoth hbel))
 refine bodyPost_ret (zZ rfl _ _ g4 38 #[.int .i64 0,.int .i64 0] (0,0) _ rfl B7.out Tryz.underlying38 rfl (zu _ _)) rfl ?_
 exact ⟨rfl,HB7.out _ _ LG4 HB3.out⟩
set_option maxRecDepth 100000 in
set_option maxHeartbeats 4000000 in
theorem ziY (k log:Int) (r1 r2 r3 r4:Int) (w:World) (h1:0≤log) (h2:log≤6) (h3:0≤k) (h4:k≤2^log.toNat) (h:gain_Run.f 43757185469210200 (wrap64 (56593902016227522*k) / 2^log.toNat)=some (r1,r2,r3,r4)) :
  Calls Tryz.prog 114 #[.int .i64 k,.int .i64 log] w fun e w'=>e=.returned (.tuple #[.agg #[.int .i64 r1,.int .i64 r2],.int .i64 r4])∧Below w.heap.size w w':=by
 have HR:=hhd h
 have H4:=hhd h4
 clear h h4
 go_enter Tryz.func114,Tryz.ntmps114
 go_wp2_with (first
  | ((with_reducible refine zg (N:=2) rfl ?_);refine zV ?hg (N:=2) ?hd (cs:=#[.int .i64 k]) (t:=3) ?hr ?_;(case hd=>rfl);(case hg=>rfl);(case hr=>rfl);intro gk hg W0 hbox hb;have B0:=hhd hbox;have HB0:=hhd hb;clear hbox hb hg)
  | ((with_reducible refine zg (N:=3) rfl ?_);refine zV ?hg (N:=3) ?hd (cs:=#[.int .i64 log]) (t:=3) ?hr ?_;(case hd=>rfl);(case hg=>rfl);(case hr=>rfl);intro gl hg W1 hbox hb;have B1:=hhd hbox;have B01:=hhd (za B0.out hb);have HB1:=hhd (zb HB0.out hb);clear hbox hb hg HB0 B0)
  | ((with_reducible refine zg (N:=4) rfl ?_);refine zV ?hg (N:=4) ?hd (cs:=#[.int .i64 0,.int .i64 0]) (t:=38) ?hr ?_;(case hd=>rfl);(case hg=>rfl);(case hr=>rfl);intro g4 hg W2 hbox hb;have B2:=hhd hbox;have B12:=hhd (za B1.out hb);have B02:=hhd (za B01.out hb);have LG4:w.heap.size≤g4:=(by rw [hg];exact HB1.out.size);have HB2:=hhd (zb HB1.out hb);clear hbox hb hg HB1 B1 B01)
  | (go_at_call 115;refine (zh9 gl gk log k r1 r2 r3 r4 _ B12.out B02.out h1 h2 h3 H4.out HR.out).mono ?_;rintro e W3 ⟨rfl,hb⟩;have B3:=hhd (za B2.out hb);have HB3:=hhd (zb HB2.out hb);clear hb B2 HB2)
  | ((with_reducible refine zo (t:=38) (p:=4) rfl ?_);refine zv rfl 38 _ _ rfl g4 #[.int .i64 r1,.int .i64 r2] rfl rfl 38 #[.int .i64 0,.int .i64 0] B3.out (zu _ _) rfl (zG _ _) ?_;intro W7 hq hoth hbel;have B7:=hhd hq;have HB7:=hhd hbel;clear hq hoth hbel))
 refine bodyPost_ret (zZ rfl _ _ g4 38 #[.int .i64 r1,.int .i64 r2] (0,0) _ rfl B7.out Tryz.underlying38 rfl (zu _ _)) rfl ?_
 exact ⟨rfl,HB7.out _ _ LG4 HB3.out⟩
end Go.Proofs.YteieahbadclppaaGreat.P

namespace Go.Proofs.YteieahbadclppaaGreat.P
open Go.RowKit Go.Proofs.YteieahbadclppaaGreatW.PrintWords Go.Proofs.YteieahbadclppaaGreatW.PrintLast Go.Proofs.YteieahbadclppaaGreatW.PrintMore
attribute [local go_sem] zI zJ zO zP zX zY z8 z9
set_option linter.unusedVariables false
set_option linter.unusedSimpArgs false
def circle_Eighth.f (a0:Int) (a1:Int):Option (Int×Int×Int) :=
 if a1 < 0∨a1 > 6∨a0 < 0∨a0 > 2^a1.toNat then some (0,0,1) else (gain_Run.f 43757185469210200 (wrap64 (56593902016227522*a0) / 2^a1.toNat)).bind fun r=>some (r.1,r.2.1,r.2.2.2)
theorem circle_Eighth.calls (a0:Int) (a1:Int) (r1:Int) (r2:Int) (r3:Int) (w:World) (h:circle_Eighth.f a0 a1=some (r1,r2,r3)) :
  Calls Tryz.prog 114 #[.int .i64 a0,.int .i64 a1] w fun e w'=>e=.returned (.tuple #[.agg #[.int .i64 r1,.int .i64 r2],.int .i64 r3])∧Below w.heap.size w w':=by
 unfold circle_Eighth.f at h
 by_cases hb:a1 < 0∨a1 > 6∨a0 < 0∨a0 > 2^a1.toNat
 ·rw [if_pos hb] at h
  simp only [Option.some.injEq,Prod.mk.injEq] at h
  obtain ⟨rfl,rfl,rfl⟩:=h
  exact zjO a0 a1 w hb
 ·rw [if_neg hb] at h
  have n1:¬a1 < 0:=fun x=>hb (.inl x)
  have n2:¬a1 > 6:=fun x=>hb (.inr (.inl x))
  have n3:¬a0 < 0:=fun x=>hb (.inr (.inr (.inl x)))
  have n4:¬a0 > 2^a1.toNat:=fun x=>hb (.inr (.inr (.inr x)))
  clear hb
  obtain ⟨⟨x1,x2,x3,x4⟩,hx,hr⟩:=Option.bind_eq_some_iff.mp h
  clear h
  simp only [Option.some.injEq,Prod.mk.injEq] at hr
  obtain ⟨rfl,rfl,rfl⟩:=hr
  exact ziY a0 a1 x1 x2 x3 x4 w (Int.not_lt.1 n1) (Int.not_lt.1 n2) (Int.not_lt.1 n3) (Int.not_lt.1 n4) hx

def roots_point.f (a0:Int) (a1:Int):Option (Int×Int):=if 0≤a0 then (if (wrap64 (2*a1)) < (shl .i64 1 a0) then ((circle_Eighth.f (wrap64 (2*a1)) a0).bind fun bt118=>(some (bt118.1,bt118.2.1))) else (if (wrap64 (2*a1)) > (shl .i64 1 a0) then ((circle_Eighth.f (wrap64 (2*(wrap64 ((shl .i64 1 a0) - a1)))) a0).bind fun bt122=>(some (bt122.2.1,bt122.1))) else ((circle_Eighth.f (shl .i64 1 a0) a0).bind fun bt126=>(some (bt126.1,bt126.1))))) else (none)
set_option maxHeartbeats 8000000 in
set_option maxRecDepth 100000 in
theorem roots_point.calls (a0:Int) (a1:Int) (r1:Int) (r2:Int) (w:World) (h:roots_point.f a0 a1=some (r1,r2)) :
  Calls Tryz.prog 108 #[.int .i64 a0,.int .i64 a1] w fun e w'=>e=.returned (.agg #[.int .i64 r1,.int .i64 r2])∧Below w.heap.size w w':=by
 have hu38:=Tryz.underlying38
 have HB:=Aside0.mk (Below.refl w.heap.size w)
 have H:(if 0≤a0 then (if (wrap64 (2*a1)) < (shl .i64 1 a0) then ((circle_Eighth.f (wrap64 (2*a1)) a0).bind fun bt118=>(some (bt118.1,bt118.2.1))) else (if (wrap64 (2*a1)) > (shl .i64 1 a0) then ((circle_Eighth.f (wrap64 (2*(wrap64 ((shl .i64 1 a0) - a1)))) a0).bind fun bt122=>(some (bt122.2.1,bt122.1))) else ((circle_Eighth.f (shl .i64 1 a0) a0).bind fun bt126=>(some (bt126.1,bt126.1))))) else (none))=some (r1,r2):=h
 clear h
 by_cases c3:0≤a0
 ·rw [if_pos c3] at H
  have c3b0:=eq_true c3
  have c3b1:decide (0≤a0)=true:=decide_eq_true c3
  clear c3
  obtain ⟨ji4,hji4⟩:∃j_:Int,(shl .i64 1 a0)=j_:=⟨_,rfl⟩
  replace H:(if (wrap64 (2*a1)) < (ji4) then ((circle_Eighth.f (wrap64 (2*a1)) a0).bind fun bt118=>(some (bt118.1,bt118.2.1))) else (if (wrap64 (2*a1)) > (ji4) then ((circle_Eighth.f (wrap64 (2*(wrap64 ((ji4) - a1)))) a0).bind fun bt122=>(some (bt122.2.1,bt122.1))) else ((circle_Eighth.f (ji4) a0).bind fun bt126=>(some (bt126.1,bt126.1)))))=some (r1,r2):=by first | (rw [hji4] at H;exact H) | (simp only [hji4] at H ⊢;exact H)
  have hji4_:(IntKind.i64.wrap (1*2^min a0.toNat 64))=ji4:=hji4
  have hji4z:a0≤64→(IntKind.i64.wrap (1*2^a0.toNat))=ji4:=zcj hji4
  have hji4u:(IntKind.i64.wrap (2^min a0.toNat 64))=ji4:=by have h_:=hji4_;rw [Int.one_mul] at h_;exact h_
  have hji4v:a0≤64→(IntKind.i64.wrap (2^a0.toNat))=ji4:=fun hle_=>by have h_:=hji4z hle_;rw [Int.one_mul] at h_;exact h_
  have hji4y:(wrap64 (1*2^min a0.toNat 64))=ji4:=(zL _).symm.trans hji4_
  have hji4x:a0≤64→(wrap64 (1*2^a0.toNat))=ji4:=fun h_=>(zL _).symm.trans (hji4z h_)
  by_cases c5:(wrap64 (2*a1)) < (ji4)
  ·rw [if_pos c5] at H
   have c5b0:decide ((wrap64 (2*a1)) < (ji4))=true:=decide_eq_true c5
   clear c5
   replace H:=Option.bind_eq_some_iff.mp H
   obtain ⟨⟨t118,t119,t120⟩,A60,H⟩:=H
   replace H:(some (t118,t119))=some (r1,r2):=H
   have A6:=Aside0.mk A60
   clear A60
   simp only [Option.some.injEq,Prod.mk.injEq] at H
   obtain ⟨rfl,rfl⟩:=H
   go_enter Tryz.func108,Tryz.ntmps108
   go_wp2_with (first | ((with_reducible refine zg (N:=4) rfl ?_);refine ba_ 4 #[.int .i64 0,.int .i64 0] 38 ?_;intro gb117 hg w7 hbox hb;have n0_:=Aside0.mk (zb (by repeat (first | (with_reducible first | exact HB.out | apply ze | apply zd | apply zh) | exact HB.out)) hb);have n1_:=Aside0.mk (hbox);have n2_:=Aside0.mk ((by rw [hg];exact (zj (by repeat (first | (with_reducible first | exact HB.out | apply ze | apply zd | apply zh) | exact HB.out))):w.heap.size≤gb117));have n3_:=Aside0.mk ((by rw [hg];exact (zj (by repeat (first | (with_reducible first | exact HB.out | apply ze | apply zd | apply zh) | exact HB.out))):w.heap.size≤gb117));clear HB;have HB:=n0_;have BK117:=n1_;have GW117:=n2_;have GE117:=n3_;clear n0_ n1_ n2_ n3_;clear hb hbox hg) | ((with_reducible refine zy (f:=114) rfl ?_);refine zQ (some 23) rfl rfl Tryz.func114 (by kernel_rfl) rfl #[.int .i64 (wrap64 (2*a1)),.int .i64 a0] rfl (by (try simp only [List.map_toArray,List.map_cons,List.map_nil]);first | done | rfl | (simp only [List.length_drop,List.length_take];rfl)) ?_;(with_reducible refine (circle_Eighth.calls (wrap64 (2*a1)) a0 t118 t119 t120 _ A6.out).mono ?_);rintro e w8 ⟨rfl,hb⟩;refine ⟨_,rfl,?_⟩;have n0_:=Aside0.mk (za (g:=gb117) (o:=.cells #[.int .i64 0,.int .i64 0] 38 (0,0)) (by (with_reducible repeat (first | refine zn ?_ _ | refine zq ?_ | refine zm ?_ _));exact BK117.out) hb);have n1_:=Aside0.mk (zb (by repeat (first | (with_reducible first | exact HB.out | apply ze | apply zd | apply zh | refine zp ?_ GE117.out) | exact HB.out)) hb);clear BK117;clear HB;have BK117:=n0_;have HB:=n1_;clear n0_ n1_;(try clear hb);(try clear hb2);(try clear hk);(try clear hi)) | ((with_reducible refine zg (N:=6) rfl ?_);refine ba_ 6 #[.int .i64 0,.int .i64 0] 38 ?_;intro gb121 hg w9 hbox hb;have n0_:=Aside0.mk (za (g:=gb117) (o:=.cells #[.int .i64 0,.int .i64 0] 38 (0,0)) (by (with_reducible repeat (first | refine zn ?_ _ | refine zq ?_ | refine zm ?_ _));exact BK117.out) hb);have n1_:=Aside0.mk (zb (by repeat (first | (with_reducible first | exact HB.out | apply ze | apply zd | apply zh | refine zp ?_ GE117.out) | exact HB.out)) hb);have n2_:=Aside0.mk (hbox);have n3_:=Aside0.mk ((by rw [hg];exact (zj (by repeat (first | (with_reducible first | exact HB.out | apply ze | apply zd | apply zh | refine zp ?_ GE117.out) | exact HB.out))):w.heap.size≤gb121));have n4_:=Aside0.mk ((by rw [hg];exact (zj (by repeat (first | (with_reducible first | exact HB.out | apply ze | apply zd | apply zh | refine zp ?_ GE117.out) | exact HB.out))):w.heap.size≤gb121));have n5_:=Aside0.mk ((by rw [hg];exact Nat.ne_of_lt (zf (g:=gb117) (o:=.cells #[.int .i64 0,.int .i64 0] 38 (0,0)) (by (with_reducible repeat (first | refine zn ?_ _ | refine zq ?_ | refine zm ?_ _));exact BK117.out)):gb117≠gb121));have n6_:=Aside0.mk ((by rw [hg];exact Nat.ne_of_gt (zf (g:=gb117) (o:=.cells #[.int .i64 0,.int .i64 0] 38 (0,0)) (by (with_reducible repeat (first | refine zn ?_ _ | refine zq ?_ | refine zm ?_ _));exact BK117.out)):gb121≠gb117));clear BK117;clear HB;have BK117:=n0_;have HB:=n1_;have BK121:=n2_;have GW121:=n3_;have GE121:=n4_;have NB117_121:=n5_;have NB121_117:=n6_;clear n0_ n1_ n2_ n3_ n4_ n5_ n6_;clear hb hbox hg;have hnb10:=NB121_117.out;have hnc10:=NB117_121.out;have hcz11_0:w9.cell? ⟨gb121,0,none⟩=some (.int .i64 0):=(zc BK121.out 0).trans rfl;have hcz11_1:w9.cell? ⟨gb121,1,none⟩=some (.int .i64 0):=(zc BK121.out 1).trans rfl;have hfz11_0:=zi BK121.out 0;have hfz11_1:=zi BK121.out 1;have hcz12_0:w9.cell? ⟨gb117,0,none⟩=some (.int .i64 0):=(zc BK117.out 0).trans rfl;have hcz12_1:w9.cell? ⟨gb117,1,none⟩=some (.int .i64 0):=(zc BK117.out 1).trans rfl;have hfz12_0:=zi BK117.out 0;have hfz12_1:=zi BK117.out 1))
   refine bodyPost_ret (results_cell_row rfl _ _ gb117 38 #[.int .i64 t118,.int .i64 t119] (0,0) _ rfl (by (with_reducible repeat (first | refine zn ?_ _ | refine zq ?_ | refine zm ?_ _));refine zS (cs:=#[.int .i64 t118,.int .i64 0]) ?_ 1 _ rfl;(with_reducible repeat (first | refine zn ?_ _ | refine zq ?_ | refine zm ?_ _));refine zS (cs:=#[.int .i64 0,.int .i64 0]) ?_ 0 _ rfl;(with_reducible repeat (first | refine zn ?_ _ | refine zq ?_ | refine zm ?_ _));refine zaA ?_ NB117_121.out _;(with_reducible repeat (first | refine zn ?_ _ | refine zq ?_ | refine zm ?_ _));refine zaA ?_ NB117_121.out _;(with_reducible repeat (first | refine zn ?_ _ | refine zq ?_ | refine zm ?_ _));exact BK117.out) Tryz.underlying38 rfl (by kernel_rfl)) rfl ?_
   exact ⟨by first | rfl | (simp [zr,zt] <;> rfl) | (simp only [← hji4];first | rfl | (simp [zr,zt] <;> rfl)) | (simp [*,zr,zt] <;> rfl),by repeat (first | (with_reducible first | exact HB.out | apply ze | apply zd | apply zh | refine zp ?_ GE117.out | refine zp ?_ GE121.out) | exact HB.out)⟩
  ·rw [if_neg c5] at H
   have c5b0:decide ((wrap64 (2*a1)) < (ji4))=false:=decide_eq_false c5
   clear c5
   by_cases c13:(wrap64 (2*a1)) > (ji4)
   ·rw [if_pos c13] at H
    have c13b0:decide ((ji4) < (wrap64 (2*a1)))=true:=decide_eq_true c13
    clear c13
    replace H:=Option.bind_eq_some_iff.mp H
    obtain ⟨⟨t122,t123,t124⟩,A140,H⟩:=H
    replace H:(some (t123,t122))=some (r1,r2):=H
    have A14:=Aside0.mk A140
    clear A140
    simp only [Option.some.injEq,Prod.mk.injEq] at H
    obtain ⟨rfl,rfl⟩:=H
    go_enter Tryz.func108,Tryz.ntmps108
    go_wp2_with (first | ((with_reducible refine zg (N:=4) rfl ?_);refine ba_ 4 #[.int .i64 0,.int .i64 0] 38 ?_;intro gb117 hg w15 hbox hb;have n0_:=Aside0.mk (zb (by repeat (first | (with_reducible first | exact HB.out | apply ze | apply zd | apply zh) | exact HB.out)) hb);have n1_:=Aside0.mk (hbox);have n2_:=Aside0.mk ((by rw [hg];exact (zj (by repeat (first | (with_reducible first | exact HB.out | apply ze | apply zd | apply zh) | exact HB.out))):w.heap.size≤gb117));have n3_:=Aside0.mk ((by rw [hg];exact (zj (by repeat (first | (with_reducible first | exact HB.out | apply ze | apply zd | apply zh) | exact HB.out))):w.heap.size≤gb117));clear HB;have HB:=n0_;have BK117:=n1_;have GW117:=n2_;have GE117:=n3_;clear n0_ n1_ n2_ n3_;clear hb hbox hg) | ((with_reducible refine zy (f:=114) rfl ?_);refine zQ (some 38) rfl rfl Tryz.func114 (by kernel_rfl) rfl #[.int .i64 (wrap64 (2*(wrap64 ((ji4) - a1)))),.int .i64 a0] rfl (by (try simp only [List.map_toArray,List.map_cons,List.map_nil]);first | done | (simp only [hji4];rfl) | rfl | (simp only [List.length_drop,List.length_take];rfl)) ?_;(with_reducible refine (circle_Eighth.calls (wrap64 (2*(wrap64 ((ji4) - a1)))) a0 t122 t123 t124 _ A14.out).mono ?_);rintro e w16 ⟨rfl,hb⟩;refine ⟨_,rfl,?_⟩;have n0_:=Aside0.mk (za (g:=gb117) (o:=.cells #[.int .i64 0,.int .i64 0] 38 (0,0)) (by (with_reducible repeat (first | refine zn ?_ _ | refine zq ?_ | refine zm ?_ _));exact BK117.out) hb);have n1_:=Aside0.mk (zb (by repeat (first | (with_reducible first | exact HB.out | apply ze | apply zd | apply zh | refine zp ?_ GE117.out) | exact HB.out)) hb);clear BK117;clear HB;have BK117:=n0_;have HB:=n1_;clear n0_ n1_;(try clear hb);(try clear hb2);(try clear hk);(try clear hi)) | ((with_reducible refine zg (N:=8) rfl ?_);refine ba_ 8 #[.int .i64 0,.int .i64 0] 38 ?_;intro gb125 hg w17 hbox hb;have n0_:=Aside0.mk (za (g:=gb117) (o:=.cells #[.int .i64 0,.int .i64 0] 38 (0,0)) (by (with_reducible repeat (first | refine zn ?_ _ | refine zq ?_ | refine zm ?_ _));exact BK117.out) hb);have n1_:=Aside0.mk (zb (by repeat (first | (with_reducible first | exact HB.out | apply ze | apply zd | apply zh | refine zp ?_ GE117.out) | exact HB.out)) hb);have n2_:=Aside0.mk (hbox);have n3_:=Aside0.mk ((by rw [hg];exact (zj (by repeat (first | (with_reducible first | exact HB.out | apply ze | apply zd | apply zh | refine zp ?_ GE117.out) | exact HB.out))):w.heap.size≤gb125));have n4_:=Aside0.mk ((by rw [hg];exact (zj (by repeat (first | (with_reducible first | exact HB.out | apply ze | apply zd | apply zh | refine zp ?_ GE117.out) | exact HB.out))):w.heap.size≤gb125));have n5_:=Aside0.mk ((by rw [hg];exact Nat.ne_of_lt (zf (g:=gb117) (o:=.cells #[.int .i64 0,.int .i64 0] 38 (0,0)) (by (with_reducible repeat (first | refine zn ?_ _ | refine zq ?_ | refine zm ?_ _));exact BK117.out)):gb117≠gb125));have n6_:=Aside0.mk ((by rw [hg];exact Nat.ne_of_gt (zf (g:=gb117) (o:=.cells #[.int .i64 0,.int .i64 0] 38 (0,0)) (by (with_reducible repeat (first | refine zn ?_ _ | refine zq ?_ | refine zm ?_ _));exact BK117.out)):gb125≠gb117));clear BK117;clear HB;have BK117:=n0_;have HB:=n1_;have BK125:=n2_;have GW125:=n3_;have GE125:=n4_;have NB117_125:=n5_;have NB125_117:=n6_;clear n0_ n1_ n2_ n3_ n4_ n5_ n6_;clear hb hbox hg;have hnb18:=NB125_117.out;have hnc18:=NB117_125.out;have hcz19_0:w17.cell? ⟨gb125,0,none⟩=some (.int .i64 0):=(zc BK125.out 0).trans rfl;have hcz19_1:w17.cell? ⟨gb125,1,none⟩=some (.int .i64 0):=(zc BK125.out 1).trans rfl;have hfz19_0:=zi BK125.out 0;have hfz19_1:=zi BK125.out 1;have hcz20_0:w17.cell? ⟨gb117,0,none⟩=some (.int .i64 0):=(zc BK117.out 0).trans rfl;have hcz20_1:w17.cell? ⟨gb117,1,none⟩=some (.int .i64 0):=(zc BK117.out 1).trans rfl;have hfz20_0:=zi BK117.out 0;have hfz20_1:=zi BK117.out 1))
    refine bodyPost_ret (results_cell_row rfl _ _ gb117 38 #[.int .i64 t123,.int .i64 t122] (0,0) _ rfl (by (with_reducible repeat (first | refine zn ?_ _ | refine zq ?_ | refine zm ?_ _));refine zS (cs:=#[.int .i64 t123,.int .i64 0]) ?_ 1 _ rfl;(with_reducible repeat (first | refine zn ?_ _ | refine zq ?_ | refine zm ?_ _));refine zS (cs:=#[.int .i64 0,.int .i64 0]) ?_ 0 _ rfl;(with_reducible repeat (first | refine zn ?_ _ | refine zq ?_ | refine zm ?_ _));refine zaA ?_ NB117_125.out _;(with_reducible repeat (first | refine zn ?_ _ | refine zq ?_ | refine zm ?_ _));refine zaA ?_ NB117_125.out _;(with_reducible repeat (first | refine zn ?_ _ | refine zq ?_ | refine zm ?_ _));exact BK117.out) Tryz.underlying38 rfl (by kernel_rfl)) rfl ?_
    exact ⟨by first | rfl | (simp [zr,zt] <;> rfl) | (simp only [← hji4];first | rfl | (simp [zr,zt] <;> rfl)) | (simp [*,zr,zt] <;> rfl),by repeat (first | (with_reducible first | exact HB.out | apply ze | apply zd | apply zh | refine zp ?_ GE117.out | refine zp ?_ GE125.out) | exact HB.out)⟩
   ·rw [if_neg c13] at H
    have c13b0:decide ((ji4) < (wrap64 (2*a1)))=false:=decide_eq_false c13
    clear c13
    replace H:=Option.bind_eq_some_iff.mp H
    obtain ⟨⟨t126,t127,t128⟩,A210,H⟩:=H
    replace H:(some (t126,t126))=some (r1,r2):=H
    have A21:=Aside0.mk A210
    clear A210
    simp only [Option.some.injEq,Prod.mk.injEq] at H
    obtain ⟨rfl,rfl⟩:=H
    go_enter Tryz.func108,Tryz.ntmps108
    go_wp2_with (first | ((with_reducible refine zg (N:=4) rfl ?_);refine ba_ 4 #[.int .i64 0,.int .i64 0] 38 ?_;intro gb117 hg w22 hbox hb;have n0_:=Aside0.mk (zb (by repeat (first | (with_reducible first | exact HB.out | apply ze | apply zd | apply zh) | exact HB.out)) hb);have n1_:=Aside0.mk (hbox);have n2_:=Aside0.mk ((by rw [hg];exact (zj (by repeat (first | (with_reducible first | exact HB.out | apply ze | apply zd | apply zh) | exact HB.out))):w.heap.size≤gb117));have n3_:=Aside0.mk ((by rw [hg];exact (zj (by repeat (first | (with_reducible first | exact HB.out | apply ze | apply zd | apply zh) | exact HB.out))):w.heap.size≤gb117));clear HB;have HB:=n0_;have BK117:=n1_;have GW117:=n2_;have GE117:=n3_;clear n0_ n1_ n2_ n3_;clear hb hbox hg) | ((with_reducible refine zy (f:=114) rfl ?_);refine zQ (some 49) rfl rfl Tryz.func114 (by kernel_rfl) rfl #[.int .i64 ji4,.int .i64 a0] rfl (by (try simp only [List.map_toArray,List.map_cons,List.map_nil]);first | done | (simp only [hji4];rfl) | rfl | (simp only [List.length_drop,List.length_take];rfl)) ?_;(with_reducible refine (circle_Eighth.calls ji4 a0 t126 t127 t128 _ A21.out).mono ?_);rintro e w23 ⟨rfl,hb⟩;refine ⟨_,rfl,?_⟩;have n0_:=Aside0.mk (za (g:=gb117) (o:=.cells #[.int .i64 0,.int .i64 0] 38 (0,0)) (by (with_reducible repeat (first | refine zn ?_ _ | refine zq ?_ | refine zm ?_ _));exact BK117.out) hb);have n1_:=Aside0.mk (zb (by repeat (first | (with_reducible first | exact HB.out | apply ze | apply zd | apply zh | refine zp ?_ GE117.out) | exact HB.out)) hb);clear BK117;clear HB;have BK117:=n0_;have HB:=n1_;clear n0_ n1_;(try clear hb);(try clear hb2);(try clear hk);(try clear hi)) | ((with_reducible refine zg (N:=10) rfl ?_);refine ba_ 10 #[.int .i64 0,.int .i64 0] 38 ?_;intro gb129 hg w24 hbox hb;have n0_:=Aside0.mk (za (g:=gb117) (o:=.cells #[.int .i64 0,.int .i64 0] 38 (0,0)) (by (with_reducible repeat (first | refine zn ?_ _ | refine zq ?_ | refine zm ?_ _));exact BK117.out) hb);have n1_:=Aside0.mk (zb (by repeat (first | (with_reducible first | exact HB.out | apply ze | apply zd | apply zh | refine zp ?_ GE117.out) | exact HB.out)) hb);have n2_:=Aside0.mk (hbox);have n3_:=Aside0.mk ((by rw [hg];exact (zj (by repeat (first | (with_reducible first | exact HB.out | apply ze | apply zd | apply zh | refine zp ?_ GE117.out) | exact HB.out))):w.heap.size≤gb129));have n4_:=Aside0.mk ((by rw [hg];exact (zj (by repeat (first | (with_reducible first | exact HB.out | apply ze | apply zd | apply zh | refine zp ?_ GE117.out) | exact HB.out))):w.heap.size≤gb129));have n5_:=Aside0.mk ((by rw [hg];exact Nat.ne_of_lt (zf (g:=gb117) (o:=.cells #[.int .i64 0,.int .i64 0] 38 (0,0)) (by (with_reducible repeat (first | refine zn ?_ _ | refine zq ?_ | refine zm ?_ _));exact BK117.out)):gb117≠gb129));have n6_:=Aside0.mk ((by rw [hg];exact Nat.ne_of_gt (zf (g:=gb117) (o:=.cells #[.int .i64 0,.int .i64 0] 38 (0,0)) (by (with_reducible repeat (first | refine zn ?_ _ | refine zq ?_ | refine zm ?_ _));exact BK117.out)):gb129≠gb117));clear BK117;clear HB;have BK117:=n0_;have HB:=n1_;have BK129:=n2_;have GW129:=n3_;have GE129:=n4_;have NB117_129:=n5_;have NB129_117:=n6_;clear n0_ n1_ n2_ n3_ n4_ n5_ n6_;clear hb hbox hg;have hnb25:=NB129_117.out;have hnc25:=NB117_129.out;have hcz26_0:w24.cell? ⟨gb129,0,none⟩=some (.int .i64 0):=(zc BK129.out 0).trans rfl;have hcz26_1:w24.cell? ⟨gb129,1,none⟩=some (.int .i64 0):=(zc BK129.out 1).trans rfl;have hfz26_0:=zi BK129.out 0;have hfz26_1:=zi BK129.out 1;have hcz27_0:w24.cell? ⟨gb117,0,none⟩=some (.int .i64 0):=(zc BK117.out 0).trans rfl;have hcz27_1:w24.cell? ⟨gb117,1,none⟩=some (.int .i64 0):=(zc BK117.out 1).trans rfl;have hfz27_0:=zi BK117.out 0;have hfz27_1:=zi BK117.out 1))
    refine bodyPost_ret (results_cell_row rfl _ _ gb117 38 #[.int .i64 t126,.int .i64 t126] (0,0) _ rfl (by (with_reducible repeat (first | refine zn ?_ _ | refine zq ?_ | refine zm ?_ _));refine zS (cs:=#[.int .i64 t126,.int .i64 0]) ?_ 1 _ rfl;(with_reducible repeat (first | refine zn ?_ _ | refine zq ?_ | refine zm ?_ _));refine zS (cs:=#[.int .i64 0,.int .i64 0]) ?_ 0 _ rfl;(with_reducible repeat (first | refine zn ?_ _ | refine zq ?_ | refine zm ?_ _));refine zaA ?_ NB117_129.out _;(with_reducible repeat (first | refine zn ?_ _ | refine zq ?_ | refine zm ?_ _));refine zaA ?_ NB117_129.out _;(with_reducible repeat (first | refine zn ?_ _ | refine zq ?_ | refine zm ?_ _));exact BK117.out) Tryz.underlying38 rfl (by kernel_rfl)) rfl ?_
    exact ⟨by first | rfl | (simp [zr,zt] <;> rfl) | (simp only [← hji4];first | rfl | (simp [zr,zt] <;> rfl)) | (simp [*,zr,zt] <;> rfl),by repeat (first | (with_reducible first | exact HB.out | apply ze | apply zd | apply zh | refine zp ?_ GE117.out | refine zp ?_ GE129.out) | exact HB.out)⟩
 ·rw [if_neg c3] at H
  exact absurd H (by simp)

def cx_Conj.f (a0:Int) (a1:Int):Option (Int×Int×Int) :=
 if zbW ⟨a0,a1⟩=true then some (a0,wrap64 (-a1),0) else some (0,0,2)
theorem cx_Conj.calls (a0:Int) (a1:Int) (r1:Int) (r2:Int) (r3:Int) (w:World) (h:cx_Conj.f a0 a1=some (r1,r2,r3)) :
  Calls Tryz.prog 58 #[.agg #[.int .i64 a0,.int .i64 a1]] w fun e w'=>e=.returned (.tuple #[.agg #[.int .i64 r1,.int .i64 r2],.int .i64 r3])∧Below w.heap.size w w':=by
 unfold cx_Conj.f at h
 by_cases hm:zbW ⟨a0,a1⟩=true
 ·rw [if_pos hm] at h
  simp only [Option.some.injEq,Prod.mk.injEq] at h
  obtain ⟨rfl,rfl,rfl⟩:=h
  exact zfc ⟨a0,a1⟩ hm w
 ·rw [if_neg hm] at h
  simp only [Option.some.injEq,Prod.mk.injEq] at h
  obtain ⟨rfl,rfl,rfl⟩:=h
  exact zlU ⟨a0,a1⟩ (by simpa using hm) w

def cx_Turn.f (a0:Int) (a1:Int) (a2:Int):Option (Int×Int×Int) :=
 if zbW ⟨a0,a1⟩=true then some ((zai a0 a1 (za3 a2)).1,(zai a0 a1 (za3 a2)).2,0) else some (0,0,2)
theorem cx_Turn.calls (a0:Int) (a1:Int) (a2:Int) (r1:Int) (r2:Int) (r3:Int) (w:World) (h:cx_Turn.f a0 a1 a2=some (r1,r2,r3)) :
  Calls Tryz.prog 96 #[.agg #[.int .i64 a0,.int .i64 a1],.int .i64 a2] w fun e w'=>e=.returned (.tuple #[.agg #[.int .i64 r1,.int .i64 r2],.int .i64 r3])∧Below w.heap.size w w':=by
 unfold cx_Turn.f at h
 by_cases hm:zbW ⟨a0,a1⟩=true
 ·rw [if_pos hm] at h
  simp only [Option.some.injEq,Prod.mk.injEq] at h
  obtain ⟨rfl,rfl,rfl⟩:=h
  exact zfd ⟨a0,a1⟩ a2 hm w
 ·rw [if_neg hm] at h
  simp only [Option.some.injEq,Prod.mk.injEq] at h
  obtain ⟨rfl,rfl,rfl⟩:=h
  exact zlV ⟨a0,a1⟩ a2 (by simpa using hm) w

end Go.Proofs.YteieahbadclppaaGreat.P

namespace Go.Proofs.YteieahbadclppaaGreat.P

set_option linter.unusedVariables false
set_option linter.unusedSimpArgs false
def fl (n m:Nat):Array Bool:=((List.range n).map fun i=>m.testBit i).toArray
end Go.Proofs.YteieahbadclppaaGreat.P
namespace Go.Proofs.YteieahbadclppaaGreat.P
open Go.RowKit Go.Proofs.YteieahbadclppaaGreatW.PrintWords Go.Proofs.YteieahbadclppaaGreatW.PrintLast Go.Proofs.YteieahbadclppaaGreatW.PrintMore
set_option linter.unusedVariables false
set_option linter.unusedSimpArgs false
theorem nx_ {P:Program} {ops:Array Oper} {Q:Exit→Act→World→Prop} {md:Go.Region.Mode} {S:World→Prop} {ds:List Nat} {fuel:Nat} {l:Array Bool} {b a':Act} {w:World} (N:Option Tmp) {v:Value} (h:zF P md ops Q S ds fuel l a' w) (ha:b.put N v=a':=by simp only [Act.put,zzA,zzB,zzC,zL,zac];rfl):zF P md ops Q S ds fuel l (b.put N v) w:=znh ha h
end Go.Proofs.YteieahbadclppaaGreat.P
namespace Go.Proofs.YteieahbadclppaaGreat.P
open Go.RowKit Go.Proofs.YteieahbadclppaaGreatW.PrintWords Go.Proofs.YteieahbadclppaaGreatW.PrintLast Go.Proofs.YteieahbadclppaaGreatW.PrintMore
attribute [local go_sem] zI zJ zO zP zX zY z8 z9
set_option linter.unusedVariables false
set_option linter.unusedSimpArgs false
def roots_root.f (a0:Int) (a1:Int) (a2:Int):Option (Int×Int):=if 0≤a0 then ((roots_point.f a0 (Go.bits .and .i64 (wrap64 (4*(Go.bits .and .i64 a1 (wrap64 ((shl .i64 1 a0) - 1))))) (wrap64 ((shl .i64 1 a0) - 1)))).bind fun bt131=>((cx_Shift.f bt131.1 bt131.2 (wrap64 (56 - a2)) 1).bind fun bt133=>((cx_Turn.f bt133.1 bt133.2.1 (shr .i64 (wrap64 (4*(Go.bits .and .i64 a1 (wrap64 ((shl .i64 1 a0) - 1))))) a0)).bind fun bt137=>((cx_Conj.f bt137.1 bt137.2.1).bind fun bt140=>(some (bt140.1,bt140.2.1)))))) else (none)
def roots_root.T4:Bool×List (List Nat×List Nat):=(true,[([],[]),([],[]),([1],[1]),([],[]),([2,3],[2,3]),([0,4],[0,4]),([5],[5]),([6],[6]),([6],[6]),([7,5,0,1,2,3,4,5,6,7],[7])])
def roots_root.B4:List Nat:=[0,0,2,0,14,31,63,127,127,255]
theorem roots_root.tab4:zbi .any (zlD Tryz.f90 4)=roots_root.T4:=by kernel_rfl
theorem roots_root.bits4:zdb roots_root.T4.2 roots_root.B4=true:=by kernel_rfl
set_option maxHeartbeats 8000000 in
set_option maxRecDepth 100000 in
theorem roots_root.calls (a0:Int) (a1:Int) (a2:Int) (r1:Int) (r2:Int) (w:World) (h:roots_root.f a0 a1 a2=some (r1,r2)) :
  Calls Tryz.prog 90 #[.int .i64 a0,.int .i64 a1,.int .i64 a2] w fun e w'=>e=.returned (.agg #[.int .i64 r1,.int .i64 r2])∧Below w.heap.size w w':=by
 have hu38:=Tryz.underlying38
 have HB:=Aside0.mk (Below.refl w.heap.size w)
 have H:(if 0≤a0 then ((roots_point.f a0 (Go.bits .and .i64 (wrap64 (4*(Go.bits .and .i64 a1 (wrap64 ((shl .i64 1 a0) - 1))))) (wrap64 ((shl .i64 1 a0) - 1)))).bind fun bt131=>((cx_Shift.f bt131.1 bt131.2 (wrap64 (56 - a2)) 1).bind fun bt133=>((cx_Turn.f bt133.1 bt133.2.1 (shr .i64 (wrap64 (4*(Go.bits .and .i64 a1 (wrap64 ((shl .i64 1 a0) - 1))))) a0)).bind fun bt137=>((cx_Conj.f bt137.1 bt137.2.1).bind fun bt140=>(some (bt140.1,bt140.2.1)))))) else (none))=some (r1,r2):=h
 clear h
 by_cases c4:0≤a0
 ·rw [if_pos c4] at H
  have c4b0:=eq_true c4
  have c4b1:decide (0≤a0)=true:=decide_eq_true c4
  clear c4
  obtain ⟨ji5,hji5⟩:∃j_:Int,(shl .i64 1 a0)=j_:=⟨_,rfl⟩
  replace H:((roots_point.f a0 (Go.bits .and .i64 (wrap64 (4*(Go.bits .and .i64 a1 (wrap64 ((ji5) - 1))))) (wrap64 ((ji5) - 1)))).bind fun bt131=>((cx_Shift.f bt131.1 bt131.2 (wrap64 (56 - a2)) 1).bind fun bt133=>((cx_Turn.f bt133.1 bt133.2.1 (shr .i64 (wrap64 (4*(Go.bits .and .i64 a1 (wrap64 ((ji5) - 1))))) a0)).bind fun bt137=>((cx_Conj.f bt137.1 bt137.2.1).bind fun bt140=>(some (bt140.1,bt140.2.1))))))=some (r1,r2):=by first | (rw [hji5] at H;exact H) | (simp only [hji5] at H ⊢;exact H)
  have hji5_:(IntKind.i64.wrap (1*2^min a0.toNat 64))=ji5:=hji5
  have hji5z:a0≤64→(IntKind.i64.wrap (1*2^a0.toNat))=ji5:=zcj hji5
  have hji5u:(IntKind.i64.wrap (2^min a0.toNat 64))=ji5:=by have h_:=hji5_;rw [Int.one_mul] at h_;exact h_
  have hji5v:a0≤64→(IntKind.i64.wrap (2^a0.toNat))=ji5:=fun hle_=>by have h_:=hji5z hle_;rw [Int.one_mul] at h_;exact h_
  have hji5y:(wrap64 (1*2^min a0.toNat 64))=ji5:=(zL _).symm.trans hji5_
  have hji5x:a0≤64→(wrap64 (1*2^a0.toNat))=ji5:=fun h_=>(zL _).symm.trans (hji5z h_)
  replace H:=Option.bind_eq_some_iff.mp H
  obtain ⟨⟨t131,t132⟩,A60,H⟩:=H
  replace H:((cx_Shift.f t131 t132 (wrap64 (56 - a2)) 1).bind fun bt133=>((cx_Turn.f bt133.1 bt133.2.1 (shr .i64 (wrap64 (4*(Go.bits .and .i64 a1 (wrap64 ((ji5) - 1))))) a0)).bind fun bt137=>((cx_Conj.f bt137.1 bt137.2.1).bind fun bt140=>(some (bt140.1,bt140.2.1)))))=some (r1,r2):=H
  have A6:=Aside0.mk A60
  clear A60
  replace H:=Option.bind_eq_some_iff.mp H
  obtain ⟨⟨t133,t134,t135⟩,A70,H⟩:=H
  replace H:((cx_Turn.f t133 t134 (shr .i64 (wrap64 (4*(Go.bits .and .i64 a1 (wrap64 ((ji5) - 1))))) a0)).bind fun bt137=>((cx_Conj.f bt137.1 bt137.2.1).bind fun bt140=>(some (bt140.1,bt140.2.1))))=some (r1,r2):=H
  have A7:=Aside0.mk A70
  clear A70
  have c8b0:=eq_true (of_decide_eq_true (by first | (with_reducible assumption) | assumption):0≤a0)
  obtain ⟨ji9,hji9⟩:∃j_:Int,(shr .i64 (wrap64 (4*(Go.bits .and .i64 a1 (wrap64 ((ji5) - 1))))) a0)=j_:=⟨_,rfl⟩
  replace H:((cx_Turn.f t133 t134 (ji9)).bind fun bt137=>((cx_Conj.f bt137.1 bt137.2.1).bind fun bt140=>(some (bt140.1,bt140.2.1))))=some (r1,r2):=by first | (rw [hji9] at H;exact H) | (simp only [hji9] at H ⊢;exact H)
  (try rw [hji9] at A6)
  (try rw [hji9] at A7)
  have hji9_:((wrap64 (4*(Go.bits .and .i64 a1 (wrap64 ((ji5) - 1))))) / 2^min a0.toNat 64)=ji9:=hji9
  have hji9z:a0≤64→((wrap64 (4*(Go.bits .and .i64 a1 (wrap64 ((ji5) - 1))))) / 2^a0.toNat)=ji9:=zjv hji9
  replace H:=Option.bind_eq_some_iff.mp H
  obtain ⟨⟨t137,t138,t139⟩,A100,H⟩:=H
  replace H:((cx_Conj.f t137 t138).bind fun bt140=>(some (bt140.1,bt140.2.1)))=some (r1,r2):=H
  have A10:=Aside0.mk A100
  clear A100
  replace H:=Option.bind_eq_some_iff.mp H
  obtain ⟨⟨t140,t141,t142⟩,A110,H⟩:=H
  replace H:(some (t140,t141))=some (r1,r2):=H
  have A11:=Aside0.mk A110
  clear A110
  simp only [Option.some.injEq,Prod.mk.injEq] at H
  obtain ⟨rfl,rfl⟩:=H
  go_enter Tryz.func90,Tryz.ntmps90
  try go_wp2_with (first | ((with_reducible refine zg (N:=6) rfl ?_);refine ba_ 6 #[.int .i64 0,.int .i64 0] 38 ?_;intro gb130 hg w12 hbox hb;have n0_:=Aside0.mk (zb (by repeat (first | (with_reducible first | exact HB.out | apply ze | apply zd | apply zh) | exact HB.out)) hb);have n1_:=Aside0.mk (hbox);have n2_:=Aside0.mk ((by rw [hg];exact (zj (by repeat (first | (with_reducible first | exact HB.out | apply ze | apply zd | apply zh) | exact HB.out))):w.heap.size≤gb130));have n3_:=Aside0.mk ((by rw [hg];exact (zj (by repeat (first | (with_reducible first | exact HB.out | apply ze | apply zd | apply zh) | exact HB.out))):w.heap.size≤gb130));clear HB;have HB:=n0_;have BK130:=n1_;have GW130:=n2_;have GE130:=n3_;clear n0_ n1_ n2_ n3_;clear hb hbox hg) | ((with_reducible refine zy (f:=108) rfl ?_);refine zQ (some 24) rfl rfl Tryz.func108 (by kernel_rfl) rfl #[.int .i64 a0,.int .i64 (Go.bits .and .i64 (wrap64 (4*(Go.bits .and .i64 a1 (wrap64 ((ji5) - 1))))) (wrap64 ((ji5) - 1)))] rfl (by (try simp only [List.map_toArray,List.map_cons,List.map_nil]);first | done | (simp only [hji5];rfl) | rfl | (simp only [List.length_drop,List.length_take];rfl)) ?_;(with_reducible refine (roots_point.calls a0 (Go.bits .and .i64 (wrap64 (4*(Go.bits .and .i64 a1 (wrap64 ((ji5) - 1))))) (wrap64 ((ji5) - 1))) t131 t132 _ A6.out).mono ?_);rintro e w13 ⟨rfl,hb⟩;refine ⟨_,rfl,?_⟩;have n0_:=Aside0.mk (za (g:=gb130) (o:=.cells #[.int .i64 0,.int .i64 0] 38 (0,0)) (by (with_reducible repeat (first | refine zn ?_ _ | refine zq ?_ | refine zm ?_ _));exact BK130.out) hb);have n1_:=Aside0.mk (zb (by repeat (first | (with_reducible first | exact HB.out | apply ze | apply zd | apply zh | refine zp ?_ GE130.out) | exact HB.out)) hb);clear BK130;clear HB;have BK130:=n0_;have HB:=n1_;clear n0_ n1_;(try clear hb);(try clear hb2);(try clear hk);(try clear hi)) | ((with_reducible refine zy (f:=70) rfl ?_);refine zQ (some 27) rfl rfl Tryz.func70 (by kernel_rfl) rfl #[.agg #[.int .i64 t131,.int .i64 t132],.int .i64 (wrap64 (56 - a2)),.int .i64 1] rfl (by (try simp only [List.map_toArray,List.map_cons,List.map_nil]);first | done | rfl | (simp only [List.length_drop,List.length_take];rfl)) ?_;(with_reducible refine (cx_Shift.calls t131 t132 (wrap64 (56 - a2)) 1 t133 t134 t135 _ A7.out).mono ?_);rintro e w14 ⟨rfl,hb⟩;refine ⟨_,rfl,?_⟩;have n0_:=Aside0.mk (za (g:=gb130) (o:=.cells #[.int .i64 0,.int .i64 0] 38 (0,0)) (by (with_reducible repeat (first | refine zn ?_ _ | refine zq ?_ | refine zm ?_ _));exact BK130.out) hb);have n1_:=Aside0.mk (zb (by repeat (first | (with_reducible first | exact HB.out | apply ze | apply zd | apply zh | refine zp ?_ GE130.out) | exact HB.out)) hb);clear BK130;clear HB;have BK130:=n0_;have HB:=n1_;clear n0_ n1_;(try clear hb);(try clear hb2);(try clear hk);(try clear hi)) | ((with_reducible refine zg (N:=9) rfl ?_);refine ba_ 9 #[.int .i64 0,.int .i64 0] 38 ?_;intro gb136 hg w15 hbox hb;have n0_:=Aside0.mk (za (g:=gb130) (o:=.cells #[.int .i64 0,.int .i64 0] 38 (0,0)) (by (with_reducible repeat (first | refine zn ?_ _ | refine zq ?_ | refine zm ?_ _));exact BK130.out) hb);have n1_:=Aside0.mk (zb (by repeat (first | (with_reducible first | exact HB.out | apply ze | apply zd | apply zh | refine zp ?_ GE130.out) | exact HB.out)) hb);have n2_:=Aside0.mk (hbox);have n3_:=Aside0.mk ((by rw [hg];exact (zj (by repeat (first | (with_reducible first | exact HB.out | apply ze | apply zd | apply zh | refine zp ?_ GE130.out) | exact HB.out))):w.heap.size≤gb136));have n4_:=Aside0.mk ((by rw [hg];exact (zj (by repeat (first | (with_reducible first | exact HB.out | apply ze | apply zd | apply zh | refine zp ?_ GE130.out) | exact HB.out))):w.heap.size≤gb136));have n5_:=Aside0.mk ((by rw [hg];exact Nat.ne_of_lt (zf (g:=gb130) (o:=.cells #[.int .i64 0,.int .i64 0] 38 (0,0)) (by (with_reducible repeat (first | refine zn ?_ _ | refine zq ?_ | refine zm ?_ _));exact BK130.out)):gb130≠gb136));have n6_:=Aside0.mk ((by rw [hg];exact Nat.ne_of_gt (zf (g:=gb130) (o:=.cells #[.int .i64 0,.int .i64 0] 38 (0,0)) (by (with_reducible repeat (first | refine zn ?_ _ | refine zq ?_ | refine zm ?_ _));exact BK130.out)):gb136≠gb130));clear BK130;clear HB;have BK130:=n0_;have HB:=n1_;have BK136:=n2_;have GW136:=n3_;have GE136:=n4_;have NB130_136:=n5_;have NB136_130:=n6_;clear n0_ n1_ n2_ n3_ n4_ n5_ n6_;clear hb hbox hg;have hnb16:=NB136_130.out;have hnc16:=NB130_136.out;have hcz17_0:w15.cell? ⟨gb136,0,none⟩=some (.int .i64 0):=(zc BK136.out 0).trans rfl;have hcz17_1:w15.cell? ⟨gb136,1,none⟩=some (.int .i64 0):=(zc BK136.out 1).trans rfl;have hfz17_0:=zi BK136.out 0;have hfz17_1:=zi BK136.out 1))
  have n0_:Aside0 (((w15.setCell ⟨gb136,0,none⟩ (.int .i64 t133)).setCell ⟨gb136,1,none⟩ (.int .i64 t134)).heap[gb130]?=some (.cells #[.int .i64 0,.int .i64 0] 38 (0,0))):=⟨by (with_reducible repeat (first | refine zn ?_ _ | refine zq ?_ | refine zm ?_ _));refine zaA ?_ NB130_136.out _;(with_reducible repeat (first | refine zn ?_ _ | refine zq ?_ | refine zm ?_ _));refine zaA ?_ NB130_136.out _;(with_reducible repeat (first | refine zn ?_ _ | refine zq ?_ | refine zm ?_ _));exact BK130.out⟩
  have n1_:Aside0 (((w15.setCell ⟨gb136,0,none⟩ (.int .i64 t133)).setCell ⟨gb136,1,none⟩ (.int .i64 t134)).heap[gb136]?=some (.cells #[.int .i64 t133,.int .i64 t134] 38 (0,0))):=⟨by (with_reducible repeat (first | refine zn ?_ _ | refine zq ?_ | refine zm ?_ _));refine zS (cs:=#[.int .i64 t133,.int .i64 0]) ?_ 1 _ rfl;(with_reducible repeat (first | refine zn ?_ _ | refine zq ?_ | refine zm ?_ _));refine zS (cs:=#[.int .i64 0,.int .i64 0]) ?_ 0 _ rfl;(with_reducible repeat (first | refine zn ?_ _ | refine zq ?_ | refine zm ?_ _));exact BK136.out⟩
  have n2_:Aside0 (Below w.heap.size w ((w15.setCell ⟨gb136,0,none⟩ (.int .i64 t133)).setCell ⟨gb136,1,none⟩ (.int .i64 t134))):=⟨by repeat (first | (with_reducible first | exact HB.out | apply ze | apply zd | apply zh | refine zp ?_ GE130.out | refine zp ?_ GE136.out) | exact HB.out)⟩
  (try clear BK130)
  (try clear BK136)
  (try clear HB)
  generalize ((w15.setCell ⟨gb136,0,none⟩ (.int .i64 t133)).setCell ⟨gb136,1,none⟩ (.int .i64 t134))=w18 at n0_ n1_ n2_ ⊢
  have BK130:=n0_
  have BK136:=n1_
  have HB:=n2_
  clear n0_ n1_ n2_
  have n0_:=Aside0.mk (zq BK130.out)
  have n1_:=Aside0.mk (zq BK136.out)
  have n2_:=Aside0.mk (zh HB.out)
  clear BK130
  clear BK136
  clear HB
  have BK130:=n0_
  have BK136:=n1_
  have HB:=n2_
  clear n0_ n1_ n2_
  refine zae (n:=10) (S:=fun w'=>w'.cell? ⟨gb136,0,none⟩=some (.int .i64 t133)∧w'.cell? ⟨gb136,1,none⟩=some (.int .i64 t134)) (ds:=[9]) (fl 10 0) (by kernel_rfl) rfl rfl ⟨(zc BK136.out 0).trans rfl,(zc BK136.out 1).trans rfl⟩ (fun hHeld=>?_);refine zgm roots_root.tab4 roots_root.bits4 (fun HT_ HW_=>?_)
  generalize w18.drew=w19 at BK130 BK136 HB hHeld ⊢
  refine za7 (i:=1) (N:=some 32) (v:=?_) (a':=?_) (fl 10 2) rfl rfl (zaR HT_.out (by kernel_rfl)) (fun _ _ _ h=>h) (Or.inl ⟨by rfl,?_⟩) ?_ ?_
  rotate_left
  ·intro w'
   go_simp
   with_reducible rfl
  rotate_left
  ·simp only [Act.put,zzA,zzB,zzC,zL,zac]
   rfl
  refine za7 (i:=2) (N:=some 33) (v:=?_) (a':=?_) (fl 10 6) rfl rfl (zaR HT_.out (by kernel_rfl)) (fun _ _ _ h=>h) (Or.inl ⟨by rfl,?_⟩) ?_ ?_
  rotate_left
  ·intro w'
   go_simp
   with_reducible rfl
  rotate_left
  ·simp only [Act.put,zzA,zzB,zzC,zL,zac]
   rfl
  refine za7 (i:=3) (N:=some 34) (v:=?_) (a':=?_) (fl 10 14) rfl rfl (zaR HT_.out (by kernel_rfl)) (fun _ _ _ h=>h) (Or.inl ⟨by rfl,?_⟩) ?_ ?_
  rotate_left
  ·intro w'
   go_simp
   with_reducible rfl
  rotate_left
  ·simp only [Act.put,zzA,zzB,zzC,zL,zac]
   rfl
  refine za7 (i:=4) (N:=some 35) (v:=?_) (a':=?_) (fl 10 30) rfl rfl (zaR HT_.out (by kernel_rfl)) (fun _ _ _ h=>h) (Or.inl ⟨by rfl,?_⟩) ?_ ?_
  rotate_left
  ·intro w'
   go_simp
   with_reducible rfl
  rotate_left
  ·simp only [Act.put,zzA,zzB,zzC,zL,zac]
   rfl
  refine take_ (i:=0) (N:=some 31) (v:=?_) (a':=?_) (fl 10 31) rfl rfl (zfb HT_.out HW_.out (by kernel_rfl)) (fun _ _ _ h=>h) (Or.inl ⟨by rfl,?_⟩) hHeld ?_ ?_
  rotate_left
  ·rintro w' ⟨s0,s1⟩
   go_simp
   with_reducible rfl
  rotate_left
  ·simp only [Act.put,zzA,zzB,zzC,zL,zac]
   rfl
  refine zA (i:=5) (N:=some 36) (fl 10 63) rfl rfl (zfu HT_.out (by kernel_rfl)) (by decide) (fun K hK=>?_)
  refine zN Tryz.func96 (by kernel_rfl) rfl #[.agg #[.int .i64 t133,.int .i64 t134],.int .i64 ji9] (by rfl) rfl rfl (by (try simp only [List.map_toArray,List.map_cons,List.map_nil]);first | done | (simp only [hji9];rfl) | rfl | (simp only [List.length_drop,List.length_take];rfl)) ?_
  with_reducible refine (cx_Turn.calls t133 t134 ji9 t137 t138 t139 _ A10.out).mono ?_
  rintro e w20 ⟨rfl,hb⟩
  refine ⟨_,rfl,?_⟩
  have n0_:=Aside0.mk (za (g:=gb130) (o:=.cells #[.int .i64 0,.int .i64 0] 38 (0,0)) (by (with_reducible repeat (first | refine zn ?_ _ | refine zq ?_ | refine zm ?_ _));exact BK130.out) hb)
  have n1_:=Aside0.mk (za (g:=gb136) (o:=.cells #[.int .i64 t133,.int .i64 t134] 38 (0,0)) (by (with_reducible repeat (first | refine zn ?_ _ | refine zq ?_ | refine zm ?_ _));exact BK136.out) hb)
  have n2_:=Aside0.mk (zb (by repeat (first | (with_reducible first | exact HB.out | apply ze | apply zd | apply zh | refine zp ?_ GE130.out | refine zp ?_ GE136.out) | exact HB.out)) hb)
  clear BK130
  clear BK136
  clear HB
  have BK130:=n0_
  have BK136:=n1_
  have HB:=n2_
  clear n0_ n1_ n2_
  (try clear hb)
  (try clear hb2)
  (try clear hk)
  (try clear hi)
  refine hK.out _ _ ⟨(zc BK136.out 0).trans rfl,(zc BK136.out 1).trans rfl⟩ (fun hHeld=>?_)
  clear hK K
  refine nx_ (some 36) ?_
  refine za7 (i:=6) (N:=some 30) (v:=?_) (a':=?_) (fl 10 127) rfl rfl (zaR HT_.out (by kernel_rfl)) (fun _ _ _ h=>h) (Or.inl ⟨by rfl,?_⟩) ?_ ?_
  rotate_left
  ·intro w'
   go_simp
   with_reducible rfl
  rotate_left
  ·simp only [Act.put,zzA,zzB,zzC,zL,zac]
   rfl
  refine za7 (i:=7) (N:=some 37) (v:=?_) (a':=?_) (fl 10 255) rfl rfl (zaR HT_.out (by kernel_rfl)) (fun _ _ _ h=>h) (Or.inl ⟨by rfl,?_⟩) ?_ ?_
  rotate_left
  ·intro w'
   go_simp
   with_reducible rfl
  rotate_left
  ·simp only [Act.put,zzA,zzB,zzC,zL,zac]
   rfl
  refine za7 (i:=8) (N:=some 38) (v:=?_) (a':=?_) (fl 10 511) rfl rfl (zaR HT_.out (by kernel_rfl)) (fun _ _ _ h=>h) (Or.inl ⟨by rfl,?_⟩) ?_ ?_
  rotate_left
  ·intro w'
   go_simp
   with_reducible rfl
  rotate_left
  ·simp only [Act.put,zzA,zzB,zzC,zL,zac]
   rfl
  refine zaf (i:=9) (N:=none) (fl 10 1023) rfl rfl (zfu HT_.out (by kernel_rfl)) (by decide) (fun K hK=>?_)
  have hs21:w20.cell? ⟨gb136,0,none⟩=some (.int .i64 t133):=(zc BK136.out 0).trans rfl
  have hfs21:=zi BK136.out 0
  have hns21_0:=NB130_136.out
  have hms21_0:=NB136_130.out
  have hs22:w20.cell? ⟨gb136,1,none⟩=some (.int .i64 t134):=(zc BK136.out 1).trans rfl
  have hfs22:=zi BK136.out 1
  have hns22_0:=NB130_136.out
  have hms22_0:=NB136_130.out
  refine ziN (w1:=?_) (by rfl) rfl ?_ ?_
  rotate_left
  ·go_simp
   rfl
  refine hK.out _ _ ?_
  clear hK K
  refine zM (zil HT_.out (by kernel_rfl)) ?_
  have hcz23_0:w20.cell? ⟨gb136,0,none⟩=some (.int .i64 t133):=(zc BK136.out 0).trans rfl
  have hcz23_1:w20.cell? ⟨gb136,1,none⟩=some (.int .i64 t134):=(zc BK136.out 1).trans rfl
  have hfz23_0:=zi BK136.out 0
  have hfz23_1:=zi BK136.out 1
  try go_wp2_with (first | ((with_reducible refine zy (f:=58) rfl ?_);refine zQ (some 41) rfl rfl Tryz.func58 (by kernel_rfl) rfl #[.agg #[.int .i64 t137,.int .i64 t138]] rfl (by (try simp only [List.map_toArray,List.map_cons,List.map_nil]);first | done | rfl | (simp only [List.length_drop,List.length_take];rfl)) ?_;(with_reducible refine (cx_Conj.calls t137 t138 t140 t141 t142 _ A11.out).mono ?_);rintro e w24 ⟨rfl,hb⟩;refine ⟨_,rfl,?_⟩;have n0_:=Aside0.mk (za (g:=gb130) (o:=.cells #[.int .i64 0,.int .i64 0] 38 (0,0)) (by (with_reducible repeat (first | refine zn ?_ _ | refine zq ?_ | refine zm ?_ _));refine zaA ?_ NB130_136.out _;(with_reducible repeat (first | refine zn ?_ _ | refine zq ?_ | refine zm ?_ _));refine zaA ?_ NB130_136.out _;(with_reducible repeat (first | refine zn ?_ _ | refine zq ?_ | refine zm ?_ _));exact BK130.out) hb);have n1_:=Aside0.mk (za (g:=gb136) (o:=.cells #[.int .i64 t137,.int .i64 t138] 38 (0,0)) (by (with_reducible repeat (first | refine zn ?_ _ | refine zq ?_ | refine zm ?_ _));refine zS (cs:=#[.int .i64 t137,.int .i64 t134]) ?_ 1 _ rfl;(with_reducible repeat (first | refine zn ?_ _ | refine zq ?_ | refine zm ?_ _));refine zS (cs:=#[.int .i64 t133,.int .i64 t134]) ?_ 0 _ rfl;(with_reducible repeat (first | refine zn ?_ _ | refine zq ?_ | refine zm ?_ _));exact BK136.out) hb);have n2_:=Aside0.mk (zb (by repeat (first | (with_reducible first | exact HB.out | apply ze | apply zd | apply zh | refine zp ?_ GE130.out | refine zp ?_ GE136.out) | exact HB.out)) hb);clear BK130;clear BK136;clear HB;have BK130:=n0_;have BK136:=n1_;have HB:=n2_;clear n0_ n1_ n2_;(try clear hb);(try clear hb2);(try clear hk);(try clear hi);have hcz25_0:w24.cell? ⟨gb136,0,none⟩=some (.int .i64 t137):=(zc BK136.out 0).trans rfl;have hcz25_1:w24.cell? ⟨gb136,1,none⟩=some (.int .i64 t138):=(zc BK136.out 1).trans rfl;have hfz25_0:=zi BK136.out 0;have hfz25_1:=zi BK136.out 1;have hcz26_0:w24.cell? ⟨gb130,0,none⟩=some (.int .i64 0):=(zc BK130.out 0).trans rfl;have hcz26_1:w24.cell? ⟨gb130,1,none⟩=some (.int .i64 0):=(zc BK130.out 1).trans rfl;have hfz26_0:=zi BK130.out 0;have hfz26_1:=zi BK130.out 1))
  refine bodyPost_ret (results_cell_row rfl _ _ gb130 38 #[.int .i64 t140,.int .i64 t141] (0,0) _ rfl (by (with_reducible repeat (first | refine zn ?_ _ | refine zq ?_ | refine zm ?_ _));refine zS (cs:=#[.int .i64 t140,.int .i64 0]) ?_ 1 _ rfl;(with_reducible repeat (first | refine zn ?_ _ | refine zq ?_ | refine zm ?_ _));refine zS (cs:=#[.int .i64 0,.int .i64 0]) ?_ 0 _ rfl;(with_reducible repeat (first | refine zn ?_ _ | refine zq ?_ | refine zm ?_ _));refine zaA ?_ NB130_136.out _;(with_reducible repeat (first | refine zn ?_ _ | refine zq ?_ | refine zm ?_ _));refine zaA ?_ NB130_136.out _;(with_reducible repeat (first | refine zn ?_ _ | refine zq ?_ | refine zm ?_ _));exact BK130.out) Tryz.underlying38 rfl (by kernel_rfl)) rfl ?_
  exact ⟨by first | rfl | (simp [zr,zt] <;> rfl) | (simp only [← hji5,← hji9];first | rfl | (simp [zr,zt] <;> rfl)) | (simp [*,zr,zt] <;> rfl),by repeat (first | (with_reducible first | exact HB.out | apply ze | apply zd | apply zh | refine zp ?_ GE130.out | refine zp ?_ GE136.out) | exact HB.out)⟩
 ·rw [if_neg c4] at H
  exact absurd H (by simp)

end Go.Proofs.YteieahbadclppaaGreat.P

namespace Go.Proofs.YteieahbadclppaaGreat.P
open Go.RowKit Go.Proofs.YteieahbadclppaaGreatW.PrintWords Go.Proofs.YteieahbadclppaaGreatW.PrintLast Go.Proofs.YteieahbadclppaaGreatW.PrintMore
set_option linter.unusedVariables false
set_option linter.unusedSimpArgs false
section
variable {P:Program} {ops:Array Oper} {rest:List Oper} {o:Oper} {a:Act} {Q:Exit→Act→World→Prop}
theorem zkQ {w0 W:World} (base:Nat) (hN:o.dst=none) (hgd:o.guard=none) (p x:Operand) (ho:o.op=.store 38 p x) {g n cap:Nat} (i:Nat) (xs:List S38) (y:S38) (ok:Nat→Prop)
  (haddr:a.eval p=.pointer (some ⟨g,i*2,none⟩)) (hx:a.eval x=.agg #[.int .i64 y.f0,.int .i64 y.f1]) (ht:(P.info? 38).map (·.size)=some 2)
  (HO:Kd.R k38 38 W base ok (.slice (some ⟨g,0,none⟩) n cap) xs) (hi:i < n) (HB:Below base w0 W)
  (h:∀w1,Kd.R k38 38 w1 base ok (.slice (some ⟨g,0,none⟩) n cap) (xs.set i y)→Below base w0 w1→W.grownBy w1 (some g)→wpList P ops Q rest a w1):wpList P ops Q (o :: rest) a W:=by
 obtain ⟨c,hcl,hM,hcc,hfr⟩:=Kd.R_elem HO z38 (i:Int) (by omega) (by omega)
 obtain rfl:=zbk hM
 refine Kd.R_store k38 base hN hgd 38 p x ho 38 (i:Int) 0 xs y (.agg #[.int .i64 y.f0,.int .i64 y.f1]) [.int .i64 y.f0,.int .i64 y.f1] _ ok (fun _=>False) haddr (by rw [Int.toNat_natCast];rfl) hx rfl ht (by simp [Value.oneCell']) HO (by omega) (by omega) hcl hcc (Nat.le_refl 2) (zaF W base _ y) (fun _ h=>h.elim) HB ?_
 intro w1 h1 h2 h3
 rw [Int.toNat_natCast] at h1
 exact h w1 h1 h2 h3
end
set_option maxRecDepth 100000 in
set_option maxHeartbeats 4000000 in
theorem ziZ (k:Int) (Bl Bb:Nat) (log bits r1 r2:Int) (w:World) (hl:w.heap[Bl]?=some (.cells #[.int .i64 log] 3 (0,0))) (hb:w.heap[Bb]?=some (.cells #[.int .i64 bits] 3 (0,0))) (h:roots_root.f log k bits=some (r1,r2)) :
  Calls Tryz.prog 92 #[.int .i64 k,.pointer (some ⟨Bl,0,none⟩),.pointer (some ⟨Bb,0,none⟩)] w fun e w'=>e=.returned (.agg #[.int .i64 r1,.int .i64 r2])∧Below w.heap.size w w':=by
 have HL:=hhd hl
 have HBb:=hhd hb
 have HR:=hhd h
 clear hl hb h
 go_enter Tryz.func92,Tryz.ntmps92
 go_wp2_with (first
  | ((with_reducible refine zg (N:=4) rfl ?_);refine zV ?hg (N:=4) ?hd (cs:=#[.int .i64 0,.int .i64 0]) (t:=38) ?hr ?_;(case hd=>rfl);(case hg=>rfl);(case hr=>rfl);intro g4 hg W0 hbox hbl;have B0:=hhd hbox;have HB0:=hhd hbl;have L4:w.heap.size≤g4:=(by rw [hg];exact Nat.le_refl _);have k0:W0.cell? ⟨Bl,0,none⟩=some (.int .i64 log):=(zc (za HL.out hbl) 0).trans rfl;have k1:W0.cell? ⟨Bb,0,none⟩=some (.int .i64 bits):=(zc (za HBb.out hbl) 0).trans rfl;clear hbox hbl hg)
  | (go_at_call 90;(with_reducible refine (roots_root.calls log k bits r1 r2 _ HR.out).mono ?_);rintro e W1 ⟨rfl,hb⟩;have B1:=hhd (za B0.out hb);have HB1:=hhd (zb HB0.out hb);clear hb)
  | ((with_reducible refine zo (t:=38) (p:=4) rfl ?_);refine zv rfl 38 _ _ rfl g4 #[.int .i64 r1,.int .i64 r2] rfl rfl 38 #[.int .i64 0,.int .i64 0] B1.out (zu _ _) rfl (zG _ _) ?_;intro W7 hq hoth hbel;have B7:=hhd hq;have HB7:=hhd hbel;clear hq hoth hbel))
 refine bodyPost_ret (results_cell_row rfl _ _ g4 38 #[.int .i64 r1,.int .i64 r2] (0,0) _ rfl B7.out Tryz.underlying38 rfl (zu _ _)) rfl ?_
 exact ⟨rfl,HB7.out _ _ L4 HB1.out⟩
theorem zkR (L:List S38) (k:Nat) (hk:k < L.length):(L.take k++List.replicate (L.length - k) z38).set k (L.getD k z38)=L.take (k+1)++List.replicate (L.length - (k+1)) z38:=by
 have e:L.length - k=(L.length - (k+1))+1:=by omega
 rw [List.set_append_right _ _ (by simp;omega),List.length_take,Nat.min_eq_left (by omega),Nat.sub_self,e,List.replicate_succ,zzB,List.take_succ_eq_append_getElem hk,List.append_assoc]
 simp [List.getD,List.getElem?_eq_getElem hk]
set_option maxRecDepth 100000 in
set_option maxHeartbeats 4000000 in
theorem zha (L:List S38) (hn1:1≤L.length) (hn2:L.length≤64) (Bl Bb:Nat) (log bits:Int) (w:World) (hl:w.heap[Bl]?=some (.cells #[.int .i64 log] 3 (0,0))) (hb:w.heap[Bb]?=some (.cells #[.int .i64 bits] 3 (0,0))) (hL:∀k:Nat,k < L.length→roots_root.f log k bits=some ((L.getD k z38).f0,(L.getD k z38).f1)) :
  Calls Tryz.prog 91 #[.int .i64 L.length,.func (.func 92) #[] #[.pointer (some ⟨Bl,0,none⟩),.pointer (some ⟨Bb,0,none⟩)]] w fun e w'=>∃v,e=.returned v∧Kd.R k38 38 w' w.heap.size (fun _=>True) v L∧Below w.heap.size w w':=by
 have HL:=hhd hl
 have HBb:=hhd hb
 have HR:=hhd hL
 have hlB:=zf hl
 have hbB:=zf hb
 clear hl hb hL
 go_enter Tryz.func91,Tryz.ntmps91
 go_wp2_with ((with_reducible refine zg (N:=8) rfl ?_);refine Kd.R_make k38 _ 38 rfl (N:=8) rfl 22 _ _ rfl (L.length:Int) rfl rfl Tryz.underlying22 (.agg #[(.int .i64 0),(.int .i64 0)]) 16 zb3 rfl (by decide) (by decide) z38 (ok:=fun _=>True) (okp:=fun _=>True) (zaF _ _ _ z38) (fun _ hk=>hk) trivial (by omega) (by omega) (Below.refl _ _) (Nat.le_refl _) ?_;intro v8 w3 ho hb hg_ hnew_;obtain ⟨g,cap,hv,hg1,hg2,_⟩:=Kd.R_form ho (by simp;omega);rw [List.length_replicate,Int.toNat_natCast] at hv;subst hv;have HO:=hhd ho;have HB3:=hhd hb;have HG:=hhd hg1;clear hb ho hg_ hnew_ hg1 hg2)
 go_loopw [11] (fun s11 wr=>∃k:Nat,k≤L.length∧s11=.int .i64 k∧Kd.R k38 38 wr w.heap.size (fun _=>True) (.slice (some ⟨g,0,none⟩) L.length cap) (L.take k++List.replicate (L.length - k) z38)∧Below w.heap.size w wr) (fun i _=>L.length - (intOf i).toNat)
 case atStart=>exact ⟨0,by omega,rfl,by simpa using HO.out,HB3.out⟩
 case round =>
  obtain ⟨k,hk,rfl,ho,hb⟩:=hrel
  have HOr:=hhd ho
  have HBr:=hhd hb
  have BL:=hhd (za HL.out hb)
  have BB:=hhd (za HBb.out hb)
  clear ho hb HO HB3
  by_cases hlt:k < L.length
  ·have HRk:=hhd (HR.out k hlt)
   have hlen:(L.take k++List.replicate (L.length - k) z38).length=L.length:=by simp;omega
   have HLen:=hhd hlen
   have HTP:=hhd (zkR L k hlt)
   generalize L.getD k z38=y at *
   generalize L.take k++List.replicate (L.length - k) z38=X at *
   clear hlen
   go_wp2_with (first
    | (go_at_call 92;(with_reducible refine (ziZ k Bl Bb log bits y.f0 y.f1 _ BL.out BB.out HRk.out).mono ?_);rintro e W4 ⟨rfl,hb⟩;have HO4:=hhd (Kd.R_below HOr.out hb);have HB4:=hhd (zb HBr.out hb);clear hb)
    | ((with_reducible refine zo (t:=38) (p:=19) rfl ?_);refine zkQ (w0:=w) w.heap.size rfl rfl _ _ rfl k X y (fun _=>True) ?ha rfl (zu (.int .i64 0) (.int .i64 0)) HO4.out hlt HB4.out ?_;(case ha=>first | rfl | go_simp);intro W5 ho hb hg;have HO5:=hhd ho;have HB5:=hhd hb;clear ho hb hg))
   go_roundw
   case rel=>exact ⟨k+1,by omega,by go_num,by have h5:=HO5.out;rw [HTP.out] at h5;exact h5,HB5.out⟩
   case measure=>simp [intOf];omega
  ·obtain rfl:k=L.length:=by omega
   go_wp2
   go_ret
   exact ⟨_,rfl,by have h:=HOr.out;rw [List.take_length,Nat.sub_self,List.replicate_zero,List.append_nil] at h;exact h,HBr.out⟩
def zeQ (log bits:Int):Nat→Option (List S38)
 | 0=>some []
 | k+1=>(zeQ log bits k).bind fun l=>(roots_root.f log k bits).bind fun r=>some (l++[⟨r.1,r.2⟩])
theorem zey (log bits:Int):∀(n:Nat) (L:List S38),zeQ log bits n=some L→L.length=n∧∀k:Nat,k < n→roots_root.f log k bits=some ((L.getD k z38).f0,(L.getD k z38).f1)
 | 0,L,h=>by
  obtain rfl:=Option.some.inj h
  exact ⟨rfl,fun k hk=>absurd hk (Nat.not_lt_zero k)⟩
 | n+1,L,h=>by
  obtain ⟨l,h1,h2⟩:=Option.bind_eq_some_iff.mp h
  obtain ⟨r,h3,h4⟩:=Option.bind_eq_some_iff.mp h2
  obtain rfl:=Option.some.inj h4
  obtain ⟨e1,e2⟩:=zey log bits n l h1
  refine ⟨by simp [e1],fun k hk=>?_⟩
  by_cases e:k=n
  ·subst e
   rw [h3,List.getD_eq_getElem?_getD,List.getElem?_append_right (by omega),e1,Nat.sub_self]
   rfl
  ·rw [e2 k (by omega),List.getD_eq_getElem?_getD,List.getD_eq_getElem?_getD,List.getElem?_append_left (by omega)]
theorem zi0 (log:Int) (h0:2≤log) (h1:log≤6):IntKind.i64.wrap (2^log.toNat)=((2^log.toNat:Nat):Int)∧1≤2^log.toNat∧2^log.toNat≤64:=by
 have h:log=2∨log=3∨log=4∨log=5∨log=6:=by omega
 rcases h with rfl | rfl | rfl | rfl | rfl <;> decide
set_option maxRecDepth 100000 in
set_option maxHeartbeats 4000000 in
theorem zjP (log bits:Int) (L:List S38) (h0:2≤log) (h1:log≤6) (hm:roots_may.f log bits=some true) (hL:zeQ log bits (2^log.toNat)=some L) (w:World) :
  Calls Tryz.prog 57 #[.int .i64 log,.int .i64 bits] w fun e w'=>∃v,e=.returned (.tuple #[v,.int .i64 0])∧Kd.R k38 38 w' w.heap.size (fun _=>True) v L∧Below w.heap.size w w':=by
 obtain ⟨p0,p1,p2⟩:=zi0 log h0 h1
 obtain ⟨e1,e2⟩:=zey log bits _ L hL
 have HG:=hhd (fun (Bl Bb:Nat) (W:World) hl hb=>zha L (by omega) (by omega) Bl Bb log bits W hl hb (by rw [e1];exact e2))
 have HM:=hhd hm
 rw [← e1] at p0
 have p3:wrap64 (2^log.toNat)=(L.length:Int):=(zL _).symm.trans p0
 clear p1 p2 e1 e2 hL hm
 generalize L.length=n at *
 go_enter Tryz.func57,Tryz.ntmps57
 go_wp2_with (first
  | ((with_reducible refine zg (N:=2) rfl ?_);refine ba_ 2 #[.int .i64 log] 3 ?_;intro g2 hg W1 hbox hbl;have B2:=hhd hbox;have HB1:=hhd hbl;clear hbox hbl hg)
  | ((with_reducible refine zg (N:=3) rfl ?_);refine ba_ 3 #[.int .i64 bits] 3 ?_;intro g3 hg W2 hbox hbl;have B3:=hhd hbox;have B22:=hhd (za B2.out hbl);have HB2:=hhd (zb HB1.out hbl);have k2:W2.cell? ⟨g2,0,none⟩=some (.int .i64 log):=(zc B22.out 0).trans rfl;have k3:W2.cell? ⟨g3,0,none⟩=some (.int .i64 bits):=(zc B3.out 0).trans rfl;clear hbox hbl hg)
  | (go_at_call 89;(with_reducible refine (roots_may.calls log bits true _ HM.out).mono ?_);rintro e W4 ⟨rfl,hb⟩;have B24:=hhd (za B22.out hb);have B34:=hhd (za B3.out hb);have HB4:=hhd (zb HB2.out hb);have k4:W4.cell? ⟨g2,0,none⟩=some (.int .i64 log):=(zc B24.out 0).trans rfl;clear hb)
  | (go_at_call 91;refine (HG.out g2 g3 _ B24.out B34.out).mono ?_;rintro e W5 ⟨v,rfl,ho,hb⟩;have HO:=hhd (Kd.R_lower ho (zj HB4.out));have HB5:=hhd (zb HB4.out hb);clear ho hb))
 go_ret2
 exact ⟨_,rfl,HO.out,HB5.out⟩
set_option maxRecDepth 100000 in
set_option maxHeartbeats 4000000 in
theorem zkS (log bits:Int) (hm:roots_may.f log bits=some false) (w:World) :
  Calls Tryz.prog 57 #[.int .i64 log,.int .i64 bits] w fun e w'=>∃v,e=.returned (.tuple #[v,.int .i64 1])∧Kd.R k38 38 w' w.heap.size (fun _=>True) v []∧Below w.heap.size w w':=by
 have HM:=hhd hm
 clear hm
 go_enter Tryz.func57,Tryz.ntmps57
 go_wp2_with (first
  | ((with_reducible refine zg (N:=2) rfl ?_);refine ba_ 2 #[.int .i64 log] 3 ?_;intro g2 hg W1 hbox hbl;have B2:=hhd hbox;have HB1:=hhd hbl;clear hbox hbl hg)
  | ((with_reducible refine zg (N:=3) rfl ?_);refine ba_ 3 #[.int .i64 bits] 3 ?_;intro g3 hg W2 hbox hbl;have B3:=hhd hbox;have B22:=hhd (za B2.out hbl);have HB2:=hhd (zb HB1.out hbl);have k2:W2.cell? ⟨g2,0,none⟩=some (.int .i64 log):=(zc B22.out 0).trans rfl;have k3:W2.cell? ⟨g3,0,none⟩=some (.int .i64 bits):=(zc B3.out 0).trans rfl;clear hbox hbl hg)
  | (go_at_call 89;(with_reducible refine (roots_may.calls log bits false _ HM.out).mono ?_);rintro e W4 ⟨rfl,hb⟩;have HB4:=hhd (zb HB2.out hb);clear hb))
 go_ret2
 exact ⟨_,rfl,Kd.R_nil _ _ _ _ _,HB4.out⟩
end Go.Proofs.YteieahbadclppaaGreat.P

namespace Go.Proofs.YteieahbadclppaaGreat.P
open Go.RowKit Go.Proofs.YteieahbadclppaaGreatW.PrintWords Go.Proofs.YteieahbadclppaaGreatW.PrintLast Go.Proofs.YteieahbadclppaaGreatW.PrintMore
attribute [local go_sem] zI zJ zO zP zX zY z8 z9
set_option linter.unusedVariables false
set_option linter.unusedSimpArgs false
def roots_Table.f (a0:Int) (a1:Int):Option (List (S38)×Int) :=
 (roots_may.f a0 a1).bind fun t=>if t=true then (if 2≤a0∧a0≤6 then (zeQ a0 a1 (2^a0.toNat)).bind fun L=>some (L,0) else none) else some ([],1)
theorem roots_Table.calls (a0:Int) (a1:Int) (r1:List (S38)) (r2:Int) (w:World) (h:roots_Table.f a0 a1=some (r1,r2)) :
  Calls Tryz.prog 57 #[.int .i64 a0,.int .i64 a1] w fun e w'=>∃v0_:Value,e=.returned (.tuple #[v0_,.int .i64 r2])∧Kd.R k38 38 w' w.heap.size (fun _=>True) v0_ r1∧Below w.heap.size w w':=by
 obtain ⟨t,ht,h⟩:=Option.bind_eq_some_iff.mp h
 by_cases hb:t=true
 ·rw [if_pos hb] at h
  subst hb
  by_cases hc:2≤a0∧a0≤6
  ·rw [if_pos hc] at h
   obtain ⟨L,hL,h⟩:=Option.bind_eq_some_iff.mp h
   simp only [Option.some.injEq,Prod.mk.injEq] at h
   obtain ⟨rfl,rfl⟩:=h
   exact zjP a0 a1 L hc.1 hc.2 ht hL w
  ·rw [if_neg hc] at h
   cases h
 ·rw [if_neg hb] at h
  simp only [Option.some.injEq,Prod.mk.injEq] at h
  obtain ⟨rfl,rfl⟩:=h
  exact zkS a0 a1 (by rw [ht];simpa using hb) w

def roots_Twiddles.f (a0:Int) (a1:Int):Option ((List (S38))×Int):=(sat_Bits.f a1).bind fun bt143=>(if bt143.2=0 then ((roots_Table.f a0 (wrap64 (bt143.1 - 2))).bind fun bt145=>(some (bt145.1,bt145.2))) else (some (([]:List (S38)),bt143.2)))
set_option maxHeartbeats 8000000 in
set_option maxRecDepth 100000 in
theorem roots_Twiddles.calls (a0:Int) (a1:Int) (r1:List (S38)) (r2:Int) (w:World) (h:roots_Twiddles.f a0 a1=some (r1,r2)) :
  Calls Tryz.prog 46 #[.int .i64 a0,.int .i64 a1] w fun e w'=>∃v0_:Value,e=.returned (.tuple #[v0_,.int .i64 r2])∧Kd.R k38 38 w' w.heap.size (fun _=>True) v0_ r1∧Below w.heap.size w w':=by
 have HB:=Aside0.mk (Below.refl w.heap.size w)
 have H:((sat_Bits.f a1).bind fun bt143=>(if bt143.2=0 then ((roots_Table.f a0 (wrap64 (bt143.1 - 2))).bind fun bt145=>(some (bt145.1,bt145.2))) else (some (([]:List (S38)),bt143.2))))=some (r1,r2):=h
 clear h
 replace H:=Option.bind_eq_some_iff.mp H
 obtain ⟨⟨t143,t144⟩,A30,H⟩:=H
 replace H:(if t144=0 then ((roots_Table.f a0 (wrap64 (t143 - 2))).bind fun bt145=>(some (bt145.1,bt145.2))) else (some (([]:List (S38)),t144)))=some (r1,r2):=H
 have A3:=Aside0.mk A30
 clear A30
 by_cases c4:t144=0
 ·rw [if_pos c4] at H
  have c4b0:(t144 == 0)=true:=beq_iff_eq.mpr c4
  have c4b1:(t144 != 0)=false:=bne_eq_false_iff_eq.mpr c4
  clear c4
  replace H:=Option.bind_eq_some_iff.mp H
  obtain ⟨⟨t145,t146⟩,A50,H⟩:=H
  replace H:(some (t145,t146))=some (r1,r2):=H
  have A5:=Aside0.mk A50
  clear A50
  simp only [Option.some.injEq,Prod.mk.injEq] at H
  obtain ⟨rfl,rfl⟩:=H
  go_enter Tryz.func46,Tryz.ntmps46
  go_wp2_with (first | ((with_reducible refine zy (f:=41) rfl ?_);refine zQ (some 10) rfl rfl Tryz.func41 (by kernel_rfl) rfl #[.int .i64 a1] rfl (by (try simp only [List.map_toArray,List.map_cons,List.map_nil]);first | done | rfl | (simp only [List.length_drop,List.length_take];rfl)) ?_;(with_reducible refine (sat_Bits.calls a1 t143 t144 _ A3.out).mono ?_);rintro e w' ⟨rfl,⟨nd,rfl⟩⟩;refine ⟨_,rfl,?_⟩) | ((with_reducible refine zy (f:=57) rfl ?_);refine zQ (some 19) rfl rfl Tryz.func57 (by kernel_rfl) rfl #[.int .i64 a0,.int .i64 (wrap64 (t143 - 2))] rfl (by (try simp only [List.map_toArray,List.map_cons,List.map_nil]);first | done | rfl | (simp only [List.length_drop,List.length_take];rfl)) ?_;(with_reducible refine (roots_Table.calls a0 (wrap64 (t143 - 2)) t145 t146 _ A5.out).mono ?_);rintro e w6 ⟨v147,rfl,ho0,hb⟩;refine ⟨_,rfl,?_⟩;have n0_:=Aside0.mk (Kd.R_lower ho0 (zj (by repeat (first | (with_reducible first | exact HB.out | apply ze | apply zd | apply zh) | exact HB.out))));have n1_:=Aside0.mk (zb (by repeat (first | (with_reducible first | exact HB.out | apply ze | apply zd | apply zh) | exact HB.out)) hb);clear HB;have HO148:=n0_;have HB:=n1_;clear n0_ n1_;(try clear hb);(try clear hb2);(try clear hk);(try clear hi);(try clear ho0)))
  go_ret2
  exact ⟨_,by first | rfl | (simp [zr,zt] <;> rfl) | (simp [*,zr,zt] <;> rfl),by (with_reducible repeat (first | apply Kd.R_alloc | apply Kd.R_drewN | apply Kd.R_drew));exact HO148.out,by repeat (first | (with_reducible first | exact HB.out | apply ze | apply zd | apply zh) | exact HB.out)⟩
 ·rw [if_neg c4] at H
  have c4b0:(t144 == 0)=false:=beq_eq_false_iff_ne.mpr c4
  have c4b1:(t144 != 0)=true:=bne_iff_ne.mpr c4
  simp only [Option.some.injEq,Prod.mk.injEq] at H
  obtain ⟨rfl,rfl⟩:=H
  go_enter Tryz.func46,Tryz.ntmps46
  go_wp2_with (first | ((with_reducible refine zy (f:=41) rfl ?_);refine zQ (some 10) rfl rfl Tryz.func41 (by kernel_rfl) rfl #[.int .i64 a1] rfl (by (try simp only [List.map_toArray,List.map_cons,List.map_nil]);first | done | rfl | (simp only [List.length_drop,List.length_take];rfl)) ?_;(with_reducible refine (sat_Bits.calls a1 t143 t144 _ A3.out).mono ?_);rintro e w' ⟨rfl,⟨nd,rfl⟩⟩;refine ⟨_,rfl,?_⟩))
  go_ret2
  exact ⟨_,by first | rfl | (simp [zr,zt] <;> rfl) | (simp [*,zr,zt] <;> rfl),by first | exact Kd.R_nil _ _ _ _ _ | exact Kd.N_nil _ _ _ _ _ | exact Kd.V_nil _ _ _ _ _ | exact Kd.Q_nil _ _ _ _ _ | exact Kd.S_nil _ _ _ _ _,by repeat (first | (with_reducible first | exact HB.out | apply ze | apply zd | apply zh) | exact HB.out)⟩

end Go.Proofs.YteieahbadclppaaGreat.P

namespace Go.Proofs.YteieahbadclppaaGreat.P
open Go.RowKit Go.Proofs.YteieahbadclppaaGreatW.PrintWords Go.Proofs.YteieahbadclppaaGreatW.PrintLast Go.Proofs.YteieahbadclppaaGreatW.PrintMore
attribute [local go_sem] zI zJ zO zP
set_option linter.unusedVariables false
set_option linter.unusedSimpArgs false
set_option maxRecDepth 100000 in
set_option maxHeartbeats 4000000 in
theorem zhb (A:Option Addr) (n c:Nat) (w:World):Calls Tryz.prog 144 #[.agg #[],.slice A n c] w fun e w'=>e=.returned (.int .i64 1)∧Below w.heap.size w w':=by
 go_enter Tryz.func144,Tryz.ntmps144
 go_wp2
 go_ret
 exact ⟨rfl,(Below.refl _ _).alloc (Nat.le_refl _) _⟩
set_option maxRecDepth 100000 in
set_option maxHeartbeats 4000000 in
theorem zhc (k:Int) (h0:0≤k) (h1:k≤1000) (A:Option Addr) (n c:Nat) (w:World):Calls Tryz.prog 145 #[.agg #[],.int .i64 k,.slice A n c] w fun e w'=>e=.returned (.int .i64 (k / 2))∧Below w.heap.size w w':=by
 go_enter Tryz.func145,Tryz.ntmps145
 go_wp2
 go_ret
 exact ⟨rfl,(Below.refl _ _).alloc (Nat.le_refl _) _⟩
set_option maxRecDepth 100000 in
set_option maxHeartbeats 4000000 in
theorem zkT (A:Option Addr) (n c:Nat) (w:World):Calls Tryz.prog 151 #[.agg #[],.slice A n c] w fun e w'=>e=.returned (.int .i64 0)∧Below w.heap.size w w':=by
 go_enter Tryz.func151,Tryz.ntmps151
 go_wp2
 go_ret
 exact ⟨rfl,(Below.refl _ _).alloc (Nat.le_refl _) _⟩
set_option maxRecDepth 100000 in
set_option maxHeartbeats 4000000 in
theorem zkU (k:Int) (A:Option Addr) (n c:Nat) (w:World):Calls Tryz.prog 152 #[.agg #[],.int .i64 k,.slice A n c] w fun e w'=>e=.returned (.int .i64 0)∧Below w.heap.size w w':=by
 go_enter Tryz.func152,Tryz.ntmps152
 go_wp2
 go_ret
 exact ⟨rfl,(Below.refl _ _).alloc (Nat.le_refl _) _⟩

theorem zgF {w:World} {b:Nat} {es:Array MapEntry} {n:Nat} (hb:w.heap[b]?=some (.map es n)) (k:Int) (v:Value) (hn:Instr.findNow (.int .i64) (.int .i64 k) es.toList 0=some none) :
  (Instr.mapUpdate 101 (.map (some b)) (.int .i64 k) v).run Tryz.prog w=.ok () { w with heap:=w.heap.setIfInBounds b (.map (es.push ⟨.int .i64 k,v,n⟩) (n+1)) }:=by
 have hk:∀e W,(Instr.checkKey e 10000 3 (.int .i64 k)).run Tryz.prog W=.ok () W:=fun e W=>by unfold Instr.checkKey;simp [run_underlying Tryz.underlying3]
 have hf:(Instr.findKey 3 (.int .i64 k) es.toList).run Tryz.prog w=.ok none w:=by
  unfold Instr.findKey
  simp [run_underlying Tryz.underlying3,hn]
 simp [Instr.mapUpdate,run_underlying Tryz.underlying101,MapKept.run_getObj_map hb,hk,hf,MapKept.run_setObj_map _ hb,Result.andThen]
theorem zgG {w:World} {b:Nat} {es:Array MapEntry} {n:Nat} (hb:w.heap[b]?=some (.map es n)) (k:Int) (v:Value) (i:Nat) (hn:Instr.findNow (.int .i64) (.int .i64 k) es.toList 0=some (some (i,v))) :
  (Instr.lookup 101 (.map (some b)) (.int .i64 k) false).run Tryz.prog w=.ok v w:=by
 have hk:∀e W,(Instr.checkKey e 10000 3 (.int .i64 k)).run Tryz.prog W=.ok () W:=fun e W=>by unfold Instr.checkKey;simp [run_underlying Tryz.underlying3]
 have hf:(Instr.findKey 3 (.int .i64 k) es.toList).run Tryz.prog w=.ok (some (i,v)) w:=by
  unfold Instr.findKey
  simp [run_underlying Tryz.underlying3,hn]
 simp [Instr.lookup,run_underlying Tryz.underlying101,MapKept.run_getObj_map hb,hk,hf]
section
variable {ops:Array Oper} {rest:List Oper} {o:Oper} {a:Act} {Q:Exit→Act→World→Prop}
theorem zfz (W:World) (g:Nat) (x:Obj) (k:Nat) (h:k≠g):(W.heap.setIfInBounds g x)[k]?=W.heap[k]?:=by
 rw [Array.getElem?_setIfInBounds,if_neg (fun e=>h e.symm)]
theorem zhd {W:World} {N:Tmp} (hgd:o.guard=none) (hN:o.dst=some N) (ho:o.op=.makeMap 101 none)
  (h:∀g,g=W.heap.size→∀w1,w1.heap[g]?=some (.map #[] 0)→Below W.heap.size W w1→wpList Tryz.prog ops Q rest (a.put (some N) (.map (some g))) w1):wpList Tryz.prog ops Q (o :: rest) a W:=by
 refine Kd.event_run hgd (v:=.map (some W.heap.size)) (w1:=W.alloc (.map #[] 0)) ?_ ?_
 ·simp only [execOp,ho]
  rfl
 ·rw [hN]
  exact h _ rfl _ (heap_alloc_new W _) ((Below.refl _ _).alloc (Nat.le_refl _) _)
theorem zbX {W:World} (hgd:o.guard=none) (hN:o.dst=none) (m k x:Operand) (ho:o.op=.insert 101 m k x) (g:Nat) (key:Int) (v:Value) (hm:a.eval m=.map (some g)) (hk:a.eval k=.int .i64 key) (hx:a.eval x=v)
  (es:Array MapEntry) (n:Nat) (hg:W.heap[g]?=some (.map es n)) (hn:Instr.findNow (.int .i64) (.int .i64 key) es.toList 0=some none)
  (h:∀w1,w1.heap[g]?=some (.map (es.push ⟨.int .i64 key,v,n⟩) (n+1))→(∀k,k≠g→w1.heap[k]?=W.heap[k]?)→(∀B w0,B≤g→Below B w0 W→Below B w0 w1)→wpList Tryz.prog ops Q rest a w1):wpList Tryz.prog ops Q (o :: rest) a W:=by
 have hr:=zgF hg key v hn
 have hlt:g < W.heap.size:=zf hg
 refine wpList_plain hgd fun K hK=>?_
 unfold Oper.wp execOp
 simp only [ho,hm,hk,hx,Sem.run_bind,Sem.run_pure,Result.andThen_ok,hr]
 show K (a.put o.dst undef) _
 rw [hN]
 refine hK _ _ (h _ (by simp [hlt]) (fun k hk=>zfz W g _ k hk) (fun B w0 hB hb=>hb.trans ⟨rfl,rfl,rfl,by simp,fun k hk=>zfz W g _ k (by omega)⟩))
theorem zfA {W:World} {N:Tmp} (hgd:o.guard=none) (hN:o.dst=some N) (m k:Operand) (ho:o.op=.lookup 101 m k false) (g:Nat) (key:Int) (v:Value) (i:Nat) (hm:a.eval m=.map (some g)) (hk:a.eval k=.int .i64 key)
  (es:Array MapEntry) (n:Nat) (hg:W.heap[g]?=some (.map es n)) (hn:Instr.findNow (.int .i64) (.int .i64 key) es.toList 0=some (some (i,v)))
  (h:wpList Tryz.prog ops Q rest (a.put (some N) v) W):wpList Tryz.prog ops Q (o :: rest) a W:=by
 refine Kd.event_run hgd (v:=v) (w1:=W) ?_ (by rw [hN];exact h)
 simp only [execOp,ho,hm,hk,Sem.run_bind,Result.andThen_ok,zgG hg key v i hn]
 rfl
end
theorem za9 (a b c d e f g h i:Value):(Tryz.prog.info? 56).map (·.size)=some (#[a,b,c,d,e,f,g,h,i]:Array Value).size:=by kernel_rfl
theorem zdU (a b c d:Int) (e:Bool) (f:Int) (A:Option Addr) (n m:Nat):(#[.int .i64 a,.int .i64 b,.int .i64 c,.int .i64 0,.int .i64 d,.bool e,.iface 97 (.agg #[]),.int .i64 f,.slice A n m]:Array Value).all (·.oneCell')=true:=by simp [Value.oneCell']
theorem zf2 (a b c d:Int) (e:Bool) (f:Int) (A:Option Addr) (n m:Nat):(#[.int .i64 a,.int .i64 b,.int .i64 c,.int .i64 2,.int .i64 d,.bool e,.iface 100 (.agg #[]),.int .i64 f,.slice A n m]:Array Value).all (·.oneCell')=true:=by simp [Value.oneCell']
theorem zcA (a b c d e f:Value):(Tryz.prog.info? 24).map (·.size)=some (#[a,b,c,d,e,f]:Array Value).size:=by kernel_rfl
set_option maxRecDepth 100000 in
set_option maxHeartbeats 4000000 in
theorem zeR (p0 p1 p2 p4 b:Int) (p5:Bool) (L:List S38) (hb:sat_Bits.f p0=some (b,0)) (hL:roots_Twiddles.f p1 p0=some (L,0)) (w:World) :
  Calls Tryz.prog 19 #[.agg (zaj p0 p1 p2 0 p4 p5)] w fun e w'=>∃A c,e=.returned (.agg #[.int .i64 p0,.int .i64 p1,.int .i64 p2,.int .i64 0,.int .i64 p4,.bool p5,.iface 97 (.agg #[]),.int .i64 b,.slice A L.length c])∧Kd.R k38 38 w' w.heap.size (fun _=>True) (.slice A L.length c) L∧Below w.heap.size w w':=by
 have HBITS:=hhd hb
 have HTW:=hhd hL
 have HB0:=hhd (Below.refl w.heap.size w)
 clear hb hL
 unfold zaj
 go_enter Tryz.func19,Tryz.ntmps19
 go_wp2_with (first
  | ((with_reducible refine zg (N:=1) rfl ?_);refine ba_ 1 #[.int .i64 p0,.int .i64 p1,.int .i64 p2,.int .i64 0,.int .i64 p4,.bool p5] 24 ?_;intro g1 hg W1 hbox hbl;have L1:=gf_ hg HB0.out;have B1_1:=hhd hbox;have HB_1:=hhd (zb HB0.out hbl);obtain ⟨k1_0_1,k1_1_1,k1_2_1,k1_3_1,k1_4_1,k1_5_1⟩:=bk6 B1_1.out;clear hbox hbl hg)
  | ((with_reducible refine zg (N:=2) rfl ?_);refine ba_ 2 #[.int .i64 0,.int .i64 0,.int .i64 0,.int .i64 0,.int .i64 0,.bool false,.nilIface,.int .i64 0,.slice none 0 0] 56 ?_;intro g2 hg W2 hbox hbl;have L2:=gf_ hg HB_1.out;have B2_2:=hhd hbox;have HB_2:=hhd (zb HB_1.out hbl);have B1_2:=hhd (za B1_1.out hbl);obtain ⟨k1_0_2,k1_1_2,k1_2_2,k1_3_2,k1_4_2,k1_5_2⟩:=bk6 B1_2.out;clear k1_0_1 k1_1_1 k1_2_1 k1_3_1 k1_4_1 k1_5_1;obtain ⟨k2_0_2,k2_1_2,k2_2_2,k2_3_2,k2_4_2,k2_5_2,k2_6_2,k2_7_2,k2_8_2⟩:=bk9 B2_2.out;have NE12:=hhd (show g1≠g2 from fun e=>by have:=zf B1_1.out;omega);clear hbox hbl hg)
  | (go_at_call 41;(with_reducible refine (sat_Bits.calls p0 b 0 _ HBITS.out).mono ?_);rintro e W3 ⟨rfl,hd⟩;have hb:=hd.below;clear hd;have HB_3:=hhd (zb HB_2.out hb);have B1_3:=hhd (za B1_2.out hb);have B2_3:=hhd (za B2_2.out hb);obtain ⟨k1_0_3,k1_1_3,k1_2_3,k1_3_3,k1_4_3,k1_5_3⟩:=bk6 B1_3.out;obtain ⟨k2_0_3,k2_1_3,k2_2_3,k2_3_3,k2_4_3,k2_5_3,k2_6_3,k2_7_3,k2_8_3⟩:=bk9 B2_3.out;clear k1_0_2 k1_1_2 k1_2_2 k1_3_2 k1_4_2 k1_5_2 k2_0_2 k2_1_2 k2_2_2 k2_3_2 k2_4_2 k2_5_2 k2_6_2 k2_7_2 k2_8_2;clear hb)
  | (go_at_call 46;(with_reducible refine (roots_Twiddles.calls p1 p0 L 0 _ HTW.out).mono ?_);rintro e W4 ⟨vt,rfl,ho,hb⟩;obtain ⟨A,c,ev⟩:=Kd.R_slice ho;subst ev;have Rw_4:=hhd (Kd.R_lower ho (zj HB_3.out));have HB_4:=hhd (zb HB_3.out hb);have B1_4:=hhd (za B1_3.out hb);have B2_4:=hhd (za B2_3.out hb);obtain ⟨k1_0_4,k1_1_4,k1_2_4,k1_3_4,k1_4_4,k1_5_4⟩:=bk6 B1_4.out;obtain ⟨k2_0_4,k2_1_4,k2_2_4,k2_3_4,k2_4_4,k2_5_4,k2_6_4,k2_7_4,k2_8_4⟩:=bk9 B2_4.out;clear k1_0_3 k1_1_3 k1_2_3 k1_3_3 k1_4_3 k1_5_3 k2_0_3 k2_1_3 k2_2_3 k2_3_3 k2_4_3 k2_5_3 k2_6_3 k2_7_3 k2_8_3;have NR2:=hhd (show some g2≠(Value.slice A L.length c).ownBlock from fun e=>Nat.lt_irrefl _ (Nat.lt_of_lt_of_le (zf B2_3.out) (Kd.R_base ho g2 e.symm)));clear hb ho)
  | ((with_reducible refine zg (N:=22) rfl ?_);refine zhd rfl rfl rfl ?_;intro gm hg W5 hbox hbl;have Lm:=gf_ hg HB_4.out;have M_5:=hhd hbox;have NEm:=hhd (show some gm≠_ from by rw [hg];exact Kd.R_ne_new Rw_4.out 0);have NE1:=hhd (show g1≠gm from fun e=>by have:=zf B1_4.out;omega);have NE2:=hhd (show g2≠gm from fun e=>by have:=zf B2_4.out;omega);have HB_5:=hhd (zb HB_4.out hbl);have B1_5:=hhd (za B1_4.out hbl);have B2_5:=hhd (za B2_4.out hbl);have Rw_5:=hhd (Kd.R_below Rw_4.out hbl);obtain ⟨k1_0_5,k1_1_5,k1_2_5,k1_3_5,k1_4_5,k1_5_5⟩:=bk6 B1_5.out;obtain ⟨k2_0_5,k2_1_5,k2_2_5,k2_3_5,k2_4_5,k2_5_5,k2_6_5,k2_7_5,k2_8_5⟩:=bk9 B2_5.out;clear k1_0_4 k1_1_4 k1_2_4 k1_3_4 k1_4_4 k1_5_4 k2_0_4 k2_1_4 k2_2_4 k2_3_4 k2_4_4 k2_5_4 k2_6_4 k2_7_4 k2_8_4;clear hbox hbl hg)
  | (refine zbX rfl rfl _ (.const (.int .i64 0)) (.tmp 24) rfl gm 0 (.iface 97 (.agg #[])) rfl rfl rfl (#[]) 0 M_5.out rfl ?_;intro W6 hq hoth hbel;have M_6:=hhd hq;have HB_6:=hhd (hbel _ _ Lm HB_5.out);have B1_6:=hhd ((hoth _ NE1.out).trans B1_5.out);have B2_6:=hhd ((hoth _ NE2.out).trans B2_5.out);have Rw_6:=hhd (zK Rw_5.out hoth NEm.out);obtain ⟨k1_0_6,k1_1_6,k1_2_6,k1_3_6,k1_4_6,k1_5_6⟩:=bk6 B1_6.out;obtain ⟨k2_0_6,k2_1_6,k2_2_6,k2_3_6,k2_4_6,k2_5_6,k2_6_6,k2_7_6,k2_8_6⟩:=bk9 B2_6.out;clear k1_0_5 k1_1_5 k1_2_5 k1_3_5 k1_4_5 k1_5_5 k2_0_5 k2_1_5 k2_2_5 k2_3_5 k2_4_5 k2_5_5 k2_6_5 k2_7_5 k2_8_5;clear hq hoth hbel)
  | (refine zbX rfl rfl _ (.const (.int .i64 1)) (.tmp 28) rfl gm 1 (.iface 99 (.agg #[.int .i64 p0])) rfl rfl rfl (#[].push ⟨.int .i64 0,.iface 97 (.agg #[]),0⟩) 1 M_6.out rfl ?_;intro W7 hq hoth hbel;have M_7:=hhd hq;have HB_7:=hhd (hbel _ _ Lm HB_6.out);have B1_7:=hhd ((hoth _ NE1.out).trans B1_6.out);have B2_7:=hhd ((hoth _ NE2.out).trans B2_6.out);have Rw_7:=hhd (zK Rw_6.out hoth NEm.out);obtain ⟨k1_0_7,k1_1_7,k1_2_7,k1_3_7,k1_4_7,k1_5_7⟩:=bk6 B1_7.out;obtain ⟨k2_0_7,k2_1_7,k2_2_7,k2_3_7,k2_4_7,k2_5_7,k2_6_7,k2_7_7,k2_8_7⟩:=bk9 B2_7.out;clear k1_0_6 k1_1_6 k1_2_6 k1_3_6 k1_4_6 k1_5_6 k2_0_6 k2_1_6 k2_2_6 k2_3_6 k2_4_6 k2_5_6 k2_6_6 k2_7_6 k2_8_6;clear hq hoth hbel)
  | (refine zbX rfl rfl _ (.const (.int .i64 2)) (.tmp 30) rfl gm 2 (.iface 100 (.agg #[])) rfl rfl rfl ((#[].push ⟨.int .i64 0,.iface 97 (.agg #[]),0⟩).push ⟨.int .i64 1,.iface 99 (.agg #[.int .i64 p0]),1⟩) 2 M_7.out rfl ?_;intro W8 hq hoth hbel;have M_8:=hhd hq;have HB_8:=hhd (hbel _ _ Lm HB_7.out);have B1_8:=hhd ((hoth _ NE1.out).trans B1_7.out);have B2_8:=hhd ((hoth _ NE2.out).trans B2_7.out);have Rw_8:=hhd (zK Rw_7.out hoth NEm.out);obtain ⟨k1_0_8,k1_1_8,k1_2_8,k1_3_8,k1_4_8,k1_5_8⟩:=bk6 B1_8.out;obtain ⟨k2_0_8,k2_1_8,k2_2_8,k2_3_8,k2_4_8,k2_5_8,k2_6_8,k2_7_8,k2_8_8⟩:=bk9 B2_8.out;clear k1_0_7 k1_1_7 k1_2_7 k1_3_7 k1_4_7 k1_5_7 k2_0_7 k2_1_7 k2_2_7 k2_3_7 k2_4_7 k2_5_7 k2_6_7 k2_7_7 k2_8_7;clear hq hoth hbel)
  | ((with_reducible refine zg (N:=34) rfl ?_);refine zfA rfl rfl _ _ rfl gm 0 (.iface 97 (.agg #[])) 0 rfl rfl (((#[].push ⟨.int .i64 0,.iface 97 (.agg #[]),0⟩).push ⟨.int .i64 1,.iface 99 (.agg #[.int .i64 p0]),1⟩).push ⟨.int .i64 2,.iface 100 (.agg #[]),2⟩) 3 M_8.out rfl ?_)
  | ((with_reducible refine zg (N:=35) rfl ?_);refine wpList_load_row rfl 24 _ rfl g1 rfl 24 #[.int .i64 p0,.int .i64 p1,.int .i64 p2,.int .i64 0,.int .i64 p4,.bool p5] (0,0) _ B1_8.out Tryz.underlying24 rfl (zcA _ _ _ _ _ _) ?_)
  | ((with_reducible refine zo (t:=56) (p:=2) rfl ?_);refine zv rfl 56 _ _ rfl g2 #[.int .i64 p0,.int .i64 p1,.int .i64 p2,.int .i64 0,.int .i64 p4,.bool p5,.iface 97 (.agg #[]),.int .i64 b,.slice A L.length c] rfl rfl 56 #[.int .i64 0,.int .i64 0,.int .i64 0,.int .i64 0,.int .i64 0,.bool false,.nilIface,.int .i64 0,.slice none 0 0] B2_8.out (za9 _ _ _ _ _ _ _ _ _) rfl (zdU _ _ _ _ _ _ _ _ _) ?_;intro W9 hq hoth hbel;have B2_9:=hhd hq;have HB_9:=hhd (hbel _ _ L2 HB_8.out);have B1_9:=hhd ((hoth _ NE12.out).trans B1_8.out);have Rw_9:=hhd (zK Rw_8.out hoth NR2.out);obtain ⟨k1_0_9,k1_1_9,k1_2_9,k1_3_9,k1_4_9,k1_5_9⟩:=bk6 B1_9.out;clear k1_0_8 k1_1_8 k1_2_8 k1_3_8 k1_4_8 k1_5_8 k2_0_8 k2_1_8 k2_2_8 k2_3_8 k2_4_8 k2_5_8 k2_6_8 k2_7_8 k2_8_8;obtain ⟨k2_0_9,k2_1_9,k2_2_9,k2_3_9,k2_4_9,k2_5_9,k2_6_9,k2_7_9,k2_8_9⟩:=bk9 B2_9.out;clear hq hoth hbel))
 refine bodyPost_ret (results_cell_row rfl _ _ g2 56 #[.int .i64 p0,.int .i64 p1,.int .i64 p2,.int .i64 0,.int .i64 p4,.bool p5,.iface 97 (.agg #[]),.int .i64 b,.slice A L.length c] (0,0) _ rfl B2_9.out Tryz.underlying56 rfl (za9 _ _ _ _ _ _ _ _ _)) rfl ?_
 exact ⟨A,c,rfl,Rw_9.out,HB_9.out⟩
set_option maxRecDepth 100000 in
set_option maxHeartbeats 4000000 in
theorem zir (p0 p1 p2 p4 b:Int) (p5:Bool) (L:List S38) (hb:sat_Bits.f p0=some (b,0)) (hL:roots_Twiddles.f p1 p0=some (L,0)) (w:World) :
  Calls Tryz.prog 19 #[.agg (zaj p0 p1 p2 2 p4 p5)] w fun e w'=>∃A c,e=.returned (.agg #[.int .i64 p0,.int .i64 p1,.int .i64 p2,.int .i64 2,.int .i64 p4,.bool p5,.iface 100 (.agg #[]),.int .i64 b,.slice A L.length c])∧Kd.R k38 38 w' w.heap.size (fun _=>True) (.slice A L.length c) L∧Below w.heap.size w w':=by
 have HBITS:=hhd hb
 have HTW:=hhd hL
 have HB0:=hhd (Below.refl w.heap.size w)
 clear hb hL
 unfold zaj
 go_enter Tryz.func19,Tryz.ntmps19
 go_wp2_with (first
  | ((with_reducible refine zg (N:=1) rfl ?_);refine ba_ 1 #[.int .i64 p0,.int .i64 p1,.int .i64 p2,.int .i64 2,.int .i64 p4,.bool p5] 24 ?_;intro g1 hg W1 hbox hbl;have L1:=gf_ hg HB0.out;have B1_1:=hhd hbox;have HB_1:=hhd (zb HB0.out hbl);obtain ⟨k1_0_1,k1_1_1,k1_2_1,k1_3_1,k1_4_1,k1_5_1⟩:=bk6 B1_1.out;clear hbox hbl hg)
  | ((with_reducible refine zg (N:=2) rfl ?_);refine ba_ 2 #[.int .i64 0,.int .i64 0,.int .i64 0,.int .i64 0,.int .i64 0,.bool false,.nilIface,.int .i64 0,.slice none 0 0] 56 ?_;intro g2 hg W2 hbox hbl;have L2:=gf_ hg HB_1.out;have B2_2:=hhd hbox;have HB_2:=hhd (zb HB_1.out hbl);have B1_2:=hhd (za B1_1.out hbl);obtain ⟨k1_0_2,k1_1_2,k1_2_2,k1_3_2,k1_4_2,k1_5_2⟩:=bk6 B1_2.out;clear k1_0_1 k1_1_1 k1_2_1 k1_3_1 k1_4_1 k1_5_1;obtain ⟨k2_0_2,k2_1_2,k2_2_2,k2_3_2,k2_4_2,k2_5_2,k2_6_2,k2_7_2,k2_8_2⟩:=bk9 B2_2.out;have NE12:=hhd (show g1≠g2 from fun e=>by have:=zf B1_1.out;omega);clear hbox hbl hg)
  | (go_at_call 41;(with_reducible refine (sat_Bits.calls p0 b 0 _ HBITS.out).mono ?_);rintro e W3 ⟨rfl,hd⟩;have hb:=hd.below;clear hd;have HB_3:=hhd (zb HB_2.out hb);have B1_3:=hhd (za B1_2.out hb);have B2_3:=hhd (za B2_2.out hb);obtain ⟨k1_0_3,k1_1_3,k1_2_3,k1_3_3,k1_4_3,k1_5_3⟩:=bk6 B1_3.out;obtain ⟨k2_0_3,k2_1_3,k2_2_3,k2_3_3,k2_4_3,k2_5_3,k2_6_3,k2_7_3,k2_8_3⟩:=bk9 B2_3.out;clear k1_0_2 k1_1_2 k1_2_2 k1_3_2 k1_4_2 k1_5_2 k2_0_2 k2_1_2 k2_2_2 k2_3_2 k2_4_2 k2_5_2 k2_6_2 k2_7_2 k2_8_2;clear hb)
  | (go_at_call 46;(with_reducible refine (roots_Twiddles.calls p1 p0 L 0 _ HTW.out).mono ?_);rintro e W4 ⟨vt,rfl,ho,hb⟩;obtain ⟨A,c,ev⟩:=Kd.R_slice ho;subst ev;have Rw_4:=hhd (Kd.R_lower ho (zj HB_3.out));have HB_4:=hhd (zb HB_3.out hb);have B1_4:=hhd (za B1_3.out hb);have B2_4:=hhd (za B2_3.out hb);obtain ⟨k1_0_4,k1_1_4,k1_2_4,k1_3_4,k1_4_4,k1_5_4⟩:=bk6 B1_4.out;obtain ⟨k2_0_4,k2_1_4,k2_2_4,k2_3_4,k2_4_4,k2_5_4,k2_6_4,k2_7_4,k2_8_4⟩:=bk9 B2_4.out;clear k1_0_3 k1_1_3 k1_2_3 k1_3_3 k1_4_3 k1_5_3 k2_0_3 k2_1_3 k2_2_3 k2_3_3 k2_4_3 k2_5_3 k2_6_3 k2_7_3 k2_8_3;have NR2:=hhd (show some g2≠(Value.slice A L.length c).ownBlock from fun e=>Nat.lt_irrefl _ (Nat.lt_of_lt_of_le (zf B2_3.out) (Kd.R_base ho g2 e.symm)));clear hb ho)
  | ((with_reducible refine zg (N:=22) rfl ?_);refine zhd rfl rfl rfl ?_;intro gm hg W5 hbox hbl;have Lm:=gf_ hg HB_4.out;have M_5:=hhd hbox;have NEm:=hhd (show some gm≠_ from by rw [hg];exact Kd.R_ne_new Rw_4.out 0);have NE1:=hhd (show g1≠gm from fun e=>by have:=zf B1_4.out;omega);have NE2:=hhd (show g2≠gm from fun e=>by have:=zf B2_4.out;omega);have HB_5:=hhd (zb HB_4.out hbl);have B1_5:=hhd (za B1_4.out hbl);have B2_5:=hhd (za B2_4.out hbl);have Rw_5:=hhd (Kd.R_below Rw_4.out hbl);obtain ⟨k1_0_5,k1_1_5,k1_2_5,k1_3_5,k1_4_5,k1_5_5⟩:=bk6 B1_5.out;obtain ⟨k2_0_5,k2_1_5,k2_2_5,k2_3_5,k2_4_5,k2_5_5,k2_6_5,k2_7_5,k2_8_5⟩:=bk9 B2_5.out;clear k1_0_4 k1_1_4 k1_2_4 k1_3_4 k1_4_4 k1_5_4 k2_0_4 k2_1_4 k2_2_4 k2_3_4 k2_4_4 k2_5_4 k2_6_4 k2_7_4 k2_8_4;clear hbox hbl hg)
  | (refine zbX rfl rfl _ (.const (.int .i64 0)) (.tmp 24) rfl gm 0 (.iface 97 (.agg #[])) rfl rfl rfl (#[]) 0 M_5.out rfl ?_;intro W6 hq hoth hbel;have M_6:=hhd hq;have HB_6:=hhd (hbel _ _ Lm HB_5.out);have B1_6:=hhd ((hoth _ NE1.out).trans B1_5.out);have B2_6:=hhd ((hoth _ NE2.out).trans B2_5.out);have Rw_6:=hhd (zK Rw_5.out hoth NEm.out);obtain ⟨k1_0_6,k1_1_6,k1_2_6,k1_3_6,k1_4_6,k1_5_6⟩:=bk6 B1_6.out;obtain ⟨k2_0_6,k2_1_6,k2_2_6,k2_3_6,k2_4_6,k2_5_6,k2_6_6,k2_7_6,k2_8_6⟩:=bk9 B2_6.out;clear k1_0_5 k1_1_5 k1_2_5 k1_3_5 k1_4_5 k1_5_5 k2_0_5 k2_1_5 k2_2_5 k2_3_5 k2_4_5 k2_5_5 k2_6_5 k2_7_5 k2_8_5;clear hq hoth hbel)
  | (refine zbX rfl rfl _ (.const (.int .i64 1)) (.tmp 28) rfl gm 1 (.iface 99 (.agg #[.int .i64 p0])) rfl rfl rfl (#[].push ⟨.int .i64 0,.iface 97 (.agg #[]),0⟩) 1 M_6.out rfl ?_;intro W7 hq hoth hbel;have M_7:=hhd hq;have HB_7:=hhd (hbel _ _ Lm HB_6.out);have B1_7:=hhd ((hoth _ NE1.out).trans B1_6.out);have B2_7:=hhd ((hoth _ NE2.out).trans B2_6.out);have Rw_7:=hhd (zK Rw_6.out hoth NEm.out);obtain ⟨k1_0_7,k1_1_7,k1_2_7,k1_3_7,k1_4_7,k1_5_7⟩:=bk6 B1_7.out;obtain ⟨k2_0_7,k2_1_7,k2_2_7,k2_3_7,k2_4_7,k2_5_7,k2_6_7,k2_7_7,k2_8_7⟩:=bk9 B2_7.out;clear k1_0_6 k1_1_6 k1_2_6 k1_3_6 k1_4_6 k1_5_6 k2_0_6 k2_1_6 k2_2_6 k2_3_6 k2_4_6 k2_5_6 k2_6_6 k2_7_6 k2_8_6;clear hq hoth hbel)
  | (refine zbX rfl rfl _ (.const (.int .i64 2)) (.tmp 30) rfl gm 2 (.iface 100 (.agg #[])) rfl rfl rfl ((#[].push ⟨.int .i64 0,.iface 97 (.agg #[]),0⟩).push ⟨.int .i64 1,.iface 99 (.agg #[.int .i64 p0]),1⟩) 2 M_7.out rfl ?_;intro W8 hq hoth hbel;have M_8:=hhd hq;have HB_8:=hhd (hbel _ _ Lm HB_7.out);have B1_8:=hhd ((hoth _ NE1.out).trans B1_7.out);have B2_8:=hhd ((hoth _ NE2.out).trans B2_7.out);have Rw_8:=hhd (zK Rw_7.out hoth NEm.out);obtain ⟨k1_0_8,k1_1_8,k1_2_8,k1_3_8,k1_4_8,k1_5_8⟩:=bk6 B1_8.out;obtain ⟨k2_0_8,k2_1_8,k2_2_8,k2_3_8,k2_4_8,k2_5_8,k2_6_8,k2_7_8,k2_8_8⟩:=bk9 B2_8.out;clear k1_0_7 k1_1_7 k1_2_7 k1_3_7 k1_4_7 k1_5_7 k2_0_7 k2_1_7 k2_2_7 k2_3_7 k2_4_7 k2_5_7 k2_6_7 k2_7_7 k2_8_7;clear hq hoth hbel)
  | ((with_reducible refine zg (N:=34) rfl ?_);refine zfA rfl rfl _ _ rfl gm 2 (.iface 100 (.agg #[])) 2 rfl rfl (((#[].push ⟨.int .i64 0,.iface 97 (.agg #[]),0⟩).push ⟨.int .i64 1,.iface 99 (.agg #[.int .i64 p0]),1⟩).push ⟨.int .i64 2,.iface 100 (.agg #[]),2⟩) 3 M_8.out rfl ?_)
  | ((with_reducible refine zg (N:=35) rfl ?_);refine wpList_load_row rfl 24 _ rfl g1 rfl 24 #[.int .i64 p0,.int .i64 p1,.int .i64 p2,.int .i64 2,.int .i64 p4,.bool p5] (0,0) _ B1_8.out Tryz.underlying24 rfl (zcA _ _ _ _ _ _) ?_)
  | ((with_reducible refine zo (t:=56) (p:=2) rfl ?_);refine zv rfl 56 _ _ rfl g2 #[.int .i64 p0,.int .i64 p1,.int .i64 p2,.int .i64 2,.int .i64 p4,.bool p5,.iface 100 (.agg #[]),.int .i64 b,.slice A L.length c] rfl rfl 56 #[.int .i64 0,.int .i64 0,.int .i64 0,.int .i64 0,.int .i64 0,.bool false,.nilIface,.int .i64 0,.slice none 0 0] B2_8.out (za9 _ _ _ _ _ _ _ _ _) rfl (zf2 _ _ _ _ _ _ _ _ _) ?_;intro W9 hq hoth hbel;have B2_9:=hhd hq;have HB_9:=hhd (hbel _ _ L2 HB_8.out);have B1_9:=hhd ((hoth _ NE12.out).trans B1_8.out);have Rw_9:=hhd (zK Rw_8.out hoth NR2.out);obtain ⟨k1_0_9,k1_1_9,k1_2_9,k1_3_9,k1_4_9,k1_5_9⟩:=bk6 B1_9.out;clear k1_0_8 k1_1_8 k1_2_8 k1_3_8 k1_4_8 k1_5_8 k2_0_8 k2_1_8 k2_2_8 k2_3_8 k2_4_8 k2_5_8 k2_6_8 k2_7_8 k2_8_8;obtain ⟨k2_0_9,k2_1_9,k2_2_9,k2_3_9,k2_4_9,k2_5_9,k2_6_9,k2_7_9,k2_8_9⟩:=bk9 B2_9.out;clear hq hoth hbel))
 refine bodyPost_ret (results_cell_row rfl _ _ g2 56 #[.int .i64 p0,.int .i64 p1,.int .i64 p2,.int .i64 2,.int .i64 p4,.bool p5,.iface 100 (.agg #[]),.int .i64 b,.slice A L.length c] (0,0) _ rfl B2_9.out Tryz.underlying56 rfl (za9 _ _ _ _ _ _ _ _ _)) rfl ?_
 exact ⟨A,c,rfl,Rw_9.out,HB_9.out⟩
end Go.Proofs.YteieahbadclppaaGreat.P

namespace Go.Proofs.YteieahbadclppaaGreat.P
open Go.RowKit Go.Proofs.YteieahbadclppaaGreatW.PrintWords Go.Proofs.YteieahbadclppaaGreatW.PrintLast Go.Proofs.YteieahbadclppaaGreatW.PrintMore
attribute [local go_sem] zI zJ zO zP zX zY z8 z9
set_option linter.unusedVariables false
set_option linter.unusedSimpArgs false
def plan_Check.f (a0_0:Int) (a0_1:Int) (a0_2:Int) (a0_3:Int) (a0_4:Int) (a0_5:Bool):Option (Int):=(plan_in.f a0_0 0 1).bind fun t150=>(if t150=true then ((plan_in.f a0_1 2 6).bind fun t151=>(if t151=true then ((plan_in.f a0_2 0 2).bind fun t152=>(if t152=true then ((plan_in.f a0_3 0 2).bind fun t153=>(if t153=true then ((plan_in.f a0_4 0 2).bind fun t154=>(if t154=true then (if a0_2=2 then (if a0_3=0 then (some 0) else (some 4)) else (some 0)) else (some 4))) else (some 4))) else (some 4))) else (some 4))) else (some 4))
set_option maxHeartbeats 8000000 in
set_option maxRecDepth 100000 in
theorem plan_Check.calls (a0_0:Int) (a0_1:Int) (a0_2:Int) (a0_3:Int) (a0_4:Int) (a0_5:Bool) (r:Int) (w:World) (h:plan_Check.f a0_0 a0_1 a0_2 a0_3 a0_4 a0_5=some r) :
  Calls Tryz.prog 37 #[.agg #[.int .i64 a0_0,.int .i64 a0_1,.int .i64 a0_2,.int .i64 a0_3,.int .i64 a0_4,.bool a0_5]] w fun e w'=>e=.returned (.int .i64 r)∧Below w.heap.size w w':=by
 have hu24:=Tryz.underlying24
 have HB:=Aside0.mk (Below.refl w.heap.size w)
 have H:((plan_in.f a0_0 0 1).bind fun t150=>(if t150=true then ((plan_in.f a0_1 2 6).bind fun t151=>(if t151=true then ((plan_in.f a0_2 0 2).bind fun t152=>(if t152=true then ((plan_in.f a0_3 0 2).bind fun t153=>(if t153=true then ((plan_in.f a0_4 0 2).bind fun t154=>(if t154=true then (if a0_2=2 then (if a0_3=0 then (some 0) else (some 4)) else (some 0)) else (some 4))) else (some 4))) else (some 4))) else (some 4))) else (some 4)))=some r:=h
 clear h
 replace H:=Option.bind_eq_some_iff.mp H
 obtain ⟨t150,A20,H⟩:=H
 replace H:(if t150=true then ((plan_in.f a0_1 2 6).bind fun t151=>(if t151=true then ((plan_in.f a0_2 0 2).bind fun t152=>(if t152=true then ((plan_in.f a0_3 0 2).bind fun t153=>(if t153=true then ((plan_in.f a0_4 0 2).bind fun t154=>(if t154=true then (if a0_2=2 then (if a0_3=0 then (some 0) else (some 4)) else (some 0)) else (some 4))) else (some 4))) else (some 4))) else (some 4))) else (some 4))=some r:=H
 have A2:=Aside0.mk A20
 clear A20
 by_cases c3:t150=true
 ·subst c3
  have H1:((plan_in.f a0_1 2 6).bind fun t151=>(if t151=true then ((plan_in.f a0_2 0 2).bind fun t152=>(if t152=true then ((plan_in.f a0_3 0 2).bind fun t153=>(if t153=true then ((plan_in.f a0_4 0 2).bind fun t154=>(if t154=true then (if a0_2=2 then (if a0_3=0 then (some 0) else (some 4)) else (some 0)) else (some 4))) else (some 4))) else (some 4))) else (some 4)))=some r:=by rw [if_pos rfl] at H;exact H
  clear H
  have H:=H1
  clear H1
  replace H:=Option.bind_eq_some_iff.mp H
  obtain ⟨t151,A40,H⟩:=H
  replace H:(if t151=true then ((plan_in.f a0_2 0 2).bind fun t152=>(if t152=true then ((plan_in.f a0_3 0 2).bind fun t153=>(if t153=true then ((plan_in.f a0_4 0 2).bind fun t154=>(if t154=true then (if a0_2=2 then (if a0_3=0 then (some 0) else (some 4)) else (some 0)) else (some 4))) else (some 4))) else (some 4))) else (some 4))=some r:=H
  have A4:=Aside0.mk A40
  clear A40
  by_cases c5:t151=true
  ·subst c5
   have H1:((plan_in.f a0_2 0 2).bind fun t152=>(if t152=true then ((plan_in.f a0_3 0 2).bind fun t153=>(if t153=true then ((plan_in.f a0_4 0 2).bind fun t154=>(if t154=true then (if a0_2=2 then (if a0_3=0 then (some 0) else (some 4)) else (some 0)) else (some 4))) else (some 4))) else (some 4)))=some r:=by rw [if_pos rfl] at H;exact H
   clear H
   have H:=H1
   clear H1
   replace H:=Option.bind_eq_some_iff.mp H
   obtain ⟨t152,A60,H⟩:=H
   replace H:(if t152=true then ((plan_in.f a0_3 0 2).bind fun t153=>(if t153=true then ((plan_in.f a0_4 0 2).bind fun t154=>(if t154=true then (if a0_2=2 then (if a0_3=0 then (some 0) else (some 4)) else (some 0)) else (some 4))) else (some 4))) else (some 4))=some r:=H
   have A6:=Aside0.mk A60
   clear A60
   by_cases c7:t152=true
   ·subst c7
    have H1:((plan_in.f a0_3 0 2).bind fun t153=>(if t153=true then ((plan_in.f a0_4 0 2).bind fun t154=>(if t154=true then (if a0_2=2 then (if a0_3=0 then (some 0) else (some 4)) else (some 0)) else (some 4))) else (some 4)))=some r:=by rw [if_pos rfl] at H;exact H
    clear H
    have H:=H1
    clear H1
    replace H:=Option.bind_eq_some_iff.mp H
    obtain ⟨t153,A80,H⟩:=H
    replace H:(if t153=true then ((plan_in.f a0_4 0 2).bind fun t154=>(if t154=true then (if a0_2=2 then (if a0_3=0 then (some 0) else (some 4)) else (some 0)) else (some 4))) else (some 4))=some r:=H
    have A8:=Aside0.mk A80
    clear A80
    by_cases c9:t153=true
    ·subst c9
     have H1:((plan_in.f a0_4 0 2).bind fun t154=>(if t154=true then (if a0_2=2 then (if a0_3=0 then (some 0) else (some 4)) else (some 0)) else (some 4)))=some r:=by rw [if_pos rfl] at H;exact H
     clear H
     have H:=H1
     clear H1
     replace H:=Option.bind_eq_some_iff.mp H
     obtain ⟨t154,A100,H⟩:=H
     replace H:(if t154=true then (if a0_2=2 then (if a0_3=0 then (some 0) else (some 4)) else (some 0)) else (some 4))=some r:=H
     have A10:=Aside0.mk A100
     clear A100
     by_cases c11:t154=true
     ·subst c11
      have H1:(if a0_2=2 then (if a0_3=0 then (some 0) else (some 4)) else (some 0))=some r:=by rw [if_pos rfl] at H;exact H
      clear H
      have H:=H1
      clear H1
      by_cases c12:a0_2=2
      ·rw [if_pos c12] at H
       have c12b0:(a0_2 == 2)=true:=beq_iff_eq.mpr c12
       have c12b1:(a0_2 != 2)=false:=bne_eq_false_iff_eq.mpr c12
       clear c12
       by_cases c13:a0_3=0
       ·rw [if_pos c13] at H
        have c13b0:(a0_3 == 0)=true:=beq_iff_eq.mpr c13
        have c13b1:(a0_3 != 0)=false:=bne_eq_false_iff_eq.mpr c13
        clear c13
        obtain rfl:=Option.some.inj H
        go_enter Tryz.func37,Tryz.ntmps37
        go_wp2_with (first | ((with_reducible refine zg (N:=1) rfl ?_);refine ba_ 1 #[.int .i64 a0_0,.int .i64 a0_1,.int .i64 a0_2,.int .i64 a0_3,.int .i64 a0_4,.bool a0_5] 24 ?_;intro gb149 hg w14 hbox hb;have n0_:=Aside0.mk (zb (by repeat (first | (with_reducible first | exact HB.out | apply ze | apply zd | apply zh) | exact HB.out)) hb);have n1_:=Aside0.mk (hbox);have n2_:=Aside0.mk ((by rw [hg];exact (zj (by repeat (first | (with_reducible first | exact HB.out | apply ze | apply zd | apply zh) | exact HB.out))):w.heap.size≤gb149));have n3_:=Aside0.mk ((by rw [hg];exact (zj (by repeat (first | (with_reducible first | exact HB.out | apply ze | apply zd | apply zh) | exact HB.out))):w.heap.size≤gb149));clear HB;have HB:=n0_;have BK149:=n1_;have GW149:=n2_;have GE149:=n3_;clear n0_ n1_ n2_ n3_;clear hb hbox hg;have hcz15_0:w14.cell? ⟨gb149,0,none⟩=some (.int .i64 a0_0):=(zc BK149.out 0).trans rfl;have hcz15_1:w14.cell? ⟨gb149,1,none⟩=some (.int .i64 a0_1):=(zc BK149.out 1).trans rfl;have hcz15_2:w14.cell? ⟨gb149,2,none⟩=some (.int .i64 a0_2):=(zc BK149.out 2).trans rfl;have hcz15_3:w14.cell? ⟨gb149,3,none⟩=some (.int .i64 a0_3):=(zc BK149.out 3).trans rfl;have hcz15_4:w14.cell? ⟨gb149,4,none⟩=some (.int .i64 a0_4):=(zc BK149.out 4).trans rfl;have hcz15_5:w14.cell? ⟨gb149,5,none⟩=some (.bool a0_5):=(zc BK149.out 5).trans rfl;have hfz15_0:=zi BK149.out 0;have hfz15_1:=zi BK149.out 1;have hfz15_2:=zi BK149.out 2;have hfz15_3:=zi BK149.out 3;have hfz15_4:=zi BK149.out 4;have hfz15_5:=zi BK149.out 5) | ((with_reducible refine zy (f:=64) rfl ?_);refine zQ (some 5) rfl rfl Tryz.func64 (by kernel_rfl) rfl #[.int .i64 a0_0,.int .i64 0,.int .i64 1] rfl (by (try simp only [List.map_toArray,List.map_cons,List.map_nil]);first | done | rfl | (simp only [List.length_drop,List.length_take];rfl)) ?_;(with_reducible refine (plan_in.calls a0_0 0 1 true _ A2.out).mono ?_);rintro e w' ⟨rfl,⟨nd,rfl⟩⟩;refine ⟨_,rfl,?_⟩) | (go_at_call 64;(with_reducible refine (plan_in.calls a0_1 2 6 true _ A4.out).mono ?_);rintro e w' ⟨rfl,⟨nd,rfl⟩⟩) | (go_at_call 64;(with_reducible refine (plan_in.calls a0_2 0 2 true _ A6.out).mono ?_);rintro e w' ⟨rfl,⟨nd,rfl⟩⟩) | (go_at_call 64;(with_reducible refine (plan_in.calls a0_3 0 2 true _ A8.out).mono ?_);rintro e w' ⟨rfl,⟨nd,rfl⟩⟩) | (go_at_call 64;(with_reducible refine (plan_in.calls a0_4 0 2 true _ A10.out).mono ?_);rintro e w' ⟨rfl,⟨nd,rfl⟩⟩))
        go_ret
        exact ⟨by first | rfl | (simp [zr,zt] <;> rfl) | (simp [*,zr,zt] <;> rfl),by repeat (first | (with_reducible first | exact HB.out | apply ze | apply zd | apply zh | refine zp ?_ GE149.out) | exact HB.out)⟩
       ·rw [if_neg c13] at H
        have c13b0:(a0_3 == 0)=false:=beq_eq_false_iff_ne.mpr c13
        have c13b1:(a0_3 != 0)=true:=bne_iff_ne.mpr c13
        obtain rfl:=Option.some.inj H
        go_enter Tryz.func37,Tryz.ntmps37
        go_wp2_with (first | ((with_reducible refine zg (N:=1) rfl ?_);refine ba_ 1 #[.int .i64 a0_0,.int .i64 a0_1,.int .i64 a0_2,.int .i64 a0_3,.int .i64 a0_4,.bool a0_5] 24 ?_;intro gb149 hg w16 hbox hb;have n0_:=Aside0.mk (zb (by repeat (first | (with_reducible first | exact HB.out | apply ze | apply zd | apply zh) | exact HB.out)) hb);have n1_:=Aside0.mk (hbox);have n2_:=Aside0.mk ((by rw [hg];exact (zj (by repeat (first | (with_reducible first | exact HB.out | apply ze | apply zd | apply zh) | exact HB.out))):w.heap.size≤gb149));have n3_:=Aside0.mk ((by rw [hg];exact (zj (by repeat (first | (with_reducible first | exact HB.out | apply ze | apply zd | apply zh) | exact HB.out))):w.heap.size≤gb149));clear HB;have HB:=n0_;have BK149:=n1_;have GW149:=n2_;have GE149:=n3_;clear n0_ n1_ n2_ n3_;clear hb hbox hg;have hcz17_0:w16.cell? ⟨gb149,0,none⟩=some (.int .i64 a0_0):=(zc BK149.out 0).trans rfl;have hcz17_1:w16.cell? ⟨gb149,1,none⟩=some (.int .i64 a0_1):=(zc BK149.out 1).trans rfl;have hcz17_2:w16.cell? ⟨gb149,2,none⟩=some (.int .i64 a0_2):=(zc BK149.out 2).trans rfl;have hcz17_3:w16.cell? ⟨gb149,3,none⟩=some (.int .i64 a0_3):=(zc BK149.out 3).trans rfl;have hcz17_4:w16.cell? ⟨gb149,4,none⟩=some (.int .i64 a0_4):=(zc BK149.out 4).trans rfl;have hcz17_5:w16.cell? ⟨gb149,5,none⟩=some (.bool a0_5):=(zc BK149.out 5).trans rfl;have hfz17_0:=zi BK149.out 0;have hfz17_1:=zi BK149.out 1;have hfz17_2:=zi BK149.out 2;have hfz17_3:=zi BK149.out 3;have hfz17_4:=zi BK149.out 4;have hfz17_5:=zi BK149.out 5) | ((with_reducible refine zy (f:=64) rfl ?_);refine zQ (some 5) rfl rfl Tryz.func64 (by kernel_rfl) rfl #[.int .i64 a0_0,.int .i64 0,.int .i64 1] rfl (by (try simp only [List.map_toArray,List.map_cons,List.map_nil]);first | done | rfl | (simp only [List.length_drop,List.length_take];rfl)) ?_;(with_reducible refine (plan_in.calls a0_0 0 1 true _ A2.out).mono ?_);rintro e w' ⟨rfl,⟨nd,rfl⟩⟩;refine ⟨_,rfl,?_⟩) | (go_at_call 64;(with_reducible refine (plan_in.calls a0_1 2 6 true _ A4.out).mono ?_);rintro e w' ⟨rfl,⟨nd,rfl⟩⟩) | (go_at_call 64;(with_reducible refine (plan_in.calls a0_2 0 2 true _ A6.out).mono ?_);rintro e w' ⟨rfl,⟨nd,rfl⟩⟩) | (go_at_call 64;(with_reducible refine (plan_in.calls a0_3 0 2 true _ A8.out).mono ?_);rintro e w' ⟨rfl,⟨nd,rfl⟩⟩) | (go_at_call 64;(with_reducible refine (plan_in.calls a0_4 0 2 true _ A10.out).mono ?_);rintro e w' ⟨rfl,⟨nd,rfl⟩⟩))
        go_ret
        exact ⟨by first | rfl | (simp [zr,zt] <;> rfl) | (simp [*,zr,zt] <;> rfl),by repeat (first | (with_reducible first | exact HB.out | apply ze | apply zd | apply zh | refine zp ?_ GE149.out) | exact HB.out)⟩
      ·rw [if_neg c12] at H
       have c12b0:(a0_2 == 2)=false:=beq_eq_false_iff_ne.mpr c12
       have c12b1:(a0_2 != 2)=true:=bne_iff_ne.mpr c12
       obtain rfl:=Option.some.inj H
       go_enter Tryz.func37,Tryz.ntmps37
       go_wp2_with (first | ((with_reducible refine zg (N:=1) rfl ?_);refine ba_ 1 #[.int .i64 a0_0,.int .i64 a0_1,.int .i64 a0_2,.int .i64 a0_3,.int .i64 a0_4,.bool a0_5] 24 ?_;intro gb149 hg w18 hbox hb;have n0_:=Aside0.mk (zb (by repeat (first | (with_reducible first | exact HB.out | apply ze | apply zd | apply zh) | exact HB.out)) hb);have n1_:=Aside0.mk (hbox);have n2_:=Aside0.mk ((by rw [hg];exact (zj (by repeat (first | (with_reducible first | exact HB.out | apply ze | apply zd | apply zh) | exact HB.out))):w.heap.size≤gb149));have n3_:=Aside0.mk ((by rw [hg];exact (zj (by repeat (first | (with_reducible first | exact HB.out | apply ze | apply zd | apply zh) | exact HB.out))):w.heap.size≤gb149));clear HB;have HB:=n0_;have BK149:=n1_;have GW149:=n2_;have GE149:=n3_;clear n0_ n1_ n2_ n3_;clear hb hbox hg;have hcz19_0:w18.cell? ⟨gb149,0,none⟩=some (.int .i64 a0_0):=(zc BK149.out 0).trans rfl;have hcz19_1:w18.cell? ⟨gb149,1,none⟩=some (.int .i64 a0_1):=(zc BK149.out 1).trans rfl;have hcz19_2:w18.cell? ⟨gb149,2,none⟩=some (.int .i64 a0_2):=(zc BK149.out 2).trans rfl;have hcz19_3:w18.cell? ⟨gb149,3,none⟩=some (.int .i64 a0_3):=(zc BK149.out 3).trans rfl;have hcz19_4:w18.cell? ⟨gb149,4,none⟩=some (.int .i64 a0_4):=(zc BK149.out 4).trans rfl;have hcz19_5:w18.cell? ⟨gb149,5,none⟩=some (.bool a0_5):=(zc BK149.out 5).trans rfl;have hfz19_0:=zi BK149.out 0;have hfz19_1:=zi BK149.out 1;have hfz19_2:=zi BK149.out 2;have hfz19_3:=zi BK149.out 3;have hfz19_4:=zi BK149.out 4;have hfz19_5:=zi BK149.out 5) | ((with_reducible refine zy (f:=64) rfl ?_);refine zQ (some 5) rfl rfl Tryz.func64 (by kernel_rfl) rfl #[.int .i64 a0_0,.int .i64 0,.int .i64 1] rfl (by (try simp only [List.map_toArray,List.map_cons,List.map_nil]);first | done | rfl | (simp only [List.length_drop,List.length_take];rfl)) ?_;(with_reducible refine (plan_in.calls a0_0 0 1 true _ A2.out).mono ?_);rintro e w' ⟨rfl,⟨nd,rfl⟩⟩;refine ⟨_,rfl,?_⟩) | (go_at_call 64;(with_reducible refine (plan_in.calls a0_1 2 6 true _ A4.out).mono ?_);rintro e w' ⟨rfl,⟨nd,rfl⟩⟩) | (go_at_call 64;(with_reducible refine (plan_in.calls a0_2 0 2 true _ A6.out).mono ?_);rintro e w' ⟨rfl,⟨nd,rfl⟩⟩) | (go_at_call 64;(with_reducible refine (plan_in.calls a0_3 0 2 true _ A8.out).mono ?_);rintro e w' ⟨rfl,⟨nd,rfl⟩⟩) | (go_at_call 64;(with_reducible refine (plan_in.calls a0_4 0 2 true _ A10.out).mono ?_);rintro e w' ⟨rfl,⟨nd,rfl⟩⟩))
       go_ret
       exact ⟨by first | rfl | (simp [zr,zt] <;> rfl) | (simp [*,zr,zt] <;> rfl),by repeat (first | (with_reducible first | exact HB.out | apply ze | apply zd | apply zh | refine zp ?_ GE149.out) | exact HB.out)⟩
     ·replace c11:=Bool.eq_false_iff.mpr c11
      subst c11
      have H1:(some 4)=some r:=by rw [if_neg (show ¬(false=true) by decide)] at H;exact H
      clear H
      have H:=H1
      clear H1
      obtain rfl:=Option.some.inj H
      go_enter Tryz.func37,Tryz.ntmps37
      go_wp2_with (first | ((with_reducible refine zg (N:=1) rfl ?_);refine ba_ 1 #[.int .i64 a0_0,.int .i64 a0_1,.int .i64 a0_2,.int .i64 a0_3,.int .i64 a0_4,.bool a0_5] 24 ?_;intro gb149 hg w20 hbox hb;have n0_:=Aside0.mk (zb (by repeat (first | (with_reducible first | exact HB.out | apply ze | apply zd | apply zh) | exact HB.out)) hb);have n1_:=Aside0.mk (hbox);have n2_:=Aside0.mk ((by rw [hg];exact (zj (by repeat (first | (with_reducible first | exact HB.out | apply ze | apply zd | apply zh) | exact HB.out))):w.heap.size≤gb149));have n3_:=Aside0.mk ((by rw [hg];exact (zj (by repeat (first | (with_reducible first | exact HB.out | apply ze | apply zd | apply zh) | exact HB.out))):w.heap.size≤gb149));clear HB;have HB:=n0_;have BK149:=n1_;have GW149:=n2_;have GE149:=n3_;clear n0_ n1_ n2_ n3_;clear hb hbox hg;have hcz21_0:w20.cell? ⟨gb149,0,none⟩=some (.int .i64 a0_0):=(zc BK149.out 0).trans rfl;have hcz21_1:w20.cell? ⟨gb149,1,none⟩=some (.int .i64 a0_1):=(zc BK149.out 1).trans rfl;have hcz21_2:w20.cell? ⟨gb149,2,none⟩=some (.int .i64 a0_2):=(zc BK149.out 2).trans rfl;have hcz21_3:w20.cell? ⟨gb149,3,none⟩=some (.int .i64 a0_3):=(zc BK149.out 3).trans rfl;have hcz21_4:w20.cell? ⟨gb149,4,none⟩=some (.int .i64 a0_4):=(zc BK149.out 4).trans rfl;have hcz21_5:w20.cell? ⟨gb149,5,none⟩=some (.bool a0_5):=(zc BK149.out 5).trans rfl;have hfz21_0:=zi BK149.out 0;have hfz21_1:=zi BK149.out 1;have hfz21_2:=zi BK149.out 2;have hfz21_3:=zi BK149.out 3;have hfz21_4:=zi BK149.out 4;have hfz21_5:=zi BK149.out 5) | ((with_reducible refine zy (f:=64) rfl ?_);refine zQ (some 5) rfl rfl Tryz.func64 (by kernel_rfl) rfl #[.int .i64 a0_0,.int .i64 0,.int .i64 1] rfl (by (try simp only [List.map_toArray,List.map_cons,List.map_nil]);first | done | rfl | (simp only [List.length_drop,List.length_take];rfl)) ?_;(with_reducible refine (plan_in.calls a0_0 0 1 true _ A2.out).mono ?_);rintro e w' ⟨rfl,⟨nd,rfl⟩⟩;refine ⟨_,rfl,?_⟩) | (go_at_call 64;(with_reducible refine (plan_in.calls a0_1 2 6 true _ A4.out).mono ?_);rintro e w' ⟨rfl,⟨nd,rfl⟩⟩) | (go_at_call 64;(with_reducible refine (plan_in.calls a0_2 0 2 true _ A6.out).mono ?_);rintro e w' ⟨rfl,⟨nd,rfl⟩⟩) | (go_at_call 64;(with_reducible refine (plan_in.calls a0_3 0 2 true _ A8.out).mono ?_);rintro e w' ⟨rfl,⟨nd,rfl⟩⟩) | (go_at_call 64;(with_reducible refine (plan_in.calls a0_4 0 2 false _ A10.out).mono ?_);rintro e w' ⟨rfl,⟨nd,rfl⟩⟩))
      go_ret
      exact ⟨by first | rfl | (simp [zr,zt] <;> rfl) | (simp [*,zr,zt] <;> rfl),by repeat (first | (with_reducible first | exact HB.out | apply ze | apply zd | apply zh | refine zp ?_ GE149.out) | exact HB.out)⟩
    ·replace c9:=Bool.eq_false_iff.mpr c9
     subst c9
     have H1:(some 4)=some r:=by rw [if_neg (show ¬(false=true) by decide)] at H;exact H
     clear H
     have H:=H1
     clear H1
     obtain rfl:=Option.some.inj H
     go_enter Tryz.func37,Tryz.ntmps37
     go_wp2_with (first | ((with_reducible refine zg (N:=1) rfl ?_);refine ba_ 1 #[.int .i64 a0_0,.int .i64 a0_1,.int .i64 a0_2,.int .i64 a0_3,.int .i64 a0_4,.bool a0_5] 24 ?_;intro gb149 hg w22 hbox hb;have n0_:=Aside0.mk (zb (by repeat (first | (with_reducible first | exact HB.out | apply ze | apply zd | apply zh) | exact HB.out)) hb);have n1_:=Aside0.mk (hbox);have n2_:=Aside0.mk ((by rw [hg];exact (zj (by repeat (first | (with_reducible first | exact HB.out | apply ze | apply zd | apply zh) | exact HB.out))):w.heap.size≤gb149));have n3_:=Aside0.mk ((by rw [hg];exact (zj (by repeat (first | (with_reducible first | exact HB.out | apply ze | apply zd | apply zh) | exact HB.out))):w.heap.size≤gb149));clear HB;have HB:=n0_;have BK149:=n1_;have GW149:=n2_;have GE149:=n3_;clear n0_ n1_ n2_ n3_;clear hb hbox hg;have hcz23_0:w22.cell? ⟨gb149,0,none⟩=some (.int .i64 a0_0):=(zc BK149.out 0).trans rfl;have hcz23_1:w22.cell? ⟨gb149,1,none⟩=some (.int .i64 a0_1):=(zc BK149.out 1).trans rfl;have hcz23_2:w22.cell? ⟨gb149,2,none⟩=some (.int .i64 a0_2):=(zc BK149.out 2).trans rfl;have hcz23_3:w22.cell? ⟨gb149,3,none⟩=some (.int .i64 a0_3):=(zc BK149.out 3).trans rfl;have hcz23_4:w22.cell? ⟨gb149,4,none⟩=some (.int .i64 a0_4):=(zc BK149.out 4).trans rfl;have hcz23_5:w22.cell? ⟨gb149,5,none⟩=some (.bool a0_5):=(zc BK149.out 5).trans rfl;have hfz23_0:=zi BK149.out 0;have hfz23_1:=zi BK149.out 1;have hfz23_2:=zi BK149.out 2;have hfz23_3:=zi BK149.out 3;have hfz23_4:=zi BK149.out 4;have hfz23_5:=zi BK149.out 5) | ((with_reducible refine zy (f:=64) rfl ?_);refine zQ (some 5) rfl rfl Tryz.func64 (by kernel_rfl) rfl #[.int .i64 a0_0,.int .i64 0,.int .i64 1] rfl (by (try simp only [List.map_toArray,List.map_cons,List.map_nil]);first | done | rfl | (simp only [List.length_drop,List.length_take];rfl)) ?_;(with_reducible refine (plan_in.calls a0_0 0 1 true _ A2.out).mono ?_);rintro e w' ⟨rfl,⟨nd,rfl⟩⟩;refine ⟨_,rfl,?_⟩) | (go_at_call 64;(with_reducible refine (plan_in.calls a0_1 2 6 true _ A4.out).mono ?_);rintro e w' ⟨rfl,⟨nd,rfl⟩⟩) | (go_at_call 64;(with_reducible refine (plan_in.calls a0_2 0 2 true _ A6.out).mono ?_);rintro e w' ⟨rfl,⟨nd,rfl⟩⟩) | (go_at_call 64;(with_reducible refine (plan_in.calls a0_3 0 2 false _ A8.out).mono ?_);rintro e w' ⟨rfl,⟨nd,rfl⟩⟩))
     go_ret
     exact ⟨by first | rfl | (simp [zr,zt] <;> rfl) | (simp [*,zr,zt] <;> rfl),by repeat (first | (with_reducible first | exact HB.out | apply ze | apply zd | apply zh | refine zp ?_ GE149.out) | exact HB.out)⟩
   ·replace c7:=Bool.eq_false_iff.mpr c7
    subst c7
    have H1:(some 4)=some r:=by rw [if_neg (show ¬(false=true) by decide)] at H;exact H
    clear H
    have H:=H1
    clear H1
    obtain rfl:=Option.some.inj H
    go_enter Tryz.func37,Tryz.ntmps37
    go_wp2_with (first | ((with_reducible refine zg (N:=1) rfl ?_);refine ba_ 1 #[.int .i64 a0_0,.int .i64 a0_1,.int .i64 a0_2,.int .i64 a0_3,.int .i64 a0_4,.bool a0_5] 24 ?_;intro gb149 hg w24 hbox hb;have n0_:=Aside0.mk (zb (by repeat (first | (with_reducible first | exact HB.out | apply ze | apply zd | apply zh) | exact HB.out)) hb);have n1_:=Aside0.mk (hbox);have n2_:=Aside0.mk ((by rw [hg];exact (zj (by repeat (first | (with_reducible first | exact HB.out | apply ze | apply zd | apply zh) | exact HB.out))):w.heap.size≤gb149));have n3_:=Aside0.mk ((by rw [hg];exact (zj (by repeat (first | (with_reducible first | exact HB.out | apply ze | apply zd | apply zh) | exact HB.out))):w.heap.size≤gb149));clear HB;have HB:=n0_;have BK149:=n1_;have GW149:=n2_;have GE149:=n3_;clear n0_ n1_ n2_ n3_;clear hb hbox hg;have hcz25_0:w24.cell? ⟨gb149,0,none⟩=some (.int .i64 a0_0):=(zc BK149.out 0).trans rfl;have hcz25_1:w24.cell? ⟨gb149,1,none⟩=some (.int .i64 a0_1):=(zc BK149.out 1).trans rfl;have hcz25_2:w24.cell? ⟨gb149,2,none⟩=some (.int .i64 a0_2):=(zc BK149.out 2).trans rfl;have hcz25_3:w24.cell? ⟨gb149,3,none⟩=some (.int .i64 a0_3):=(zc BK149.out 3).trans rfl;have hcz25_4:w24.cell? ⟨gb149,4,none⟩=some (.int .i64 a0_4):=(zc BK149.out 4).trans rfl;have hcz25_5:w24.cell? ⟨gb149,5,none⟩=some (.bool a0_5):=(zc BK149.out 5).trans rfl;have hfz25_0:=zi BK149.out 0;have hfz25_1:=zi BK149.out 1;have hfz25_2:=zi BK149.out 2;have hfz25_3:=zi BK149.out 3;have hfz25_4:=zi BK149.out 4;have hfz25_5:=zi BK149.out 5) | ((with_reducible refine zy (f:=64) rfl ?_);refine zQ (some 5) rfl rfl Tryz.func64 (by kernel_rfl) rfl #[.int .i64 a0_0,.int .i64 0,.int .i64 1] rfl (by (try simp only [List.map_toArray,List.map_cons,List.map_nil]);first | done | rfl | (simp only [List.length_drop,List.length_take];rfl)) ?_;(with_reducible refine (plan_in.calls a0_0 0 1 true _ A2.out).mono ?_);rintro e w' ⟨rfl,⟨nd,rfl⟩⟩;refine ⟨_,rfl,?_⟩) | (go_at_call 64;(with_reducible refine (plan_in.calls a0_1 2 6 true _ A4.out).mono ?_);rintro e w' ⟨rfl,⟨nd,rfl⟩⟩) | (go_at_call 64;(with_reducible refine (plan_in.calls a0_2 0 2 false _ A6.out).mono ?_);rintro e w' ⟨rfl,⟨nd,rfl⟩⟩))
    go_ret
    exact ⟨by first | rfl | (simp [zr,zt] <;> rfl) | (simp [*,zr,zt] <;> rfl),by repeat (first | (with_reducible first | exact HB.out | apply ze | apply zd | apply zh | refine zp ?_ GE149.out) | exact HB.out)⟩
  ·replace c5:=Bool.eq_false_iff.mpr c5
   subst c5
   have H1:(some 4)=some r:=by rw [if_neg (show ¬(false=true) by decide)] at H;exact H
   clear H
   have H:=H1
   clear H1
   obtain rfl:=Option.some.inj H
   go_enter Tryz.func37,Tryz.ntmps37
   go_wp2_with (first | ((with_reducible refine zg (N:=1) rfl ?_);refine ba_ 1 #[.int .i64 a0_0,.int .i64 a0_1,.int .i64 a0_2,.int .i64 a0_3,.int .i64 a0_4,.bool a0_5] 24 ?_;intro gb149 hg w26 hbox hb;have n0_:=Aside0.mk (zb (by repeat (first | (with_reducible first | exact HB.out | apply ze | apply zd | apply zh) | exact HB.out)) hb);have n1_:=Aside0.mk (hbox);have n2_:=Aside0.mk ((by rw [hg];exact (zj (by repeat (first | (with_reducible first | exact HB.out | apply ze | apply zd | apply zh) | exact HB.out))):w.heap.size≤gb149));have n3_:=Aside0.mk ((by rw [hg];exact (zj (by repeat (first | (with_reducible first | exact HB.out | apply ze | apply zd | apply zh) | exact HB.out))):w.heap.size≤gb149));clear HB;have HB:=n0_;have BK149:=n1_;have GW149:=n2_;have GE149:=n3_;clear n0_ n1_ n2_ n3_;clear hb hbox hg;have hcz27_0:w26.cell? ⟨gb149,0,none⟩=some (.int .i64 a0_0):=(zc BK149.out 0).trans rfl;have hcz27_1:w26.cell? ⟨gb149,1,none⟩=some (.int .i64 a0_1):=(zc BK149.out 1).trans rfl;have hcz27_2:w26.cell? ⟨gb149,2,none⟩=some (.int .i64 a0_2):=(zc BK149.out 2).trans rfl;have hcz27_3:w26.cell? ⟨gb149,3,none⟩=some (.int .i64 a0_3):=(zc BK149.out 3).trans rfl;have hcz27_4:w26.cell? ⟨gb149,4,none⟩=some (.int .i64 a0_4):=(zc BK149.out 4).trans rfl;have hcz27_5:w26.cell? ⟨gb149,5,none⟩=some (.bool a0_5):=(zc BK149.out 5).trans rfl;have hfz27_0:=zi BK149.out 0;have hfz27_1:=zi BK149.out 1;have hfz27_2:=zi BK149.out 2;have hfz27_3:=zi BK149.out 3;have hfz27_4:=zi BK149.out 4;have hfz27_5:=zi BK149.out 5) | ((with_reducible refine zy (f:=64) rfl ?_);refine zQ (some 5) rfl rfl Tryz.func64 (by kernel_rfl) rfl #[.int .i64 a0_0,.int .i64 0,.int .i64 1] rfl (by (try simp only [List.map_toArray,List.map_cons,List.map_nil]);first | done | rfl | (simp only [List.length_drop,List.length_take];rfl)) ?_;(with_reducible refine (plan_in.calls a0_0 0 1 true _ A2.out).mono ?_);rintro e w' ⟨rfl,⟨nd,rfl⟩⟩;refine ⟨_,rfl,?_⟩) | (go_at_call 64;(with_reducible refine (plan_in.calls a0_1 2 6 false _ A4.out).mono ?_);rintro e w' ⟨rfl,⟨nd,rfl⟩⟩))
   go_ret
   exact ⟨by first | rfl | (simp [zr,zt] <;> rfl) | (simp [*,zr,zt] <;> rfl),by repeat (first | (with_reducible first | exact HB.out | apply ze | apply zd | apply zh | refine zp ?_ GE149.out) | exact HB.out)⟩
 ·replace c3:=Bool.eq_false_iff.mpr c3
  subst c3
  have H1:(some 4)=some r:=by rw [if_neg (show ¬(false=true) by decide)] at H;exact H
  clear H
  have H:=H1
  clear H1
  obtain rfl:=Option.some.inj H
  go_enter Tryz.func37,Tryz.ntmps37
  go_wp2_with (first | ((with_reducible refine zg (N:=1) rfl ?_);refine ba_ 1 #[.int .i64 a0_0,.int .i64 a0_1,.int .i64 a0_2,.int .i64 a0_3,.int .i64 a0_4,.bool a0_5] 24 ?_;intro gb149 hg w28 hbox hb;have n0_:=Aside0.mk (zb (by repeat (first | (with_reducible first | exact HB.out | apply ze | apply zd | apply zh) | exact HB.out)) hb);have n1_:=Aside0.mk (hbox);have n2_:=Aside0.mk ((by rw [hg];exact (zj (by repeat (first | (with_reducible first | exact HB.out | apply ze | apply zd | apply zh) | exact HB.out))):w.heap.size≤gb149));have n3_:=Aside0.mk ((by rw [hg];exact (zj (by repeat (first | (with_reducible first | exact HB.out | apply ze | apply zd | apply zh) | exact HB.out))):w.heap.size≤gb149));clear HB;have HB:=n0_;have BK149:=n1_;have GW149:=n2_;have GE149:=n3_;clear n0_ n1_ n2_ n3_;clear hb hbox hg;have hcz29_0:w28.cell? ⟨gb149,0,none⟩=some (.int .i64 a0_0):=(zc BK149.out 0).trans rfl;have hcz29_1:w28.cell? ⟨gb149,1,none⟩=some (.int .i64 a0_1):=(zc BK149.out 1).trans rfl;have hcz29_2:w28.cell? ⟨gb149,2,none⟩=some (.int .i64 a0_2):=(zc BK149.out 2).trans rfl;have hcz29_3:w28.cell? ⟨gb149,3,none⟩=some (.int .i64 a0_3):=(zc BK149.out 3).trans rfl;have hcz29_4:w28.cell? ⟨gb149,4,none⟩=some (.int .i64 a0_4):=(zc BK149.out 4).trans rfl;have hcz29_5:w28.cell? ⟨gb149,5,none⟩=some (.bool a0_5):=(zc BK149.out 5).trans rfl;have hfz29_0:=zi BK149.out 0;have hfz29_1:=zi BK149.out 1;have hfz29_2:=zi BK149.out 2;have hfz29_3:=zi BK149.out 3;have hfz29_4:=zi BK149.out 4;have hfz29_5:=zi BK149.out 5) | ((with_reducible refine zy (f:=64) rfl ?_);refine zQ (some 5) rfl rfl Tryz.func64 (by kernel_rfl) rfl #[.int .i64 a0_0,.int .i64 0,.int .i64 1] rfl (by (try simp only [List.map_toArray,List.map_cons,List.map_nil]);first | done | rfl | (simp only [List.length_drop,List.length_take];rfl)) ?_;(with_reducible refine (plan_in.calls a0_0 0 1 false _ A2.out).mono ?_);rintro e w' ⟨rfl,⟨nd,rfl⟩⟩;refine ⟨_,rfl,?_⟩))
  go_ret
  exact ⟨by first | rfl | (simp [zr,zt] <;> rfl) | (simp [*,zr,zt] <;> rfl),by repeat (first | (with_reducible first | exact HB.out | apply ze | apply zd | apply zh | refine zp ?_ GE149.out) | exact HB.out)⟩

def flip_Row.l0:Nat→Int→List Int→Int→Int→Option (List Int×Int)
 | 0,_,_,_,_=>none
 | k+1,x0,x4,x12,x13=>if x13 < x12 then ((flip_Bits.f k x13 x0).bind fun bt158=>(if x4.length < 17592186044416 then (flip_Row.l0 k x0 (x4++[bt158.1]) x12 (wrap64 (x13+1))) else (none))) else (some (x4,0))
def flip_Row.f (k:Nat) (a0:Int):Option (List Int×Int):=(flip_may.f a0).bind fun t157=>(if t157=true then (if 0≤a0 then (flip_Row.l0 k a0 ([]:List Int) (shl .i64 1 a0) 0) else (none)) else (some (([]:List Int),1)))
set_option maxHeartbeats 8000000 in
set_option maxRecDepth 100000 in
theorem flip_Row.calls (k:Nat) (a0:Int) (r1:List Int) (r2:Int) (w:World) (h:flip_Row.f k a0=some (r1,r2)) :
  Calls Tryz.prog 97 #[.int .i64 a0] w fun e w'=>∃v0_:Value,e=.returned (.tuple #[v0_,.int .i64 r2])∧Kd.R (Kd.int .i64) 3 w' w.heap.size (fun _=>True) v0_ r1∧Below w.heap.size w w':=by
 have HB:=Aside0.mk (Below.refl w.heap.size w)
 have H:((flip_may.f a0).bind fun t157=>(if t157=true then (if 0≤a0 then (flip_Row.l0 k a0 ([]:List Int) (shl .i64 1 a0) 0) else (none)) else (some (([]:List Int),1))))=some (r1,r2):=h
 clear h
 replace H:=Option.bind_eq_some_iff.mp H
 obtain ⟨t157,A20,H⟩:=H
 replace H:(if t157=true then (if 0≤a0 then (flip_Row.l0 k a0 ([]:List Int) (shl .i64 1 a0) 0) else (none)) else (some (([]:List Int),1)))=some (r1,r2):=H
 have A2:=Aside0.mk A20
 clear A20
 by_cases c3:t157=true
 ·subst c3
  have H1:(if 0≤a0 then (flip_Row.l0 k a0 ([]:List Int) (shl .i64 1 a0) 0) else (none))=some (r1,r2):=by rw [if_pos rfl] at H;exact H
  clear H
  have H:=H1
  clear H1
  by_cases c4:0≤a0
  ·rw [if_pos c4] at H
   have c4b0:=eq_true c4
   have c4b1:decide (0≤a0)=true:=decide_eq_true c4
   clear c4
   obtain ⟨ji5,hji5⟩:∃j_:Int,(shl .i64 1 a0)=j_:=⟨_,rfl⟩
   replace H:(flip_Row.l0 k a0 ([]:List Int) ji5 0)=some (r1,r2):=by first | (rw [hji5] at H;exact H) | (simp only [hji5] at H ⊢;exact H)
   (try rw [hji5] at A2)
   have hji5_:(IntKind.i64.wrap (1*2^min a0.toNat 64))=ji5:=hji5
   have hji5z:a0≤64→(IntKind.i64.wrap (1*2^a0.toNat))=ji5:=zcj hji5
   have hji5u:(IntKind.i64.wrap (2^min a0.toNat 64))=ji5:=by have h_:=hji5_;rw [Int.one_mul] at h_;exact h_
   have hji5v:a0≤64→(IntKind.i64.wrap (2^a0.toNat))=ji5:=fun hle_=>by have h_:=hji5z hle_;rw [Int.one_mul] at h_;exact h_
   have hji5y:(wrap64 (1*2^min a0.toNat 64))=ji5:=(zL _).symm.trans hji5_
   have hji5x:a0≤64→(wrap64 (1*2^a0.toNat))=ji5:=fun h_=>(zL _).symm.trans (hji5z h_)
   have H':=Aside0.mk H
   clear H
   go_enter Tryz.func97,Tryz.ntmps97
   go_wp2_with (first | ((with_reducible refine zy (f:=110) rfl ?_);refine zQ (some 9) rfl rfl Tryz.func110 (by kernel_rfl) rfl #[.int .i64 a0] rfl (by (try simp only [List.map_toArray,List.map_cons,List.map_nil]);first | done | rfl | (simp only [List.length_drop,List.length_take];rfl)) ?_;(with_reducible refine (flip_may.calls a0 true _ A2.out).mono ?_);rintro e w' ⟨rfl,⟨nd,rfl⟩⟩;refine ⟨_,rfl,?_⟩))
   go_loopg [4,13] k (fun kq v4 v13 w'=>∃(x4_1:List Int) (x13_1:Int),v13=.int .i64 x13_1∧Aside0 (flip_Row.l0 kq a0 x4_1 ji5 x13_1=some (r1,r2))∧Aside0 (kq≤k)∧Aside0 (Kd.R (Kd.int .i64) 3 w' w.heap.size (fun _=>True) v4 x4_1)∧Aside0 (Below w.heap.size w w'))
   case atStart=>exact ⟨(([]:List Int)),(0),(by first | rfl | (simp;done) | (simp [*];done)),H',⟨Nat.le_refl _⟩,⟨by first | exact Kd.R_nil _ _ _ _ _ | exact Kd.N_nil _ _ _ _ _ | exact Kd.V_nil _ _ _ _ _ | exact Kd.Q_nil _ _ _ _ _ | exact Kd.S_nil _ _ _ _ _⟩,⟨by repeat (first | (with_reducible first | exact HB.out | apply ze | apply zd | apply zh) | exact HB.out)⟩⟩
   case round =>
    clear H'
    try clear c1
    try clear p2
    try clear c3
    try clear c4
    try clear c4b0
    try clear c4b1
    obtain ⟨x4_1,x13_1,rfl,HA,HK1,HO_4,HB⟩:=hrel
    cases gk with
    | zero=>exact absurd HA.out (by simp [flip_Row.l0])
    | succ k1 =>
     have H:=HA.out
     clear HA
     simp only [flip_Row.l0] at H
     by_cases c6:x13_1 < ji5
     ·rw [if_pos c6] at H
      have c6b0:decide (x13_1 < ji5)=true:=decide_eq_true c6
      clear c6
      replace H:=Option.bind_eq_some_iff.mp H
      obtain ⟨⟨t158,t159⟩,A70,H⟩:=H
      replace H:(if x4_1.length < 17592186044416 then (flip_Row.l0 k1 a0 (x4_1++[t158]) ji5 (wrap64 (x13_1+1))) else (none))=some (r1,r2):=H
      have A7:=Aside0.mk A70
      clear A70
      by_cases c8:x4_1.length < 17592186044416
      ·rw [if_pos c8] at H
       have LMc8:=Aside0.mk c8
       clear c8
       obtain ⟨y160,hy160⟩:∃y_:List Int,y_=(x4_1++[t158]):=⟨_,rfl⟩
       replace H:(flip_Row.l0 k1 a0 y160 ji5 (wrap64 (x13_1+1)))=some (r1,r2):=by first | (rw [hy160];with_reducible exact H) | (have H2_:=(Option.bind_some _ _).symm.trans H;rw [hy160];with_reducible exact H2_) | (have H2_:=(Option.bind_some _ _).symm.trans H;with_reducible exact H2_) | with_reducible exact H | (rw [hy160];exact H) | exact H
       have Ny160:=Aside0.mk hy160
       clear hy160
       have H':=Aside0.mk H
       clear H
       go_wp2_with (first | ((with_reducible refine zy (f:=111) rfl ?_);refine zQ (some 19) rfl rfl Tryz.func111 (by kernel_rfl) rfl #[.int .i64 x13_1,.int .i64 a0] rfl (by (try simp only [List.map_toArray,List.map_cons,List.map_nil]);first | done | rfl | (simp only [List.length_drop,List.length_take];rfl)) ?_;(with_reducible refine (flip_Bits.calls k1 x13_1 a0 t158 t159 _ A7.out).mono ?_);rintro e w' ⟨rfl,⟨nd,rfl⟩⟩;refine ⟨_,rfl,?_⟩) | ((with_reducible refine zaC (b:=.append) (xs:=#[.tmp 22,.tmp 24]) rfl ?_);at_builtin;refine Kd.R_append (Kd.int .i64) (w0:=w) w.heap.size rfl (.tmp 22) (.tmp 24) 26 3 (.int .i64 0) 8 rfl Tryz.underlying26 ziQ rfl (by decide) (by omega) u4 x4_1 t158 [.int .i64 t158] (fun _=>True) (fun _=>False) rfl rfl ?aP (fun _ hk=>hk.elim) ?aF ?aO ?aB ?aS ?aL ?_;(case aP=>exact rfl);(case aB=>exact (by repeat (first | (with_reducible first | exact HB.out | apply ze | apply zd | apply zh) | exact HB.out)));(case aF=>exact (fun _ _=>trivial));(case aO=>exact (by (with_reducible repeat (first | apply Kd.R_alloc | apply Kd.R_drewN | apply Kd.R_drew));exact HO_4.out));(case aS=>exact (zj (by repeat (first | (with_reducible first | exact HB.out | apply ze | apply zd | apply zh) | exact HB.out))));(case aL=>have:=LMc8.out;omega);intro v161 w9 ho hb hg hat;rw [← Ny160.out] at ho;have n0_:=Aside0.mk (hb);have n1_:=Aside0.mk (ho);clear HB;clear HO_4;have HB:=n0_;have HO162:=n1_;clear n0_ n1_;clear ho hb hg hat))
       go_roundg k1
       case measure=>have:=HK1.out;omega
       case rel=>exact ⟨(y160),(wrap64 (x13_1+1)),(by first | rfl | (simp;done) | (simp [*];done)),H',⟨by have:=HK1.out;omega⟩,⟨by (with_reducible repeat (first | apply Kd.R_alloc | apply Kd.R_drewN | apply Kd.R_drew));exact HO162.out⟩,⟨by repeat (first | (with_reducible first | exact HB.out | apply ze | apply zd | apply zh) | exact HB.out)⟩⟩
      ·rw [if_neg c8] at H
       exact absurd H (by simp)
     ·rw [if_neg c6] at H
      have c6b0:decide (x13_1 < ji5)=false:=decide_eq_false c6
      clear c6
      simp only [Option.some.injEq,Prod.mk.injEq] at H
      obtain ⟨rfl,rfl⟩:=H
      go_wp2
      go_ret2
      exact ⟨_,by first | rfl | (simp [zr,zt] <;> rfl) | (simp only [← hji5];first | rfl | (simp [zr,zt] <;> rfl)) | (simp [*,zr,zt] <;> rfl),by (with_reducible repeat (first | apply Kd.R_alloc | apply Kd.R_drewN | apply Kd.R_drew));exact HO_4.out,by repeat (first | (with_reducible first | exact HB.out | apply ze | apply zd | apply zh) | exact HB.out)⟩
  ·rw [if_neg c4] at H
   exact absurd H (by simp)
 ·replace c3:=Bool.eq_false_iff.mpr c3
  subst c3
  have H1:(some (([]:List Int),1))=some (r1,r2):=by rw [if_neg (show ¬(false=true) by decide)] at H;exact H
  clear H
  have H:=H1
  clear H1
  simp only [Option.some.injEq,Prod.mk.injEq] at H
  obtain ⟨rfl,rfl⟩:=H
  go_enter Tryz.func97,Tryz.ntmps97
  go_wp2_with (first | ((with_reducible refine zy (f:=110) rfl ?_);refine zQ (some 9) rfl rfl Tryz.func110 (by kernel_rfl) rfl #[.int .i64 a0] rfl (by (try simp only [List.map_toArray,List.map_cons,List.map_nil]);first | done | rfl | (simp only [List.length_drop,List.length_take];rfl)) ?_;(with_reducible refine (flip_may.calls a0 false _ A2.out).mono ?_);rintro e w' ⟨rfl,⟨nd,rfl⟩⟩;refine ⟨_,rfl,?_⟩))
  go_ret2
  exact ⟨_,by first | rfl | (simp [zr,zt] <;> rfl) | (simp [*,zr,zt] <;> rfl),by first | exact Kd.R_nil _ _ _ _ _ | exact Kd.N_nil _ _ _ _ _ | exact Kd.V_nil _ _ _ _ _ | exact Kd.Q_nil _ _ _ _ _ | exact Kd.S_nil _ _ _ _ _,by repeat (first | (with_reducible first | exact HB.out | apply ze | apply zd | apply zh) | exact HB.out)⟩

def budget_Start.f (a0_0:Int) (a0_1:Int) (a0_2:Int) (a0_3:Int) (a0_4:Int) (a0_5:Bool):Option (Int×Int):=(plan_Check.f a0_0 a0_1 a0_2 a0_3 a0_4 a0_5).bind fun t269=>(if t269=0 then (if a0_3=0 then (some (91,0)) else (some (0,0))) else (some (0,t269)))
set_option maxHeartbeats 8000000 in
set_option maxRecDepth 100000 in
theorem budget_Start.calls (a0_0:Int) (a0_1:Int) (a0_2:Int) (a0_3:Int) (a0_4:Int) (a0_5:Bool) (r1:Int) (r2:Int) (w:World) (h:budget_Start.f a0_0 a0_1 a0_2 a0_3 a0_4 a0_5=some (r1,r2)) :
  Calls Tryz.prog 22 #[.agg #[.int .i64 a0_0,.int .i64 a0_1,.int .i64 a0_2,.int .i64 a0_3,.int .i64 a0_4,.bool a0_5]] w fun e w'=>e=.returned (.tuple #[.int .i64 r1,.int .i64 r2])∧Below w.heap.size w w':=by
 have hu24:=Tryz.underlying24
 have HB:=Aside0.mk (Below.refl w.heap.size w)
 have H:((plan_Check.f a0_0 a0_1 a0_2 a0_3 a0_4 a0_5).bind fun t269=>(if t269=0 then (if a0_3=0 then (some (91,0)) else (some (0,0))) else (some (0,t269))))=some (r1,r2):=h
 clear h
 replace H:=Option.bind_eq_some_iff.mp H
 obtain ⟨t269,A20,H⟩:=H
 replace H:(if t269=0 then (if a0_3=0 then (some (91,0)) else (some (0,0))) else (some (0,t269)))=some (r1,r2):=H
 have A2:=Aside0.mk A20
 clear A20
 by_cases c3:t269=0
 ·rw [if_pos c3] at H
  have c3b0:(t269 == 0)=true:=beq_iff_eq.mpr c3
  have c3b1:(t269 != 0)=false:=bne_eq_false_iff_eq.mpr c3
  clear c3
  by_cases c4:a0_3=0
  ·rw [if_pos c4] at H
   have c4b0:(a0_3 == 0)=true:=beq_iff_eq.mpr c4
   have c4b1:(a0_3 != 0)=false:=bne_eq_false_iff_eq.mpr c4
   clear c4
   simp only [Option.some.injEq,Prod.mk.injEq] at H
   obtain ⟨rfl,rfl⟩:=H
   go_enter Tryz.func22,Tryz.ntmps22
   go_wp2_with (first | ((with_reducible refine zg (N:=1) rfl ?_);refine ba_ 1 #[.int .i64 a0_0,.int .i64 a0_1,.int .i64 a0_2,.int .i64 a0_3,.int .i64 a0_4,.bool a0_5] 24 ?_;intro gb268 hg w5 hbox hb;have n0_:=Aside0.mk (zb (by repeat (first | (with_reducible first | exact HB.out | apply ze | apply zd | apply zh) | exact HB.out)) hb);have n1_:=Aside0.mk (hbox);have n2_:=Aside0.mk ((by rw [hg];exact (zj (by repeat (first | (with_reducible first | exact HB.out | apply ze | apply zd | apply zh) | exact HB.out))):w.heap.size≤gb268));have n3_:=Aside0.mk ((by rw [hg];exact (zj (by repeat (first | (with_reducible first | exact HB.out | apply ze | apply zd | apply zh) | exact HB.out))):w.heap.size≤gb268));clear HB;have HB:=n0_;have BK268:=n1_;have GW268:=n2_;have GE268:=n3_;clear n0_ n1_ n2_ n3_;clear hb hbox hg;have hcz6_0:w5.cell? ⟨gb268,0,none⟩=some (.int .i64 a0_0):=(zc BK268.out 0).trans rfl;have hcz6_1:w5.cell? ⟨gb268,1,none⟩=some (.int .i64 a0_1):=(zc BK268.out 1).trans rfl;have hcz6_2:w5.cell? ⟨gb268,2,none⟩=some (.int .i64 a0_2):=(zc BK268.out 2).trans rfl;have hcz6_3:w5.cell? ⟨gb268,3,none⟩=some (.int .i64 a0_3):=(zc BK268.out 3).trans rfl;have hcz6_4:w5.cell? ⟨gb268,4,none⟩=some (.int .i64 a0_4):=(zc BK268.out 4).trans rfl;have hcz6_5:w5.cell? ⟨gb268,5,none⟩=some (.bool a0_5):=(zc BK268.out 5).trans rfl;have hfz6_0:=zi BK268.out 0;have hfz6_1:=zi BK268.out 1;have hfz6_2:=zi BK268.out 2;have hfz6_3:=zi BK268.out 3;have hfz6_4:=zi BK268.out 4;have hfz6_5:=zi BK268.out 5) | ((with_reducible refine zy (f:=37) rfl ?_);refine zQ (some 6) rfl rfl Tryz.func37 (by kernel_rfl) rfl #[.agg #[.int .i64 a0_0,.int .i64 a0_1,.int .i64 a0_2,.int .i64 a0_3,.int .i64 a0_4,.bool a0_5]] rfl (by (try simp only [List.map_toArray,List.map_cons,List.map_nil]);first | done | rfl | (simp only [List.length_drop,List.length_take];rfl)) ?_;(with_reducible refine (plan_Check.calls a0_0 a0_1 a0_2 a0_3 a0_4 a0_5 t269 _ A2.out).mono ?_);rintro e w7 ⟨rfl,hb⟩;refine ⟨_,rfl,?_⟩;have n0_:=Aside0.mk (za (g:=gb268) (o:=.cells #[.int .i64 a0_0,.int .i64 a0_1,.int .i64 a0_2,.int .i64 a0_3,.int .i64 a0_4,.bool a0_5] 24 (0,0)) (by (with_reducible repeat (first | refine zn ?_ _ | refine zq ?_ | refine zm ?_ _));exact BK268.out) hb);have n1_:=Aside0.mk (zb (by repeat (first | (with_reducible first | exact HB.out | apply ze | apply zd | apply zh | refine zp ?_ GE268.out) | exact HB.out)) hb);clear BK268;clear HB;have BK268:=n0_;have HB:=n1_;clear n0_ n1_;(try clear hb);(try clear hb2);(try clear hk);(try clear hi);have hcz8_0:w7.cell? ⟨gb268,0,none⟩=some (.int .i64 a0_0):=(zc BK268.out 0).trans rfl;have hcz8_1:w7.cell? ⟨gb268,1,none⟩=some (.int .i64 a0_1):=(zc BK268.out 1).trans rfl;have hcz8_2:w7.cell? ⟨gb268,2,none⟩=some (.int .i64 a0_2):=(zc BK268.out 2).trans rfl;have hcz8_3:w7.cell? ⟨gb268,3,none⟩=some (.int .i64 a0_3):=(zc BK268.out 3).trans rfl;have hcz8_4:w7.cell? ⟨gb268,4,none⟩=some (.int .i64 a0_4):=(zc BK268.out 4).trans rfl;have hcz8_5:w7.cell? ⟨gb268,5,none⟩=some (.bool a0_5):=(zc BK268.out 5).trans rfl;have hfz8_0:=zi BK268.out 0;have hfz8_1:=zi BK268.out 1;have hfz8_2:=zi BK268.out 2;have hfz8_3:=zi BK268.out 3;have hfz8_4:=zi BK268.out 4;have hfz8_5:=zi BK268.out 5))
   go_ret2
   exact ⟨by first | rfl | (simp [zr,zt] <;> rfl) | (simp [*,zr,zt] <;> rfl),by repeat (first | (with_reducible first | exact HB.out | apply ze | apply zd | apply zh | refine zp ?_ GE268.out) | exact HB.out)⟩
  ·rw [if_neg c4] at H
   have c4b0:(a0_3 == 0)=false:=beq_eq_false_iff_ne.mpr c4
   have c4b1:(a0_3 != 0)=true:=bne_iff_ne.mpr c4
   simp only [Option.some.injEq,Prod.mk.injEq] at H
   obtain ⟨rfl,rfl⟩:=H
   go_enter Tryz.func22,Tryz.ntmps22
   go_wp2_with (first | ((with_reducible refine zg (N:=1) rfl ?_);refine ba_ 1 #[.int .i64 a0_0,.int .i64 a0_1,.int .i64 a0_2,.int .i64 a0_3,.int .i64 a0_4,.bool a0_5] 24 ?_;intro gb268 hg w9 hbox hb;have n0_:=Aside0.mk (zb (by repeat (first | (with_reducible first | exact HB.out | apply ze | apply zd | apply zh) | exact HB.out)) hb);have n1_:=Aside0.mk (hbox);have n2_:=Aside0.mk ((by rw [hg];exact (zj (by repeat (first | (with_reducible first | exact HB.out | apply ze | apply zd | apply zh) | exact HB.out))):w.heap.size≤gb268));have n3_:=Aside0.mk ((by rw [hg];exact (zj (by repeat (first | (with_reducible first | exact HB.out | apply ze | apply zd | apply zh) | exact HB.out))):w.heap.size≤gb268));clear HB;have HB:=n0_;have BK268:=n1_;have GW268:=n2_;have GE268:=n3_;clear n0_ n1_ n2_ n3_;clear hb hbox hg;have hcz10_0:w9.cell? ⟨gb268,0,none⟩=some (.int .i64 a0_0):=(zc BK268.out 0).trans rfl;have hcz10_1:w9.cell? ⟨gb268,1,none⟩=some (.int .i64 a0_1):=(zc BK268.out 1).trans rfl;have hcz10_2:w9.cell? ⟨gb268,2,none⟩=some (.int .i64 a0_2):=(zc BK268.out 2).trans rfl;have hcz10_3:w9.cell? ⟨gb268,3,none⟩=some (.int .i64 a0_3):=(zc BK268.out 3).trans rfl;have hcz10_4:w9.cell? ⟨gb268,4,none⟩=some (.int .i64 a0_4):=(zc BK268.out 4).trans rfl;have hcz10_5:w9.cell? ⟨gb268,5,none⟩=some (.bool a0_5):=(zc BK268.out 5).trans rfl;have hfz10_0:=zi BK268.out 0;have hfz10_1:=zi BK268.out 1;have hfz10_2:=zi BK268.out 2;have hfz10_3:=zi BK268.out 3;have hfz10_4:=zi BK268.out 4;have hfz10_5:=zi BK268.out 5) | ((with_reducible refine zy (f:=37) rfl ?_);refine zQ (some 6) rfl rfl Tryz.func37 (by kernel_rfl) rfl #[.agg #[.int .i64 a0_0,.int .i64 a0_1,.int .i64 a0_2,.int .i64 a0_3,.int .i64 a0_4,.bool a0_5]] rfl (by (try simp only [List.map_toArray,List.map_cons,List.map_nil]);first | done | rfl | (simp only [List.length_drop,List.length_take];rfl)) ?_;(with_reducible refine (plan_Check.calls a0_0 a0_1 a0_2 a0_3 a0_4 a0_5 t269 _ A2.out).mono ?_);rintro e w11 ⟨rfl,hb⟩;refine ⟨_,rfl,?_⟩;have n0_:=Aside0.mk (za (g:=gb268) (o:=.cells #[.int .i64 a0_0,.int .i64 a0_1,.int .i64 a0_2,.int .i64 a0_3,.int .i64 a0_4,.bool a0_5] 24 (0,0)) (by (with_reducible repeat (first | refine zn ?_ _ | refine zq ?_ | refine zm ?_ _));exact BK268.out) hb);have n1_:=Aside0.mk (zb (by repeat (first | (with_reducible first | exact HB.out | apply ze | apply zd | apply zh | refine zp ?_ GE268.out) | exact HB.out)) hb);clear BK268;clear HB;have BK268:=n0_;have HB:=n1_;clear n0_ n1_;(try clear hb);(try clear hb2);(try clear hk);(try clear hi);have hcz12_0:w11.cell? ⟨gb268,0,none⟩=some (.int .i64 a0_0):=(zc BK268.out 0).trans rfl;have hcz12_1:w11.cell? ⟨gb268,1,none⟩=some (.int .i64 a0_1):=(zc BK268.out 1).trans rfl;have hcz12_2:w11.cell? ⟨gb268,2,none⟩=some (.int .i64 a0_2):=(zc BK268.out 2).trans rfl;have hcz12_3:w11.cell? ⟨gb268,3,none⟩=some (.int .i64 a0_3):=(zc BK268.out 3).trans rfl;have hcz12_4:w11.cell? ⟨gb268,4,none⟩=some (.int .i64 a0_4):=(zc BK268.out 4).trans rfl;have hcz12_5:w11.cell? ⟨gb268,5,none⟩=some (.bool a0_5):=(zc BK268.out 5).trans rfl;have hfz12_0:=zi BK268.out 0;have hfz12_1:=zi BK268.out 1;have hfz12_2:=zi BK268.out 2;have hfz12_3:=zi BK268.out 3;have hfz12_4:=zi BK268.out 4;have hfz12_5:=zi BK268.out 5))
   go_ret2
   exact ⟨by first | rfl | (simp [zr,zt] <;> rfl) | (simp [*,zr,zt] <;> rfl),by repeat (first | (with_reducible first | exact HB.out | apply ze | apply zd | apply zh | refine zp ?_ GE268.out) | exact HB.out)⟩
 ·rw [if_neg c3] at H
  have c3b0:(t269 == 0)=false:=beq_eq_false_iff_ne.mpr c3
  have c3b1:(t269 != 0)=true:=bne_iff_ne.mpr c3
  simp only [Option.some.injEq,Prod.mk.injEq] at H
  obtain ⟨rfl,rfl⟩:=H
  go_enter Tryz.func22,Tryz.ntmps22
  go_wp2_with (first | ((with_reducible refine zg (N:=1) rfl ?_);refine ba_ 1 #[.int .i64 a0_0,.int .i64 a0_1,.int .i64 a0_2,.int .i64 a0_3,.int .i64 a0_4,.bool a0_5] 24 ?_;intro gb268 hg w13 hbox hb;have n0_:=Aside0.mk (zb (by repeat (first | (with_reducible first | exact HB.out | apply ze | apply zd | apply zh) | exact HB.out)) hb);have n1_:=Aside0.mk (hbox);have n2_:=Aside0.mk ((by rw [hg];exact (zj (by repeat (first | (with_reducible first | exact HB.out | apply ze | apply zd | apply zh) | exact HB.out))):w.heap.size≤gb268));have n3_:=Aside0.mk ((by rw [hg];exact (zj (by repeat (first | (with_reducible first | exact HB.out | apply ze | apply zd | apply zh) | exact HB.out))):w.heap.size≤gb268));clear HB;have HB:=n0_;have BK268:=n1_;have GW268:=n2_;have GE268:=n3_;clear n0_ n1_ n2_ n3_;clear hb hbox hg;have hcz14_0:w13.cell? ⟨gb268,0,none⟩=some (.int .i64 a0_0):=(zc BK268.out 0).trans rfl;have hcz14_1:w13.cell? ⟨gb268,1,none⟩=some (.int .i64 a0_1):=(zc BK268.out 1).trans rfl;have hcz14_2:w13.cell? ⟨gb268,2,none⟩=some (.int .i64 a0_2):=(zc BK268.out 2).trans rfl;have hcz14_3:w13.cell? ⟨gb268,3,none⟩=some (.int .i64 a0_3):=(zc BK268.out 3).trans rfl;have hcz14_4:w13.cell? ⟨gb268,4,none⟩=some (.int .i64 a0_4):=(zc BK268.out 4).trans rfl;have hcz14_5:w13.cell? ⟨gb268,5,none⟩=some (.bool a0_5):=(zc BK268.out 5).trans rfl;have hfz14_0:=zi BK268.out 0;have hfz14_1:=zi BK268.out 1;have hfz14_2:=zi BK268.out 2;have hfz14_3:=zi BK268.out 3;have hfz14_4:=zi BK268.out 4;have hfz14_5:=zi BK268.out 5) | ((with_reducible refine zy (f:=37) rfl ?_);refine zQ (some 6) rfl rfl Tryz.func37 (by kernel_rfl) rfl #[.agg #[.int .i64 a0_0,.int .i64 a0_1,.int .i64 a0_2,.int .i64 a0_3,.int .i64 a0_4,.bool a0_5]] rfl (by (try simp only [List.map_toArray,List.map_cons,List.map_nil]);first | done | rfl | (simp only [List.length_drop,List.length_take];rfl)) ?_;(with_reducible refine (plan_Check.calls a0_0 a0_1 a0_2 a0_3 a0_4 a0_5 t269 _ A2.out).mono ?_);rintro e w15 ⟨rfl,hb⟩;refine ⟨_,rfl,?_⟩;have n0_:=Aside0.mk (za (g:=gb268) (o:=.cells #[.int .i64 a0_0,.int .i64 a0_1,.int .i64 a0_2,.int .i64 a0_3,.int .i64 a0_4,.bool a0_5] 24 (0,0)) (by (with_reducible repeat (first | refine zn ?_ _ | refine zq ?_ | refine zm ?_ _));exact BK268.out) hb);have n1_:=Aside0.mk (zb (by repeat (first | (with_reducible first | exact HB.out | apply ze | apply zd | apply zh | refine zp ?_ GE268.out) | exact HB.out)) hb);clear BK268;clear HB;have BK268:=n0_;have HB:=n1_;clear n0_ n1_;(try clear hb);(try clear hb2);(try clear hk);(try clear hi)))
  go_ret2
  exact ⟨by first | rfl | (simp [zr,zt] <;> rfl) | (simp [*,zr,zt] <;> rfl),by repeat (first | (with_reducible first | exact HB.out | apply ze | apply zd | apply zh | refine zp ?_ GE268.out) | exact HB.out)⟩

end Go.Proofs.YteieahbadclppaaGreat.P

namespace Go.Proofs.YteieahbadclppaaGreat.P
open Go.RowKit Go.Proofs.YteieahbadclppaaGreatW.PrintWords Go.Proofs.YteieahbadclppaaGreatW.PrintLast Go.Proofs.YteieahbadclppaaGreatW.PrintMore
set_option linter.unusedVariables false
set_option linter.unusedSimpArgs false
section
variable {P:Program} {ops:Array Oper} {rest:List Oper} {o:Oper} {a:Act} {Q:Exit→Act→World→Prop} {α:Type}
theorem zgH (w:World) (dT sT ty elem:TypeId) (size g dLen dCap:Nat) (ad:Addr) (sLen sCap:Nat) (cur:Array Value) (t:TypeId) (cs:List Value)
  (hu:P.underlying dT=some (.slice elem)) (hs:(P.info? elem).map (·.size)=some size)
  (hg:w.heap[g]?=some (.cells cur t (0,0))) (hn:cs.length=Nat.min sLen dLen*size)
  (hsrc:∀j v,cs[j]?=some v→w.cell? (ad.add j)=some v) (hfit:cs.length≤cur.size) (h1:∀v∈cs,v.oneCell'=true) :
  (Builtin.copy_ #[dT,sT] ty #[.slice (some ⟨g,0,none⟩) dLen dCap,.slice (some ad) sLen sCap]).run P w =
   .ok (goInt (Nat.min sLen dLen)) (w.setRow g (cur.toList.take 0++cs++cur.toList.drop (0+cs.length)).toArray):=by
 have hl:=run_loadCells_list (P:=P) w ad cs hsrc
 have hst:=run_storeCells_at P g 0 t cs 0 cur w hg (by simpa using hfit) h1
 cases hq:P.info? elem with
 | none=>simp [hq] at hs
 | some i =>
  have hi:i.size=size:=by simpa [hq] using hs
  rw [hn] at hl
  have hst':(storeCells ⟨g,0,none⟩ cs).run P w=.ok () (w.setRow g (cs++cur.toList.drop cs.length).toArray):=by simpa using hst
  simp [Builtin.copy_,run_underlying hu,Builtin.lenOf,Builtin.firstCells,sizeOf,typeInfo,hq,hi,hl,hst']
theorem zjQ (d:Kd α) {Rr:α→List Value→Prop} {w0 W:World} (base:Nat) (hgd:o.guard=none) (s x:Operand) (t e:TypeId) (z:Value) (bytes:Nat)
  (ho:o.op=.call { callee:=.builtin .copy,args:=#[s,x],argTypes:=#[t,t] })
  (ht:P.underlying t=some (.slice e)) (hinfo:(P.info? e).map (fun i=>(i.zero,i.size,i.bytes))=some (some z,d.sz,bytes)) (hz:z.cells.size=d.sz) (hs0:0 < d.sz) (hb0:0 < bytes)
  (v:Value) (xs ys:List α) (A:Option Addr) (m c:Nat) (ok okp:Nat→Prop) (hs:a.eval s=v) (hx:a.eval x=.slice A m c)
  (HO:d.R e W base ok v xs) (HR:zby Rr d.sz W A m ys) (hKM:∀x cs,Rr x cs→d.M W base okp x cs) (hokp:∀k,okp k→ok k∧some k≠v.ownBlock) (hfresh:∀k,W.heap.size≤k→ok k)
  (HB:Below base w0 W) (hbase:base≤W.heap.size) (hl:xs.length=m)
  (h:∀w1,d.R e w1 base ok v ys→Below base w0 w1→W.grownBy w1 v.ownBlock→(v.ownBlock=v.ownBlock∨∃b,v.ownBlock=some b∧W.heap.size≤b)→wpList P ops Q rest (a.put o.dst (.int .i64 ((m:Nat):Int))) w1) :
  wpList P ops Q (o :: rest) a W:=by
 obtain ⟨i0,hi,hzz⟩:=Option.map_eq_some_iff.1 hinfo
 simp only [Prod.mk.injEq] at hzz
 obtain ⟨hz0,hz1,hz2⟩:=hzz
 have hm:ys.length=m:=HR.1
 obtain ⟨hok,inner,hown,hr⟩:=HO
 have hsz:(P.info? e).map (·.size)=some d.sz:=by rw [hi];simp [hz1]
 have fin:∀w1,(Builtin.copy_ #[t,t] o.type #[v,.slice A m c]).run P W=.ok (goInt ((m:Nat):Int)) w1→d.R e w1 base ok v ys→W.grownBy w1 v.ownBlock→wpList P ops Q (o :: rest) a W:=by
  intro w1 hr hrow hg
  refine wpList_plain hgd fun K hK=>?_
  unfold Oper.wp execOp
  simp only [ho,resolve,invoke,builtin,Sem.run_bind,Sem.run_pure,Result.andThen_ok,List.map_toArray,List.map_cons,List.map_nil,hs,hx,hr]
  exact hK _ _ (h w1 hrow (HB.grown hg hbase (zdh hown)) hg (.inl rfl))
 rcases Nat.eq_zero_or_pos m with h0 | hp
 ·subst h0
  obtain rfl:ys=[]:=List.eq_nil_of_length_eq_zero hm
  obtain rfl:xs=[]:=List.eq_nil_of_length_eq_zero hl
  refine fin W ?_ ⟨hok,inner,hown,hr⟩ (World.grownBy.refl W _)
  have hl0:∀(x:Addr),(loadCells x 0).run P W=.ok #[] W:=fun x=>by simpa using run_loadCells_list (P:=P) W x [] (by simp)
  obtain ⟨A',c',rfl⟩:=zjl hown
  cases A' <;> cases A <;> simp [Builtin.copy_,run_underlying ht,sizeOf,typeInfo,hi,Builtin.lenOf,Builtin.firstCells,storeCells,hl0]
 ·obtain ⟨ad,hA,_⟩:=HR.2.2 hp
  subst hA
  obtain ⟨news,hnr,hnc⟩:=zby.inner_ HR
  have hnM:zas (d.M W base okp) d.sz ys news:=hnr.imp_ (fun p c hp=>hKM p c hp)
  have hone:∀u∈news,u.oneCell'=true:=by
   intro u hu
   obtain ⟨q,hq,rfl⟩:=List.mem_iff_getElem.1 hu
   have hql:q / d.sz < ys.length:=by
    rw [Nat.div_lt_iff_lt_mul hs0]
    rw [← hnM.1]
    exact hq
   have hc:=hnM.2 (q / d.sz) _ (List.getElem?_eq_getElem hql)
   refine d.K_one (d.K_of_M hc) _ ?_
   rw [List.mem_iff_getElem?]
   refine ⟨q % d.sz,?_⟩
   rw [List.getElem?_take,if_pos (Nat.mod_lt _ hs0),List.getElem?_drop,Nat.mul_comm,Nat.div_add_mod,List.getElem?_eq_getElem hq]
  have hnl:news.length=m*d.sz:=by rw [hnM.1,hm]
  rcases hown.2 with ⟨_,hx0⟩ | ⟨g,cap,cur,rfl,hb,hh,hnc2,hcm,hcs,htake⟩
  ·omega
  have hmin:Nat.min m xs.length=m:=by rw [hl];exact Nat.min_self m
  have hle:m*d.sz≤cap*d.sz:=Nat.mul_le_mul_right _ (by omega)
  have hrun:=zgH (P:=P) W t t o.type e d.sz g xs.length cap ad m c cur e news ht hsz hh (by rw [hmin,hnl]) hnc (by rw [hcs,hnl];exact hle) hone
  rw [hmin] at hrun
  refine fin _ hrun ⟨hok,news,⟨by rw [hnl,hm],.inr ⟨g,cap,_,by rw [hm,hl],hb,setRow_heap W g cur _ e (0,0) hh,by omega,hcm,?_,?_⟩⟩,hnM.imp_ (fun p c hp=>d.M_mono (fun k hk=>hokp k hk) (d.M_move (fun k hk=>setRow_other W g k _ ?_) hp))⟩ ⟨rfl,rfl,rfl,by simp,fun k _ hk=>setRow_other W g k _ ?_⟩
  ·simp
   omega
  ·simp [hm,hnl]
  ·intro he
   have:=(hokp k hk).2
   rw [he] at this
   exact this rfl
  ·intro he
   subst he
   exact hk rfl
end
end Go.Proofs.YteieahbadclppaaGreat.P

namespace Go.Proofs.YteieahbadclppaaGreat.P
open Go.RowKit Go.Proofs.YteieahbadclppaaGreatW.PrintWords Go.Proofs.YteieahbadclppaaGreatW.PrintLast Go.Proofs.YteieahbadclppaaGreatW.PrintMore
attribute [local go_sem] zI zJ zO zP zX zY z8 z9
set_option linter.unusedVariables false
set_option linter.unusedSimpArgs false
def flip_Flip.l0:Nat→List (S38)→List Int→Int→Int→Option ((List (S38))×Int)
 | 0,_,_,_,_=>none
 | k+1,x8,x31,x32,x33=>if x33 < x32 then (if 0≤x33 then (if x33 < (x31.length:Int) then (if x33 < (rd x31 x33) then (if 0≤(rd x31 x33) then (if (rd x31 x33) < (x8.length:Int) then (if x33 < (x8.length:Int) then (flip_Flip.l0 k ((x8.set (x33:Int).toNat (⟨(zk x8 (rd x31 x33)).f0,(zk x8 (rd x31 x33)).f1⟩:S38)).set ((rd x31 x33):Int).toNat (⟨(zk x8 x33).f0,(zk x8 x33).f1⟩:S38)) x31 x32 (wrap64 (x33+1))) else (none)) else (none)) else (none)) else (flip_Flip.l0 k x8 x31 x32 (wrap64 (x33+1)))) else (none)) else (none)) else (some (x8,0))
def flip_Flip.f (k:Nat) (l0:List (S38)):Option ((List (S38))×Int):=(flip_Log.f k (l0.length:Int)).bind fun bt163=>(if bt163.2=0 then ((flip_Row.f k bt163.1).bind fun bt165=>(if 0≤(l0.length:Int) then (if ((l0.length:Int):Int).toNat≤17592186044416 then (if (List.replicate ((l0.length:Int):Int).toNat z38).length=l0.length then (flip_Flip.l0 k (l0) bt165.1 (bt165.1.length:Int) 0) else (none)) else (none)) else (none))) else (some (([]:List (S38)),bt163.2)))
def flip_Flip.T11:Bool×List (List Nat×List Nat):=(true,[([],[]),([],[]),([],[]),([],[]),([],[]),([],[]),([4,5],[4,5]),([6],[6]),([],[]),([],[]),([8,9],[8,9]),([10],[10]),([0,1,0,1,4,5,6,7,11],[0,1]),([12,7,0,1,4,5,6,7,11],[7,12]),([2,3,0,1,2,3,4,5,6,7,8,9,10,11,12,13],[2,3]),([14,11,13,0,1,2,3,4,5,6,7,8,9,10,11,12,13],[11,14])])
def flip_Flip.B11:List Nat:=[0,0,0,0,0,0,48,112,0,0,768,1792,4083,8179,16383,32767]
theorem flip_Flip.tab11:zbi .any (zlD Tryz.f66 11)=flip_Flip.T11:=by kernel_rfl
theorem flip_Flip.bits11:zdb flip_Flip.T11.2 flip_Flip.B11=true:=by kernel_rfl
set_option maxHeartbeats 8000000 in
set_option maxRecDepth 100000 in
theorem flip_Flip.calls (k:Nat) (A0:Option Addr) (c0:Nat) (l0:List (S38)) (r1:List (S38)) (r2:Int) (w:World) (hr0:Kd.C k38 w A0 l0.length l0) (hc0:l0.length≤c0) (h:flip_Flip.f k l0=some (r1,r2)) :
  Calls Tryz.prog 66 #[.slice A0 l0.length c0] w fun e w'=>∃v0_:Value,e=.returned (.tuple #[v0_,.int .i64 r2])∧Kd.R k38 38 w' w.heap.size (fun _=>True) v0_ r1∧Below w.heap.size w w':=by
 have hu38:=Tryz.underlying38
 have HR0:=Aside0.mk hr0
 have HC0:=Aside0.mk hc0
 clear hr0 hc0
 have HB:=Aside0.mk (Below.refl w.heap.size w)
 have H:((flip_Log.f k (l0.length:Int)).bind fun bt163=>(if bt163.2=0 then ((flip_Row.f k bt163.1).bind fun bt165=>(if 0≤(l0.length:Int) then (if ((l0.length:Int):Int).toNat≤17592186044416 then (if (List.replicate ((l0.length:Int):Int).toNat z38).length=l0.length then (flip_Flip.l0 k (l0) bt165.1 (bt165.1.length:Int) 0) else (none)) else (none)) else (none))) else (some (([]:List (S38)),bt163.2))))=some (r1,r2):=h
 clear h
 replace H:=Option.bind_eq_some_iff.mp H
 obtain ⟨⟨t163,t164⟩,A20,H⟩:=H
 replace H:(if t164=0 then ((flip_Row.f k t163).bind fun bt165=>(if 0≤(l0.length:Int) then (if ((l0.length:Int):Int).toNat≤17592186044416 then (if (List.replicate ((l0.length:Int):Int).toNat z38).length=l0.length then (flip_Flip.l0 k (l0) bt165.1 (bt165.1.length:Int) 0) else (none)) else (none)) else (none))) else (some (([]:List (S38)),t164)))=some (r1,r2):=H
 have A2:=Aside0.mk A20
 clear A20
 by_cases c3:t164=0
 ·rw [if_pos c3] at H
  have c3b0:(t164 == 0)=true:=beq_iff_eq.mpr c3
  have c3b1:(t164 != 0)=false:=bne_eq_false_iff_eq.mpr c3
  clear c3
  replace H:=Option.bind_eq_some_iff.mp H
  obtain ⟨⟨t165,t166⟩,A40,H⟩:=H
  replace H:(if 0≤(l0.length:Int) then (if ((l0.length:Int):Int).toNat≤17592186044416 then (if (List.replicate ((l0.length:Int):Int).toNat z38).length=l0.length then (flip_Flip.l0 k (l0) t165 (t165.length:Int) 0) else (none)) else (none)) else (none))=some (r1,r2):=H
  have A4:=Aside0.mk A40
  clear A40
  by_cases c5:0≤(l0.length:Int)
  ·rw [if_pos c5] at H
   have c5b0:=eq_true c5
   have c5b1:decide (0≤(l0.length:Int))=true:=decide_eq_true c5
   clear c5
   by_cases c6:((l0.length:Int):Int).toNat≤17592186044416
   ·rw [if_pos c6] at H
    have c6b0:=eq_true c6
    have c6b1:decide (((l0.length:Int):Int).toNat≤17592186044416)=true:=decide_eq_true c6
    clear c6
    obtain ⟨y169,hy169⟩:∃y_:List (S38),y_=(List.replicate ((l0.length:Int):Int).toNat z38):=⟨_,rfl⟩
    replace H:(if y169.length=l0.length then (flip_Flip.l0 k (l0) t165 (t165.length:Int) 0) else (none))=some (r1,r2):=by first | (rw [hy169];with_reducible exact H) | (have H2_:=(Option.bind_some _ _).symm.trans H;rw [hy169];with_reducible exact H2_) | (have H2_:=(Option.bind_some _ _).symm.trans H;with_reducible exact H2_) | with_reducible exact H | (rw [hy169];exact H) | exact H
    have Ny169:=Aside0.mk hy169
    clear hy169
    by_cases c7:y169.length=l0.length
    ·rw [if_pos c7] at H
     have LMc7:=Aside0.mk c7
     clear c7
     obtain ⟨y172,hy172⟩:∃y_:List (S38),y_=(l0):=⟨_,rfl⟩
     replace H:(flip_Flip.l0 k y172 t165 (t165.length:Int) 0)=some (r1,r2):=by first | (rw [hy172];with_reducible exact H) | (have H2_:=(Option.bind_some _ _).symm.trans H;rw [hy172];with_reducible exact H2_) | (have H2_:=(Option.bind_some _ _).symm.trans H;with_reducible exact H2_) | with_reducible exact H | (rw [hy172];exact H) | exact H
     have Ny172:=Aside0.mk hy172
     clear hy172
     have H':=Aside0.mk H
     clear H
     go_enter Tryz.func66,Tryz.ntmps66
     go_wp2_with (first | ((with_reducible refine zy (f:=40) rfl ?_);refine zQ (some 14) rfl rfl Tryz.func40 (by kernel_rfl) rfl #[.int .i64 (l0.length:Int)] rfl (by (try simp only [List.map_toArray,List.map_cons,List.map_nil]);first | done | rfl | (simp only [List.length_drop,List.length_take];rfl)) ?_;(with_reducible refine (flip_Log.calls k (l0.length:Int) t163 t164 _ A2.out).mono ?_);rintro e w' ⟨rfl,⟨nd,rfl⟩⟩;refine ⟨_,rfl,?_⟩) | ((with_reducible refine zy (f:=97) rfl ?_);refine zQ (some 22) rfl rfl Tryz.func97 (by kernel_rfl) rfl #[.int .i64 t163] rfl (by (try simp only [List.map_toArray,List.map_cons,List.map_nil]);first | done | rfl | (simp only [List.length_drop,List.length_take];rfl)) ?_;(with_reducible refine (flip_Row.calls k t163 t165 t166 _ A4.out).mono ?_);rintro e w8 ⟨v167,rfl,ho0,hb⟩;refine ⟨_,rfl,?_⟩;have n0_:=Aside0.mk (Kd.R_lower ho0 (zj (by repeat (first | (with_reducible first | exact HB.out | apply ze | apply zd | apply zh) | exact HB.out))));have n1_:=Aside0.mk (zb (by repeat (first | (with_reducible first | exact HB.out | apply ze | apply zd | apply zh) | exact HB.out)) hb);clear HB;have HO168:=n0_;have HB:=n1_;clear n0_ n1_;(try clear hb);(try clear hb2);(try clear hk);(try clear hi);(try clear ho0)) | ((with_reducible refine zg (N:=27) rfl ?_);refine Kd.R_make k38 _ 38 rfl (N:=27) rfl 22 _ _ rfl (l0.length:Int) rfl rfl Tryz.underlying22 (.agg #[(.int .i64 0),(.int .i64 0)]) 16 zb3 rfl (by decide) (by omega) z38 (ok:=fun _=>True) (okp:=fun _=>True) (zaF _ _ _ z38 ) (fun _ hk=>hk) trivial (of_decide_eq_true (by first | (with_reducible assumption) | assumption)) (Nat.le_trans (Nat.mul_le_mul_right _ (of_decide_eq_true (by first | (with_reducible assumption) | assumption):(l0.length:Int).toNat≤17592186044416)) (by omega)) (Below.refl _ _) (Nat.le_refl _) ?_;intro v170 w9 ho10 hb hg_ hnew_;clear hg_ hnew_;(first | rw [← Ny169.out] at ho10 | (simp only [Int.reduceToNat] at ho10;rw [← Ny169.out] at ho10));have n0_:=Aside0.mk (Kd.R_below (by (with_reducible repeat (first | apply Kd.R_alloc | apply Kd.R_drewN | apply Kd.R_drew));exact HO168.out) hb);have n1_:=Aside0.mk (Kd.R_lower ho10 (zj (by repeat (first | (with_reducible first | exact HB.out | apply ze | apply zd | apply zh) | exact HB.out))));have n2_:=Aside0.mk (zb (by repeat (first | (with_reducible first | exact HB.out | apply ze | apply zd | apply zh) | exact HB.out)) hb);clear HO168;clear HB;have HO168:=n0_;have HO171:=n1_;have HB:=n2_;clear n0_ n1_ n2_;clear hb ho10) | ((with_reducible refine zaC (b:=.copy) (xs:=#[.tmp 28,.tmp 29]) rfl ?_);refine zjQ k38 (w0:=w) w.heap.size rfl (.tmp 28) (.tmp 29) 22 38 (.agg #[(.int .i64 0),(.int .i64 0)]) 16 rfl Tryz.underlying22 zb3 rfl (by decide) (by omega) v170 y169 l0 _ _ _ (fun _=>True) (fun _=>False) rfl rfl ?aO ?aR (fun _ _ h=>h) (fun _ h=>h.elim) ?aF ?aB ?aS ?aL ?_;(case aR=>repeat (first | exact (Kd.C_below HR0.out HB.out) | (with_reducible refine Kd.C_alloc ?_ _) | (with_reducible refine Kd.C_drewN ?_ _) | (with_reducible refine Kd.C_drew ?_)));(case aB=>exact (by repeat (first | (with_reducible first | exact HB.out | apply ze | apply zd | apply zh) | exact HB.out)));(case aF=>exact (fun _ _=>trivial));(case aO=>exact (by (with_reducible repeat (first | apply Kd.R_alloc | apply Kd.R_drewN | apply Kd.R_drew));exact HO171.out));(case aS=>exact (zj (by repeat (first | (with_reducible first | exact HB.out | apply ze | apply zd | apply zh) | exact HB.out))));(case aL=>have:=LMc7.out;omega);intro w11 ho hb hg hat;rw [← Ny172.out] at ho;have n0_:=Aside0.mk (Kd.R_over' (by (with_reducible repeat (first | apply Kd.R_alloc | apply Kd.R_drewN | apply Kd.R_drew));exact HO168.out) (Kd.R_typed (by (with_reducible repeat (first | apply Kd.R_alloc | apply Kd.R_drewN | apply Kd.R_drew));exact HO171.out)) (by decide) hg);have n1_:=Aside0.mk (hb);have n2_:=Aside0.mk (ho);clear HO168;clear HB;clear HO171;have HO168:=n0_;have HB:=n1_;have HO173:=n2_;clear n0_ n1_ n2_;clear ho hb hg hat;obtain ⟨Ao12,co12,eo12⟩:=Kd.R_slice HO168.out;subst eo12))
     go_loopg [33] k (fun kq v33 w'=>∃(x8_1:List (S38)) (x33_1:Int),v33=.int .i64 x33_1∧Aside0 (flip_Flip.l0 kq x8_1 t165 (t165.length:Int) x33_1=some (r1,r2))∧Aside0 (kq≤k)∧Aside0 (Kd.R k38 38 w' w.heap.size (fun _=>True) v170 x8_1)∧Aside0 (Kd.R (Kd.int .i64) 3 w' w.heap.size (fun _=>True) (.slice Ao12 t165.length co12) t165)∧Aside0 (Below w.heap.size w w'))
     case atStart=>exact ⟨(y172),(0),(by first | rfl | (simp;done) | (simp [*];done)),H',⟨Nat.le_refl _⟩,⟨by (with_reducible repeat (first | apply Kd.R_alloc | apply Kd.R_drewN | apply Kd.R_drew));exact HO173.out⟩,⟨by (with_reducible repeat (first | apply Kd.R_alloc | apply Kd.R_drewN | apply Kd.R_drew));exact HO168.out⟩,⟨by repeat (first | (with_reducible first | exact HB.out | apply ze | apply zd | apply zh) | exact HB.out)⟩⟩
     case round =>
      clear H'
      try clear p2
      try clear c3
      try clear c3b0
      try clear c3b1
      try clear c4
      try clear c5
      try clear c5b0
      try clear c5b1
      try clear c6
      try clear c6b0
      try clear c6b1
      try clear c7
      try clear c9
      obtain ⟨x8_1,x33_1,rfl,HA,HK1,HO_8,HO_31,HB⟩:=hrel
      cases gk with
      | zero=>exact absurd HA.out (by simp [flip_Flip.l0])
      | succ k1 =>
       have H:=HA.out
       clear HA
       simp only [flip_Flip.l0] at H
       by_cases c13:x33_1 < (t165.length:Int)
       ·rw [if_pos c13] at H
        have c13b0:decide (x33_1 < (t165.length:Int))=true:=decide_eq_true c13
        clear c13
        by_cases c14:0≤x33_1
        ·rw [if_pos c14] at H
         have c14b0:decide (0≤x33_1)=true:=decide_eq_true c14
         clear c14
         by_cases c15:x33_1 < (t165.length:Int)
         ·rw [if_pos c15] at H
          have c15b0:decide (x33_1 < (t165.length:Int))=true:=decide_eq_true c15
          clear c15
          by_cases c16:x33_1 < (rd t165 x33_1)
          ·rw [if_pos c16] at H
           have c16b0:decide (x33_1 < (rd t165 x33_1))=true:=decide_eq_true c16
           clear c16
           by_cases c17:0≤(rd t165 x33_1)
           ·rw [if_pos c17] at H
            have c17b0:decide (0≤(rd t165 x33_1))=true:=decide_eq_true c17
            clear c17
            by_cases c18:(rd t165 x33_1) < (x8_1.length:Int)
            ·rw [if_pos c18] at H
             have c18b0:decide ((rd t165 x33_1) < (x8_1.length:Int))=true:=decide_eq_true c18
             clear c18
             by_cases c19:x33_1 < (x8_1.length:Int)
             ·rw [if_pos c19] at H
              have c19b0:decide (x33_1 < (x8_1.length:Int))=true:=decide_eq_true c19
              clear c19
              obtain ⟨y177,hy177⟩:∃y_:List (S38),y_=(x8_1.set (x33_1:Int).toNat (⟨(zk x8_1 (rd t165 x33_1)).f0,(zk x8_1 (rd t165 x33_1)).f1⟩:S38)):=⟨_,rfl⟩
              replace H:(flip_Flip.l0 k1 (y177.set ((rd t165 x33_1):Int).toNat (⟨(zk x8_1 x33_1).f0,(zk x8_1 x33_1).f1⟩:S38)) t165 (t165.length:Int) (wrap64 (x33_1+1)))=some (r1,r2):=by first | (rw [hy177];with_reducible exact H) | (have H2_:=(Option.bind_some _ _).symm.trans H;rw [hy177];with_reducible exact H2_) | (have H2_:=(Option.bind_some _ _).symm.trans H;with_reducible exact H2_) | with_reducible exact H | (rw [hy177];exact H) | exact H
              have Ny177:=Aside0.mk hy177
              clear hy177
              obtain ⟨y178,hy178⟩:∃y_:List (S38),y_=(y177.set ((rd t165 x33_1):Int).toNat (⟨(zk x8_1 x33_1).f0,(zk x8_1 x33_1).f1⟩:S38)):=⟨_,rfl⟩
              replace H:(flip_Flip.l0 k1 y178 t165 (t165.length:Int) (wrap64 (x33_1+1)))=some (r1,r2):=by first | (rw [hy178];with_reducible exact H) | (have H2_:=(Option.bind_some _ _).symm.trans H;rw [hy178];with_reducible exact H2_) | (have H2_:=(Option.bind_some _ _).symm.trans H;with_reducible exact H2_) | with_reducible exact H | (rw [hy178];exact H) | exact H
              have Ny178:=Aside0.mk hy178
              clear hy178
              have H':=Aside0.mk H
              clear H
              have p174:0≤(x33_1:Int):=of_decide_eq_true (by first | (with_reducible assumption) | assumption)
              have q174:x33_1 < (t165.length:Int):=of_decide_eq_true (by first | (with_reducible assumption) | assumption)
              obtain ⟨ad174,e174,hx174_0⟩:=Kd.at_int (Kd.R_reads' HO_31.out).2.2 x33_1 p174 q174
              cases e174
              replace p174:=eq_true p174
              replace q174:=eq_true q174
              try go_wp2
              have n0_:=Aside0.mk (Kd.R_drew HO_8.out)
              have n1_:=Aside0.mk (Kd.R_drew HO_31.out)
              have n2_:=Aside0.mk (zh HB.out)
              clear HO_8
              clear HO_31
              clear HB
              have HO_8:=n0_
              have HO_31:=n1_
              have HB:=n2_
              clear n0_ n1_ n2_
              obtain ⟨Ao23,co23,eo23⟩:=Kd.R_slice HO_8.out
              (first | subst eo23 | (injection eo23 with f1_ f2_ f3_;have f4_:=f1_.symm;have f5_:=f3_.symm;clear f1_ f2_ f3_;subst f4_;subst f5_))
              have p175:0≤((rd t165 x33_1):Int):=of_decide_eq_true (by first | (with_reducible assumption) | assumption)
              have q175:(rd t165 x33_1) < (x8_1.length:Int):=of_decide_eq_true (by first | (with_reducible assumption) | assumption)
              obtain ⟨ad175,e175,hx175_0,hx175_1⟩:=zam (Kd.R_reads' HO_8.out).2.2 (rd t165 x33_1) p175 q175
              cases e175
              replace p175:=eq_true p175
              replace q175:=eq_true q175
              have p176:0≤(x33_1:Int):=of_decide_eq_true (by first | (with_reducible assumption) | assumption)
              have q176:x33_1 < (x8_1.length:Int):=of_decide_eq_true (by first | (with_reducible assumption) | assumption)
              obtain ⟨ad176,e176,hx176_0,hx176_1⟩:=zam (Kd.R_reads' HO_8.out).2.2 x33_1 p176 q176
              obtain rfl:ad175=ad176:=(by injection e176)
              replace p176:=eq_true p176
              replace q176:=eq_true q176
              have p20:0≤(x33_1:Int):=of_decide_eq_true (by first | (with_reducible assumption) | assumption)
              have q20:(x33_1:Int) < ((x8_1.length:Int):Int):=of_decide_eq_true (by first | (with_reducible assumption) | assumption)
              obtain ⟨go20,co20,eo20,gb20,gl20,cl20,HG20⟩:=Kd.R_form HO_8.out (by omega)
              (first | cases eo20 | (injection eo20 with ea_ en_ ec_;(first | subst ea_ | (injection ea_ with ea_;subst ea_));subst ec_;clear en_))
              have GB20:=Aside0.mk gb20
              have GG20:=Aside0.mk HG20
              clear gb20 gl20 HG20
              (first | simp only [zcM] at hx175_0 | skip)
              (first | simp only [zcM] at hx175_1 | skip)
              (first | simp only [zcM] at hx176_0 | skip)
              (first | simp only [zcM] at hx176_1 | skip)
              obtain ⟨ce20,hcl20,hM20,hcc20,hfr20⟩:=Kd.R_elem HO_8.out z38 (x33_1:Int) p20 q20
              obtain rfl:=zbk hM20
              have hx20_0:World.cell? _ ⟨go20,(x33_1:Int).toNat*2,none⟩=some (.int .i64 ((zk x8_1 x33_1).f0)):=hcc20 0 _ rfl
              have hx20_1:World.cell? _ ⟨go20,(x33_1:Int).toNat*2+1,none⟩=some (.int .i64 ((zk x8_1 x33_1).f1)):=hcc20 1 _ rfl
              have hf20_0:World.frozen? _ ⟨go20,(x33_1:Int).toNat*2,none⟩=false:=hfr20 0
              have hf20_1:World.frozen? _ ⟨go20,(x33_1:Int).toNat*2+1,none⟩=false:=hfr20 1
              clear hcl20 hcc20 hfr20 hM20
              replace p20:=eq_true p20
              replace q20:=eq_true q20
              obtain ⟨ce24,hcl24,hM24,hcc24,hfr24⟩:=Kd.R_elem HO_8.out z38 (x33_1:Int) (of_decide_eq_true (by first | (with_reducible assumption) | assumption)) (by have h_:(x33_1:Int) < ((x8_1.length:Int):Int):=of_decide_eq_true (by first | (with_reducible assumption) | assumption);first | exact h_ | (have e_:=(Kd.R_reads' HO_8.out).1;omega) | simpa using h_)
              obtain rfl:=zbk hM24
              have HP24:=(Kd.R_seg HO_8.out (x33_1:Int) (of_decide_eq_true (by first | (with_reducible assumption) | assumption)) (by have h_:(x33_1:Int) < ((x8_1.length:Int):Int):=of_decide_eq_true (by first | (with_reducible assumption) | assumption);first | exact h_ | (have e_:=(Kd.R_reads' HO_8.out).1;omega) | simpa using h_) (seg:=[.int .i64 ((zk x8_1 (rd t165 x33_1)).f0),.int .i64 ((zk x8_1 (rd t165 x33_1)).f1)]) (j:=0) hcl24 hcc24 (show 2≤2 from by decide) (x':=(⟨(zk x8_1 (rd t165 x33_1)).f0,(zk x8_1 (rd t165 x33_1)).f1⟩:S38)) (zaF _ _ _ (⟨(zk x8_1 (rd t165 x33_1)).f0,(zk x8_1 (rd t165 x33_1)).f1⟩:S38) ) (fun _ hk=>hk)).1
              rw [← Ny177.out] at HP24
              have HQ24:=Aside0.mk HP24
              clear hcl24 hcc24 hfr24 hM24 HP24
              have p21:0≤((rd t165 x33_1):Int):=of_decide_eq_true (by first | (with_reducible assumption) | assumption)
              have q21:((rd t165 x33_1):Int) < ((x8_1.length:Int):Int):=of_decide_eq_true (by first | (with_reducible assumption) | assumption)
              obtain ⟨ce21,hcl21,hM21,hcc21,hfr21⟩:=Kd.R_elem HQ24.out z38 ((rd t165 x33_1):Int) p21 q21
              obtain rfl:=zbk hM21
              have hx21_0:World.cell? _ ⟨go20,((rd t165 x33_1):Int).toNat*2,none⟩=some (.int .i64 ((zk y177 (rd t165 x33_1)).f0)):=hcc21 0 _ rfl
              have hx21_1:World.cell? _ ⟨go20,((rd t165 x33_1):Int).toNat*2+1,none⟩=some (.int .i64 ((zk y177 (rd t165 x33_1)).f1)):=hcc21 1 _ rfl
              have hf21_0:World.frozen? _ ⟨go20,((rd t165 x33_1):Int).toNat*2,none⟩=false:=hfr21 0
              have hf21_1:World.frozen? _ ⟨go20,((rd t165 x33_1):Int).toNat*2+1,none⟩=false:=hfr21 1
              clear hcl21 hcc21 hfr21 hM21
              replace p21:=eq_true p21
              replace q21:=eq_true q21
              obtain ⟨ce25,hcl25,hM25,hcc25,hfr25⟩:=Kd.R_elem HQ24.out z38 ((rd t165 x33_1):Int) (of_decide_eq_true (by first | (with_reducible assumption) | assumption)) (by have h_:((rd t165 x33_1):Int) < ((x8_1.length:Int):Int):=of_decide_eq_true (by first | (with_reducible assumption) | assumption);first | exact h_ | (have e_:=(Kd.R_reads' HO_8.out).1;omega) | simpa using h_)
              obtain rfl:=zbk hM25
              have HP25:=(Kd.R_seg HQ24.out ((rd t165 x33_1):Int) (of_decide_eq_true (by first | (with_reducible assumption) | assumption)) (by have h_:((rd t165 x33_1):Int) < ((x8_1.length:Int):Int):=of_decide_eq_true (by first | (with_reducible assumption) | assumption);first | exact h_ | (have e_:=(Kd.R_reads' HO_8.out).1;omega) | simpa using h_) (seg:=[.int .i64 ((zk x8_1 x33_1).f0),.int .i64 ((zk x8_1 x33_1).f1)]) (j:=0) hcl25 hcc25 (show 2≤2 from by decide) (x':=(⟨(zk x8_1 x33_1).f0,(zk x8_1 x33_1).f1⟩:S38)) (zaF _ _ _ (⟨(zk x8_1 x33_1).f0,(zk x8_1 x33_1).f1⟩:S38) ) (fun _ hk=>hk)).1
              rw [← Ny178.out] at HP25
              have HQ25:=Aside0.mk HP25
              clear hcl25 hcc25 hfr25 hM25 HP25
              refine zae (n:=16) (S:=fun w'=>w'.cell? ⟨go20,(((rd t165 x33_1)).toNat*2),none⟩=some (.int .i64 ((zk x8_1 (rd t165 x33_1)).f0))∧w'.cell? ⟨go20,(((rd t165 x33_1)).toNat*2)+1,none⟩=some (.int .i64 ((zk x8_1 (rd t165 x33_1)).f1))∧w'.cell? ⟨go20,((x33_1).toNat*2),none⟩=some (.int .i64 ((zk x8_1 x33_1).f0))∧w'.cell? ⟨go20,((x33_1).toNat*2)+1,none⟩=some (.int .i64 ((zk x8_1 x33_1).f1))) (ds:=[13,15]) (fl 16 0) (by kernel_rfl) rfl rfl ⟨hx175_0,hx175_1,hx176_0,hx176_1⟩ (fun hHeld=>?_);refine zgm flip_Flip.tab11 flip_Flip.bits11 (fun HT_ HW_=>?_)
              generalize wr.drew=w22 at HO_8 HO_31 HB GG20 HQ24 HQ25 hf20_0 hf20_1 hf21_0 hf21_1 hx175_0 hx175_1 hx176_0 hx176_1 hx20_0 hx20_1 hx21_0 hx21_1 hHeld ⊢
              refine za7 (i:=0) (N:=some 41) (v:=?_) (a':=?_) (fl 16 1) rfl rfl (zaR HT_.out (by kernel_rfl)) (fun _ _ _ h=>h) (Or.inl ⟨by rfl,?_⟩) ?_ ?_
              rotate_left
              ·intro w'
               go_simp
               with_reducible rfl
              rotate_left
              ·simp only [Act.put,zzA,zzB,zzC,zL,zac]
               rfl
              refine za7 (i:=1) (N:=some 42) (v:=?_) (a':=?_) (fl 16 3) rfl rfl (zaR HT_.out (by kernel_rfl)) (fun _ _ _ h=>h) (Or.inl ⟨by rfl,?_⟩) ?_ ?_
              rotate_left
              ·intro w'
               go_simp
               with_reducible rfl
              rotate_left
              ·simp only [Act.put,zzA,zzB,zzC,zL,zac]
               rfl
              refine za7 (i:=2) (N:=some 43) (v:=?_) (a':=?_) (fl 16 7) rfl rfl (zaR HT_.out (by kernel_rfl)) (fun _ _ _ h=>h) (Or.inl ⟨by rfl,?_⟩) ?_ ?_
              rotate_left
              ·intro w'
               go_simp
               with_reducible rfl
              rotate_left
              ·simp only [Act.put,zzA,zzB,zzC,zL,zac]
               rfl
              refine za7 (i:=3) (N:=some 44) (v:=?_) (a':=?_) (fl 16 15) rfl rfl (zaR HT_.out (by kernel_rfl)) (fun _ _ _ h=>h) (Or.inl ⟨by rfl,?_⟩) ?_ ?_
              rotate_left
              ·intro w'
               go_simp
               with_reducible rfl
              rotate_left
              ·simp only [Act.put,zzA,zzB,zzC,zL,zac]
               rfl
              refine za7 (i:=4) (N:=some 45) (v:=?_) (a':=?_) (fl 16 31) rfl rfl (zaR HT_.out (by kernel_rfl)) (fun _ _ _ h=>h) (Or.inl ⟨by rfl,?_⟩) ?_ ?_
              rotate_left
              ·intro w'
               go_simp
               with_reducible rfl
              rotate_left
              ·simp only [Act.put,zzA,zzB,zzC,zL,zac]
               rfl
              refine za7 (i:=5) (N:=some 46) (v:=?_) (a':=?_) (fl 16 63) rfl rfl (zaR HT_.out (by kernel_rfl)) (fun _ _ _ h=>h) (Or.inl ⟨by rfl,?_⟩) ?_ ?_
              rotate_left
              ·intro w'
               go_simp
               with_reducible rfl
              rotate_left
              ·simp only [Act.put,zzA,zzB,zzC,zL,zac]
               rfl
              refine za7 (i:=6) (N:=some 47) (v:=?_) (a':=?_) (fl 16 127) rfl rfl (zaR HT_.out (by kernel_rfl)) (fun _ _ _ h=>h) (Or.inl ⟨by rfl,?_⟩) ?_ ?_
              rotate_left
              ·intro w'
               go_simp
               with_reducible rfl
              rotate_left
              ·simp only [Act.put,zzA,zzB,zzC,zL,zac]
               rfl
              refine za7 (i:=8) (N:=some 49) (v:=?_) (a':=?_) (fl 16 383) rfl rfl (zaR HT_.out (by kernel_rfl)) (fun _ _ _ h=>h) (Or.inl ⟨by rfl,?_⟩) ?_ ?_
              rotate_left
              ·intro w'
               go_simp
               with_reducible rfl
              rotate_left
              ·simp only [Act.put,zzA,zzB,zzC,zL,zac]
               rfl
              refine za7 (i:=9) (N:=some 50) (v:=?_) (a':=?_) (fl 16 895) rfl rfl (zaR HT_.out (by kernel_rfl)) (fun _ _ _ h=>h) (Or.inl ⟨by rfl,?_⟩) ?_ ?_
              rotate_left
              ·intro w'
               go_simp
               with_reducible rfl
              rotate_left
              ·simp only [Act.put,zzA,zzB,zzC,zL,zac]
               rfl
              refine za7 (i:=10) (N:=some 51) (v:=?_) (a':=?_) (fl 16 1919) rfl rfl (zaR HT_.out (by kernel_rfl)) (fun _ _ _ h=>h) (Or.inl ⟨by rfl,?_⟩) ?_ ?_
              rotate_left
              ·intro w'
               go_simp
               with_reducible rfl
              rotate_left
              ·simp only [Act.put,zzA,zzB,zzC,zL,zac]
               rfl
              refine take_ (i:=7) (N:=some 48) (v:=?_) (a':=?_) (fl 16 2047) rfl rfl (zfb HT_.out HW_.out (by kernel_rfl)) (fun _ _ _ h=>h) (Or.inl ⟨by rfl,?_⟩) hHeld ?_ ?_
              rotate_left
              ·rintro w' ⟨s0,s1,s2,s3⟩
               go_simp
               with_reducible rfl
              rotate_left
              ·simp only [Act.put,zzA,zzB,zzC,zL,zac]
               rfl
              refine take_ (i:=11) (N:=some 52) (v:=?_) (a':=?_) (fl 16 4095) rfl rfl (zfb HT_.out HW_.out (by kernel_rfl)) (fun _ _ _ h=>h) (Or.inl ⟨by rfl,?_⟩) hHeld ?_ ?_
              rotate_left
              ·rintro w' ⟨s0,s1,s2,s3⟩
               go_simp
               with_reducible rfl
              rotate_left
              ·simp only [Act.put,zzA,zzB,zzC,zL,zac]
               rfl
              refine za7 (i:=12) (N:=some 53) (v:=?_) (a':=?_) (fl 16 8191) rfl rfl (zaR HT_.out (by kernel_rfl)) (fun _ _ _ h=>h) (Or.inl ⟨by rfl,?_⟩) ?_ ?_
              rotate_left
              ·intro w'
               go_simp
               with_reducible rfl
              rotate_left
              ·simp only [Act.put,zzA,zzB,zzC,zL,zac]
               rfl
              refine zaf (i:=13) (N:=none) (fl 16 16383) rfl rfl (zfu HT_.out (by kernel_rfl)) (by decide) (fun K hK=>?_)
              refine ziN (w1:=?_) (by rfl) rfl ?_ ?_
              rotate_left
              ·go_simp
               rfl
              refine hK.out _ _ ?_
              clear hK K
              refine za7 (i:=14) (N:=some 54) (v:=?_) (a':=?_) (fl 16 32767) rfl rfl (zaR HT_.out (by kernel_rfl)) (fun _ _ _ h=>h) (Or.inl ⟨by rfl,?_⟩) ?_ ?_
              rotate_left
              ·intro w'
               go_simp
               with_reducible rfl
              rotate_left
              ·simp only [Act.put,zzA,zzB,zzC,zL,zac]
               rfl
              refine zaf (i:=15) (N:=none) (fl 16 65535) rfl rfl (zfu HT_.out (by kernel_rfl)) (by decide) (fun K hK=>?_)
              refine ziN (w1:=?_) (by rfl) rfl ?_ ?_
              rotate_left
              ·have hne_:¬((rd t165 x33_1).toNat=x33_1.toNat):=by have h_:x33_1 < rd t165 x33_1:=of_decide_eq_true (by assumption);have h2_:0≤x33_1:=of_decide_eq_true (by assumption);omega
               have hne2_:¬(x33_1.toNat=(rd t165 x33_1).toNat):=fun h_=>hne_ h_.symm
               have hf3_:=hf21_0
               have hf4_:=hf21_1
               simp only [World.frozen?_setCells,World.frozen?_setCell] at hf3_ hf4_
               go_simp
               rfl
              refine hK.out _ _ ?_
              clear hK K
              refine zM (zil HT_.out (by kernel_rfl)) ?_
              try go_wp2
              go_roundg k1
              case measure=>have:=HK1.out;omega
              case rel=>exact ⟨(y178),(wrap64 (x33_1+1)),(by first | rfl | (simp;done) | (simp [*];done)),H',⟨by have:=HK1.out;omega⟩,⟨by (with_reducible repeat (first | apply Kd.R_alloc | apply Kd.R_drewN | apply Kd.R_drew));exact HQ25.out⟩,⟨by (with_reducible repeat (first | apply Kd.R_alloc | apply Kd.R_drewN | apply Kd.R_drew));exact Kd.R_mono (Kd.R_far (p:=⟨go20,((rd t165 x33_1):Int).toNat*2+1,none⟩) (Kd.R_far (p:=⟨go20,((rd t165 x33_1):Int).toNat*2,none⟩) (Kd.R_far (p:=⟨go20,(x33_1:Int).toNat*2+1,none⟩) (Kd.R_far (p:=⟨go20,(x33_1:Int).toNat*2,none⟩) (Kd.R_types HO_31.out GG20.out (by decide)) (fun _ hk=>hk.2) (.int .i64 ((zk x8_1 (rd t165 x33_1)).f0))) (fun _ hk=>hk.2) (.int .i64 ((zk x8_1 (rd t165 x33_1)).f1))) (fun _ hk=>hk.2) (.int .i64 ((zk x8_1 x33_1).f0))) (fun _ hk=>hk.2) (.int .i64 ((zk x8_1 x33_1).f1))) (fun _ hk=>trivial)⟩,⟨by repeat (first | (with_reducible first | exact HB.out | apply ze | apply zd | apply zh | refine zp ?_ GB20.out | refine zp ?_ GB20.out | refine zp ?_ GB20.out | refine zp ?_ GB20.out) | exact HB.out)⟩⟩
             ·rw [if_neg c19] at H
              exact absurd H (by simp)
            ·rw [if_neg c18] at H
             exact absurd H (by simp)
           ·rw [if_neg c17] at H
            exact absurd H (by simp)
          ·rw [if_neg c16] at H
           have c16b0:decide (x33_1 < (rd t165 x33_1))=false:=decide_eq_false c16
           clear c16
           have H':=Aside0.mk H
           clear H
           have p174:0≤(x33_1:Int):=of_decide_eq_true (by first | (with_reducible assumption) | assumption)
           have q174:x33_1 < (t165.length:Int):=of_decide_eq_true (by first | (with_reducible assumption) | assumption)
           obtain ⟨ad174,e174,hx174_0⟩:=Kd.at_int (Kd.R_reads' HO_31.out).2.2 x33_1 p174 q174
           cases e174
           replace p174:=eq_true p174
           replace q174:=eq_true q174
           go_wp2
           go_roundg k1
           case measure=>have:=HK1.out;omega
           case rel=>exact ⟨(x8_1),(wrap64 (x33_1+1)),(by first | rfl | (simp;done) | (simp [*];done)),H',⟨by have:=HK1.out;omega⟩,⟨by (with_reducible repeat (first | apply Kd.R_alloc | apply Kd.R_drewN | apply Kd.R_drew));exact HO_8.out⟩,⟨by (with_reducible repeat (first | apply Kd.R_alloc | apply Kd.R_drewN | apply Kd.R_drew));exact HO_31.out⟩,⟨by repeat (first | (with_reducible first | exact HB.out | apply ze | apply zd | apply zh) | exact HB.out)⟩⟩
         ·rw [if_neg c15] at H
          exact absurd H (by simp)
        ·rw [if_neg c14] at H
         exact absurd H (by simp)
       ·rw [if_neg c13] at H
        have c13b0:decide (x33_1 < (t165.length:Int))=false:=decide_eq_false c13
        clear c13
        simp only [Option.some.injEq,Prod.mk.injEq] at H
        obtain ⟨rfl,rfl⟩:=H
        go_wp2
        go_ret2
        exact ⟨_,by first | rfl | (simp [zr,zt] <;> rfl) | (simp [*,zr,zt] <;> rfl),by (with_reducible repeat (first | apply Kd.R_alloc | apply Kd.R_drewN | apply Kd.R_drew));exact HO_8.out,by repeat (first | (with_reducible first | exact HB.out | apply ze | apply zd | apply zh) | exact HB.out)⟩
    ·rw [if_neg c7] at H
     exact absurd H (by simp)
   ·rw [if_neg c6] at H
    exact absurd H (by simp)
  ·rw [if_neg c5] at H
   exact absurd H (by simp)
 ·rw [if_neg c3] at H
  have c3b0:(t164 == 0)=false:=beq_eq_false_iff_ne.mpr c3
  have c3b1:(t164 != 0)=true:=bne_iff_ne.mpr c3
  simp only [Option.some.injEq,Prod.mk.injEq] at H
  obtain ⟨rfl,rfl⟩:=H
  go_enter Tryz.func66,Tryz.ntmps66
  go_wp2_with (first | ((with_reducible refine zy (f:=40) rfl ?_);refine zQ (some 14) rfl rfl Tryz.func40 (by kernel_rfl) rfl #[.int .i64 (l0.length:Int)] rfl (by (try simp only [List.map_toArray,List.map_cons,List.map_nil]);first | done | rfl | (simp only [List.length_drop,List.length_take];rfl)) ?_;(with_reducible refine (flip_Log.calls k (l0.length:Int) t163 t164 _ A2.out).mono ?_);rintro e w' ⟨rfl,⟨nd,rfl⟩⟩;refine ⟨_,rfl,?_⟩))
  go_ret2
  exact ⟨_,by first | rfl | (simp [zr,zt] <;> rfl) | (simp [*,zr,zt] <;> rfl),by first | exact Kd.R_nil _ _ _ _ _ | exact Kd.N_nil _ _ _ _ _ | exact Kd.V_nil _ _ _ _ _ | exact Kd.Q_nil _ _ _ _ _ | exact Kd.S_nil _ _ _ _ _,by repeat (first | (with_reducible first | exact HB.out | apply ze | apply zd | apply zh) | exact HB.out)⟩

end Go.Proofs.YteieahbadclppaaGreat.P

