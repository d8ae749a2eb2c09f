/- Part 7 of 36 of the proof: the texts that it reaches, one behind the other. No condition. -/
import Derived.Test.YteieahbadclppaaGreatKr4
import Derived.Lib.Hide
import Derived.LoopIn
import Derived.LoopNIn
import Derived.Maps.AppendAt
import Derived.Outline
import Derived.OwnWalkIn
import Derived.RangeFuncBound
import Derived.RangeFuncBox
import Derived.RangeFuncCalls
import Derived.RangeFuncLeaves
import Derived.RangeFuncNested
import Derived.RegionIn
import Derived.Shelf.Abstract
import Derived.Shelf.RegionOpen
import Derived.TacticsInMore
import Derived.WalkKit
import Derived.Great.BuildSlice
import Derived.Laws.CopyOwn
import Derived.Deep.QuietTactic
import Derived.BigQuiet
import Derived.Deep.RegionHeld3
namespace Go.Proofs.YteieahbadclppaaGreat.P
open Go.RowKit Go.Proofs.YteieahbadclppaaGreatW.PrintWords Go.Proofs.YteieahbadclppaaGreatW.PrintLast Go.Proofs.YteieahbadclppaaGreatW.PrintMore
attribute [local go_sem] zF zG zK zL zY zZ z9 zaa
set_option linter.unusedVariables false
set_option linter.unusedSimpArgs false
section
open Go.Shelf
set_option maxHeartbeats 1000000 in
theorem zkZ (x d:Int) (w:World) (hx:0≤x∧x≤9223372036854775807) (hd:1≤d) :
  Calls Tryz.prog 128 #[.int .i64 x,.int .i64 d] w fun e w'=>e=.returned (.tuple #[.int .i64 (x / d),.int .i64 0])∧w=w':=by
 obtain ⟨hx0,hx1⟩:=hx
 have h1:0≤x % d:=Int.emod_nonneg _ (by omega)
 go_enter Tryz.func128,Tryz.ntmps128
 go_wp2
 go_ret2
 exact ⟨rfl,rfl⟩
set_option maxHeartbeats 1000000 in
theorem zga (x d:Int) (w:World) (hx:0≤x∧x≤9223372036854775807) (hd:1≤d) :
  Calls Tryz.prog 126 #[.int .i64 x,.int .i64 d] w fun e w'=>e=.returned (.int .i64 (x / d))∧w=w':=by
 go_enter Tryz.func126,Tryz.ntmps126
 go_wp2_with (go_at_call 128;refine (zkZ _ _ _ hx hd).mono ?_;rintro e w' ⟨rfl,rfl⟩)
 go_ret
 exact ⟨rfl,rfl⟩

attribute [local go_sem] Oper.semAt_some
def zcE (ty:TypeId) (B:Nat) (W W':World):Prop:=∀v,Boxed W B ty v→Boxed W' B ty v
theorem zjR {ty:TypeId} {B:Nat} {X Y Z:World} (h:zcE ty B X Y) (k:zcE ty B Y Z):zcE ty B X Z:=fun v hv=>k v (h v hv)
theorem zjS {ty:TypeId} {B s:Nat} (hB:B < s) (W:World) (l:Nat) (o o':Obj) (hl:s≤l) (_:W.heap[l]?=some o) (_:o.isCells=false) (_:o.isWalk=false):zcE ty B W (W.putObj l o'):=fun v hv =>
 (World.putObj_heap_other (by omega)).trans hv
theorem zid {ty:TypeId} {B:Nat} (W:World) {B':Nat} (hne:B≠B') (u:Value):zcE ty B W (W.setCell ⟨B',0,none⟩ u):=fun v hv=>hv.other hne u
def zbT (n:Int):Nat→Int→Int→Int→List Int
 | 0,_,_,_=>[]
 | f+1,p,s,o=>if 0 < p then s*(p / o) :: zbT n f (p / n / n) (-s) (o+2) else []
def zb5 (n:Int):List Int:=zbT n 60 (72057594037927936 / n) 1 1
theorem zi6 {p n:Int} {f:Nat} (hn:2≤n) (hp:0 < p) (hf:p < 4^(f+1)):0≤p / n / n∧p / n / n < 4^f∧p / n / n < p∧0≤p / n∧p / n≤p:=by
 have a0:0≤p / n:=Int.ediv_nonneg (by omega) (by omega)
 have a1:p / n≤p / 2:=by
  have:=Int.ediv_mul_le p (show n≠0 by omega)
  have h2:p / n*2≤p / n*n:=Int.mul_le_mul_of_nonneg_left hn a0
  omega
 have b0:0≤p / n / n:=Int.ediv_nonneg a0 (by omega)
 have b1:p / n / n≤p / n / 2:=by
  have:=Int.ediv_mul_le (p / n) (show n≠0 by omega)
  have h2:p / n / n*2≤p / n / n*n:=Int.mul_le_mul_of_nonneg_left hn b0
  omega
 rw [Int.pow_succ] at hf
 generalize (4:Int)^f=q at hf ⊢
 exact ⟨b0,by omega,by omega,a0,by omega⟩
theorem zie {p s o:Int} (hp:0≤p∧p≤36028797018963968) (hs:s=1∨s=-1) (ho:1≤o):0≤p / o∧p / o≤36028797018963968∧wrap64 (s*(p / o))=s*(p / o):=by
 have h0:0≤p / o:=Int.ediv_nonneg hp.1 (by omega)
 have h1:p / o≤p:=Int.ediv_le_self _ hp.1
 refine ⟨h0,by omega,?_⟩
 rcases hs with rfl | rfl <;> unfold wrap64 <;> omega

set_option maxRecDepth 100000 in
set_option maxHeartbeats 2000000 in
theorem zjT (n:Nat) (hn:1≤n) (l Bn:Nat) (m:Int) (hm0:2≤m) (hm1:m≤17592186044416) (J Jx:List Int→World→Prop)
  (hJd:∀pre W k,J pre W→J pre (World.drewN W k))
  (hY:∀pre x W,J pre W→pre.length < (zb5 m).length→YieldAt Fence.wide (n - 1) Tryz.prog l #[.int .i64 x] W fun e W' =>
   (e=.returned (.bool true)∧J (pre++[x]) W'∧zcE 3 Bn W W')∨(e=.returned (.bool false)∧Jx (pre++[x]) W'))
  (W:World) (hbx:Boxed W Bn 3 (.int .i64 m)) (h0:J [] W) :
  CallsIn Fence.wide n Tryz.prog 125 #[.func (.yield l) #[] #[],.pointer (some ⟨Bn,0,none⟩)] W fun e W'=>(∃v,e=.returned v) ∧
   ((∃ys,ys=zb5 m∧J ys W')∨(∃pre,pre <+: zb5 m∧Jx pre W')):=by
 have hc:=hbx.cell
 have hmx:Tryz.prog.follows .mixedOrders=true:=by kernel_rfl
 have hq:0≤72057594037927936 / m:=Int.ediv_nonneg (by decide) (by omega)
 have hq1:72057594037927936 / m≤36028797018963968:=by
  have:=Int.ediv_mul_le 72057594037927936 (show m≠0 by omega)
  have h2:72057594037927936 / m*2≤72057594037927936 / m*m:=Int.mul_le_mul_of_nonneg_left hm0 hq
  omega
 refine callsIn_of_wp Tryz.func125 rfl trivial ?_ rfl
 simp only [Tryz.ntmps125,List.size_toArray,List.length_cons,List.length_nil,Nat.reduceAdd,Nat.reduceSub,Array.replicate_succ,Array.replicate_zero,List.push_toArray,List.append_toArray,List.nil_append,List.cons_append]
 gi_wp2_with (refine ⟨trivial,?_⟩;gi_at_call 126;refine (callsIn_wide.2 (zga _ _ _ (by decide) (by omega))).mono ?_;rintro e w' ⟨rfl,rfl⟩)
 gi_loopw [3,4,5] (fun vs vo vp wr=>∃(pre:List Int) (f:Nat) (p s o:Int),vs=.int .i64 s∧vo=.int .i64 o∧vp=.int .i64 p∧zb5 m=pre++zbT m f p s o∧(0≤p∧p≤36028797018963968)∧p < 4^f∧(s=1∨s=-1)∧(1≤o∧o+2*(f:Int)≤1000)∧J pre wr∧Boxed wr Bn 3 (.int .i64 m))
  (fun _ _ vp _=>(intOf vp).toNat)
 case atStart =>
  exact ⟨[],60,_,1,1,rfl,rfl,rfl,rfl,⟨hq,hq1⟩,by omega,.inl rfl,by omega,h0,hbx⟩
 case round =>
  obtain ⟨pre,f,p,s,o,rfl,rfl,rfl,hx,hp,hpf,hs,ho,hJs,hbs⟩:=hrel
  have hcs:=hbs.cell
  by_cases hpos:0 < p
  ·obtain ⟨f,rfl⟩:∃g,f=g+1:=by
    cases f with
    | zero=>simp at hpf;omega
    | succ g=>exact ⟨g,rfl⟩
   have hb:=zi6 hm0 hpos hpf
   obtain ⟨t0,t1,t2⟩:=zie hp hs ho.1
   have hx':zb5 m=(pre++[s*(p / o)])++zbT m f (p / m / m) (-s) (o+2):=by rw [hx];simp [zbT,hpos]
   have Hx':=hhd hx'
   clear hx' hx
   obtain ⟨fn,tmps,assign,body,hy,hR⟩:=hY pre (s*(p / o)) wr hJs (by rw [Hx'.out];simp)
   have Ht2:=t2
   gi_wp2_with (refine ⟨trivial,?_⟩;gi_at_call 126;refine (callsIn_wide.2 (zga _ _ _ (by omega) (by omega))).mono ?_;rintro e w' ⟨rfl,rfl⟩)
   refine hR.mono ?_
   rintro e I (⟨rfl,hJ3,hk3⟩ | ⟨rfl,hJx3⟩)
   ·have hb3:=hk3 _ hbs
    have hc3:=hb3.cell
    clear hR hy
    gi_wp2
    gi_region_with_o (refine ⟨trivial,?_⟩;gi_at_call 126;refine (callsIn_wide.2 (zga _ _ _ (by omega) (by omega))).mono ?_;rintro e w' ⟨rfl,rfl⟩)
    all_goals
     simp only [Act.put,zzA,zzB,zzC]
     go_roundw
     case rel=>((repeat apply Exists.intro);exact ⟨⟨pre++[s*(p / o)],f,p / m / m,-s,o+2,rfl,rfl,rfl,Hx'.out,⟨hb.1,by omega⟩,hb.2.1,by omega,by omega,hJd _ _ 1 hJ3,hb3⟩,rfl⟩)
     case measure=>simp [intOf];omega
   ·gi_wp2
    refine bodyPost_ret (results_none rfl _ _ _) rfl ?_
    exact ⟨⟨_,rfl⟩,.inr ⟨pre++[s*(p / o)],⟨_,Hx'.out.symm⟩,hJx3⟩⟩
  ·gi_wp2
   go_end0
   have hz:zbT m f p s o=[]:=by cases f <;> simp [zbT,hpos]
   exact ⟨⟨_,rfl⟩,.inl (by rw [hz];simpa using hJs)⟩

set_option maxHeartbeats 1000000 in
theorem zk0 (n:Nat) (m:Int) (w:World) :
  CallsIn Fence.wide n Tryz.prog 123 #[.int .i64 m] w fun e w'=>e=.returned (.func (.func 125) #[] #[.pointer (some ⟨w.heap.size,0,none⟩)])∧w'=w.alloc (.cells #[.int .i64 m] 3):=by
 refine callsIn_of_wp Tryz.func123 rfl trivial ?_ rfl
 simp only [Tryz.ntmps123,List.size_toArray,List.length_cons,List.length_nil,Nat.reduceAdd,Nat.reduceSub,Array.replicate_succ,Array.replicate_zero,List.push_toArray,List.append_toArray,List.nil_append,List.cons_append]
 gi_wp2
 go_ret
 exact ⟨rfl,rfl⟩
theorem zif (n:Nat) (hn:1≤n) (Bn:Nat) (m:Int) (hm0:2≤m) (hm1:m≤17592186044416) (w:World) (hb:Boxed w Bn 3 (.int .i64 m)) :
  SeqStopsK Fence.wide n Tryz.prog 125 #[.pointer (some ⟨Bn,0,none⟩)] (fun x:Int=>#[Value.int .i64 x]) (zcE 3 Bn) (fun ys=>ys=zb5 m) (fun pre=>pre <+: zb5 m) (zb5 m).length w:=fun l J Jx W hW hJ _ hY h0 =>
 zjT n hn l Bn m hm0 hm1 J Jx (fun pre W k h=>hJ _ _ _ none h (zaZ (zc (Below.refl _ _) k) none) (fun r e=>by cases e)) hY W ((hW.block Bn hb.lt).trans hb) h0
def zfl:List Int→Int:=List.foldl (fun s v=>wrap64 (s+v)) 0
theorem zjU (pre:List Int) (x:Int):zfl (pre++[x])=wrap64 (zfl pre+x):=by simp [zfl]

set_option maxRecDepth 100000 in
set_option maxHeartbeats 2000000 in
theorem zm9 (n:Nat) (hn:3≤n) (m:Int) (hm0:2≤m) (hm1:m≤17592186044416) (w:World) :
  CallsIn Fence.wide n Tryz.prog 120 #[.int .i64 m] w fun e W'=>e=.returned (.int .i64 (zfl (zb5 m)))∧Below w.heap.size w W':=by
 have h1:1≤n:=by omega
 refine callsIn_of_wp_marks Tryz.func120 rfl trivial ?_ rfl
 simp only [Tryz.ntmps120,List.size_toArray,List.length_cons,List.length_nil,Nat.reduceAdd,Nat.reduceSub,Array.replicate_succ,Array.replicate_zero,List.push_toArray,List.append_toArray,List.nil_append,List.cons_append]
 gi_wp2_with (refine ⟨trivial,?_⟩;gi_at_call 123;refine (zk0 (n - 1) _ _).mono ?_;rintro e w' ⟨rfl,rfl⟩)
 have bO:=Boxed.new w 3 (.int .i64 0)
 have bN:=Boxed.new (w.alloc (.cells #[.int .i64 0] 3)) 3 (.int .i64 m)
 rw [World.size_alloc] at bN
 have hB0:Below w.heap.size w ((w.alloc (.cells #[.int .i64 0] 3)).alloc (.cells #[.int .i64 m] 3)):=((Below.refl _ w).alloc (Nat.le_refl _) _).alloc (by simp) _
 refine wpIn_rangeFunc_ownF rfl h1 (gf:=125) (lb:=#[.pointer (some ⟨w.heap.size+1,0,none⟩)]) rfl trivial (enters_of Tryz.func125 (by kernel_rfl) rfl)
  (zif (n - 1) (by omega) (w.heap.size+1) m hm0 hm1 _ bN) zjR (zjS (by simp)) (Below.refl _ _) (fun _=>rfl)
  (fun pre W=>Boxed W w.heap.size 3 (.int .i64 (zfl pre))∧Below w.heap.size w W)
  (fun _ _ _=>False)
  (OwnFrom.and (Own.from (boxed_own w.heap.size 3 (fun pre=>.int .i64 (zfl pre))) _) (ownFrom_below (Nat.le_refl _) (by simp;omega)))
  (fun _ _ _ _ _ hs _ _=>hs)
  ⟨bO.alloc _,hB0⟩
  (fun x=>{ tmps:=#[.int .i64 m,undef,.int .i64 0,.pointer (some ⟨w.heap.size,0,none⟩),.int .i64 x,.int .i64 m,.func (.func 125) #[] #[.pointer (some ⟨w.heap.size+1,0,none⟩)],.int .i64 x,undef,undef,undef,undef],defers:=[] }) ?assign ?body ?done ?stop
 case assign =>
  intro l x W K hK
  gi_wp2
  exact hK
 case body =>
  rintro l pre x W ⟨hv,hB⟩ _
  have hc:=hv.cell
  have hf:=hv.frozen
  gi_wp2
  exact ⟨KeepsOthers.setCell _ _ _,zid W (by simp) _,by rw [zjU];exact hv.set _,hB.setCell (p:=⟨w.heap.size,0,none⟩) (Nat.le_refl _) _⟩
 case done =>
  rintro D ys W hD rfl ⟨hv,hB⟩ hK
  have hc:=hv.cell
  gi_wp2
  refine ⟨by simp,.inl ⟨_,_,rfl,run_takeDeferred hK,?_⟩⟩
  exact ⟨_,results_tmp rfl _ _ _,rfl,hB.trans (belowK_b (w:=w) (Nat.le_refl _) W D _ _ (by simp at hD;omega) hK rfl rfl)⟩
 case stop =>
  rintro D c pre W _ _ h _
  exact h.elim
end
def arc_sum.f (a0:Int):Option Int:=if 2≤a0∧a0≤17592186044416 then some (zfl (zb5 a0)) else none
theorem arc_sum.calls (a0:Int) (r:Int) (w:World) (h:arc_sum.f a0=some r) :
  Calls Tryz.prog 120 #[.int .i64 a0] w fun e w'=>e=.returned (.int .i64 r)∧Below w.heap.size w w':=by
 unfold arc_sum.f at h
 by_cases hc:2≤a0∧a0≤17592186044416
 ·rw [if_pos hc] at h
  obtain rfl:=Option.some.inj h
  exact callsIn_wide.1 (zm9 3 (by decide) a0 hc.1 hc.2 w)
 ·rw [if_neg hc] at h
  cases h

end Go.Proofs.YteieahbadclppaaGreat.P

namespace Go.Proofs.YteieahbadclppaaGreat.P
open Go.RowKit Go.Proofs.YteieahbadclppaaGreatW.PrintWords Go.Proofs.YteieahbadclppaaGreatW.PrintLast Go.Proofs.YteieahbadclppaaGreatW.PrintMore
attribute [local go_sem] zF zG zK zL zY zZ z9 zaa
set_option linter.unusedVariables false
set_option linter.unusedSimpArgs false
def arc_Arc.f (a0:Int):Option (Int×Int):=if a0 < 2 then (some (0,1)) else (if a0 > 17592186044416 then (some (0,1)) else ((arc_sum.f a0).bind fun t116=>(some (t116,0))))
set_option maxHeartbeats 8000000 in
set_option maxRecDepth 100000 in
theorem arc_Arc.calls (a0:Int) (r1:Int) (r2:Int) (w:World) (h:arc_Arc.f a0=some (r1,r2)) :
  Calls Tryz.prog 127 #[.int .i64 a0] w fun e w'=>e=.returned (.tuple #[.int .i64 r1,.int .i64 r2])∧Below w.heap.size w w':=by
 have HB:=Aside0.mk (Below.refl w.heap.size w)
 have H:(if a0 < 2 then (some (0,1)) else (if a0 > 17592186044416 then (some (0,1)) else ((arc_sum.f a0).bind fun t116=>(some (t116,0)))))=some (r1,r2):=h
 clear h
 by_cases c2:a0 < 2
 ·rw [if_pos c2] at H
  have c2b0:decide (a0 < 2)=true:=decide_eq_true c2
  clear c2
  simp only [Option.some.injEq,Prod.mk.injEq] at H
  obtain ⟨rfl,rfl⟩:=H
  go_enter Tryz.func127,Tryz.ntmps127
  go_wp2
  go_ret2
  exact ⟨by first | rfl | (simp [zq,zt] <;> rfl) | (simp [*,zq,zt] <;> rfl),by repeat (first | (with_reducible first | exact HB.out | apply ze | apply zc | apply zg) | exact HB.out)⟩
 ·rw [if_neg c2] at H
  have c2b0:decide (a0 < 2)=false:=decide_eq_false c2
  clear c2
  by_cases c3:a0 > 17592186044416
  ·rw [if_pos c3] at H
   have c3b0:decide (17592186044416 < a0)=true:=decide_eq_true c3
   clear c3
   simp only [Option.some.injEq,Prod.mk.injEq] at H
   obtain ⟨rfl,rfl⟩:=H
   go_enter Tryz.func127,Tryz.ntmps127
   go_wp2
   go_ret2
   exact ⟨by first | rfl | (simp [zq,zt] <;> rfl) | (simp [*,zq,zt] <;> rfl),by repeat (first | (with_reducible first | exact HB.out | apply ze | apply zc | apply zg) | exact HB.out)⟩
  ·rw [if_neg c3] at H
   have c3b0:decide (17592186044416 < a0)=false:=decide_eq_false c3
   clear c3
   replace H:=Option.bind_eq_some_iff.mp H
   obtain ⟨t116,A40,H⟩:=H
   replace H:(some (t116,0))=some (r1,r2):=H
   have A4:=Aside0.mk A40
   clear A40
   simp only [Option.some.injEq,Prod.mk.injEq] at H
   obtain ⟨rfl,rfl⟩:=H
   go_enter Tryz.func127,Tryz.ntmps127
   go_wp2_with (first | ((with_reducible refine zy (f:=120) rfl ?_);refine zO (some 11) rfl rfl Tryz.func120 (by kernel_rfl) rfl #[.int .i64 a0] rfl (by (try simp only [List.map_toArray,List.map_cons,List.map_nil]);first | done | rfl | (simp only [List.length_drop,List.length_take];rfl)) ?_;(with_reducible refine (arc_sum.calls a0 t116 _ A4.out).mono ?_);rintro e w5 ⟨rfl,hb⟩;refine ⟨_,rfl,?_⟩;have n0_:=Aside0.mk (zb (by repeat (first | (with_reducible first | exact HB.out | apply ze | apply zc | apply zg) | exact HB.out)) hb);clear HB;have HB:=n0_;clear n0_;(try clear hb);(try clear hb2);(try clear hk);(try clear hi)))
   go_ret2
   exact ⟨by first | rfl | (simp [zq,zt] <;> rfl) | (simp [*,zq,zt] <;> rfl),by repeat (first | (with_reducible first | exact HB.out | apply ze | apply zc | apply zg) | exact HB.out)⟩

def arc_Quarter.f :Option (Int):=(arc_sum.f 2).bind fun t114=>((arc_sum.f 3).bind fun t115=>(some (wrap64 (t114+t115))))
set_option maxHeartbeats 8000000 in
set_option maxRecDepth 100000 in
theorem arc_Quarter.calls  (r:Int) (w:World) (h:arc_Quarter.f =some r) :
  Calls Tryz.prog 117 #[] w fun e w'=>e=.returned (.int .i64 r)∧Below w.heap.size w w':=by
 have HB:=Aside0.mk (Below.refl w.heap.size w)
 have H:((arc_sum.f 2).bind fun t114=>((arc_sum.f 3).bind fun t115=>(some (wrap64 (t114+t115)))))=some r:=h
 clear h
 replace H:=Option.bind_eq_some_iff.mp H
 obtain ⟨t114,A10,H⟩:=H
 replace H:((arc_sum.f 3).bind fun t115=>(some (wrap64 (t114+t115))))=some r:=H
 have A1:=Aside0.mk A10
 clear A10
 replace H:=Option.bind_eq_some_iff.mp H
 obtain ⟨t115,A20,H⟩:=H
 replace H:(some (wrap64 (t114+t115)))=some r:=H
 have A2:=Aside0.mk A20
 clear A20
 obtain rfl:=Option.some.inj H
 go_enter Tryz.func117,Tryz.ntmps117
 go_wp2_with (first | ((with_reducible refine zy (f:=120) rfl ?_);refine zO (some 1) rfl rfl Tryz.func120 (by kernel_rfl) rfl #[.int .i64 2] rfl (by (try simp only [List.map_toArray,List.map_cons,List.map_nil]);first | done | rfl | (simp only [List.length_drop,List.length_take];rfl)) ?_;(with_reducible refine (arc_sum.calls 2 t114 _ A1.out).mono ?_);rintro e w3 ⟨rfl,hb⟩;refine ⟨_,rfl,?_⟩;have n0_:=Aside0.mk (zb (by repeat (first | (with_reducible first | exact HB.out | apply ze | apply zc | apply zg) | exact HB.out)) hb);clear HB;have HB:=n0_;clear n0_;(try clear hb);(try clear hb2);(try clear hk);(try clear hi)) | ((with_reducible refine zy (f:=120) rfl ?_);refine zO (some 2) rfl rfl Tryz.func120 (by kernel_rfl) rfl #[.int .i64 3] rfl (by (try simp only [List.map_toArray,List.map_cons,List.map_nil]);first | done | rfl | (simp only [List.length_drop,List.length_take];rfl)) ?_;(with_reducible refine (arc_sum.calls 3 t115 _ A2.out).mono ?_);rintro e w4 ⟨rfl,hb⟩;refine ⟨_,rfl,?_⟩;have n0_:=Aside0.mk (zb (by repeat (first | (with_reducible first | exact HB.out | apply ze | apply zc | apply zg) | exact HB.out)) hb);clear HB;have HB:=n0_;clear n0_;(try clear hb);(try clear hb2);(try clear hk);(try clear hi)))
 go_ret
 exact ⟨by first | rfl | (simp [zq,zt] <;> rfl) | (simp [*,zq,zt] <;> rfl),by repeat (first | (with_reducible first | exact HB.out | apply ze | apply zc | apply zg) | exact HB.out)⟩

end Go.Proofs.YteieahbadclppaaGreat.P

namespace Go.Proofs.YteieahbadclppaaGreat.P
open Go.RowKit Go.Proofs.YteieahbadclppaaGreatW.PrintWords Go.Proofs.YteieahbadclppaaGreatW.PrintLast Go.Proofs.YteieahbadclppaaGreatW.PrintMore
set_option linter.unusedVariables false
set_option linter.unusedSimpArgs false
def zoH:List Int:=[56593902016227522,33409331186036029,17652573055549881,8960721713639278,4497749271019253,2251067235130761,1125808294293075,562938500594602,281473545067998,140737309398767,70368721808055,35184369292630,17592185694891,8796092978518,4398046505643,2199023254870,1099511627691,549755813878,274877906943,137438953472,68719476736,34359738368,17179869184,8589934592,4294967296,2147483648,1073741824,536870912,268435456,134217728,67108864,33554432,16777216,8388608,4194304,2097152,1048576,524288,262144,131072,65536,32768,16384,8192,4096]
def zk1 (p:Nat→Bool):Nat→Bool
 | 0=>true
 | k+1=>p k && zk1 p k
theorem zdl {p:Nat→Bool}:∀{K k:Nat},zk1 p K=true→k < K→p k=true
 | 0,_,_,h=>by omega
 | K+1,k,h,hk=>by
  simp only [zk1,Bool.and_eq_true] at h
  by_cases e:k=K
  ·subst e;exact h.1
  ·exact zdl h.2 (by omega)
theorem zjV (k:Nat) (h1:1≤k) (h:k < 45):arc_Arc.f (2^k)=some (zoH.getD k 0,0):=by
 have:=zdl (p:=fun k=>k == 0 || decide (arc_Arc.f (2^k)=some (zoH.getD k 0,0))) (K:=45) (by decide +kernel) h
 simp only [Bool.or_eq_true,beq_iff_eq,decide_eq_true_eq] at this
 rcases this with e | e
 ·omega
 ·exact e
theorem zfe:arc_Quarter.f=some 56593902016227522:=by decide +kernel
def zgb (k:Nat):List Int:=zoH.take k++List.replicate (45 - k) 0
def za5 (k:Nat):Array Value:=((zgb k).map (Value.int .i64)).toArray
theorem zk2 (k:Nat) (hk:k < 45):(za5 k).setIfInBounds k (.int .i64 (zoH.getD k 0))=za5 (k+1):=by
 have:=zdl (p:=fun k=>decide ((zgb k).set k (zoH.getD k 0)=zgb (k+1))) (K:=45) (by decide +kernel) hk
 have:=of_decide_eq_true this
 unfold za5
 rw [← this]
 simp [List.map_set]
theorem zbv (k:Nat) (hk:k≤45):(za5 k).size=45:=by
 have h:zoH.length=45:=by decide
 unfold za5 zgb
 simp [h]
 omega
theorem zmp (k:Nat) (hk:k < 45):(za5 k)[k]?=some (.int .i64 0):=by
 have:=zdl (p:=fun k=>decide ((zgb k)[k]?=some 0)) (K:=45) (by decide +kernel) hk
 have:=of_decide_eq_true this
 unfold za5
 simp [this]
theorem zhi (k:Nat):(za5 k).all (·.oneCell')=true:=by
 unfold za5
 simp [Value.oneCell']
theorem zjW (k:Nat) (hk:k < 45):IntKind.i64.wrap (2^k)=2^k:=by
 have:=zdl (p:=fun k=>decide (IntKind.i64.wrap (2^k)=2^k)) (K:=45) (by decide +kernel) hk
 exact of_decide_eq_true this
theorem zk3:Tryz.prog.built 174 [(0,.int .i64 56593902016227522)]=some (za5 1):=by kernel_rfl
set_option maxRecDepth 100000 in
set_option maxHeartbeats 2000000 in
theorem zi7 (w:World) :
  Calls Tryz.prog 124 #[] w fun e w'=>e=.returned (.agg (za5 45))∧Below w.heap.size w w':=by
 go_enter Tryz.func124,Tryz.ntmps124
 go_wp2_with (first
  | ((with_reducible refine zf (N:=0) rfl ?_);refine zR ?hg (N:=0) ?hd (cs:=za5 0) (t:=174) ?hr ?_;(case hd=>rfl);(case hg=>rfl);(case hr=>rfl);intro g0 hg W0 I hb;have B0:=hhd I;have aG:=hhd hb;have G0:=hhd hg;clear I hb hg)
  | (go_at_call 117;refine (arc_Quarter.calls 56593902016227522 _ zfe).mono ?_;rintro e W1 ⟨rfl,hb⟩;have B1:=za_ B0 hb;have aD:=zs_ aG hb;clear hb B0 aG)
  | ((with_reducible refine zf (N:=4) rfl ?_);refine wpList_buildTo rfl 174 _ rfl (some 4) rfl (za5 1) zk3 ?_)
  | ((with_reducible refine zf (N:=1) rfl ?_);refine zR ?hg (N:=1) ?hd (cs:=za5 0) (t:=174) ?hr ?_;(case hd=>rfl);(case hg=>rfl);(case hr=>rfl);intro g1 hg W2 I hb;have B2:=hhd I;have B02:=za_ B1 hb;have aH:=zs_ aD hb;have N01:g0≠g1:=(by rw [hg];exact Nat.ne_of_lt (zj B1));have LG1:w.heap.size≤g1:=(by rw [hg];exact aD.out.size);clear I hb hg aD)
  | ((with_reducible refine zo (t:=174) (p:=1) rfl ?_);refine zN rfl 174 _ _ rfl g1 (za5 1) rfl rfl 174 (za5 0) B2.out rfl (by rw [zbv 0 (by decide),zbv 1 (by decide)]) (zhi 1) ?_;intro W3 hq aC aA;have B3:=hhd hq;have B03:=hhd aC;have aI:=hhd aA;clear hq aC aA))
 have B4:=hhd ((B03.out g0 N01).trans B02.out)
 have LG0:w.heap.size≤g0:=by have:=G0.out;omega
 have aJ:=hhd (aI.out w.heap.size w LG1 aH.out)
 clear B03 B02 aI aH G0 B1 B2
 go_loopw [2] (fun i wr=>∃k:Nat,1≤k∧k≤45∧i=.int .i64 k∧wr.heap[g1]?=some (.cells (za5 k) 174 (0,0))∧wr.heap[g0]?=some (.cells (za5 0) 174 (0,0))∧Below w.heap.size w wr) (fun i _=>45 - (intOf i).toNat)
 case atStart=>exact ⟨1,by omega,by omega,rfl,B3.out,B4.out,aJ.out⟩
 case round =>
  obtain ⟨k,hk1,hk2,rfl,c1,c0,hbw⟩:=hrel
  have C1:=hhd c1
  have C0:=hhd c0
  have HBW:=hhd hbw
  clear c1 c0 hbw B3 B4 aJ
  by_cases hlt:k < 45
  ·have HP:=hhd (zjV k hk1 hlt)
   have hsm:=zjW k hlt
   go_wp2_with (first
    | (go_at_call 127;refine (arc_Arc.calls (2^k) (zoH.getD k 0) 0 _ HP.out).mono ?_;rintro e W5 ⟨rfl,hb⟩;have hcell:W5.cell? ⟨g1,k,none⟩=some (.int .i64 0):=(za (zd C1 hb) k).trans (zmp k hlt);have hfr:=zh (zd C1 hb) k;have aE:=hhd hb;clear hb))
   go_roundw
   case rel=>exact ⟨k+1,by omega,by omega,by go_num,by rw [← zk2 k hlt];exact zQ (zd C1 aE) k _ rfl,(Below.heap_setCell _ _ _ _ N01).trans (zd C0 aE),(zb HBW aE).setCell (p:=⟨g1,k,none⟩) LG1 _⟩
   case measure=>simp [intOf];omega
  ·obtain rfl:k=45:=by omega
   go_wp2_with (first
    | ((with_reducible refine zf (N:=17) rfl ?_);refine wpList_load_row rfl 174 _ rfl g1 rfl 174 (za5 45) (0,0) _ C1.out Tryz.underlying174 rfl (by rw [zbv 45 (by decide)];kernel_rfl) ?_)
    | ((with_reducible refine zo (t:=174) (p:=0) rfl ?_);refine zN rfl 174 _ _ rfl g0 (za5 45) rfl rfl 174 (za5 0) C0.out (by rw [zbv 45 (by decide)];kernel_rfl) (by rw [zbv 0 (by decide),zbv 45 (by decide)]) (zhi 45) ?_;intro W7 hq aC aA;have B7:=hhd hq;have aK:=hhd aA;clear hq aC aA))
   refine bodyPost_ret (results_cell_row rfl _ _ g0 174 (za5 45) (0,0) _ rfl B7.out Tryz.underlying174 rfl (by rw [zbv 45 (by decide)];kernel_rfl)) rfl ?_
   exact ⟨rfl,aK.out _ _ LG0 HBW.out⟩

def zmq (i:Nat) (by_:Int) (s:Int×Int×Int):Int×Int×Int :=
 if s.2.2≥0 then (wrap64 (s.1 - s.2.1 / 2^i),wrap64 (s.2.1+s.1 / 2^i),wrap64 (s.2.2 - by_)) else (wrap64 (s.1+s.2.1 / 2^i),wrap64 (s.2.1 - s.1 / 2^i),wrap64 (s.2.2+by_))
def zaJ (x z:Int):Nat→Int×Int×Int
 | 0=>(x,0,z)
 | k+1=>zmq k (zoH.getD k 0) (zaJ x z k)
theorem zk4 (k:Nat) (hk:k < 45):(za5 45)[k]?=some (.int .i64 (zoH.getD k 0)):=by
 have:=zdl (p:=fun k=>decide ((zgb 45)[k]?=some (zoH.getD k 0))) (K:=45) (by decide +kernel) hk
 have:=of_decide_eq_true this
 unfold za5
 simp [this]
theorem zna (k:Nat) (hk:k < 45) (w:World):(Instr.index 174 (.agg (za5 45)) (.int .i64 k)).run Tryz.prog w=.ok (.int .i64 (zoH.getD k 0)) w:=by
 have hsz:(sizeOf 3).run Tryz.prog w=.ok 1 w:=by kernel_rfl
 have hg:=zk4 k hk
 have hs:=zbv 45 (by decide)
 generalize zoH.getD k 0=v at *
 generalize za5 45=R at *
 simp [Instr.index,asIntOf,Sem.run_bind,run_underlying Tryz.underlying174,hk,part,hsz,hg,hs]
 exact (Array.getElem?_eq_some_iff.1 hg).2
set_option maxRecDepth 100000 in
set_option maxHeartbeats 4000000 in
theorem ziz (x z:Int) (w:World) :
  Calls Tryz.prog 121 #[.int .i64 x,.int .i64 z] w fun e w'=>e=.returned (.tuple #[.agg #[.int .i64 (zaJ x z 45).1,.int .i64 (zaJ x z 45).2.1],.int .i64 (zaJ x z 45).2.2])∧Below w.heap.size w w':=by
 go_enter Tryz.func121,Tryz.ntmps121
 go_wp2_with (first
  | ((with_reducible refine zf (N:=4) rfl ?_);refine zR ?hg (N:=4) ?hd (cs:=#[.int .i64 0,.int .i64 0]) (t:=38) ?hr ?_;(case hd=>rfl);(case hg=>rfl);(case hr=>rfl);intro g4 hg W0 I hb;have B4:=hhd I;have aD:=hhd hb;have L4:=hhd hg;clear I hb hg)
  | ((with_reducible refine zf (N:=6) rfl ?_);refine zR ?hg (N:=6) ?hd (cs:=#[.int .i64 0,.int .i64 0]) (t:=38) ?hr ?_;(case hd=>rfl);(case hg=>rfl);(case hr=>rfl);intro g6 hg W1 I hb;have B6:=hhd I;have B41:=za_ B4 hb;have N46:g4≠g6:=(by rw [hg];exact Nat.ne_of_lt (zj B4));have L6:w.heap.size≤g6:=(by rw [hg];exact aD.out.size);have aE:=zs_ aD hb;clear I hb hg aD B4)
  | ((with_reducible refine zo (t:=38) (p:=6) rfl ?_);refine zN rfl 38 _ _ rfl g6 #[.int .i64 x,.int .i64 0] rfl rfl 38 #[.int .i64 0,.int .i64 0] B6.out (zw _ _) rfl (zM _ _) ?_;intro W2 hq aC aA;have B62:=hhd hq;have B42:=hhd ((aC g4 N46).trans B41.out);have aG:=hhd (aA _ _ L6 aE.out);clear hq aC aA aE B6 B41)
  | (go_at_call 124;refine (zi7 _).mono ?_;rintro e W3 ⟨rfl,hb⟩;have B63:=za_ B62 hb;have B43:=za_ B42 hb;have aH:=zs_ aG hb;clear hb B62 B42 aG))
 have LG4:w.heap.size≤g4:=by have:=L4.out;omega
 clear L4
 go_loopw [1,14] (fun s1 s14 wr=>∃(k:Nat) (a b c:Int),k≤45∧s14=.int .i64 k∧s1=.int .i64 c∧wr.heap[g6]?=some (.cells #[.int .i64 a,.int .i64 b] 38 (0,0))∧wr.heap[g4]?=some (.cells #[.int .i64 0,.int .i64 0] 38 (0,0))∧zaJ x z k=(a,b,c)∧Below w.heap.size w wr) (fun _ i _=>45 - (intOf i).toNat)
 case atStart=>exact ⟨0,x,0,z,by omega,rfl,rfl,B63.out,B43.out,rfl,aH.out⟩
 case round =>
  obtain ⟨k,a,b,c,hk,rfl,rfl,c6,c4,hrun,hbw⟩:=hrel
  have C6:=hhd c6
  have C4:=hhd c4
  have HR:=hhd hrun
  have HBW:=hhd hbw
  clear c6 c4 hrun hbw B63 B43 aH
  by_cases hlt:k < 45
  ·have hix:=zna k hlt
   have ha:=(za C6 0).trans rfl
   have hb:=(za C6 1).trans rfl
   have hfa:=zh C6.out 0
   have hfb:=zh C6.out 1
   by_cases hc:0≤c
   ·have HN:=hhd (show zaJ x z (k+1)=(wrap64 (a - b / 2^k),wrap64 (b+a / 2^k),wrap64 (c - zoH.getD k 0)) from by rw [zaJ,HR.out];exact if_pos hc)
    go_wp2
    go_quiet (fail)
    go_wp2
    go_roundw
    case rel=>exact ⟨k+1,_,_,_,by omega,by go_num,rfl,zQ (zQ C6.out 0 _ rfl) 1 _ rfl,(Below.heap_setCell _ _ _ _ N46).trans ((Below.heap_setCell _ _ _ _ N46).trans C4.out),HN.out,((zc HBW.out nq).setCell (p:=⟨g6,0,none⟩) L6 _).setCell (p:=⟨g6,1,none⟩) L6 _⟩
    case measure=>simp [intOf];omega
   ·have HN:=hhd (show zaJ x z (k+1)=(wrap64 (a+b / 2^k),wrap64 (b - a / 2^k),wrap64 (c+zoH.getD k 0)) from by rw [zaJ,HR.out];exact if_neg hc)
    go_wp2
    go_quiet (fail)
    go_wp2
    go_roundw
    case rel=>exact ⟨k+1,_,_,_,by omega,by go_num,rfl,zQ (zQ C6.out 0 _ rfl) 1 _ rfl,(Below.heap_setCell _ _ _ _ N46).trans ((Below.heap_setCell _ _ _ _ N46).trans C4.out),HN.out,((zc HBW.out nq).setCell (p:=⟨g6,0,none⟩) L6 _).setCell (p:=⟨g6,1,none⟩) L6 _⟩
    case measure=>simp [intOf];omega
  ·obtain rfl:k=45:=by omega
   go_wp2_with (first
    | ((with_reducible refine zf (N:=53) rfl ?_);refine lr_ 53 rfl 38 C6 Tryz.underlying38 ?_)
    | ((with_reducible refine zo (t:=38) (p:=4) rfl ?_);refine zN rfl 38 _ _ rfl g4 #[.int .i64 a,.int .i64 b] rfl rfl 38 #[.int .i64 0,.int .i64 0] C4.out (zw _ _) rfl (zM _ _) ?_;intro W7 hq aC aA;have B7:=hhd hq;have aI:=hhd aA;clear hq aC aA))
   refine bodyPost_ret (zW rfl _ _ g4 38 #[.int .i64 a,.int .i64 b] (0,0) _ rfl B7.out Tryz.underlying38 rfl (zw _ _)) rfl ?_
   rw [HR.out]
   exact ⟨rfl,aI.out _ _ LG4 HBW.out⟩
theorem re_ {P:Program} {ops:Array Oper} {rest:List Oper} {o:Oper} {a:Act} {Q:Exit→Act→World→Prop} {W:World} {w0:World} (ty:TypeId) (p:Tmp) {v:Operand} (ho:o.op=.store ty (.tmp p) v) (cells:Array Value) {g:Nat} {t:TypeId} {old:Array Value} (hg:RowKit.Hid (W.heap[g]?=some (.cells old t (0,0)))) (hL:w0.heap.size≤g) (HB:RowKit.Hid (Below w0.heap.size w0 W)) (h:∀w1,(∀k,k≠g→w1.heap[k]?=W.heap[k]?)→RowKit.Hid (w1.heap[g]?=some (.cells cells t (0,0)))→RowKit.Hid (Below w0.heap.size w0 w1)→wpList P ops Q rest (a.put o.dst undef) w1) (hx:a.eval (.tmp p)=.pointer (some ⟨g,0,none⟩):=by rfl) (hy:a.eval v=.agg cells:=by rfl) (hgd:o.guard=none:=by rfl) (hi:(P.info? ty).map (·.size)=some cells.size:=by kernel_rfl) (hold:old.size=cells.size:=by rfl) (h1:cells.all (·.oneCell')=true:=by simp [Value.oneCell']):wpList P ops Q (o :: rest) a W:=zN hgd ty _ v ho g cells hx hy t old hg hi hold h1 fun w1 hq I aA=>h w1 I hq (aA _ _ hL HB)
set_option maxRecDepth 100000 in
set_option maxHeartbeats 4000000 in
theorem zk5 (w:World) :
  Calls Tryz.prog 122 #[] w fun e w'=>e=.returned (.int .i64 118661582157481174)∧Below w.heap.size w w':=by
 have hv:(zaJ 72057594037927936 0 45).1=118661582157481174:=by decide +kernel
 have HV:=hhd hv
 clear hv
 go_enter Tryz.func122,Tryz.ntmps122
 go_wp2_with (first
  | (go_at_call 121;refine (ziz _ _ _).mono ?_;rintro e W1 ⟨rfl,hb⟩;have I:=hhd hb;clear hb)
  | ((with_reducible refine zf (N:=1) rfl ?_);refine zR ?hg (N:=1) ?hd (cs:=#[.int .i64 0,.int .i64 0]) (t:=38) ?hr ?_;(case hd=>rfl);(case hg=>rfl);(case hr=>rfl);intro g1 hg W2 aA hb;have B2:=hhd aA;have LG1:w.heap.size≤g1:=(by rw [hg];exact I.out.size);have aD:=zs_ I hb;clear aA hb hg I)
  | ((with_reducible refine zo (t:=38) (p:=1) rfl ?_);refine re_ 38 1 rfl #[.int .i64 (zaJ 72057594037927936 0 45).1,.int .i64 (zaJ 72057594037927936 0 45).2.1] B2 LG1 aD ?_;intro W3 aC B3 aE;have hcell:=(za B3 0).trans rfl;clear aC))
 go_ret
 exact ⟨congrArg (fun q=>Ending.returned (.int .i64 q)) HV.out,aE.out⟩

def zmr (g:Int) (s:Int×Int):Int×Int :=
 if wrap64 (s.1*2)≥g then (wrap64 (wrap64 (s.1*2) - g),Go.bits .or .i64 (wrap64 (s.2*2)) 1) else (wrap64 (s.1*2),wrap64 (s.2*2))
def zed:Nat→Int×Int
 | 0=>(72057594037927936,0)
 | k+1=>zmr 118661582157481174 (zed k)
theorem zov (a b:Value):(Tryz.prog.info? 111).map (·.size)=some (#[a,b]:Array Value).size:=by kernel_rfl
set_option maxRecDepth 100000 in
set_option maxHeartbeats 4000000 in
theorem zig (w:World) :
  Calls Tryz.prog 119 #[] w fun e w'=>e=.returned (.int .i64 43757185469210200)∧Below w.heap.size w w':=by
 have hv:(zed 56).2=43757185469210200:=by decide +kernel
 have HV:=hhd hv
 clear hv
 go_enter Tryz.func119,Tryz.ntmps119
 go_wp2_with (first
  | (go_at_call 122;refine (zk5 _).mono ?_;rintro e W1 ⟨rfl,hb⟩;have I:=hhd hb;clear hb)
  | ((with_reducible refine zf (N:=2) rfl ?_);refine zR ?hg (N:=2) ?hd (cs:=#[.int .i64 0,.int .i64 0]) (t:=111) ?hr ?_;(case hd=>rfl);(case hg=>rfl);(case hr=>rfl);intro g1 hg W2 aA hb;have B2:=hhd aA;have LG1:w.heap.size≤g1:=(by rw [hg];exact I.out.size);have aC:=zs_ I hb;clear aA hb hg I)
  | ((with_reducible refine zo (t:=111) (p:=2) rfl ?_);refine re_ 111 2 rfl #[.int .i64 72057594037927936,.int .i64 0] B2 LG1 aC ?_;intro W3 aE B3 aD;clear aE aC B2))
 go_loopw [5] (fun s5 wr=>∃(k:Nat) (a b:Int),k≤56∧s5=.int .i64 k∧wr.heap[g1]?=some (.cells #[.int .i64 a,.int .i64 b] 111 (0,0))∧zed k=(a,b)∧Below w.heap.size w wr) (fun i _=>56 - (intOf i).toNat)
 case atStart=>exact ⟨0,_,_,by omega,rfl,B3.out,rfl,aD.out⟩
 case round =>
  obtain ⟨k,a,b,hk,rfl,c1,hinv,hbw⟩:=hrel
  have C1:=hhd c1
  have HI:=hhd hinv
  have HBW:=hhd hbw
  clear c1 hinv hbw B3 aD
  have ha:=(za C1 0).trans rfl
  have hb:=(za C1 1).trans rfl
  have hfa:=zh C1.out 0
  have hfb:=zh C1.out 1
  by_cases hlt:k < 56
  ·by_cases hc:wrap64 (a*2)≥118661582157481174
   ·have HN:=hhd (show zed (k+1)=(wrap64 (wrap64 (a*2) - 118661582157481174),Go.bits .or .i64 (wrap64 (b*2)) 1) from by rw [zed,HI.out];exact if_pos hc)
    go_wp2
    go_roundw
    case rel=>exact ⟨k+1,_,_,by omega,by go_num,zQ (zQ (zQ (zQ C1.out 0 _ rfl) 1 _ rfl) 0 _ rfl) 1 _ rfl,HN.out,(((HBW.out.setCell (p:=⟨g1,0,none⟩) LG1 _).setCell (p:=⟨g1,1,none⟩) LG1 _).setCell (p:=⟨g1,0,none⟩) LG1 _).setCell (p:=⟨g1,1,none⟩) LG1 _⟩
    case measure=>simp [intOf];omega
   ·have HN:=hhd (show zed (k+1)=(wrap64 (a*2),wrap64 (b*2)) from by rw [zed,HI.out];exact if_neg hc)
    go_wp2
    go_roundw
    case rel=>exact ⟨k+1,_,_,by omega,by go_num,zQ (zQ C1.out 0 _ rfl) 1 _ rfl,HN.out,(HBW.out.setCell (p:=⟨g1,0,none⟩) LG1 _).setCell (p:=⟨g1,1,none⟩) LG1 _⟩
    case measure=>simp [intOf];omega
  ·obtain rfl:k=56:=by omega
   go_wp2
   go_ret
   have e:b=43757185469210200:=by rw [← HV.out,HI.out]
   exact ⟨congrArg (fun q=>Ending.returned (.int .i64 q)) e,HBW.out⟩

def gain_Run.f (a0:Int) (a1:Int):Option (Int×Int×Int×Int) :=
 if a0 < 0 then some (0,0,0,2) else if a0 > 144115188075855872 then some (0,0,0,2) else if a1 < -72057594037927936 then some (0,0,0,2) else if a1 > 72057594037927936 then some (0,0,0,2) else some ((zaJ a0 a1 45).1,(zaJ a0 a1 45).2.1,(zaJ a0 a1 45).2.2,0)
def zjX (x z:Int):Prop:=x < 0∨x > 144115188075855872∨z < -72057594037927936∨z > 72057594037927936
set_option maxRecDepth 100000 in
set_option maxHeartbeats 4000000 in
theorem zfJ (x z:Int) (h:zjX x z) (w:World) :
  Calls Tryz.prog 118 #[.int .i64 x,.int .i64 z] w fun e w'=>e=.returned (.tuple #[.agg #[.int .i64 0,.int .i64 0],.int .i64 0,.int .i64 2])∧Below w.heap.size w w':=by
 unfold zjX at h
 by_cases h1:x < 0
 ·clear h
  go_enter Tryz.func118,Tryz.ntmps118
  go_wp2_with (first
   | ((with_reducible refine zf (N:=4) rfl ?_);refine zR ?hg (N:=4) ?hd (cs:=#[.int .i64 0,.int .i64 0]) (t:=38) ?hr ?_;(case hd=>rfl);(case hg=>rfl);(case hr=>rfl);intro g4 hg W0 I hb;have B0:=hhd I;have aD:=hhd hb;have LG4:w.heap.size≤g4:=(by rw [hg];exact Nat.le_refl _);clear I hb hg)
   | ((with_reducible refine zo (t:=38) (p:=4) rfl ?_);refine zN rfl 38 _ _ rfl g4 #[.int .i64 0,.int .i64 0] rfl rfl 38 #[.int .i64 0,.int .i64 0] B0.out (zw _ _) rfl (zM _ _) ?_;intro W7 hq aC aA;have B7:=hhd hq;have aE:=hhd aA;clear hq aC aA))
  refine bodyPost_ret (zb2 rfl _ _ g4 38 #[.int .i64 0,.int .i64 0] (0,0) _ rfl B7.out Tryz.underlying38 rfl (zw _ _)) rfl ?_
  exact ⟨rfl,aE.out _ _ LG4 aD.out⟩
 ·by_cases h2:x > 144115188075855872
  ·clear h
   go_enter Tryz.func118,Tryz.ntmps118
   go_wp2_with (first
    | ((with_reducible refine zf (N:=4) rfl ?_);refine zR ?hg (N:=4) ?hd (cs:=#[.int .i64 0,.int .i64 0]) (t:=38) ?hr ?_;(case hd=>rfl);(case hg=>rfl);(case hr=>rfl);intro g4 hg W0 I hb;have B0:=hhd I;have aD:=hhd hb;have LG4:w.heap.size≤g4:=(by rw [hg];exact Nat.le_refl _);clear I hb hg)
    | ((with_reducible refine zo (t:=38) (p:=4) rfl ?_);refine zN rfl 38 _ _ rfl g4 #[.int .i64 0,.int .i64 0] rfl rfl 38 #[.int .i64 0,.int .i64 0] B0.out (zw _ _) rfl (zM _ _) ?_;intro W7 hq aC aA;have B7:=hhd hq;have aE:=hhd aA;clear hq aC aA))
   refine bodyPost_ret (zb2 rfl _ _ g4 38 #[.int .i64 0,.int .i64 0] (0,0) _ rfl B7.out Tryz.underlying38 rfl (zw _ _)) rfl ?_
   exact ⟨rfl,aE.out _ _ LG4 aD.out⟩
  ·by_cases h3:z < -72057594037927936
   ·clear h
    go_enter Tryz.func118,Tryz.ntmps118
    go_wp2_with (first
     | ((with_reducible refine zf (N:=4) rfl ?_);refine zR ?hg (N:=4) ?hd (cs:=#[.int .i64 0,.int .i64 0]) (t:=38) ?hr ?_;(case hd=>rfl);(case hg=>rfl);(case hr=>rfl);intro g4 hg W0 I hb;have B0:=hhd I;have aD:=hhd hb;have LG4:w.heap.size≤g4:=(by rw [hg];exact Nat.le_refl _);clear I hb hg)
     | ((with_reducible refine zo (t:=38) (p:=4) rfl ?_);refine zN rfl 38 _ _ rfl g4 #[.int .i64 0,.int .i64 0] rfl rfl 38 #[.int .i64 0,.int .i64 0] B0.out (zw _ _) rfl (zM _ _) ?_;intro W7 hq aC aA;have B7:=hhd hq;have aE:=hhd aA;clear hq aC aA))
    refine bodyPost_ret (zb2 rfl _ _ g4 38 #[.int .i64 0,.int .i64 0] (0,0) _ rfl B7.out Tryz.underlying38 rfl (zw _ _)) rfl ?_
    exact ⟨rfl,aE.out _ _ LG4 aD.out⟩
   ·have h4:z > 72057594037927936:=by omega
    clear h
    go_enter Tryz.func118,Tryz.ntmps118
    go_wp2_with (first
     | ((with_reducible refine zf (N:=4) rfl ?_);refine zR ?hg (N:=4) ?hd (cs:=#[.int .i64 0,.int .i64 0]) (t:=38) ?hr ?_;(case hd=>rfl);(case hg=>rfl);(case hr=>rfl);intro g4 hg W0 I hb;have B0:=hhd I;have aD:=hhd hb;have LG4:w.heap.size≤g4:=(by rw [hg];exact Nat.le_refl _);clear I hb hg)
     | ((with_reducible refine zo (t:=38) (p:=4) rfl ?_);refine zN rfl 38 _ _ rfl g4 #[.int .i64 0,.int .i64 0] rfl rfl 38 #[.int .i64 0,.int .i64 0] B0.out (zw _ _) rfl (zM _ _) ?_;intro W7 hq aC aA;have B7:=hhd hq;have aE:=hhd aA;clear hq aC aA))
    refine bodyPost_ret (zb2 rfl _ _ g4 38 #[.int .i64 0,.int .i64 0] (0,0) _ rfl B7.out Tryz.underlying38 rfl (zw _ _)) rfl ?_
    exact ⟨rfl,aE.out _ _ LG4 aD.out⟩
set_option maxRecDepth 100000 in
set_option maxHeartbeats 4000000 in
theorem zms (x z:Int) (h1:0≤x) (h2:x≤144115188075855872) (h3:-72057594037927936≤z) (h4:z≤72057594037927936) (w:World) :
  Calls Tryz.prog 118 #[.int .i64 x,.int .i64 z] w fun e w'=>e=.returned (.tuple #[.agg #[.int .i64 (zaJ x z 45).1,.int .i64 (zaJ x z 45).2.1],.int .i64 (zaJ x z 45).2.2,.int .i64 0])∧Below w.heap.size w w':=by
 go_enter Tryz.func118,Tryz.ntmps118
 go_wp2_with (first
  | ((with_reducible refine zf (N:=4) rfl ?_);refine zR ?hg (N:=4) ?hd (cs:=#[.int .i64 0,.int .i64 0]) (t:=38) ?hr ?_;(case hd=>rfl);(case hg=>rfl);(case hr=>rfl);intro g4 hg W0 I hb;have B0:=hhd I;have aE:=hhd hb;have LG4:w.heap.size≤g4:=(by rw [hg];exact Nat.le_refl _);clear I hb hg)
  | (go_at_call 121;refine (ziz _ _ _).mono ?_;rintro e W1 ⟨rfl,hb⟩;have B1:=za_ B0 hb;have aD:=zs_ aE hb;clear hb B0 aE)
  | ((with_reducible refine zf (N:=7) rfl ?_);refine zR ?hg (N:=7) ?hd (cs:=#[.int .i64 0,.int .i64 0]) (t:=38) ?hr ?_;(case hd=>rfl);(case hg=>rfl);(case hr=>rfl);intro g7 hg W2 I hb;have B2:=hhd I;have B42:=za_ B1 hb;have N47:g4≠g7:=(by rw [hg];exact Nat.ne_of_lt (zj B1));have LG7:w.heap.size≤g7:=(by rw [hg];exact aD.out.size);have aG:=zs_ aD hb;clear I hb hg aD B1)
  | ((with_reducible refine zo (t:=38) (p:=7) rfl ?_);refine zN rfl 38 _ _ rfl g7 #[.int .i64 (zaJ x z 45).1,.int .i64 (zaJ x z 45).2.1] rfl rfl 38 #[.int .i64 0,.int .i64 0] B2.out (zw _ _) rfl (zM _ _) ?_;intro W3 hq aC aA;have B3:=hhd hq;have B43:=hhd ((aC g4 N47).trans B42.out);have aH:=hhd (aA _ _ LG7 aG.out);clear hq aC aA aG B2 B42)
  | ((with_reducible refine zf (N:=30) rfl ?_);refine lr_ 30 rfl 38 B3 Tryz.underlying38 ?_)
  | ((with_reducible refine zo (t:=38) (p:=4) rfl ?_);refine zN rfl 38 _ _ rfl g4 #[.int .i64 (zaJ x z 45).1,.int .i64 (zaJ x z 45).2.1] rfl rfl 38 #[.int .i64 0,.int .i64 0] B43.out (zw _ _) rfl (zM _ _) ?_;intro W7 hq aC aA;have B7:=hhd hq;have aI:=hhd aA;clear hq aC aA))
 refine bodyPost_ret (zb2 rfl _ _ g4 38 #[.int .i64 (zaJ x z 45).1,.int .i64 (zaJ x z 45).2.1] (0,0) _ rfl B7.out Tryz.underlying38 rfl (zw _ _)) rfl ?_
 exact ⟨rfl,aI.out _ _ LG4 aH.out⟩
theorem zjY (a0:Int) (a1:Int) (r1:Int) (r2:Int) (r3:Int) (r4:Int) (w:World) (h:gain_Run.f a0 a1=some (r1,r2,r3,r4)) :
  Calls Tryz.prog 118 #[.int .i64 a0,.int .i64 a1] w fun e w'=>e=.returned (.tuple #[.agg #[.int .i64 r1,.int .i64 r2],.int .i64 r3,.int .i64 r4])∧Below w.heap.size w w':=by
 by_cases h1:a0 < 0
 ·have e:gain_Run.f a0 a1=some (0,0,0,2):=if_pos h1
  rw [e] at h
  simp only [Option.some.injEq,Prod.mk.injEq] at h
  obtain ⟨rfl,rfl,rfl,rfl⟩:=h
  exact zfJ a0 a1 (.inl h1) w
 by_cases h2:a0 > 144115188075855872
 ·have e:gain_Run.f a0 a1=some (0,0,0,2):=(if_neg h1).trans (if_pos h2)
  rw [e] at h
  simp only [Option.some.injEq,Prod.mk.injEq] at h
  obtain ⟨rfl,rfl,rfl,rfl⟩:=h
  exact zfJ a0 a1 (.inr (.inl h2)) w
 by_cases h3:a1 < -72057594037927936
 ·have e:gain_Run.f a0 a1=some (0,0,0,2):=(if_neg h1).trans ((if_neg h2).trans (if_pos h3))
  rw [e] at h
  simp only [Option.some.injEq,Prod.mk.injEq] at h
  obtain ⟨rfl,rfl,rfl,rfl⟩:=h
  exact zfJ a0 a1 (.inr (.inr (.inl h3))) w
 by_cases h4:a1 > 72057594037927936
 ·have e:gain_Run.f a0 a1=some (0,0,0,2):=(if_neg h1).trans ((if_neg h2).trans ((if_neg h3).trans (if_pos h4)))
  rw [e] at h
  simp only [Option.some.injEq,Prod.mk.injEq] at h
  obtain ⟨rfl,rfl,rfl,rfl⟩:=h
  exact zfJ a0 a1 (.inr (.inr (.inr h4))) w
 have e:gain_Run.f a0 a1=some ((zaJ a0 a1 45).1,(zaJ a0 a1 45).2.1,(zaJ a0 a1 45).2.2,0):=(if_neg h1).trans ((if_neg h2).trans ((if_neg h3).trans (if_neg h4)))
 rw [e] at h
 clear e
 have hy:=zms a0 a1 (by clear h;omega) (by clear h;omega) (by clear h;omega) (by clear h;omega) w
 generalize zaJ a0 a1 45=R at *
 simp only [Option.some.injEq,Prod.mk.injEq] at h
 obtain ⟨rfl,rfl,rfl,rfl⟩:=h
 exact hy
set_option maxRecDepth 100000 in
set_option maxHeartbeats 4000000 in
theorem zi8 (Bl Bk:Nat) (log k:Int) (w:World) (hl:w.heap[Bl]?=some (.cells #[.int .i64 log] 3 (0,0))) (hk:w.heap[Bk]?=some (.cells #[.int .i64 k] 3 (0,0))) (h:log < 0∨log > 6∨k < 0∨k > 2^log.toNat) :
  Calls Tryz.prog 116 #[.pointer (some ⟨Bl,0,none⟩),.pointer (some ⟨Bk,0,none⟩)] w fun e w'=>e=.returned (.tuple #[.int .i64 0,.int .i64 1])∧Below w.heap.size w w':=by
 have hcl:w.cell? ⟨Bl,0,none⟩=some (.int .i64 log):=(za hl 0).trans rfl
 have hck:w.cell? ⟨Bk,0,none⟩=some (.int .i64 k):=(za hk 0).trans rfl
 clear hl hk
 by_cases h1:log < 0
 ·clear h
  go_enter Tryz.func116,Tryz.ntmps116
  go_wp2
  go_quiet (fail)
  go_wp2
  go_ret2
  exact ⟨rfl,zc (Below.refl _ w) nq⟩
 ·by_cases h2:log > 6
  ·clear h
   go_enter Tryz.func116,Tryz.ntmps116
   go_wp2
   go_quiet (fail)
   go_wp2
   go_ret2
   exact ⟨rfl,zc (Below.refl _ w) nq⟩
  ·by_cases h3:k < 0
   ·clear h
    go_enter Tryz.func116,Tryz.ntmps116
    go_wp2
    go_quiet (fail)
    go_wp2
    go_ret2
    exact ⟨rfl,zc (Below.refl _ w) nq⟩
   ·have b1:decide (k < 0)=false:=by simp;omega
    have hlog:log=0∨log=1∨log=2∨log=3∨log=4∨log=5∨log=6:=by omega
    have hw:IntKind.i64.wrap (2^log.toNat)=2^log.toNat:=by rcases hlog with rfl | rfl | rfl | rfl | rfl | rfl | rfl <;> rfl
    have h4:k > 2^log.toNat:=by
     rcases h with h | h | h | h
     ·exact absurd h h1
     ·exact absurd h h2
     ·exact absurd h h3
     ·exact h
    have b2:decide (2^log.toNat < k)=true:=by simp;exact h4
    have b3:decide (IntKind.i64.wrap (2^log.toNat) < k)=true:=by rw [hw];exact b2
    have h1':0≤log:=by omega
    have h2':log≤6:=by omega
    clear hlog h h4 h3 h1 h2
    go_enter Tryz.func116,Tryz.ntmps116
    go_wp2
    go_quiet (fail)
    go_wp2
    go_ret2
    exact ⟨rfl,zc (Below.refl _ w) nq⟩
set_option maxRecDepth 100000 in
set_option maxHeartbeats 4000000 in
theorem zih (Bl Bk:Nat) (log k:Int) (w:World) (hl:w.heap[Bl]?=some (.cells #[.int .i64 log] 3 (0,0))) (hk:w.heap[Bk]?=some (.cells #[.int .i64 k] 3 (0,0))) (h1:0≤log) (h2:log≤6) (h3:0≤k) (h4:k≤2^log.toNat) :
  Calls Tryz.prog 116 #[.pointer (some ⟨Bl,0,none⟩),.pointer (some ⟨Bk,0,none⟩)] w fun e w'=>e=.returned (.tuple #[.int .i64 (wrap64 (56593902016227522*k) / 2^log.toNat),.int .i64 0])∧Below w.heap.size w w':=by
 have hcl:w.cell? ⟨Bl,0,none⟩=some (.int .i64 log):=(za hl 0).trans rfl
 have hck:w.cell? ⟨Bk,0,none⟩=some (.int .i64 k):=(za hk 0).trans rfl
 have HL:=hhd hl
 have HK:=hhd hk
 clear hl hk
 have b1:decide (k < 0)=false:=by simp;omega
 have hlog:log=0∨log=1∨log=2∨log=3∨log=4∨log=5∨log=6:=by omega
 have hw:IntKind.i64.wrap (2^log.toNat)=2^log.toNat:=by rcases hlog with rfl | rfl | rfl | rfl | rfl | rfl | rfl <;> rfl
 have b2:decide (2^log.toNat < k)=false:=by simp;exact h4
 have b3:decide (IntKind.i64.wrap (2^log.toNat) < k)=false:=by rw [hw];simp;exact h4
 clear hlog h4
 go_enter Tryz.func116,Tryz.ntmps116
 go_wp2
 go_quiet (fail)
 go_wp2
 go_region_held3 (fun w'=>w'.cell? ⟨Bl,0,none⟩=some (.int .i64 log)∧w'.cell? ⟨Bk,0,none⟩=some (.int .i64 k)∧Below w.heap.size w w')
  (first
   | exact ⟨hcl,hck,(zc (Below.refl _ w) nq).drew⟩
   | go_keep
   | exact ⟨(za (zd (zn HL.out (nq+1)) hb) 0).trans rfl,(za (zd (zn HK.out (nq+1)) hb) 0).trans rfl,zb (zc (Below.refl _ w) (nq+1)) hb⟩)
  ((go_at_call 117;refine (arc_Quarter.calls 56593902016227522 _ zfe).mono ?_;rintro e I ⟨rfl,hb⟩))
 case _ hH =>
  go_wp2
  go_ret2
  exact ⟨congrArg (fun q=>Ending.returned (.tuple #[.int .i64 (q / 2^log.toNat),.int .i64 0])) (zD _),hH.2.2⟩
set_option maxRecDepth 100000 in
set_option maxHeartbeats 8000000 in
theorem zhj (Bl Bk:Nat) (log k:Int) (w:World) (aD:w.heap[Bl]?=some (.cells #[.int .i64 log] 3 (0,0))) (hbk:w.heap[Bk]?=some (.cells #[.int .i64 k] 3 (0,0))) (h:log < 0∨log > 6∨k < 0∨k > 2^log.toNat) :
  Calls Tryz.prog 115 #[.func (.func 116) #[] #[.pointer (some ⟨Bl,0,none⟩),.pointer (some ⟨Bk,0,none⟩)]] w fun x w'=>x=.returned (.tuple #[.agg #[.int .i64 0,.int .i64 0],.int .i64 1])∧Below w.heap.size w w':=by
 have HL:=hhd aD
 have HK:=hhd hbk
 clear aD hbk
 go_enter Tryz.func115,Tryz.ntmps115
 go_wp2_with (first
  | ((with_reducible refine zf (N:=2) rfl ?_);refine zR ?hg (N:=2) ?hd (cs:=#[.int .i64 0,.int .i64 0]) (t:=38) ?hr ?_;(case hd=>rfl);(case hg=>rfl);(case hr=>rfl);intro g4 hg W0 aA hb;have B0:=hhd aA;have I:=hhd hb;have LG4:w.heap.size≤g4:=(by rw [hg];exact Nat.le_refl _);clear aA hb hg)
  | (go_at_call 116;refine (zi8 Bl Bk log k _ (zd HL I) (zd HK I) h).mono ?_;rintro e W1 ⟨rfl,hb⟩;have B1:=za_ B0 hb;have aG:=zs_ I hb;clear hb B0 I)
  | ((with_reducible refine zo (t:=38) (p:=2) rfl ?_);refine zN rfl 38 _ _ rfl g4 #[.int .i64 0,.int .i64 0] rfl rfl 38 #[.int .i64 0,.int .i64 0] B1.out (zw _ _) rfl (zM _ _) ?_;intro W7 hq aE aC;have B7:=hhd hq;have aH:=hhd aC;clear hq aE aC))
 refine bodyPost_ret (zW rfl _ _ g4 38 #[.int .i64 0,.int .i64 0] (0,0) _ rfl B7.out Tryz.underlying38 rfl (zw _ _)) rfl ?_
 exact ⟨rfl,aH.out _ _ LG4 aG.out⟩
set_option maxRecDepth 100000 in
set_option maxHeartbeats 8000000 in
theorem zii (Bl Bk:Nat) (log k:Int) (r1 r2 r3 r4:Int) (w:World) (aG:w.heap[Bl]?=some (.cells #[.int .i64 log] 3 (0,0))) (hbk:w.heap[Bk]?=some (.cells #[.int .i64 k] 3 (0,0))) (h1:0≤log) (h2:log≤6) (h3:0≤k) (h4:k≤2^log.toNat)
  (h:gain_Run.f 43757185469210200 (wrap64 (56593902016227522*k) / 2^log.toNat)=some (r1,r2,r3,r4)) :
  Calls Tryz.prog 115 #[.func (.func 116) #[] #[.pointer (some ⟨Bl,0,none⟩),.pointer (some ⟨Bk,0,none⟩)]] w fun x w'=>x=.returned (.tuple #[.agg #[.int .i64 r1,.int .i64 r2],.int .i64 r4])∧Below w.heap.size w w':=by
 have HL:=hhd aG
 have HK:=hhd hbk
 have HR:=hhd h
 have H4:=hhd h4
 clear aG hbk h h4
 go_enter Tryz.func115,Tryz.ntmps115
 go_wp2_with (first
  | ((with_reducible refine zf (N:=2) rfl ?_);refine zR ?hg (N:=2) ?hd (cs:=#[.int .i64 0,.int .i64 0]) (t:=38) ?hr ?_;(case hd=>rfl);(case hg=>rfl);(case hr=>rfl);intro g4 hg W0 I hb;have B0:=hhd I;have aD:=hhd hb;have LG4:w.heap.size≤g4:=(by rw [hg];exact Nat.le_refl _);clear I hb hg)
  | (go_at_call 116;refine (zih Bl Bk log k _ (zd HL aD) (zd HK aD) h1 h2 h3 H4.out).mono ?_;rintro e W1 ⟨rfl,hb⟩;have B1:=za_ B0 hb;have aH:=zs_ aD hb;clear hb B0 aD)
  | (go_at_call 119;refine (zig _).mono ?_;rintro e W2 ⟨rfl,hb⟩;have B2:=za_ B1 hb;have aI:=zs_ aH hb;clear hb B1 aH)
  | (go_at_call 118;refine (zjY _ _ r1 r2 r3 r4 _ HR.out).mono ?_;rintro e W3 ⟨rfl,hb⟩;have B3:=za_ B2 hb;have aE:=zs_ aI hb;clear hb B2 aI)
  | ((with_reducible refine zf (N:=6) rfl ?_);refine zR ?hg (N:=6) ?hd (cs:=#[.int .i64 0,.int .i64 0]) (t:=38) ?hr ?_;(case hd=>rfl);(case hg=>rfl);(case hr=>rfl);intro g7 hg W4 I hb;have B4:=hhd I;have B34:=za_ B3 hb;have N47:g4≠g7:=(by rw [hg];exact Nat.ne_of_lt (zj B3));have LG7:w.heap.size≤g7:=(by rw [hg];exact aE.out.size);have aJ:=zs_ aE hb;clear I hb hg aE B3)
  | ((with_reducible refine zo (t:=38) (p:=6) rfl ?_);refine zN rfl 38 _ _ rfl g7 #[.int .i64 r1,.int .i64 r2] rfl rfl 38 #[.int .i64 0,.int .i64 0] B4.out (zw _ _) rfl (zM _ _) ?_;intro W5 hq aC aA;have B5:=hhd hq;have B35:=hhd ((aC g4 N47).trans B34.out);have aK:=hhd (aA _ _ LG7 aJ.out);clear hq aC aA aJ B4 B34)
  | ((with_reducible refine zf (N:=24) rfl ?_);refine lr_ 24 rfl 38 B5 Tryz.underlying38 ?_)
  | ((with_reducible refine zo (t:=38) (p:=2) rfl ?_);refine zN rfl 38 _ _ rfl g4 #[.int .i64 r1,.int .i64 r2] rfl rfl 38 #[.int .i64 0,.int .i64 0] B35.out (zw _ _) rfl (zM _ _) ?_;intro W7 hq aC aA;have B7:=hhd hq;have aM:=hhd aA;clear hq aC aA))
 refine bodyPost_ret (zW rfl _ _ g4 38 #[.int .i64 r1,.int .i64 r2] (0,0) _ rfl B7.out Tryz.underlying38 rfl (zw _ _)) rfl ?_
 exact ⟨rfl,aM.out _ _ LG4 aK.out⟩
set_option maxRecDepth 100000 in
set_option maxHeartbeats 4000000 in
theorem zjZ (k log:Int) (w:World) (h:log < 0∨log > 6∨k < 0∨k > 2^log.toNat) :
  Calls Tryz.prog 114 #[.int .i64 k,.int .i64 log] w fun e w'=>e=.returned (.tuple #[.agg #[.int .i64 0,.int .i64 0],.int .i64 1])∧Below w.heap.size w w':=by
 have HH:=hhd h
 clear h
 go_enter Tryz.func114,Tryz.ntmps114
 go_wp2_with (first
  | ((with_reducible refine zf (N:=2) rfl ?_);refine zR ?hg (N:=2) ?hd (cs:=#[.int .i64 k]) (t:=3) ?hr ?_;(case hd=>rfl);(case hg=>rfl);(case hr=>rfl);intro gk hg W0 I hb;have B0:=hhd I;have aD:=hhd hb;clear I hb hg)
  | ((with_reducible refine zf (N:=3) rfl ?_);refine zR ?hg (N:=3) ?hd (cs:=#[.int .i64 log]) (t:=3) ?hr ?_;(case hd=>rfl);(case hg=>rfl);(case hr=>rfl);intro gl hg W1 I hb;have B1:=hhd I;have B01:=za_ B0 hb;have aA:=zs_ aD hb;clear I hb hg aD B0)
  | ((with_reducible refine zf (N:=4) rfl ?_);refine zR ?hg (N:=4) ?hd (cs:=#[.int .i64 0,.int .i64 0]) (t:=38) ?hr ?_;(case hd=>rfl);(case hg=>rfl);(case hr=>rfl);intro g4 hg W2 I hb;have B2:=hhd I;have B12:=za_ B1 hb;have B02:=za_ B01 hb;have LG4:w.heap.size≤g4:=(by rw [hg];exact aA.out.size);have aE:=zs_ aA hb;clear I hb hg aA B1 B01)
  | (go_at_call 115;refine (zhj gl gk log k _ B12.out B02.out HH.out).mono ?_;rintro e W3 ⟨rfl,hb⟩;have B3:=za_ B2 hb;have aH:=zs_ aE hb;clear hb B2 aE)
  | ((with_reducible refine zo (t:=38) (p:=4) rfl ?_);refine zN rfl 38 _ _ rfl g4 #[.int .i64 0,.int .i64 0] rfl rfl 38 #[.int .i64 0,.int .i64 0] B3.out (zw _ _) rfl (zM _ _) ?_;intro W7 hq aG aC;have B7:=hhd hq;have aI:=hhd aC;clear hq aG aC))
 refine bodyPost_ret (zW rfl _ _ g4 38 #[.int .i64 0,.int .i64 0] (0,0) _ rfl B7.out Tryz.underlying38 rfl (zw _ _)) rfl ?_
 exact ⟨rfl,aI.out _ _ LG4 aH.out⟩
set_option maxRecDepth 100000 in
set_option maxHeartbeats 4000000 in
theorem zi9 (k log:Int) (r1 r2 r3 r4:Int) (w:World) (h1:0≤log) (h2:log≤6) (h3:0≤k) (h4:k≤2^log.toNat) (h:gain_Run.f 43757185469210200 (wrap64 (56593902016227522*k) / 2^log.toNat)=some (r1,r2,r3,r4)) :
  Calls Tryz.prog 114 #[.int .i64 k,.int .i64 log] w fun e w'=>e=.returned (.tuple #[.agg #[.int .i64 r1,.int .i64 r2],.int .i64 r4])∧Below w.heap.size w w':=by
 have HR:=hhd h
 have H4:=hhd h4
 clear h h4
 go_enter Tryz.func114,Tryz.ntmps114
 go_wp2_with (first
  | ((with_reducible refine zf (N:=2) rfl ?_);refine zR ?hg (N:=2) ?hd (cs:=#[.int .i64 k]) (t:=3) ?hr ?_;(case hd=>rfl);(case hg=>rfl);(case hr=>rfl);intro gk hg W0 I hb;have B0:=hhd I;have aD:=hhd hb;clear I hb hg)
  | ((with_reducible refine zf (N:=3) rfl ?_);refine zR ?hg (N:=3) ?hd (cs:=#[.int .i64 log]) (t:=3) ?hr ?_;(case hd=>rfl);(case hg=>rfl);(case hr=>rfl);intro gl hg W1 I hb;have B1:=hhd I;have B01:=za_ B0 hb;have aA:=zs_ aD hb;clear I hb hg aD B0)
  | ((with_reducible refine zf (N:=4) rfl ?_);refine zR ?hg (N:=4) ?hd (cs:=#[.int .i64 0,.int .i64 0]) (t:=38) ?hr ?_;(case hd=>rfl);(case hg=>rfl);(case hr=>rfl);intro g4 hg W2 I hb;have B2:=hhd I;have B12:=za_ B1 hb;have B02:=za_ B01 hb;have LG4:w.heap.size≤g4:=(by rw [hg];exact aA.out.size);have aE:=zs_ aA hb;clear I hb hg aA B1 B01)
  | (go_at_call 115;refine (zii gl gk log k r1 r2 r3 r4 _ B12.out B02.out h1 h2 h3 H4.out HR.out).mono ?_;rintro e W3 ⟨rfl,hb⟩;have B3:=za_ B2 hb;have aH:=zs_ aE hb;clear hb B2 aE)
  | ((with_reducible refine zo (t:=38) (p:=4) rfl ?_);refine zN rfl 38 _ _ rfl g4 #[.int .i64 r1,.int .i64 r2] rfl rfl 38 #[.int .i64 0,.int .i64 0] B3.out (zw _ _) rfl (zM _ _) ?_;intro W7 hq aG aC;have B7:=hhd hq;have aI:=hhd aC;clear hq aG aC))
 refine bodyPost_ret (zW rfl _ _ g4 38 #[.int .i64 r1,.int .i64 r2] (0,0) _ rfl B7.out Tryz.underlying38 rfl (zw _ _)) rfl ?_
 exact ⟨rfl,aI.out _ _ LG4 aH.out⟩
end Go.Proofs.YteieahbadclppaaGreat.P

namespace Go.Proofs.YteieahbadclppaaGreat.P
open Go.RowKit Go.Proofs.YteieahbadclppaaGreatW.PrintWords Go.Proofs.YteieahbadclppaaGreatW.PrintLast Go.Proofs.YteieahbadclppaaGreatW.PrintMore
attribute [local go_sem] zF zG zK zL zY zZ z9 zaa
set_option linter.unusedVariables false
set_option linter.unusedSimpArgs false
def circle_Eighth.f (a0:Int) (a1:Int):Option (Int×Int×Int) :=
 if a1 < 0∨a1 > 6∨a0 < 0∨a0 > 2^a1.toNat then some (0,0,1) else (gain_Run.f 43757185469210200 (wrap64 (56593902016227522*a0) / 2^a1.toNat)).bind fun r=>some (r.1,r.2.1,r.2.2.2)
theorem circle_Eighth.calls (a0:Int) (a1:Int) (r1:Int) (r2:Int) (r3:Int) (w:World) (h:circle_Eighth.f a0 a1=some (r1,r2,r3)) :
  Calls Tryz.prog 114 #[.int .i64 a0,.int .i64 a1] w fun e w'=>e=.returned (.tuple #[.agg #[.int .i64 r1,.int .i64 r2],.int .i64 r3])∧Below w.heap.size w w':=by
 unfold circle_Eighth.f at h
 by_cases hb:a1 < 0∨a1 > 6∨a0 < 0∨a0 > 2^a1.toNat
 ·rw [if_pos hb] at h
  simp only [Option.some.injEq,Prod.mk.injEq] at h
  obtain ⟨rfl,rfl,rfl⟩:=h
  exact zjZ a0 a1 w hb
 ·rw [if_neg hb] at h
  have n1:¬a1 < 0:=fun x=>hb (.inl x)
  have n2:¬a1 > 6:=fun x=>hb (.inr (.inl x))
  have n3:¬a0 < 0:=fun x=>hb (.inr (.inr (.inl x)))
  have n4:¬a0 > 2^a1.toNat:=fun x=>hb (.inr (.inr (.inr x)))
  clear hb
  obtain ⟨⟨x1,x2,x3,x4⟩,hx,hr⟩:=Option.bind_eq_some_iff.mp h
  clear h
  simp only [Option.some.injEq,Prod.mk.injEq] at hr
  obtain ⟨rfl,rfl,rfl⟩:=hr
  exact zi9 a0 a1 x1 x2 x3 x4 w (Int.not_lt.1 n1) (Int.not_lt.1 n2) (Int.not_lt.1 n3) (Int.not_lt.1 n4) hx

def roots_point.f (a0:Int) (a1:Int):Option (Int×Int):=if 0≤a0 then (if (wrap64 (2*a1)) < (shl .i64 1 a0) then ((circle_Eighth.f (wrap64 (2*a1)) a0).bind fun bt118=>(some (bt118.1,bt118.2.1))) else (if (wrap64 (2*a1)) > (shl .i64 1 a0) then ((circle_Eighth.f (wrap64 (2*(wrap64 ((shl .i64 1 a0) - a1)))) a0).bind fun bt122=>(some (bt122.2.1,bt122.1))) else ((circle_Eighth.f (shl .i64 1 a0) a0).bind fun bt126=>(some (bt126.1,bt126.1))))) else (none)
set_option maxHeartbeats 8000000 in
set_option maxRecDepth 100000 in
theorem roots_point.calls (a0:Int) (a1:Int) (r1:Int) (r2:Int) (w:World) (h:roots_point.f a0 a1=some (r1,r2)) :
  Calls Tryz.prog 108 #[.int .i64 a0,.int .i64 a1] w fun e w'=>e=.returned (.agg #[.int .i64 r1,.int .i64 r2])∧Below w.heap.size w w':=by
 have hu38:=Tryz.underlying38
 have HB:=Aside0.mk (Below.refl w.heap.size w)
 have H:(if 0≤a0 then (if (wrap64 (2*a1)) < (shl .i64 1 a0) then ((circle_Eighth.f (wrap64 (2*a1)) a0).bind fun bt118=>(some (bt118.1,bt118.2.1))) else (if (wrap64 (2*a1)) > (shl .i64 1 a0) then ((circle_Eighth.f (wrap64 (2*(wrap64 ((shl .i64 1 a0) - a1)))) a0).bind fun bt122=>(some (bt122.2.1,bt122.1))) else ((circle_Eighth.f (shl .i64 1 a0) a0).bind fun bt126=>(some (bt126.1,bt126.1))))) else (none))=some (r1,r2):=h
 clear h
 by_cases c3:0≤a0
 ·rw [if_pos c3] at H
  have c3b0:=eq_true c3
  have c3b1:decide (0≤a0)=true:=decide_eq_true c3
  clear c3
  obtain ⟨ji4,hji4⟩:∃j_:Int,(shl .i64 1 a0)=j_:=⟨_,rfl⟩
  replace H:(if (wrap64 (2*a1)) < (ji4) then ((circle_Eighth.f (wrap64 (2*a1)) a0).bind fun bt118=>(some (bt118.1,bt118.2.1))) else (if (wrap64 (2*a1)) > (ji4) then ((circle_Eighth.f (wrap64 (2*(wrap64 ((ji4) - a1)))) a0).bind fun bt122=>(some (bt122.2.1,bt122.1))) else ((circle_Eighth.f (ji4) a0).bind fun bt126=>(some (bt126.1,bt126.1)))))=some (r1,r2):=by first | (rw [hji4] at H;exact H) | (simp only [hji4] at H ⊢;exact H)
  have hji4_:(IntKind.i64.wrap (1*2^min a0.toNat 64))=ji4:=hji4
  have hji4z:a0≤64→(IntKind.i64.wrap (1*2^a0.toNat))=ji4:=zci hji4
  have hji4u:(IntKind.i64.wrap (2^min a0.toNat 64))=ji4:=by have h_:=hji4_;rw [Int.one_mul] at h_;exact h_
  have hji4v:a0≤64→(IntKind.i64.wrap (2^a0.toNat))=ji4:=fun hle_=>by have h_:=hji4z hle_;rw [Int.one_mul] at h_;exact h_
  have hji4y:(wrap64 (1*2^min a0.toNat 64))=ji4:=(zD _).symm.trans hji4_
  have hji4x:a0≤64→(wrap64 (1*2^a0.toNat))=ji4:=fun h_=>(zD _).symm.trans (hji4z h_)
  by_cases c5:(wrap64 (2*a1)) < (ji4)
  ·rw [if_pos c5] at H
   have c5b0:decide ((wrap64 (2*a1)) < (ji4))=true:=decide_eq_true c5
   clear c5
   replace H:=Option.bind_eq_some_iff.mp H
   obtain ⟨⟨t118,t119,t120⟩,A60,H⟩:=H
   replace H:(some (t118,t119))=some (r1,r2):=H
   have A6:=Aside0.mk A60
   clear A60
   simp only [Option.some.injEq,Prod.mk.injEq] at H
   obtain ⟨rfl,rfl⟩:=H
   go_enter Tryz.func108,Tryz.ntmps108
   go_wp2_with (first | ((with_reducible refine zf (N:=4) rfl ?_);refine ba_ 4 rfl #[.int .i64 0,.int .i64 0] 38 ?_;intro gb117 hg w7 I hb;have n0_:=Aside0.mk (zb (by repeat (first | (with_reducible first | exact HB.out | apply ze | apply zc | apply zg) | exact HB.out)) hb);have n1_:=Aside0.mk (I);have n2_:=Aside0.mk ((by rw [hg];exact (zi (by repeat (first | (with_reducible first | exact HB.out | apply ze | apply zc | apply zg) | exact HB.out))):w.heap.size≤gb117));have n3_:=Aside0.mk ((by rw [hg];exact (zi (by repeat (first | (with_reducible first | exact HB.out | apply ze | apply zc | apply zg) | exact HB.out))):w.heap.size≤gb117));clear HB;have HB:=n0_;have BK117:=n1_;have GW117:=n2_;have GE117:=n3_;clear n0_ n1_ n2_ n3_;clear hb I hg) | ((with_reducible refine zy (f:=114) rfl ?_);refine zO (some 23) rfl rfl Tryz.func114 (by kernel_rfl) rfl #[.int .i64 (wrap64 (2*a1)),.int .i64 a0] rfl (by (try simp only [List.map_toArray,List.map_cons,List.map_nil]);first | done | rfl | (simp only [List.length_drop,List.length_take];rfl)) ?_;(with_reducible refine (circle_Eighth.calls (wrap64 (2*a1)) a0 t118 t119 t120 _ A6.out).mono ?_);rintro e w8 ⟨rfl,hb⟩;refine ⟨_,rfl,?_⟩;have n0_:=Aside0.mk (zd (g:=gb117) (o:=.cells #[.int .i64 0,.int .i64 0] 38 (0,0)) (by (with_reducible repeat (first | refine zn ?_ _ | refine zu ?_ | refine zm ?_ _));exact BK117.out) hb);have n1_:=Aside0.mk (zb (by repeat (first | (with_reducible first | exact HB.out | apply ze | apply zc | apply zg | refine zp ?_ GE117.out) | exact HB.out)) hb);clear BK117;clear HB;have BK117:=n0_;have HB:=n1_;clear n0_ n1_;(try clear hb);(try clear hb2);(try clear hk);(try clear hi)) | ((with_reducible refine zf (N:=6) rfl ?_);refine ba_ 6 rfl #[.int .i64 0,.int .i64 0] 38 ?_;intro gb121 hg w9 I hb;have n0_:=Aside0.mk (zd (g:=gb117) (o:=.cells #[.int .i64 0,.int .i64 0] 38 (0,0)) (by (with_reducible repeat (first | refine zn ?_ _ | refine zu ?_ | refine zm ?_ _));exact BK117.out) hb);have n1_:=Aside0.mk (zb (by repeat (first | (with_reducible first | exact HB.out | apply ze | apply zc | apply zg | refine zp ?_ GE117.out) | exact HB.out)) hb);have n2_:=Aside0.mk (I);have n3_:=Aside0.mk ((by rw [hg];exact (zi (by repeat (first | (with_reducible first | exact HB.out | apply ze | apply zc | apply zg | refine zp ?_ GE117.out) | exact HB.out))):w.heap.size≤gb121));have n4_:=Aside0.mk ((by rw [hg];exact (zi (by repeat (first | (with_reducible first | exact HB.out | apply ze | apply zc | apply zg | refine zp ?_ GE117.out) | exact HB.out))):w.heap.size≤gb121));have n5_:=Aside0.mk ((by rw [hg];exact Nat.ne_of_lt (zj (g:=gb117) (o:=.cells #[.int .i64 0,.int .i64 0] 38 (0,0)) (by (with_reducible repeat (first | refine zn ?_ _ | refine zu ?_ | refine zm ?_ _));exact BK117.out)):gb117≠gb121));have n6_:=Aside0.mk ((by rw [hg];exact Nat.ne_of_gt (zj (g:=gb117) (o:=.cells #[.int .i64 0,.int .i64 0] 38 (0,0)) (by (with_reducible repeat (first | refine zn ?_ _ | refine zu ?_ | refine zm ?_ _));exact BK117.out)):gb121≠gb117));clear BK117;clear HB;have BK117:=n0_;have HB:=n1_;have BK121:=n2_;have GW121:=n3_;have GE121:=n4_;have NB117_121:=n5_;have NB121_117:=n6_;clear n0_ n1_ n2_ n3_ n4_ n5_ n6_;clear hb I hg;have hnb10:=NB121_117.out;have hnc10:=NB117_121.out;have hcz11_0:w9.cell? ⟨gb121,0,none⟩=some (.int .i64 0):=(za BK121.out 0).trans rfl;have hcz11_1:w9.cell? ⟨gb121,1,none⟩=some (.int .i64 0):=(za BK121.out 1).trans rfl;have hfz11_0:=zh BK121.out 0;have hfz11_1:=zh BK121.out 1;have hcz12_0:w9.cell? ⟨gb117,0,none⟩=some (.int .i64 0):=(za BK117.out 0).trans rfl;have hcz12_1:w9.cell? ⟨gb117,1,none⟩=some (.int .i64 0):=(za BK117.out 1).trans rfl;have hfz12_0:=zh BK117.out 0;have hfz12_1:=zh BK117.out 1))
   refine bodyPost_ret (results_cell_row rfl _ _ gb117 38 #[.int .i64 t118,.int .i64 t119] (0,0) _ rfl (by (with_reducible repeat (first | refine zn ?_ _ | refine zu ?_ | refine zm ?_ _));refine zQ (cs:=#[.int .i64 t118,.int .i64 0]) ?_ 1 _ rfl;(with_reducible repeat (first | refine zn ?_ _ | refine zu ?_ | refine zm ?_ _));refine zQ (cs:=#[.int .i64 0,.int .i64 0]) ?_ 0 _ rfl;(with_reducible repeat (first | refine zn ?_ _ | refine zu ?_ | refine zm ?_ _));refine zaI ?_ NB117_121.out _;(with_reducible repeat (first | refine zn ?_ _ | refine zu ?_ | refine zm ?_ _));refine zaI ?_ NB117_121.out _;(with_reducible repeat (first | refine zn ?_ _ | refine zu ?_ | refine zm ?_ _));exact BK117.out) Tryz.underlying38 rfl (by kernel_rfl)) rfl ?_
   exact ⟨by first | rfl | (simp [zq,zt] <;> rfl) | (simp only [← hji4];first | rfl | (simp [zq,zt] <;> rfl)) | (simp [*,zq,zt] <;> rfl),by repeat (first | (with_reducible first | exact HB.out | apply ze | apply zc | apply zg | refine zp ?_ GE117.out | refine zp ?_ GE121.out) | exact HB.out)⟩
  ·rw [if_neg c5] at H
   have c5b0:decide ((wrap64 (2*a1)) < (ji4))=false:=decide_eq_false c5
   clear c5
   by_cases c13:(wrap64 (2*a1)) > (ji4)
   ·rw [if_pos c13] at H
    have c13b0:decide ((ji4) < (wrap64 (2*a1)))=true:=decide_eq_true c13
    clear c13
    replace H:=Option.bind_eq_some_iff.mp H
    obtain ⟨⟨t122,t123,t124⟩,A140,H⟩:=H
    replace H:(some (t123,t122))=some (r1,r2):=H
    have A14:=Aside0.mk A140
    clear A140
    simp only [Option.some.injEq,Prod.mk.injEq] at H
    obtain ⟨rfl,rfl⟩:=H
    go_enter Tryz.func108,Tryz.ntmps108
    go_wp2_with (first | ((with_reducible refine zf (N:=4) rfl ?_);refine ba_ 4 rfl #[.int .i64 0,.int .i64 0] 38 ?_;intro gb117 hg w15 I hb;have n0_:=Aside0.mk (zb (by repeat (first | (with_reducible first | exact HB.out | apply ze | apply zc | apply zg) | exact HB.out)) hb);have n1_:=Aside0.mk (I);have n2_:=Aside0.mk ((by rw [hg];exact (zi (by repeat (first | (with_reducible first | exact HB.out | apply ze | apply zc | apply zg) | exact HB.out))):w.heap.size≤gb117));have n3_:=Aside0.mk ((by rw [hg];exact (zi (by repeat (first | (with_reducible first | exact HB.out | apply ze | apply zc | apply zg) | exact HB.out))):w.heap.size≤gb117));clear HB;have HB:=n0_;have BK117:=n1_;have GW117:=n2_;have GE117:=n3_;clear n0_ n1_ n2_ n3_;clear hb I hg) | ((with_reducible refine zy (f:=114) rfl ?_);refine zO (some 38) rfl rfl Tryz.func114 (by kernel_rfl) rfl #[.int .i64 (wrap64 (2*(wrap64 ((ji4) - a1)))),.int .i64 a0] rfl (by (try simp only [List.map_toArray,List.map_cons,List.map_nil]);first | done | (simp only [hji4];rfl) | rfl | (simp only [List.length_drop,List.length_take];rfl)) ?_;(with_reducible refine (circle_Eighth.calls (wrap64 (2*(wrap64 ((ji4) - a1)))) a0 t122 t123 t124 _ A14.out).mono ?_);rintro e w16 ⟨rfl,hb⟩;refine ⟨_,rfl,?_⟩;have n0_:=Aside0.mk (zd (g:=gb117) (o:=.cells #[.int .i64 0,.int .i64 0] 38 (0,0)) (by (with_reducible repeat (first | refine zn ?_ _ | refine zu ?_ | refine zm ?_ _));exact BK117.out) hb);have n1_:=Aside0.mk (zb (by repeat (first | (with_reducible first | exact HB.out | apply ze | apply zc | apply zg | refine zp ?_ GE117.out) | exact HB.out)) hb);clear BK117;clear HB;have BK117:=n0_;have HB:=n1_;clear n0_ n1_;(try clear hb);(try clear hb2);(try clear hk);(try clear hi)) | ((with_reducible refine zf (N:=8) rfl ?_);refine ba_ 8 rfl #[.int .i64 0,.int .i64 0] 38 ?_;intro gb125 hg w17 I hb;have n0_:=Aside0.mk (zd (g:=gb117) (o:=.cells #[.int .i64 0,.int .i64 0] 38 (0,0)) (by (with_reducible repeat (first | refine zn ?_ _ | refine zu ?_ | refine zm ?_ _));exact BK117.out) hb);have n1_:=Aside0.mk (zb (by repeat (first | (with_reducible first | exact HB.out | apply ze | apply zc | apply zg | refine zp ?_ GE117.out) | exact HB.out)) hb);have n2_:=Aside0.mk (I);have n3_:=Aside0.mk ((by rw [hg];exact (zi (by repeat (first | (with_reducible first | exact HB.out | apply ze | apply zc | apply zg | refine zp ?_ GE117.out) | exact HB.out))):w.heap.size≤gb125));have n4_:=Aside0.mk ((by rw [hg];exact (zi (by repeat (first | (with_reducible first | exact HB.out | apply ze | apply zc | apply zg | refine zp ?_ GE117.out) | exact HB.out))):w.heap.size≤gb125));have n5_:=Aside0.mk ((by rw [hg];exact Nat.ne_of_lt (zj (g:=gb117) (o:=.cells #[.int .i64 0,.int .i64 0] 38 (0,0)) (by (with_reducible repeat (first | refine zn ?_ _ | refine zu ?_ | refine zm ?_ _));exact BK117.out)):gb117≠gb125));have n6_:=Aside0.mk ((by rw [hg];exact Nat.ne_of_gt (zj (g:=gb117) (o:=.cells #[.int .i64 0,.int .i64 0] 38 (0,0)) (by (with_reducible repeat (first | refine zn ?_ _ | refine zu ?_ | refine zm ?_ _));exact BK117.out)):gb125≠gb117));clear BK117;clear HB;have BK117:=n0_;have HB:=n1_;have BK125:=n2_;have GW125:=n3_;have GE125:=n4_;have NB117_125:=n5_;have NB125_117:=n6_;clear n0_ n1_ n2_ n3_ n4_ n5_ n6_;clear hb I hg;have hnb18:=NB125_117.out;have hnc18:=NB117_125.out;have hcz19_0:w17.cell? ⟨gb125,0,none⟩=some (.int .i64 0):=(za BK125.out 0).trans rfl;have hcz19_1:w17.cell? ⟨gb125,1,none⟩=some (.int .i64 0):=(za BK125.out 1).trans rfl;have hfz19_0:=zh BK125.out 0;have hfz19_1:=zh BK125.out 1;have hcz20_0:w17.cell? ⟨gb117,0,none⟩=some (.int .i64 0):=(za BK117.out 0).trans rfl;have hcz20_1:w17.cell? ⟨gb117,1,none⟩=some (.int .i64 0):=(za BK117.out 1).trans rfl;have hfz20_0:=zh BK117.out 0;have hfz20_1:=zh BK117.out 1))
    refine bodyPost_ret (results_cell_row rfl _ _ gb117 38 #[.int .i64 t123,.int .i64 t122] (0,0) _ rfl (by (with_reducible repeat (first | refine zn ?_ _ | refine zu ?_ | refine zm ?_ _));refine zQ (cs:=#[.int .i64 t123,.int .i64 0]) ?_ 1 _ rfl;(with_reducible repeat (first | refine zn ?_ _ | refine zu ?_ | refine zm ?_ _));refine zQ (cs:=#[.int .i64 0,.int .i64 0]) ?_ 0 _ rfl;(with_reducible repeat (first | refine zn ?_ _ | refine zu ?_ | refine zm ?_ _));refine zaI ?_ NB117_125.out _;(with_reducible repeat (first | refine zn ?_ _ | refine zu ?_ | refine zm ?_ _));refine zaI ?_ NB117_125.out _;(with_reducible repeat (first | refine zn ?_ _ | refine zu ?_ | refine zm ?_ _));exact BK117.out) Tryz.underlying38 rfl (by kernel_rfl)) rfl ?_
    exact ⟨by first | rfl | (simp [zq,zt] <;> rfl) | (simp only [← hji4];first | rfl | (simp [zq,zt] <;> rfl)) | (simp [*,zq,zt] <;> rfl),by repeat (first | (with_reducible first | exact HB.out | apply ze | apply zc | apply zg | refine zp ?_ GE117.out | refine zp ?_ GE125.out) | exact HB.out)⟩
   ·rw [if_neg c13] at H
    have c13b0:decide ((ji4) < (wrap64 (2*a1)))=false:=decide_eq_false c13
    clear c13
    replace H:=Option.bind_eq_some_iff.mp H
    obtain ⟨⟨t126,t127,t128⟩,A210,H⟩:=H
    replace H:(some (t126,t126))=some (r1,r2):=H
    have A21:=Aside0.mk A210
    clear A210
    simp only [Option.some.injEq,Prod.mk.injEq] at H
    obtain ⟨rfl,rfl⟩:=H
    go_enter Tryz.func108,Tryz.ntmps108
    go_wp2_with (first | ((with_reducible refine zf (N:=4) rfl ?_);refine ba_ 4 rfl #[.int .i64 0,.int .i64 0] 38 ?_;intro gb117 hg w22 I hb;have n0_:=Aside0.mk (zb (by repeat (first | (with_reducible first | exact HB.out | apply ze | apply zc | apply zg) | exact HB.out)) hb);have n1_:=Aside0.mk (I);have n2_:=Aside0.mk ((by rw [hg];exact (zi (by repeat (first | (with_reducible first | exact HB.out | apply ze | apply zc | apply zg) | exact HB.out))):w.heap.size≤gb117));have n3_:=Aside0.mk ((by rw [hg];exact (zi (by repeat (first | (with_reducible first | exact HB.out | apply ze | apply zc | apply zg) | exact HB.out))):w.heap.size≤gb117));clear HB;have HB:=n0_;have BK117:=n1_;have GW117:=n2_;have GE117:=n3_;clear n0_ n1_ n2_ n3_;clear hb I hg) | ((with_reducible refine zy (f:=114) rfl ?_);refine zO (some 49) rfl rfl Tryz.func114 (by kernel_rfl) rfl #[.int .i64 ji4,.int .i64 a0] rfl (by (try simp only [List.map_toArray,List.map_cons,List.map_nil]);first | done | (simp only [hji4];rfl) | rfl | (simp only [List.length_drop,List.length_take];rfl)) ?_;(with_reducible refine (circle_Eighth.calls ji4 a0 t126 t127 t128 _ A21.out).mono ?_);rintro e w23 ⟨rfl,hb⟩;refine ⟨_,rfl,?_⟩;have n0_:=Aside0.mk (zd (g:=gb117) (o:=.cells #[.int .i64 0,.int .i64 0] 38 (0,0)) (by (with_reducible repeat (first | refine zn ?_ _ | refine zu ?_ | refine zm ?_ _));exact BK117.out) hb);have n1_:=Aside0.mk (zb (by repeat (first | (with_reducible first | exact HB.out | apply ze | apply zc | apply zg | refine zp ?_ GE117.out) | exact HB.out)) hb);clear BK117;clear HB;have BK117:=n0_;have HB:=n1_;clear n0_ n1_;(try clear hb);(try clear hb2);(try clear hk);(try clear hi)) | ((with_reducible refine zf (N:=10) rfl ?_);refine ba_ 10 rfl #[.int .i64 0,.int .i64 0] 38 ?_;intro gb129 hg w24 I hb;have n0_:=Aside0.mk (zd (g:=gb117) (o:=.cells #[.int .i64 0,.int .i64 0] 38 (0,0)) (by (with_reducible repeat (first | refine zn ?_ _ | refine zu ?_ | refine zm ?_ _));exact BK117.out) hb);have n1_:=Aside0.mk (zb (by repeat (first | (with_reducible first | exact HB.out | apply ze | apply zc | apply zg | refine zp ?_ GE117.out) | exact HB.out)) hb);have n2_:=Aside0.mk (I);have n3_:=Aside0.mk ((by rw [hg];exact (zi (by repeat (first | (with_reducible first | exact HB.out | apply ze | apply zc | apply zg | refine zp ?_ GE117.out) | exact HB.out))):w.heap.size≤gb129));have n4_:=Aside0.mk ((by rw [hg];exact (zi (by repeat (first | (with_reducible first | exact HB.out | apply ze | apply zc | apply zg | refine zp ?_ GE117.out) | exact HB.out))):w.heap.size≤gb129));have n5_:=Aside0.mk ((by rw [hg];exact Nat.ne_of_lt (zj (g:=gb117) (o:=.cells #[.int .i64 0,.int .i64 0] 38 (0,0)) (by (with_reducible repeat (first | refine zn ?_ _ | refine zu ?_ | refine zm ?_ _));exact BK117.out)):gb117≠gb129));have n6_:=Aside0.mk ((by rw [hg];exact Nat.ne_of_gt (zj (g:=gb117) (o:=.cells #[.int .i64 0,.int .i64 0] 38 (0,0)) (by (with_reducible repeat (first | refine zn ?_ _ | refine zu ?_ | refine zm ?_ _));exact BK117.out)):gb129≠gb117));clear BK117;clear HB;have BK117:=n0_;have HB:=n1_;have BK129:=n2_;have GW129:=n3_;have GE129:=n4_;have NB117_129:=n5_;have NB129_117:=n6_;clear n0_ n1_ n2_ n3_ n4_ n5_ n6_;clear hb I hg;have hnb25:=NB129_117.out;have hnc25:=NB117_129.out;have hcz26_0:w24.cell? ⟨gb129,0,none⟩=some (.int .i64 0):=(za BK129.out 0).trans rfl;have hcz26_1:w24.cell? ⟨gb129,1,none⟩=some (.int .i64 0):=(za BK129.out 1).trans rfl;have hfz26_0:=zh BK129.out 0;have hfz26_1:=zh BK129.out 1;have hcz27_0:w24.cell? ⟨gb117,0,none⟩=some (.int .i64 0):=(za BK117.out 0).trans rfl;have hcz27_1:w24.cell? ⟨gb117,1,none⟩=some (.int .i64 0):=(za BK117.out 1).trans rfl;have hfz27_0:=zh BK117.out 0;have hfz27_1:=zh BK117.out 1))
    refine bodyPost_ret (results_cell_row rfl _ _ gb117 38 #[.int .i64 t126,.int .i64 t126] (0,0) _ rfl (by (with_reducible repeat (first | refine zn ?_ _ | refine zu ?_ | refine zm ?_ _));refine zQ (cs:=#[.int .i64 t126,.int .i64 0]) ?_ 1 _ rfl;(with_reducible repeat (first | refine zn ?_ _ | refine zu ?_ | refine zm ?_ _));refine zQ (cs:=#[.int .i64 0,.int .i64 0]) ?_ 0 _ rfl;(with_reducible repeat (first | refine zn ?_ _ | refine zu ?_ | refine zm ?_ _));refine zaI ?_ NB117_129.out _;(with_reducible repeat (first | refine zn ?_ _ | refine zu ?_ | refine zm ?_ _));refine zaI ?_ NB117_129.out _;(with_reducible repeat (first | refine zn ?_ _ | refine zu ?_ | refine zm ?_ _));exact BK117.out) Tryz.underlying38 rfl (by kernel_rfl)) rfl ?_
    exact ⟨by first | rfl | (simp [zq,zt] <;> rfl) | (simp only [← hji4];first | rfl | (simp [zq,zt] <;> rfl)) | (simp [*,zq,zt] <;> rfl),by repeat (first | (with_reducible first | exact HB.out | apply ze | apply zc | apply zg | refine zp ?_ GE117.out | refine zp ?_ GE129.out) | exact HB.out)⟩
 ·rw [if_neg c3] at H
  exact absurd H (by simp)

def cx_Conj.f (a0:Int) (a1:Int):Option (Int×Int×Int) :=
 if zbX ⟨a0,a1⟩=true then some (a0,wrap64 (-a1),0) else some (0,0,2)
theorem cx_Conj.calls (a0:Int) (a1:Int) (r1:Int) (r2:Int) (r3:Int) (w:World) (h:cx_Conj.f a0 a1=some (r1,r2,r3)) :
  Calls Tryz.prog 58 #[.agg #[.int .i64 a0,.int .i64 a1]] w fun e w'=>e=.returned (.tuple #[.agg #[.int .i64 r1,.int .i64 r2],.int .i64 r3])∧Below w.heap.size w w':=by
 unfold cx_Conj.f at h
 by_cases hm:zbX ⟨a0,a1⟩=true
 ·rw [if_pos hm] at h
  simp only [Option.some.injEq,Prod.mk.injEq] at h
  obtain ⟨rfl,rfl,rfl⟩:=h
  exact zfk ⟨a0,a1⟩ hm w
 ·rw [if_neg hm] at h
  simp only [Option.some.injEq,Prod.mk.injEq] at h
  obtain ⟨rfl,rfl,rfl⟩:=h
  exact zmi ⟨a0,a1⟩ (by simpa using hm) w

def cx_Turn.f (a0:Int) (a1:Int) (a2:Int):Option (Int×Int×Int) :=
 if zbX ⟨a0,a1⟩=true then some ((zal a0 a1 (zaX a2)).1,(zal a0 a1 (zaX a2)).2,0) else some (0,0,2)
theorem cx_Turn.calls (a0:Int) (a1:Int) (a2:Int) (r1:Int) (r2:Int) (r3:Int) (w:World) (h:cx_Turn.f a0 a1 a2=some (r1,r2,r3)) :
  Calls Tryz.prog 96 #[.agg #[.int .i64 a0,.int .i64 a1],.int .i64 a2] w fun e w'=>e=.returned (.tuple #[.agg #[.int .i64 r1,.int .i64 r2],.int .i64 r3])∧Below w.heap.size w w':=by
 unfold cx_Turn.f at h
 by_cases hm:zbX ⟨a0,a1⟩=true
 ·rw [if_pos hm] at h
  simp only [Option.some.injEq,Prod.mk.injEq] at h
  obtain ⟨rfl,rfl,rfl⟩:=h
  exact zeb ⟨a0,a1⟩ a2 hm w
 ·rw [if_neg hm] at h
  simp only [Option.some.injEq,Prod.mk.injEq] at h
  obtain ⟨rfl,rfl,rfl⟩:=h
  exact zmj ⟨a0,a1⟩ a2 (by simpa using hm) w

end Go.Proofs.YteieahbadclppaaGreat.P

