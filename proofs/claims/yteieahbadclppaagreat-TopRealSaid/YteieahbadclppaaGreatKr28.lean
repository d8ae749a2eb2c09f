/- Part 28 of 36 of the proof: the texts that it reaches, one behind the other. No condition. -/
import Derived.Test.YteieahbadclppaaGreatKr25
import Derived.RangeFuncBox
namespace Go.Proofs.YteieahbadclppaaGreat.P
open Go.RowKit Go.Shelf Go.Proofs.YteieahbadclppaaGreatW.PrintWords Go.Proofs.YteieahbadclppaaGreatW.PrintLast Go.Proofs.YteieahbadclppaaGreatW.PrintMore
attribute [local go_sem] Oper.semAt_some
set_option linter.unusedVariables false
set_option linter.unusedSimpArgs false
def zB (l:List S38) (fr by_:Nat):Nat→List S38
 | 0=>[]
 | k+1=>zB l fr by_ k++[zk l ((fr+k*by_:Nat):Int)]
theorem zP (l:List S38) (fr by_:Nat):∀k,(zB l fr by_ k).length=k
 | 0=>rfl
 | k+1=>by rw [zB,List.length_append,zP l fr by_ k];rfl
def zd5 (s A B C:Nat) (W W':World):Prop:=Below s W W'∧W'.heap[A]?=W.heap[A]?∧W'.heap[B]?=W.heap[B]?∧W'.heap[C]?=W.heap[C]?
theorem zlB {s A B C:Nat} {X Y Z:World} (h:zd5 s A B C X Y) (k:zd5 s A B C Y Z):zd5 s A B C X Z:=⟨h.1.trans k.1,k.2.1.trans h.2.1,k.2.2.1.trans h.2.2.1,k.2.2.2.trans h.2.2.2⟩
theorem zlC {s A B C:Nat} {w:World} (hs:s≤w.heap.size) (hA:A < w.heap.size) (hB:B < w.heap.size) (hC:C < w.heap.size) (W:World) (l:Nat) (o o':Obj) (hl:w.heap.size≤l) (h1:W.heap[l]?=some o) (h2:o.isCells=false) (h3:o.isWalk=false):zd5 s A B C W (W.putObj l o') :=
 ⟨(Below.refl s W).grown (grownBy_putObj' W l o') (by have:=(Array.getElem?_eq_some_iff.1 h1).1;omega) (fun k e=>by cases e;omega),World.putObj_heap_other (by omega),World.putObj_heap_other (by omega),World.putObj_heap_other (by omega)⟩
theorem zlD {n a b:Nat} (h:a < b) (hb:b≤n):n - (intOf (.int .i64 (b:Int))).toNat < n - (intOf (.int .i64 (a:Int))).toNat:=by
 simp [intOf];omega
set_option maxRecDepth 100000 in
set_option maxHeartbeats 4000000 in
theorem zks (n:Nat) (hn:1≤n) (lY Bf Bx Bb s:Nat) (A:Option Addr) (c:Nat) (l:List S38) (fr by_ N:Nat) (w0:World) (hs:s=w0.heap.size) (hC:Kd.C k38 w0 A l.length l) (hl:l.length≤64) (hfr:fr≤64) (hby:1≤by_) (hby2:by_≤64) (hN1:∀k,k < N→fr+k*by_ < l.length) (hN2:l.length≤fr+N*by_) (J Jx:List S38→World→Prop)
  (hJb:∀pre W W',J pre W→Below W.heap.size W W'→J pre W')
  (hY:∀pre x W,J pre W→pre.length < N→YieldAt Fence.wide (n - 1) Tryz.prog lY #[.agg #[.int .i64 x.f0,.int .i64 x.f1]] W fun e W' =>
   (e=.returned (.bool true)∧J (pre++[x]) W'∧zd5 s Bf Bx Bb W W')∨(e=.returned (.bool false)∧Jx (pre++[x]) W'))
  (W:World) (hW:Below s w0 W) (hbf:W.heap[Bf]?=some (.cells #[.int .i64 fr] 3 (0,0))) (hbx:W.heap[Bx]?=some (.cells #[.slice A l.length c] 22 (0,0))) (hbb:W.heap[Bb]?=some (.cells #[.int .i64 by_] 3 (0,0))) (h0:J [] W) :
  CallsIn Fence.wide n Tryz.prog 103 #[.func (.yield lY) #[] #[],.pointer (some ⟨Bf,0,none⟩),.pointer (some ⟨Bx,0,none⟩),.pointer (some ⟨Bb,0,none⟩)] W fun e W'=>(∃v,e=.returned v) ∧
   ((∃ys,ys=zB l fr by_ N∧J ys W')∨(∃pre,True∧Jx pre W')):=by
 have k0:W.cell? ⟨Bf,0,none⟩=some (.int .i64 fr):=(za hbf 0).trans rfl
 have HC:=hhd hC
 have HW:=hhd hW
 have HL:=hhd hl
 have I:=hhd hby
 have aA:=hhd hby2
 have HN1:=hhd hN1
 have HN2:=hhd hN2
 have HFR:=hhd hfr
 have H1:=hhd hbf
 have H2:=hhd hbx
 have H3:=hhd hbb
 clear hC hW hl hby hby2 hN1 hN2 hfr hbf hbx hbb
 refine callsIn_of_wp Tryz.func103 rfl trivial ?_ rfl
 simp only [Tryz.ntmps103,List.size_toArray,List.length_cons,List.length_nil,Nat.reduceAdd,Nat.reduceSub,Array.replicate_succ,Array.replicate_zero,List.push_toArray,List.append_toArray,List.nil_append,List.cons_append]
 gi_wp2
 clear k0
 gi_loopw [5] (fun v5 wr=>∃(k:Nat),k≤N∧v5=.int .i64 ((fr+k*by_:Nat):Int)∧J (zB l fr by_ k) wr∧Below s w0 wr∧wr.heap[Bf]?=some (.cells #[.int .i64 fr] 3 (0,0))∧wr.heap[Bx]?=some (.cells #[.slice A l.length c] 22 (0,0))∧wr.heap[Bb]?=some (.cells #[.int .i64 by_] 3 (0,0))) (fun v5 _=>(fr+N*by_) - (intOf v5).toNat)
 case atStart=>exact ⟨0,by omega,by simp,h0,HW.out,H1.out,H2.out,H3.out⟩
 case round =>
  obtain ⟨k,hk,rfl,hJk,hbk,q1,q2,q3⟩:=hrel
  have HJ:=hhd hJk
  have HBK:=hhd hbk
  have Q1:=hhd q1
  have Q2:=hhd q2
  have Q3:=hhd q3
  have kx:wr.cell? ⟨Bx,0,none⟩=some (.slice A l.length c):=(za q2 0).trans rfl
  have HST:=hhd (show zB l fr by_ (k+1)=zB l fr by_ k++[zk l ((fr+k*by_:Nat):Int)] from rfl)
  have HNX:=hhd (show fr+(k+1)*by_=fr+k*by_+by_ by rw [Nat.succ_mul];omega)
  clear hJk hbk q1 q2 q3 HW h0 H1 H2 H3
  by_cases hlt:k < N
  ·have hi:=HN1.out k hlt
   have HIL:=hhd (show fr+(k+1)*by_≤fr+N*by_ from Nat.add_le_add_left (Nat.mul_le_mul_right _ hlt) _)
   obtain ⟨ad,rfl,g0,g1⟩:=zag HC.out ((fr+k*by_:Nat):Int) (by omega) (by omega)
   generalize hix:fr+k*by_=ix at *
   rw [Int.toNat_natCast] at g0 g1
   replace g0:=(HBK.out.cell (by rw [hs];exact World.block_lt_of_cell? w0 _ g0)).trans g0
   replace g1:=(HBK.out.cell (by rw [hs];exact World.block_lt_of_cell? w0 _ g1)).trans g1
   have c1:(↑ix:Int) < ↑l.length:=by omega
   have hlen:(zB l fr by_ k).length < N:=by rw [zP];exact hlt
   have HLT:=hhd hlt
   generalize zk l (ix:Int)=x at *
   obtain ⟨fn,tmps,assign,body,hy,hR⟩:=hY _ x wr HJ.out hlen
   gi_wp2
   refine hR.mono ?_
   rintro e W3 (⟨rfl,hJ3,hk3⟩ | ⟨rfl,hJx3⟩)
   ·have HK3:=hhd hk3
    have HJ3:=hhd hJ3
    have kb:W3.cell? ⟨Bb,0,none⟩=some (.int .i64 by_):=(za (hk3.2.2.2.trans Q3.out) 0).trans rfl
    have hw1:wrap64 (↑ix+↑by_)=((ix+by_:Nat):Int):=by rw [zv (by omega) (by have:=HL.out;have:=aA.out;omega)];omega
    clear hR hy hk3 hJ3
    gi_wp2
    go_roundw
    case rel=>exact ⟨k+1,HLT.out,by rw [hw1,HNX.out],by rw [HST.out];exact HJ3.out,HBK.out.trans HK3.out.1,HK3.out.2.1.trans Q1.out,HK3.out.2.2.1.trans Q2.out,HK3.out.2.2.2.trans Q3.out⟩
    case measure=>rw [hw1];exact zlD (by have:=I.out;omega) (by rw [← HNX.out];exact HIL.out)
   ·gi_wp2
    refine bodyPost_ret (results_none rfl _ _ _) rfl ?_
    exact ⟨⟨_,rfl⟩,.inr ⟨_,trivial,hJx3⟩⟩
  ·obtain rfl:k=N:=Nat.le_antisymm hk (Nat.le_of_not_lt hlt)
   have c1:¬(((fr+k*by_:Nat):Int) < ↑l.length):=by have:=HN2.out;omega
   gi_wp2
   go_end0
   exact ⟨⟨_,rfl⟩,.inl HJ.out⟩
theorem ziq (n:Nat) (hn:1≤n) (Bf Bx Bb s:Nat) (A:Option Addr) (c:Nat) (l:List S38) (fr by_ N:Nat) (w0 w:World) (hs:s=w0.heap.size) (hC:Kd.C k38 w0 A l.length l) (hl:l.length≤64) (hfr:fr≤64) (hby:1≤by_) (hby2:by_≤64) (hN1:∀k,k < N→fr+k*by_ < l.length) (hN2:l.length≤fr+N*by_) (hw:Below s w0 w)
  (hbf:w.heap[Bf]?=some (.cells #[.int .i64 fr] 3 (0,0))) (hbx:w.heap[Bx]?=some (.cells #[.slice A l.length c] 22 (0,0))) (hbb:w.heap[Bb]?=some (.cells #[.int .i64 by_] 3 (0,0))) :
  SeqStopsK Fence.wide n Tryz.prog 103 #[.pointer (some ⟨Bf,0,none⟩),.pointer (some ⟨Bx,0,none⟩),.pointer (some ⟨Bb,0,none⟩)] (fun x:S38=>#[Value.agg #[.int .i64 x.f0,.int .i64 x.f1]]) (zd5 s Bf Bx Bb) (fun ys=>ys=zB l fr by_ N) (fun _=>True) N w:=fun lY J Jx W hW hJ _ hY h0 =>
 zks n hn lY Bf Bx Bb s A c l fr by_ N w0 hs hC hl hfr hby hby2 hN1 hN2 J Jx (fun pre X Y h hXY=>hJ _ _ _ none h (zaZ hXY none) (fun r e=>by cases e)) hY W (hw.trans (hW.mono (by rw [hs];exact hw.size))) (zd hbf hW) (zd hbx hW) (zd hbb hW) h0
set_option maxRecDepth 100000 in
set_option maxHeartbeats 4000000 in
theorem zeR (A:Option Addr) (n c:Nat) (fr by_:Int) (w:World) :
  Calls Tryz.prog 72 #[.slice A n c,.int .i64 fr,.int .i64 by_] w fun e w'=>∃g1 g2 g3,e=.returned (.func (.func 103) #[] #[.pointer (some ⟨g1,0,none⟩),.pointer (some ⟨g2,0,none⟩),.pointer (some ⟨g3,0,none⟩)])∧w'.heap[g1]?=some (.cells #[.int .i64 fr] 3 (0,0))∧w'.heap[g2]?=some (.cells #[.slice A n c] 22 (0,0))∧w'.heap[g3]?=some (.cells #[.int .i64 by_] 3 (0,0))∧w.heap.size≤g1∧w.heap.size≤g2∧w.heap.size≤g3∧Below w.heap.size w w':=by
 have aT:=hhd (Below.refl w.heap.size w)
 go_enter Tryz.func72,Tryz.ntmps72
 go_wp2_with (first
  | ((with_reducible refine zf (N:=3) rfl ?_);refine bb_ 3 rfl aT #[.slice A n c] 22 ?_;intro g3 W1 hg I L3 aA aM;have aC:=bk1 aA;clear I hg)
  | ((with_reducible refine zf (N:=4) rfl ?_);refine bb_ 4 rfl aM #[.int .i64 fr] 3 ?_;intro g4 W2 hg I L4 aD aN;have aE:=za_ aA I;have aG:=bk1 aE;clear aC;have aH:=bk1 aD;clear I hg)
  | ((with_reducible refine zf (N:=5) rfl ?_);refine bb_ 5 rfl aN #[.int .i64 by_] 3 ?_;intro g5 W3 hg I L5 aI aQ;have aJ:=za_ aE I;have aK:=za_ aD I;have aU:=bk1 aJ;have aV:=bk1 aK;clear aG aH;have aW:=bk1 aI;clear I hg))
 go_ret
 exact ⟨g4,g3,g5,rfl,aK.out,aJ.out,aI.out,L4,L3,L5,aQ.out⟩
def zjl (g2 Bf Bx Bb:Nat) (A:Option Addr) (n c fr by_:Nat) (w:World) (pre:List S38) (W:World):Prop :=
 (∃A1 c1,W.heap[g2]?=some (.cells #[.slice A1 pre.length c1] 22 (0,0))∧Kd.R k38 38 W w.heap.size (fun _=>True) (.slice A1 pre.length c1) pre) ∧
 W.heap[Bf]?=some (.cells #[.int .i64 fr] 3 (0,0))∧W.heap[Bx]?=some (.cells #[.slice A n c] 22 (0,0))∧W.heap[Bb]?=some (.cells #[.int .i64 by_] 3 (0,0))∧Below w.heap.size w W
theorem zfW {g2 Bf Bx Bb:Nat} {A:Option Addr} {n c fr by_:Nat} {w:World} {pre:List S38} {W W':World} {row:Option Nat} (h:zjl g2 Bf Bx Bb A n c fr by_ w pre W) (hg:W.grownBy W' row) (hr:∀r,row=some r→w.heap.size≤r∧∃o:Obj,W.heap[r]?=some o∧o.isCells=false):zjl g2 Bf Bx Bb A n c fr by_ w pre W':=by
 obtain ⟨⟨A1,c1,h1,h2⟩,h3,h4,h5,h6⟩:=h
 have hr2:∀r,row=some r→∃o:Obj,W.heap[r]?=some o∧o.isCells=false:=fun r e=>(hr r e).2
 exact ⟨⟨A1,c1,za0 h1 hg hr2,ze3 h2 hg hr2⟩,za0 h3 hg hr2,za0 h4 hg hr2,za0 h5 hg hr2,h6.grown hg h6.size (fun k e=>(hr k e).1)⟩
theorem zlE {g2 Bf Bx Bb:Nat} {A:Option Addr} {n c fr by_:Nat} {w I:World} (hB:w.heap.size≤I.heap.size):OwnFrom I.heap.size (zjl g2 Bf Bx Bb A n c fr by_ w) :=
 fun pre W W' row h hg hr=>zfW h hg (fun r e=>⟨Nat.le_trans hB (hr r e).1,(hr r e).2⟩)
theorem zc3 {B:Nat} {W W':World} {row:Option Nat} (hg:W.grownBy W' row) (hr:∀r,row=some r→∃cs t fr,W.heap[r]?=some (.cells cs t fr)):KeepsFrom B W W' :=
 ⟨hg.size,fun k o _ hk ho=>(hg.block k (Array.getElem?_eq_some_iff.1 hk).1 (fun e=>by
  obtain ⟨cs,t,fr,h⟩:=hr k e.symm
  rw [hk] at h;cases h;cases ho)).trans hk⟩
set_option maxRecDepth 100000 in
set_option maxHeartbeats 4000000 in
theorem zgT (Bf Bx Bb:Nat) (A:Option Addr) (c:Nat) (l:List S38) (fr by_ N:Nat) (w:World) (hC:Kd.C k38 w A l.length l) (hl:l.length≤64) (hfr:fr≤64) (hby:1≤by_) (hby2:by_≤64) (hN:N≤64) (hN1:∀k,k < N→fr+k*by_ < l.length) (hN2:l.length≤fr+N*by_)
  (hbf:w.heap[Bf]?=some (.cells #[.int .i64 fr] 3 (0,0))) (hbx:w.heap[Bx]?=some (.cells #[.slice A l.length c] 22 (0,0))) (hbb:w.heap[Bb]?=some (.cells #[.int .i64 by_] 3 (0,0))) :
  Calls Tryz.prog 102 #[.slice none 0 0,.func (.func 103) #[] #[.pointer (some ⟨Bf,0,none⟩),.pointer (some ⟨Bx,0,none⟩),.pointer (some ⟨Bb,0,none⟩)]] w fun e w'=>∃v,e=.returned v∧Kd.R k38 38 w' w.heap.size (fun _=>True) v (zB l fr by_ N)∧Below w.heap.size w w':=by
 have hmx:Tryz.prog.follows .mixedOrders=true:=by kernel_rfl
 have HC:=hhd hC
 have HL:=hhd (And.intro hl (And.intro hfr (And.intro hby hby2)))
 have HN:=hhd hN
 have HN1:=hhd hN1
 have HN2:=hhd hN2
 have H1:=hhd hbf
 have H2:=hhd hbx
 have H3:=hhd hbb
 have aN:=hhd (Below.refl w.heap.size w)
 clear hC hl hfr hby hby2 hN hN1 hN2 hbf hbx hbb
 refine (callsIn_wide (n:=10)).1 ?_
 refine callsIn_of_wp_marks Tryz.func102 rfl trivial ?_ rfl
 simp only [Tryz.ntmps102,List.size_toArray,List.length_cons,List.length_nil,Nat.reduceAdd,Nat.reduceSub,Array.replicate_succ,Array.replicate_zero,List.push_toArray,List.append_toArray,List.nil_append,List.cons_append]
 refine wpIn_wide.2 ?_
 go_wp2_with (first
  | ((with_reducible refine zf (N:=2) rfl ?_);refine bb_ 2 rfl aN #[.slice none 0 0] 22 ?_;intro g2 W1 hg aC L2 aD I;have aQ:=bk1 aD;have HBL:=hhd aC;clear aC hg))
 refine (wpIn_wide (n:=10)).1 ?_
 have LW:w.heap.size≤W1.heap.size:=zi I
 refine wpIn_rangeFunc_ownH rfl (by decide) (gf:=103) (lb:=#[.pointer (some ⟨Bf,0,none⟩),.pointer (some ⟨Bx,0,none⟩),.pointer (some ⟨Bb,0,none⟩)]) rfl trivial (enters_of Tryz.func103 (by kernel_rfl) rfl)
  (ziq 9 (by decide) Bf Bx Bb w.heap.size A c l fr by_ N w W1 rfl HC.out HL.out.1 HL.out.2.1 HL.out.2.2.1 HL.out.2.2.2 HN1.out HN2.out I.out (zd H1 HBL) (zd H2 HBL) (zd H3 HBL)) zlB (zlC LW (Nat.lt_of_lt_of_le (zj H1) LW) (Nat.lt_of_lt_of_le (zj H2) LW) (Nat.lt_of_lt_of_le (zj H3) LW)) (Below.refl _ _) (fun _=>rfl)
  (fun pre W=>zjl g2 Bf Bx Bb A l.length c fr by_ w pre W)
  (fun _ _ _=>False)
  (zlE LW)
  (fun _ _ _ _ _ hs _ _=>hs)
  ⟨⟨none,0,aD.out,Kd.R_nil k38 38 _ _ _⟩,zd H1 HBL,zd H2 HBL,zd H3 HBL,I.out⟩
  (fun x a' W=>∃g5,w.heap.size≤g5∧g5≠g2∧W.heap[g5]?=some (.cells #[.int .i64 x.f0,.int .i64 x.f1] 38 (0,0))∧a'={ tmps:=#[.slice none 0 0,.func (.func 103) #[] #[.pointer (some ⟨Bf,0,none⟩),.pointer (some ⟨Bx,0,none⟩),.pointer (some ⟨Bb,0,none⟩)],.pointer (some ⟨g2,0,none⟩),undef,.slice none 0 0,.pointer (some ⟨g5,0,none⟩),.func (.func 103) #[] #[.pointer (some ⟨Bf,0,none⟩),.pointer (some ⟨Bx,0,none⟩),.pointer (some ⟨Bb,0,none⟩)],.agg #[.int .i64 x.f0,.int .i64 x.f1],undef,undef,undef,undef,undef],defers:=[] })
  (fun x a' _ X Y row hs hg hr=>by obtain ⟨g5,h1,hn,h2,h3⟩:=hs;exact ⟨g5,h1,hn,za0 h2 hg (fun r e=>(hr r e).2),h3⟩)
  ?assign ?body ?done ?stop
 case assign =>
  rintro lY pre x W K hI hK
  have HI:=hhd hI
  have HKK:=hhd hK
  clear hI hK
  have HBs:=hhd (Below.refl W.heap.size W)
  refine zca (by kernel_rfl) (fun ⟨_,_,q⟩=>q) ?_
  simp only [List.zip_toArray,List.zip_cons_cons,List.zip_nil_right,List.size_toArray,List.length_cons,List.length_nil,List.foldl_toArray',List.foldl_cons,List.foldl_nil,zzA,zzC,zzB]
  go_wp2_with (first
  | ((with_reducible refine zf (N:=5) rfl ?_);refine ba_ 5 rfl #[.int .i64 0,.int .i64 0] 38 ?_;intro g5 hg V1 aE aC;have L5:W.heap.size≤g5:=(by rw [hg];exact zi HBs);have aG:=hhd aE;have I:=zs_ HBs aC;obtain ⟨aH,aI⟩:=bk2 aG;clear aE aC hg)
  | ((with_reducible refine zo (t:=38) (p:=5) rfl ?_);refine re_ 38 5 rfl #[.int .i64 x.f0,.int .i64 x.f1] aG L5 I ?_;intro V2 aA aJ aM;clear aH aI;obtain ⟨aT,aU⟩:=bk2 aJ;clear aA))
  have hB:Below W.heap.size W V2:=aM.out
  have hsz:=HI.out.2.2.2.2.size
  refine HKK.out _ _ (zc3 (zaZ hB none) (fun r e=>by cases e)) ⟨hB.mono hsz,hB.block _ (zj HI.out.2.1),hB.block _ (zj HI.out.2.2.1),hB.block _ (zj HI.out.2.2.2.1)⟩ (zfW HI.out (zaZ hB none) (fun r e=>by cases e)) ⟨g5,Nat.le_trans hsz L5,?_,aJ.out,rfl⟩
  obtain ⟨⟨A1,c1,h2,_⟩,_⟩:=HI.out
  have:=zj h2
  omega
 case body =>
  rintro lY pre x a' W hl ⟨r,hr⟩ ⟨⟨A1,c1,h2,hR⟩,h3,h4,h5,hB⟩ ⟨g5,hg5,hn5,b5,rfl⟩ hlt
  have k2:W.cell? ⟨g2,0,none⟩=some (.slice A1 pre.length c1):=(za h2 0).trans rfl
  have kx0:W.cell? ⟨g5,0,none⟩=some (.int .i64 x.f0):=(za b5 0).trans rfl
  have kx1:W.cell? ⟨g5,1,none⟩=some (.int .i64 x.f1):=(za b5 1).trans rfl
  have E2:=hhd h2
  have ER:=hhd hR
  have E3:=hhd h3
  have E4:=hhd h4
  have E5:=hhd h5
  have EB:=hhd hB
  have HLT:=hhd hlt
  have NF:=hhd (show Bf≠g2 from fun e=>by have:=zj H1;omega)
  have NX:=hhd (show Bx≠g2 from fun e=>by have:=zj H2;omega)
  have NB:=hhd (show Bb≠g2 from fun e=>by have:=zj H3;omega)
  clear h2 hR h3 h4 h5 hB hlt b5
  refine wpIn_block ?_
  refine zca (by kernel_rfl) (fun ⟨_,_,q⟩=>q) ?_
  go_wp2_with (first
   | ((with_reducible refine zaw (b:=.append) (xs:=#[.tmp 8,.tmp 10]) rfl ?_);at_builtin;refine Kd.R_append k38 (w0:=w) w.heap.size rfl (.tmp 8) (.tmp 10) 22 38 (.agg #[(.int .i64 0),(.int .i64 0)]) 16 rfl Tryz.underlying22 zbF rfl (by decide) (by omega) (.slice A1 pre.length c1) pre x [.int .i64 x.f0,.int .i64 x.f1] (fun _=>True) (fun _=>False) rfl rfl ?aP (fun _ hk=>hk.elim) ?aF ?aO ?aB ?aS ?aL ?_;(case aP=>exact zaA _ _ _ x);(case aB=>exact EB.out);(case aF=>exact (fun _ _=>trivial));(case aO=>exact ER.out);(case aS=>exact zi EB);(case aL=>have:=HN.out;have:=HLT.out;omega);intro v11 V1 ho hb hg hat;obtain ⟨A2,c2,ev⟩:=Kd.R_slice ho;subst ev;have HO:=hhd ho;have HBV:=hhd hb;have HG:=hhd hg;have F2:=hhd ((hg.block g2 (zj E2) (Kd.R_ne ER.out E2.out (by decide))).trans E2.out);have f2:=(za F2 0).trans rfl;clear ho hb hg hat k2 kx0 kx1)
   | ((with_reducible refine zo (t:=22) (p:=2) rfl ?_);refine zee rfl rfl 22 _ _ rfl g2 (.slice A2 (pre++[x]).length c2) rfl rfl 22 _ F2.out zhu rfl rfl ?_;intro V2 hq aA aK;have G2:=hhd hq;have HOT:=hhd aA;have HBE:=hhd aK;clear hq aA aK f2))
  have bf:=(HG.out.block Bf (zj E3) (Kd.R_ne ER.out E3.out (by decide)))
  have bx:=(HG.out.block Bx (zj E4) (Kd.R_ne ER.out E4.out (by decide)))
  have bb:=(HG.out.block Bb (zj E5) (Kd.R_ne ER.out E5.out (by decide)))
  have hWs:Below w.heap.size W V1:=(Below.refl _ W).grown HG.out EB.out.size (fun k e=>Kd.R_base ER.out k e)
  refine ⟨KeepsFrom.trans (zc3 HG.out (fun r e=>by obtain ⟨cs,hc⟩:=Kd.R_typed ER.out r e;exact ⟨_,_,_,hc⟩)) ⟨(HBE.out 0 V1 (Nat.zero_le _) (Below.refl _ _)).size,fun k o _ hk ho=>(HOT.out k (fun e=>by rw [e,F2.out] at hk;cases hk;cases ho)).trans hk⟩,⟨HBE.out _ _ L2 hWs,(HOT.out _ NF.out).trans bf,(HOT.out _ NX.out).trans bx,(HOT.out _ NB.out).trans bb⟩,⟨A2,c2,G2.out,zI HO.out HOT.out (Kd.R_ne HO.out F2.out (by decide))⟩,(HOT.out _ NF.out).trans (bf.trans E3.out),(HOT.out _ NX.out).trans (bx.trans E4.out),(HOT.out _ NB.out).trans (bb.trans E5.out),HBE.out _ _ L2 HBV.out⟩
 case done =>
  rintro D ys W hD hys ⟨⟨A1,c1,h2,hR⟩,h3,h4,h5,hB⟩ hK
  have k2:W.cell? ⟨g2,0,none⟩=some (.slice A1 ys.length c1):=(za h2 0).trans rfl
  have ER:=hhd hR
  have EB:=hhd hB
  have EK:=hhd hK
  clear h2 hR h3 h4 h5 hB hK
  go_wp2
  refine ⟨by simp,.inl ⟨_,_,rfl,run_takeDeferred EK.out,?_⟩⟩
  have hg:=grownBy_putObj' W D (.deferred none)
  exact ⟨_,results_tmp rfl _ _ _,_,rfl,by rw [← hys];exact ze3 ER.out hg (fun r e=>by cases e;exact ⟨_,EK.out,rfl⟩),EB.out.grown hg EB.out.size (fun k e=>by cases e;exact Nat.le_trans LW hD)⟩
 case stop =>
  rintro D c pre W _ _ h _
  exact h.elim
set_option maxRecDepth 100000 in
set_option maxHeartbeats 4000000 in
theorem zdY (Bf Bx Bb:Nat) (A:Option Addr) (c:Nat) (l:List S38) (fr by_ N:Nat) (w:World) (hC:Kd.C k38 w A l.length l) (hl:l.length≤64) (hfr:fr≤64) (hby:1≤by_) (hby2:by_≤64) (hN:N≤64) (hN1:∀k,k < N→fr+k*by_ < l.length) (hN2:l.length≤fr+N*by_)
  (hbf:w.heap[Bf]?=some (.cells #[.int .i64 fr] 3 (0,0))) (hbx:w.heap[Bx]?=some (.cells #[.slice A l.length c] 22 (0,0))) (hbb:w.heap[Bb]?=some (.cells #[.int .i64 by_] 3 (0,0))) :
  Calls Tryz.prog 71 #[.func (.func 103) #[] #[.pointer (some ⟨Bf,0,none⟩),.pointer (some ⟨Bx,0,none⟩),.pointer (some ⟨Bb,0,none⟩)]] w fun e w'=>∃v,e=.returned v∧Kd.R k38 38 w' w.heap.size (fun _=>True) v (zB l fr by_ N)∧Below w.heap.size w w':=by
 have HA:=hhd (zgT Bf Bx Bb A c l fr by_ N w hC hl hfr hby hby2 hN hN1 hN2 hbf hbx hbb)
 clear hC hl hfr hby hby2 hN hN1 hN2 hbf hbx hbb
 go_enter Tryz.func71,Tryz.ntmps71
 go_wp2_with (go_at_call 102;refine HA.out.mono ?_;rintro e I ⟨v,rfl,hR,hB⟩)
 go_ret
 exact ⟨v,rfl,hR,hB⟩
end Go.Proofs.YteieahbadclppaaGreat.P

namespace Go.Proofs.YteieahbadclppaaGreat.P
open Go.RowKit Go.Proofs.YteieahbadclppaaGreatW.PrintWords Go.Proofs.YteieahbadclppaaGreatW.PrintLast Go.Proofs.YteieahbadclppaaGreatW.PrintMore
attribute [local go_sem] zF zG zK zL zY zZ z9 zaa
set_option linter.unusedVariables false
set_option linter.unusedSimpArgs false
def split_plan_root.f (l0_0:List (S38)) (a0_1:Int) (a0_2:Int) (a0_3:Int) (a1:Int):Option (Int×Int):=if 0≤a1 then (if a1 < (l0_0.length:Int) then (if a0_3=1 then ((cx_Conj.f ((zk l0_0 a1).f0) ((zk l0_0 a1).f1)).bind fun bt188=>(some (bt188.1,bt188.2.1))) else (some ((zk l0_0 a1).f0,(zk l0_0 a1).f1))) else (none)) else (none)
set_option maxHeartbeats 8000000 in
set_option maxRecDepth 100000 in
theorem split_plan_root.calls (A0_0:Option Addr) (c0_0:Nat) (l0_0:List (S38)) (a0_1:Int) (a0_2:Int) (a0_3:Int) (a1:Int) (r1:Int) (r2:Int) (w:World) (hr0_0:Kd.C k38 w A0_0 l0_0.length l0_0) (hc0_0:l0_0.length≤c0_0) (h:split_plan_root.f l0_0 a0_1 a0_2 a0_3 a1=some (r1,r2)) :
  Calls Tryz.prog 74 #[.agg #[.slice A0_0 l0_0.length c0_0,.int .i64 a0_1,.int .i64 a0_2,.int .i64 a0_3],.int .i64 a1] w fun e w'=>e=.returned (.agg #[.int .i64 r1,.int .i64 r2])∧Below w.heap.size w w':=by
 have hu95:=Tryz.underlying95
 have hu38:=Tryz.underlying38
 have HR0_0:=Aside0.mk hr0_0
 have HC0_0:=Aside0.mk hc0_0
 clear hr0_0 hc0_0
 have HB:=Aside0.mk (Below.refl w.heap.size w)
 have H:(if 0≤a1 then (if a1 < (l0_0.length:Int) then (if a0_3=1 then ((cx_Conj.f ((zk l0_0 a1).f0) ((zk l0_0 a1).f1)).bind fun bt188=>(some (bt188.1,bt188.2.1))) else (some ((zk l0_0 a1).f0,(zk l0_0 a1).f1))) else (none)) else (none))=some (r1,r2):=h
 clear h
 by_cases c3:0≤a1
 ·rw [if_pos c3] at H
  have c3b0:decide (0≤a1)=true:=decide_eq_true c3
  clear c3
  by_cases c4:a1 < (l0_0.length:Int)
  ·rw [if_pos c4] at H
   have c4b0:decide (a1 < (l0_0.length:Int))=true:=decide_eq_true c4
   clear c4
   by_cases c5:a0_3=1
   ·rw [if_pos c5] at H
    have c5b0:(a0_3 == 1)=true:=beq_iff_eq.mpr c5
    have c5b1:(a0_3 != 1)=false:=bne_eq_false_iff_eq.mpr c5
    clear c5
    replace H:=Option.bind_eq_some_iff.mp H
    obtain ⟨⟨t188,t189,t190⟩,A60,H⟩:=H
    replace H:(some (t188,t189))=some (r1,r2):=H
    have A6:=Aside0.mk A60
    clear A60
    simp only [Option.some.injEq,Prod.mk.injEq] at H
    obtain ⟨rfl,rfl⟩:=H
    go_enter Tryz.func74,Tryz.ntmps74
    go_wp2_with (first | ((with_reducible refine zf (N:=2) rfl ?_);refine ba_ 2 rfl #[.slice A0_0 l0_0.length c0_0,.int .i64 a0_1,.int .i64 a0_2,.int .i64 a0_3] 95 ?_;intro gb184 hg w7 I hb;have n0_:=Aside0.mk (zb (by repeat (first | (with_reducible first | exact HB.out | apply ze | apply zc | apply zg) | exact HB.out)) hb);have n1_:=Aside0.mk (I);have n2_:=Aside0.mk ((by rw [hg];exact (zi (by repeat (first | (with_reducible first | exact HB.out | apply ze | apply zc | apply zg) | exact HB.out))):w.heap.size≤gb184));have n3_:=Aside0.mk ((by rw [hg];exact (zi (by repeat (first | (with_reducible first | exact HB.out | apply ze | apply zc | apply zg) | exact HB.out))):w.heap.size≤gb184));clear HB;have HB:=n0_;have BK184:=n1_;have GW184:=n2_;have GE184:=n3_;clear n0_ n1_ n2_ n3_;clear hb I hg) | ((with_reducible refine zf (N:=4) rfl ?_);refine ba_ 4 rfl #[.int .i64 0,.int .i64 0] 38 ?_;intro gb185 hg w8 I hb;have n0_:=Aside0.mk (zd (g:=gb184) (o:=.cells #[.slice A0_0 l0_0.length c0_0,.int .i64 a0_1,.int .i64 a0_2,.int .i64 a0_3] 95 (0,0)) (by (with_reducible repeat (first | refine zn ?_ _ | refine zu ?_ | refine zm ?_ _));exact BK184.out) hb);have n1_:=Aside0.mk (zb (by repeat (first | (with_reducible first | exact HB.out | apply ze | apply zc | apply zg | refine zp ?_ GE184.out) | exact HB.out)) hb);have n2_:=Aside0.mk (I);have n3_:=Aside0.mk ((by rw [hg];exact (zi (by repeat (first | (with_reducible first | exact HB.out | apply ze | apply zc | apply zg | refine zp ?_ GE184.out) | exact HB.out))):w.heap.size≤gb185));have n4_:=Aside0.mk ((by rw [hg];exact (zi (by repeat (first | (with_reducible first | exact HB.out | apply ze | apply zc | apply zg | refine zp ?_ GE184.out) | exact HB.out))):w.heap.size≤gb185));have n5_:=Aside0.mk ((by rw [hg];exact Nat.ne_of_lt (zj (g:=gb184) (o:=.cells #[.slice A0_0 l0_0.length c0_0,.int .i64 a0_1,.int .i64 a0_2,.int .i64 a0_3] 95 (0,0)) (by (with_reducible repeat (first | refine zn ?_ _ | refine zu ?_ | refine zm ?_ _));exact BK184.out)):gb184≠gb185));have n6_:=Aside0.mk ((by rw [hg];exact Nat.ne_of_gt (zj (g:=gb184) (o:=.cells #[.slice A0_0 l0_0.length c0_0,.int .i64 a0_1,.int .i64 a0_2,.int .i64 a0_3] 95 (0,0)) (by (with_reducible repeat (first | refine zn ?_ _ | refine zu ?_ | refine zm ?_ _));exact BK184.out)):gb185≠gb184));clear BK184;clear HB;have BK184:=n0_;have HB:=n1_;have BK185:=n2_;have GW185:=n3_;have GE185:=n4_;have NB184_185:=n5_;have NB185_184:=n6_;clear n0_ n1_ n2_ n3_ n4_ n5_ n6_;clear hb I hg;have hnb9:=NB184_185.out;have hnc9:=NB185_184.out;have hcz10_0:w8.cell? ⟨gb184,0,none⟩=some (.slice A0_0 l0_0.length c0_0):=(za BK184.out 0).trans rfl;have hcz10_1:w8.cell? ⟨gb184,1,none⟩=some (.int .i64 a0_1):=(za BK184.out 1).trans rfl;have hcz10_2:w8.cell? ⟨gb184,2,none⟩=some (.int .i64 a0_2):=(za BK184.out 2).trans rfl;have hcz10_3:w8.cell? ⟨gb184,3,none⟩=some (.int .i64 a0_3):=(za BK184.out 3).trans rfl;have hfz10_0:=zh BK184.out 0;have hfz10_1:=zh BK184.out 1;have hfz10_2:=zh BK184.out 2;have hfz10_3:=zh BK184.out 3;have p186:0≤(a1:Int):=of_decide_eq_true (by first | (with_reducible assumption) | assumption);have q186:a1 < (l0_0.length:Int):=of_decide_eq_true (by first | (with_reducible assumption) | assumption);obtain ⟨ad186,e186,hx186_0,hx186_1⟩:=zag HR0_0.out a1 p186 q186;cases e186;replace hx186_0:=(HB.out.cell (World.block_lt_of_cell? w _ hx186_0)).trans hx186_0;replace hx186_1:=(HB.out.cell (World.block_lt_of_cell? w _ hx186_1)).trans hx186_1;replace p186:=eq_true p186;replace q186:=eq_true q186) | ((with_reducible refine zf (N:=5) rfl ?_);refine ba_ 5 rfl #[.int .i64 0,.int .i64 0] 38 ?_;intro gb187 hg w11 I hb;have n0_:=Aside0.mk (zd (g:=gb184) (o:=.cells #[.slice (some ad186) l0_0.length c0_0,.int .i64 a0_1,.int .i64 a0_2,.int .i64 a0_3] 95 (0,0)) (by (with_reducible repeat (first | refine zn ?_ _ | refine zu ?_ | refine zm ?_ _));exact BK184.out) hb);have n1_:=Aside0.mk (zd (g:=gb185) (o:=.cells #[.int .i64 0,.int .i64 0] 38 (0,0)) (by (with_reducible repeat (first | refine zn ?_ _ | refine zu ?_ | refine zm ?_ _));exact BK185.out) hb);have n2_:=Aside0.mk (zb (by repeat (first | (with_reducible first | exact HB.out | apply ze | apply zc | apply zg | refine zp ?_ GE184.out | refine zp ?_ GE185.out) | exact HB.out)) hb);have n3_:=Aside0.mk (I);have n4_:=Aside0.mk ((by rw [hg];exact (zi (by repeat (first | (with_reducible first | exact HB.out | apply ze | apply zc | apply zg | refine zp ?_ GE184.out | refine zp ?_ GE185.out) | exact HB.out))):w.heap.size≤gb187));have n5_:=Aside0.mk ((by rw [hg];exact (zi (by repeat (first | (with_reducible first | exact HB.out | apply ze | apply zc | apply zg | refine zp ?_ GE184.out | refine zp ?_ GE185.out) | exact HB.out))):w.heap.size≤gb187));have n6_:=Aside0.mk ((by rw [hg];exact Nat.ne_of_lt (zj (g:=gb184) (o:=.cells #[.slice (some ad186) l0_0.length c0_0,.int .i64 a0_1,.int .i64 a0_2,.int .i64 a0_3] 95 (0,0)) (by (with_reducible repeat (first | refine zn ?_ _ | refine zu ?_ | refine zm ?_ _));exact BK184.out)):gb184≠gb187));have n7_:=Aside0.mk ((by rw [hg];exact Nat.ne_of_gt (zj (g:=gb184) (o:=.cells #[.slice (some ad186) l0_0.length c0_0,.int .i64 a0_1,.int .i64 a0_2,.int .i64 a0_3] 95 (0,0)) (by (with_reducible repeat (first | refine zn ?_ _ | refine zu ?_ | refine zm ?_ _));exact BK184.out)):gb187≠gb184));have n8_:=Aside0.mk ((by rw [hg];exact Nat.ne_of_lt (zj (g:=gb185) (o:=.cells #[.int .i64 0,.int .i64 0] 38 (0,0)) (by (with_reducible repeat (first | refine zn ?_ _ | refine zu ?_ | refine zm ?_ _));exact BK185.out)):gb185≠gb187));have n9_:=Aside0.mk ((by rw [hg];exact Nat.ne_of_gt (zj (g:=gb185) (o:=.cells #[.int .i64 0,.int .i64 0] 38 (0,0)) (by (with_reducible repeat (first | refine zn ?_ _ | refine zu ?_ | refine zm ?_ _));exact BK185.out)):gb187≠gb185));clear BK184;clear BK185;clear HB;have BK184:=n0_;have BK185:=n1_;have HB:=n2_;have BK187:=n3_;have GW187:=n4_;have GE187:=n5_;have NB184_187:=n6_;have NB187_184:=n7_;have NB185_187:=n8_;have NB187_185:=n9_;clear n0_ n1_ n2_ n3_ n4_ n5_ n6_ n7_ n8_ n9_;clear hb I hg;have hnb12:=NB187_184.out;have hnc12:=NB184_187.out;have hnb13:=NB187_185.out;have hnc13:=NB185_187.out;have hcz14_0:w11.cell? ⟨gb187,0,none⟩=some (.int .i64 0):=(za BK187.out 0).trans rfl;have hcz14_1:w11.cell? ⟨gb187,1,none⟩=some (.int .i64 0):=(za BK187.out 1).trans rfl;have hfz14_0:=zh BK187.out 0;have hfz14_1:=zh BK187.out 1;have hcz15_0:w11.cell? ⟨gb184,0,none⟩=some (.slice (some ad186) l0_0.length c0_0):=(za BK184.out 0).trans rfl;have hcz15_1:w11.cell? ⟨gb184,1,none⟩=some (.int .i64 a0_1):=(za BK184.out 1).trans rfl;have hcz15_2:w11.cell? ⟨gb184,2,none⟩=some (.int .i64 a0_2):=(za BK184.out 2).trans rfl;have hcz15_3:w11.cell? ⟨gb184,3,none⟩=some (.int .i64 a0_3):=(za BK184.out 3).trans rfl;have hfz15_0:=zh BK184.out 0;have hfz15_1:=zh BK184.out 1;have hfz15_2:=zh BK184.out 2;have hfz15_3:=zh BK184.out 3) | ((with_reducible refine zy (f:=58) rfl ?_);refine zO (some 16) rfl rfl Tryz.func58 (by kernel_rfl) rfl #[.agg #[.int .i64 ((zk l0_0 a1).f0),.int .i64 ((zk l0_0 a1).f1)]] rfl (by (try simp only [List.map_toArray,List.map_cons,List.map_nil]);first | done | rfl | (simp only [List.length_drop,List.length_take];rfl)) ?_;(with_reducible refine (cx_Conj.calls ((zk l0_0 a1).f0) ((zk l0_0 a1).f1) t188 t189 t190 _ A6.out).mono ?_);rintro e w16 ⟨rfl,hb⟩;refine ⟨_,rfl,?_⟩;have n0_:=Aside0.mk (zd (g:=gb184) (o:=.cells #[.slice (some ad186) l0_0.length c0_0,.int .i64 a0_1,.int .i64 a0_2,.int .i64 a0_3] 95 (0,0)) (by (with_reducible repeat (first | refine zn ?_ _ | refine zu ?_ | refine zm ?_ _));refine zaI ?_ NB184_187.out _;(with_reducible repeat (first | refine zn ?_ _ | refine zu ?_ | refine zm ?_ _));refine zaI ?_ NB184_187.out _;(with_reducible repeat (first | refine zn ?_ _ | refine zu ?_ | refine zm ?_ _));exact BK184.out) hb);have n1_:=Aside0.mk (zd (g:=gb185) (o:=.cells #[.int .i64 0,.int .i64 0] 38 (0,0)) (by (with_reducible repeat (first | refine zn ?_ _ | refine zu ?_ | refine zm ?_ _));refine zaI ?_ NB185_187.out _;(with_reducible repeat (first | refine zn ?_ _ | refine zu ?_ | refine zm ?_ _));refine zaI ?_ NB185_187.out _;(with_reducible repeat (first | refine zn ?_ _ | refine zu ?_ | refine zm ?_ _));exact BK185.out) hb);have n2_:=Aside0.mk (zd (g:=gb187) (o:=.cells #[.int .i64 ((zk l0_0 a1).f0),.int .i64 ((zk l0_0 a1).f1)] 38 (0,0)) (by (with_reducible repeat (first | refine zn ?_ _ | refine zu ?_ | refine zm ?_ _));refine zQ (cs:=#[.int .i64 ((zk l0_0 a1).f0),.int .i64 0]) ?_ 1 _ rfl;(with_reducible repeat (first | refine zn ?_ _ | refine zu ?_ | refine zm ?_ _));refine zQ (cs:=#[.int .i64 0,.int .i64 0]) ?_ 0 _ rfl;(with_reducible repeat (first | refine zn ?_ _ | refine zu ?_ | refine zm ?_ _));exact BK187.out) hb);have n3_:=Aside0.mk (zb (by repeat (first | (with_reducible first | exact HB.out | apply ze | apply zc | apply zg | refine zp ?_ GE184.out | refine zp ?_ GE185.out | refine zp ?_ GE187.out) | exact HB.out)) hb);clear BK184;clear BK185;clear BK187;clear HB;have BK184:=n0_;have BK185:=n1_;have BK187:=n2_;have HB:=n3_;clear n0_ n1_ n2_ n3_;(try clear hb);(try clear hb2);(try clear hk);(try clear hi);have hcz17_0:w16.cell? ⟨gb187,0,none⟩=some (.int .i64 ((zk l0_0 a1).f0)):=(za BK187.out 0).trans rfl;have hcz17_1:w16.cell? ⟨gb187,1,none⟩=some (.int .i64 ((zk l0_0 a1).f1)):=(za BK187.out 1).trans rfl;have hfz17_0:=zh BK187.out 0;have hfz17_1:=zh BK187.out 1;have hcz18_0:w16.cell? ⟨gb185,0,none⟩=some (.int .i64 0):=(za BK185.out 0).trans rfl;have hcz18_1:w16.cell? ⟨gb185,1,none⟩=some (.int .i64 0):=(za BK185.out 1).trans rfl;have hfz18_0:=zh BK185.out 0;have hfz18_1:=zh BK185.out 1))
    refine bodyPost_ret (results_cell_row rfl _ _ gb185 38 #[.int .i64 t188,.int .i64 t189] (0,0) _ rfl (by (with_reducible repeat (first | refine zn ?_ _ | refine zu ?_ | refine zm ?_ _));refine zQ (cs:=#[.int .i64 t188,.int .i64 0]) ?_ 1 _ rfl;(with_reducible repeat (first | refine zn ?_ _ | refine zu ?_ | refine zm ?_ _));refine zQ (cs:=#[.int .i64 0,.int .i64 0]) ?_ 0 _ rfl;(with_reducible repeat (first | refine zn ?_ _ | refine zu ?_ | refine zm ?_ _));refine zaI ?_ NB185_187.out _;(with_reducible repeat (first | refine zn ?_ _ | refine zu ?_ | refine zm ?_ _));refine zaI ?_ NB185_187.out _;(with_reducible repeat (first | refine zn ?_ _ | refine zu ?_ | refine zm ?_ _));exact BK185.out) Tryz.underlying38 rfl (by kernel_rfl)) rfl ?_
    exact ⟨by first | rfl | (simp [zq,zt] <;> rfl) | (simp [*,zq,zt] <;> rfl),by repeat (first | (with_reducible first | exact HB.out | apply ze | apply zc | apply zg | refine zp ?_ GE184.out | refine zp ?_ GE185.out | refine zp ?_ GE187.out) | exact HB.out)⟩
   ·rw [if_neg c5] at H
    have c5b0:(a0_3 == 1)=false:=beq_eq_false_iff_ne.mpr c5
    have c5b1:(a0_3 != 1)=true:=bne_iff_ne.mpr c5
    simp only [Option.some.injEq,Prod.mk.injEq] at H
    obtain ⟨rfl,rfl⟩:=H
    go_enter Tryz.func74,Tryz.ntmps74
    go_wp2_with (first | ((with_reducible refine zf (N:=2) rfl ?_);refine ba_ 2 rfl #[.slice A0_0 l0_0.length c0_0,.int .i64 a0_1,.int .i64 a0_2,.int .i64 a0_3] 95 ?_;intro gb184 hg w19 I hb;have n0_:=Aside0.mk (zb (by repeat (first | (with_reducible first | exact HB.out | apply ze | apply zc | apply zg) | exact HB.out)) hb);have n1_:=Aside0.mk (I);have n2_:=Aside0.mk ((by rw [hg];exact (zi (by repeat (first | (with_reducible first | exact HB.out | apply ze | apply zc | apply zg) | exact HB.out))):w.heap.size≤gb184));have n3_:=Aside0.mk ((by rw [hg];exact (zi (by repeat (first | (with_reducible first | exact HB.out | apply ze | apply zc | apply zg) | exact HB.out))):w.heap.size≤gb184));clear HB;have HB:=n0_;have BK184:=n1_;have GW184:=n2_;have GE184:=n3_;clear n0_ n1_ n2_ n3_;clear hb I hg) | ((with_reducible refine zf (N:=4) rfl ?_);refine ba_ 4 rfl #[.int .i64 0,.int .i64 0] 38 ?_;intro gb185 hg w20 I hb;have n0_:=Aside0.mk (zd (g:=gb184) (o:=.cells #[.slice A0_0 l0_0.length c0_0,.int .i64 a0_1,.int .i64 a0_2,.int .i64 a0_3] 95 (0,0)) (by (with_reducible repeat (first | refine zn ?_ _ | refine zu ?_ | refine zm ?_ _));exact BK184.out) hb);have n1_:=Aside0.mk (zb (by repeat (first | (with_reducible first | exact HB.out | apply ze | apply zc | apply zg | refine zp ?_ GE184.out) | exact HB.out)) hb);have n2_:=Aside0.mk (I);have n3_:=Aside0.mk ((by rw [hg];exact (zi (by repeat (first | (with_reducible first | exact HB.out | apply ze | apply zc | apply zg | refine zp ?_ GE184.out) | exact HB.out))):w.heap.size≤gb185));have n4_:=Aside0.mk ((by rw [hg];exact (zi (by repeat (first | (with_reducible first | exact HB.out | apply ze | apply zc | apply zg | refine zp ?_ GE184.out) | exact HB.out))):w.heap.size≤gb185));have n5_:=Aside0.mk ((by rw [hg];exact Nat.ne_of_lt (zj (g:=gb184) (o:=.cells #[.slice A0_0 l0_0.length c0_0,.int .i64 a0_1,.int .i64 a0_2,.int .i64 a0_3] 95 (0,0)) (by (with_reducible repeat (first | refine zn ?_ _ | refine zu ?_ | refine zm ?_ _));exact BK184.out)):gb184≠gb185));have n6_:=Aside0.mk ((by rw [hg];exact Nat.ne_of_gt (zj (g:=gb184) (o:=.cells #[.slice A0_0 l0_0.length c0_0,.int .i64 a0_1,.int .i64 a0_2,.int .i64 a0_3] 95 (0,0)) (by (with_reducible repeat (first | refine zn ?_ _ | refine zu ?_ | refine zm ?_ _));exact BK184.out)):gb185≠gb184));clear BK184;clear HB;have BK184:=n0_;have HB:=n1_;have BK185:=n2_;have GW185:=n3_;have GE185:=n4_;have NB184_185:=n5_;have NB185_184:=n6_;clear n0_ n1_ n2_ n3_ n4_ n5_ n6_;clear hb I hg;have hnb21:=NB184_185.out;have hnc21:=NB185_184.out;have hcz22_0:w20.cell? ⟨gb184,0,none⟩=some (.slice A0_0 l0_0.length c0_0):=(za BK184.out 0).trans rfl;have hcz22_1:w20.cell? ⟨gb184,1,none⟩=some (.int .i64 a0_1):=(za BK184.out 1).trans rfl;have hcz22_2:w20.cell? ⟨gb184,2,none⟩=some (.int .i64 a0_2):=(za BK184.out 2).trans rfl;have hcz22_3:w20.cell? ⟨gb184,3,none⟩=some (.int .i64 a0_3):=(za BK184.out 3).trans rfl;have hfz22_0:=zh BK184.out 0;have hfz22_1:=zh BK184.out 1;have hfz22_2:=zh BK184.out 2;have hfz22_3:=zh BK184.out 3;have p186:0≤(a1:Int):=of_decide_eq_true (by first | (with_reducible assumption) | assumption);have q186:a1 < (l0_0.length:Int):=of_decide_eq_true (by first | (with_reducible assumption) | assumption);obtain ⟨ad186,e186,hx186_0,hx186_1⟩:=zag HR0_0.out a1 p186 q186;cases e186;replace hx186_0:=(HB.out.cell (World.block_lt_of_cell? w _ hx186_0)).trans hx186_0;replace hx186_1:=(HB.out.cell (World.block_lt_of_cell? w _ hx186_1)).trans hx186_1;replace p186:=eq_true p186;replace q186:=eq_true q186) | ((with_reducible refine zf (N:=5) rfl ?_);refine ba_ 5 rfl #[.int .i64 0,.int .i64 0] 38 ?_;intro gb187 hg w23 I hb;have n0_:=Aside0.mk (zd (g:=gb184) (o:=.cells #[.slice (some ad186) l0_0.length c0_0,.int .i64 a0_1,.int .i64 a0_2,.int .i64 a0_3] 95 (0,0)) (by (with_reducible repeat (first | refine zn ?_ _ | refine zu ?_ | refine zm ?_ _));exact BK184.out) hb);have n1_:=Aside0.mk (zd (g:=gb185) (o:=.cells #[.int .i64 0,.int .i64 0] 38 (0,0)) (by (with_reducible repeat (first | refine zn ?_ _ | refine zu ?_ | refine zm ?_ _));exact BK185.out) hb);have n2_:=Aside0.mk (zb (by repeat (first | (with_reducible first | exact HB.out | apply ze | apply zc | apply zg | refine zp ?_ GE184.out | refine zp ?_ GE185.out) | exact HB.out)) hb);have n3_:=Aside0.mk (I);have n4_:=Aside0.mk ((by rw [hg];exact (zi (by repeat (first | (with_reducible first | exact HB.out | apply ze | apply zc | apply zg | refine zp ?_ GE184.out | refine zp ?_ GE185.out) | exact HB.out))):w.heap.size≤gb187));have n5_:=Aside0.mk ((by rw [hg];exact (zi (by repeat (first | (with_reducible first | exact HB.out | apply ze | apply zc | apply zg | refine zp ?_ GE184.out | refine zp ?_ GE185.out) | exact HB.out))):w.heap.size≤gb187));have n6_:=Aside0.mk ((by rw [hg];exact Nat.ne_of_lt (zj (g:=gb184) (o:=.cells #[.slice (some ad186) l0_0.length c0_0,.int .i64 a0_1,.int .i64 a0_2,.int .i64 a0_3] 95 (0,0)) (by (with_reducible repeat (first | refine zn ?_ _ | refine zu ?_ | refine zm ?_ _));exact BK184.out)):gb184≠gb187));have n7_:=Aside0.mk ((by rw [hg];exact Nat.ne_of_gt (zj (g:=gb184) (o:=.cells #[.slice (some ad186) l0_0.length c0_0,.int .i64 a0_1,.int .i64 a0_2,.int .i64 a0_3] 95 (0,0)) (by (with_reducible repeat (first | refine zn ?_ _ | refine zu ?_ | refine zm ?_ _));exact BK184.out)):gb187≠gb184));have n8_:=Aside0.mk ((by rw [hg];exact Nat.ne_of_lt (zj (g:=gb185) (o:=.cells #[.int .i64 0,.int .i64 0] 38 (0,0)) (by (with_reducible repeat (first | refine zn ?_ _ | refine zu ?_ | refine zm ?_ _));exact BK185.out)):gb185≠gb187));have n9_:=Aside0.mk ((by rw [hg];exact Nat.ne_of_gt (zj (g:=gb185) (o:=.cells #[.int .i64 0,.int .i64 0] 38 (0,0)) (by (with_reducible repeat (first | refine zn ?_ _ | refine zu ?_ | refine zm ?_ _));exact BK185.out)):gb187≠gb185));clear BK184;clear BK185;clear HB;have BK184:=n0_;have BK185:=n1_;have HB:=n2_;have BK187:=n3_;have GW187:=n4_;have GE187:=n5_;have NB184_187:=n6_;have NB187_184:=n7_;have NB185_187:=n8_;have NB187_185:=n9_;clear n0_ n1_ n2_ n3_ n4_ n5_ n6_ n7_ n8_ n9_;clear hb I hg;have hnb24:=NB187_184.out;have hnc24:=NB184_187.out;have hnb25:=NB187_185.out;have hnc25:=NB185_187.out;have hcz26_0:w23.cell? ⟨gb187,0,none⟩=some (.int .i64 0):=(za BK187.out 0).trans rfl;have hcz26_1:w23.cell? ⟨gb187,1,none⟩=some (.int .i64 0):=(za BK187.out 1).trans rfl;have hfz26_0:=zh BK187.out 0;have hfz26_1:=zh BK187.out 1;have hcz27_0:w23.cell? ⟨gb184,0,none⟩=some (.slice (some ad186) l0_0.length c0_0):=(za BK184.out 0).trans rfl;have hcz27_1:w23.cell? ⟨gb184,1,none⟩=some (.int .i64 a0_1):=(za BK184.out 1).trans rfl;have hcz27_2:w23.cell? ⟨gb184,2,none⟩=some (.int .i64 a0_2):=(za BK184.out 2).trans rfl;have hcz27_3:w23.cell? ⟨gb184,3,none⟩=some (.int .i64 a0_3):=(za BK184.out 3).trans rfl;have hfz27_0:=zh BK184.out 0;have hfz27_1:=zh BK184.out 1;have hfz27_2:=zh BK184.out 2;have hfz27_3:=zh BK184.out 3;have hcz28_0:w23.cell? ⟨gb185,0,none⟩=some (.int .i64 0):=(za BK185.out 0).trans rfl;have hcz28_1:w23.cell? ⟨gb185,1,none⟩=some (.int .i64 0):=(za BK185.out 1).trans rfl;have hfz28_0:=zh BK185.out 0;have hfz28_1:=zh BK185.out 1))
    refine bodyPost_ret (results_cell_row rfl _ _ gb185 38 #[.int .i64 ((zk l0_0 a1).f0),.int .i64 ((zk l0_0 a1).f1)] (0,0) _ rfl (by (with_reducible repeat (first | refine zn ?_ _ | refine zu ?_ | refine zm ?_ _));refine zQ (cs:=#[.int .i64 ((zk l0_0 a1).f0),.int .i64 0]) ?_ 1 _ rfl;(with_reducible repeat (first | refine zn ?_ _ | refine zu ?_ | refine zm ?_ _));refine zQ (cs:=#[.int .i64 0,.int .i64 0]) ?_ 0 _ rfl;(with_reducible repeat (first | refine zn ?_ _ | refine zu ?_ | refine zm ?_ _));refine zaI ?_ NB185_187.out _;(with_reducible repeat (first | refine zn ?_ _ | refine zu ?_ | refine zm ?_ _));refine zaI ?_ NB185_187.out _;(with_reducible repeat (first | refine zn ?_ _ | refine zu ?_ | refine zm ?_ _));exact BK185.out) Tryz.underlying38 rfl (by kernel_rfl)) rfl ?_
    exact ⟨by first | rfl | (simp [zq,zt] <;> rfl) | (simp [*,zq,zt] <;> rfl),by repeat (first | (with_reducible first | exact HB.out | apply ze | apply zc | apply zg | refine zp ?_ GE184.out | refine zp ?_ GE185.out | refine zp ?_ GE187.out) | exact HB.out)⟩
  ·rw [if_neg c4] at H
   exact absurd H (by simp)
 ·rw [if_neg c3] at H
  exact absurd H (by simp)

end Go.Proofs.YteieahbadclppaaGreat.P

