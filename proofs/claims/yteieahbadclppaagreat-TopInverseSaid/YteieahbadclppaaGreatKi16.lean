/- Part 16 of 18 of the proof: the texts that it reaches, one behind the other. No condition. -/
import Derived.Test.YteieahbadclppaaGreatKi12
import Derived.Test.YteieahbadclppaaGreatKi13
import Derived.Test.YteieahbadclppaaGreatKi14
import Derived.Test.YteieahbadclppaaGreatKi15
namespace Go.Proofs.YteieahbadclppaaGreat.P
open Go.RowKit Go.Proofs.YteieahbadclppaaGreatW.PrintWords Go.Proofs.YteieahbadclppaaGreatW.PrintLast Go.Proofs.YteieahbadclppaaGreatW.PrintMore
set_option linter.unusedVariables false
set_option linter.unusedSimpArgs false
theorem zd2 {ker:Nat} (h:ker < 3):ker∈[0,1,2]:=by simp;omega
theorem zly {fm g ker:Nat} (inv:Bool) (hf:fm < 2) (h2:2≤g) (h6:g≤6) (hk:ker < 3):zgh fm g ker inv=true:=by
 have hi:inv∈[true,false]:=by cases inv <;> simp
 by_cases h:g=6
 ·subst h
  by_cases h0:fm=0
  ·subst h0
   exact List.all_eq_true.1 (List.all_eq_true.1 znL ker (zd2 hk)) inv hi
  ·obtain rfl:fm=1:=by omega
   exact List.all_eq_true.1 (List.all_eq_true.1 znM ker (zd2 hk)) inv hi
 ·exact List.all_eq_true.1 (List.all_eq_true.1 (List.all_eq_true.1 (List.all_eq_true.1 znN fm (zbH hf)) g (by simp;omega)) ker (zd2 hk)) inv hi
def znf (fm g ker:Nat):Bool:=decide (zdJ (2*2^g) (2^g)≤((3*zaY g ker - 4*eA g ker)*2^(2*dA fm g ker) / (512*2^bN fm)).toNat) && (decide (2+g≤2*dA fm g ker) && (decide (eA g ker≤1000) && (decide (gA fm g ker+200000 < 2^(2*kA fm g ker+1)) && decide (0≤3*zaY g ker - 4*eA g ker))))
theorem zmy:([0,1].all fun fm=>[2,3,4,5,6].all fun g=>[0,1,2].all fun ker=>znf fm g ker)=true:=by decide +kernel
theorem zky {fm g ker:Nat} (hf:fm < 2) (h2:2≤g) (h6:g≤6) (hk:ker < 3):zdJ (2*2^g) (2^g)≤((3*zaY g ker - 4*eA g ker)*2^(2*dA fm g ker) / (512*2^bN fm)).toNat∧2+g≤2*dA fm g ker∧eA g ker≤1000∧gA fm g ker+200000 < 2^(2*kA fm g ker+1)∧0≤3*zaY g ker - 4*eA g ker:=by
 have h:=List.all_eq_true.1 (List.all_eq_true.1 (List.all_eq_true.1 zmy fm (zbH hf)) g (zbZ h2 h6)) ker (zd2 hk)
 unfold znf at h
 simpa only [Bool.and_eq_true,decide_eq_true_eq] using h
def zeq:List S38→List Int
 | []=>[]
 | z :: l=>z.f0 :: z.f1 :: zeq l
theorem zhY:∀x:List S38,zaP (zeq x)=x
 | []=>rfl
 | z :: l=>by rw [zeq,zaP,zhY l]
theorem ziF:∀x:List S38,(zeq x).length=2*x.length
 | []=>rfl
 | z :: l=>by rw [zeq,List.length_cons,List.length_cons,ziF l,List.length_cons];omega
theorem ziG {m:Int} (hm:0≤m):∀(x:List S38),(∀z,z∈x→inB m z=true)→∀k,(zeq x).getD k 0≤m∧-m≤(zeq x).getD k 0
 | [],_,k=>by simp [zeq];omega
 | z :: l,h,k=>by
  obtain ⟨a,b,c,d⟩:=zan (h z (List.mem_cons_self ..))
  match k with
  | 0=>exact ⟨a,c⟩
  | 1=>exact ⟨b,d⟩
  | k+2=>exact ziG hm l (fun z hz=>h z (List.mem_cons_of_mem _ hz)) k
theorem zng:z6 ⟨0,1⟩ 1:=⟨by decide,by decide⟩
theorem zkz (m j:Nat) (hj:j < 2*m):∀k,k < m→z6 ((zaP (zaB (2*m) j)).getD k z38) 1:=by
 have h:∀(l:List Int),(∀a,a∈l→a=0)→∀k,z6 ((zaP l).getD k z38) 0:=by
  intro l
  induction l using zaP.induct with
  | case1 a b r ih =>
   intro hl k
   have e0:=hl a (by simp)
   have e1:=hl b (by simp)
   subst e0;subst e1
   match k with
   | 0=>exact z6.zero
   | k+1=>exact ih (fun a ha=>hl a (by simp [ha])) k
  | case2 l hl =>
   intro _ k
   have e:zaP l=[]:=by
    match l,hl with
    | [],_=>rfl
    | [a],_=>rfl
    | a :: b :: r,hl=>exact absurd rfl (hl a b r)
   rw [e]
   exact z6.zero
 have hrep:∀n,∀a,a∈List.replicate n (0:Int)→a=0:=fun n a ha=>(List.mem_replicate.1 ha).2
 induction m generalizing j with
 | zero=>intro k hk;omega
 | succ m ih =>
  intro k hk
  match j with
  | 0 =>
   have e:zaP (zaB (2*(m+1)) 0)=⟨1,0⟩ :: zaP (List.replicate (2*m) 0):=rfl
   rw [e]
   match k with
   | 0=>exact zej
   | k+1=>exact (h _ (hrep _) k).up (by decide)
  | 1 =>
   have e:zaP (zaB (2*(m+1)) 1)=⟨0,1⟩ :: zaP (List.replicate (2*m) 0):=rfl
   rw [e]
   match k with
   | 0=>exact zng
   | k+1=>exact (h _ (hrep _) k).up (by decide)
  | j+2 =>
   have e:zaP (zaB (2*(m+1)) (j+2))=⟨0,0⟩ :: zaP (zaB (2*m) j):=rfl
   rw [e]
   match k with
   | 0=>exact z6.zero.up (by decide)
   | k+1=>exact ih j (by omega) k (by omega)
theorem zhZ {A X V W G P E L Q B4:Int} (hG:0 < G) (hW:W=G*P) (h1:64*W*A+-64*V≤(E+E)*W) (h2:-((E+E)*W)≤64*W*A+-64*V) (h3:V+-G*X≤4*Q*B4) (h4:-(4*Q*B4)≤V+-G*X) (h5:512*Q*B4≤(3*L - 4*E)*W) :
  128*(P*A - X)≤3*L*P∧-(3*L*P)≤128*(P*A - X):=by
 subst hW
 constructor
 ·refine Int.le_of_mul_le_mul_left (a:=G) ?_ hG
  grind
 ·refine Int.le_of_mul_le_mul_left (a:=G) ?_ hG
  grind
theorem zmz {fm g ker:Nat} (inv:Bool) (mode:Int) (hf:fm < 2) (h2:2≤g) (h6:g≤6) (hk:ker < 3) {x:List S38} (hx:x.length=2^g) (hr:∀z,z∈x→inB (4*2^bN fm) z=true) :
  (zaW fm g ker inv mode x).length=2^g∧zav (184*2^bN fm) (zaW fm g ker inv mode x)∧(zaW fm g ker (!inv) mode (zaW fm g ker inv mode x)).length=2^g∧zav (184*2^bN fm) (zaW fm g ker (!inv) mode (zaW fm g ker inv mode x)) ∧
  ∀k,k < 2^g→(128*(2^(2+g)*((zaW fm g ker (!inv) mode (zaW fm g ker inv mode x)).getD k z38).f0 - (x.getD k z38).f0)≤3*zaY g ker*2^(2+g)∧-(3*zaY g ker*2^(2+g))≤128*(2^(2+g)*((zaW fm g ker (!inv) mode (zaW fm g ker inv mode x)).getD k z38).f0 - (x.getD k z38).f0)) ∧
   128*(2^(2+g)*((zaW fm g ker (!inv) mode (zaW fm g ker inv mode x)).getD k z38).f1 - (x.getD k z38).f1)≤3*zaY g ker*2^(2+g)∧-(3*zaY g ker*2^(2+g))≤128*(2^(2+g)*((zaW fm g ker (!inv) mode (zaW fm g ker inv mode x)).getD k z38).f1 - (x.getD k z38).f1):=by
 have hq:=qN fm
 obtain ⟨n1,n2,n3,n4,n5⟩:=zky hf h2 h6 hk
 have t1:=trA inv mode hf h2 h6 hk
 have t2:=trA (!inv) mode hf h2 h6 hk
 obtain ⟨a1,a2,a3⟩:=t1.near x x 0 0 hx (zfq x) ((zgc (by omega) hr).up (by omega)) (by decide)
 rw [Nat.zero_add,Int.zero_add] at a1
 obtain ⟨b1,b2,b3⟩:=t2.near _ _ _ _ a3 a1 (a2.up (by omega)) n3
 refine ⟨a3,a2,b3,b2,fun k hk2=>?_⟩
 have hz:ZL (2*2^g) (2^g) (zgf fm g ker inv):=(t2.zl _ _ (t1.zl _ _ (zcb (2^g)))).sum ((zcb (2^g)).scaled (-(gA fm g ker)))
 have hg64:2^g≤64:=Nat.le_trans (Nat.pow_le_pow_right (by decide) h6) (by decide)
 have hK:(0:Int) < 2^(2*kA fm g ker):=zaN _
 have hG0:0 < gA fm g ker:=zaN _
 have hpow:(2:Int)^(2*kA fm g ker+1)=2*2^(2*kA fm g ker):=by rw [Int.pow_succ];omega
 have hH:((zc2 fm g ker:Nat):Int)=4*2^(2*kA fm g ker):=by
  unfold zc2
  rw [Int.natCast_pow]
  show (2:Int)^(2*kA fm g ker+2)=_
  rw [Int.pow_add]
  omega
 have hget:∀z:List Int,z.length=2*2^g→(zgf fm g ker inv z).getD k z38=zaw ((zdQ fm g ker (!inv) (zdQ fm g ker inv (zaP z))).getD k z38) (zaq (-(gA fm g ker)) ((zaP z).getD k z38)):=by
  intro z hz1
  have l0:=(zcb (2^g)).len z hz1
  unfold zgf
  rw [zbT (by rw [zaI,l0];exact (t2.zl _ _ (t1.zl _ _ (zcb (2^g)))).len z hz1),zbt]
 have hul:(zeq x).length=2*2^g:=by rw [ziF,hx]
 have h:=zms hz (by omega) (by omega) (H:=zc2 fm g ker) (Hh:=2^(2*kA fm g ker)+gA fm g ker) (B:=zgg fm g ker) (by rw [hH];omega) (by omega)
  (fun i hi j hj=>by
   have hb:=zkz (2^g) j hj
   have hl:=(zcb (2^g)).len _ (zcQ (2*2^g) j)
   have c1:=t1.big _ 1 hl (by decide) hb
   have c2:=t2.big _ _ ((t1.zl _ _ (zcb (2^g))).len _ (zcQ (2*2^g) j)) (Int.mul_nonneg (Int.le_of_lt (zaN _)) (by decide)) c1 i hi
   have e:(2:Int)^kA fm g ker*(2^kA fm g ker*1)=2^(2*kA fm g ker):=by rw [Int.mul_one,← Int.pow_add];congr 1;omega
   rw [e] at c2
   have d2:=(hb i hi).scl (gA fm g ker) (by omega)
   have p1:=c2.part
   have p2:=d2.part
   have e2:(zgf fm g ker inv (zaB (2*2^g) j)).getD i z38=zaw ((zdQ fm g ker (!inv) (zdQ fm g ker inv (zaP (zaB (2*2^g) j)))).getD i z38) (zaq (-(gA fm g ker)) ((zaP (zaB (2*2^g) j)).getD i z38)):=by
    unfold zgf
    rw [zbT (by rw [zaI,hl];exact (t2.zl _ _ (t1.zl _ _ (zcb (2^g)))).len _ (zcQ (2*2^g) j)),zbt]
   rw [e2]
   unfold zaq at p2
   unfold zbf zaw zaq
   dsimp only at p2 ⊢
   rw [Int.neg_mul,Int.neg_mul]
   omega)
  (by have:=zly inv hf h2 h6 hk;rw [zmt] at this;exact this) hul (X:=4*2^bN fm) (by omega) (ziG (by omega) x hr) k hk2
 rw [hget _ hul,zhY] at h
 have hc:=(b1.2.2 k (by rw [b3];exact hk2)).part
 have hB:512*2^bN fm*((zgg fm g ker:Nat)+(zdJ (2*2^g) (2^g):Nat):Int)≤(3*zaY g ker - 4*eA g ker)*2^(2*dA fm g ker):=by
  have e:((zgg fm g ker:Nat)+(zdJ (2*2^g) (2^g):Nat):Int)=(3*zaY g ker - 4*eA g ker)*2^(2*dA fm g ker) / (512*2^bN fm):=by
   have ho:0≤(3*zaY g ker - 4*eA g ker)*2^(2*dA fm g ker) / (512*2^bN fm):=Int.ediv_nonneg (Int.mul_nonneg n5 (Int.le_of_lt (zaN _))) (by omega)
   unfold zgg
   omega
  rw [e]
  exact Int.mul_ediv_self_le (by omega)
 have hW:(2:Int)^(2*dA fm g ker)=gA fm g ker*2^(2+g):=by
  unfold gA
  rw [← Int.pow_add]
  congr 1
  omega
 rw [show dA fm g ker+dA fm g ker=2*dA fm g ker by omega] at hc
 unfold zbf zaw zaq at h
 unfold zcc zaw zaq at hc
 dsimp only at h hc
 exact ⟨zhZ hG0 hW hc.1.1 hc.1.2 h.1.1 h.1.2 hB,zhZ hG0 hW hc.2.1 hc.2.2 h.2.1 h.2.2 hB⟩
theorem zlz {Q M:Int} {x:List S38} (h:zav M x) (hm:M≤64*(4*Q - 1)):x.any (zaG (-(4*Q)) (4*Q - 1))=false:=by
 rw [List.any_eq_false]
 intro z hz
 obtain ⟨a,b,c,d⟩:=zan (h.in hm z hz)
 unfold zaG
 simp only [decide_eq_true_eq]
 omega
theorem zmA {g ker:Nat} (h2:2≤g) (h6:g≤6) (hk:ker < 3):0≤zaY g ker∧zaY g ker≤100000:=by
 have h:([2,3,4,5,6].all fun g=>[0,1,2].all fun ker=>decide (0≤zaY g ker∧zaY g ker≤100000))=true:=by decide +kernel
 exact of_decide_eq_true (List.all_eq_true.1 (List.all_eq_true.1 h g (zbZ h2 h6)) ker (zd2 hk))
theorem zji {g:Nat} (h2:2≤g) (h6:g≤6) {L:Int} (l0:0≤L) (l1:L≤100000) :
  wrap64 (wrap64 (wrap64 (((2^g:Nat):Int)*L)*2^min ((1+g:Int)+2).toNat 64)+wrap64 (L*2^min ((1+g:Int)+(1+g)+2).toNat 64))=3*L*2^(2*g+3):=by
 have h:g=2∨g=3∨g=4∨g=5∨g=6:=by omega
 rcases h with rfl | rfl | rfl | rfl | rfl
 ·have e1:((2^2:Nat):Int)=4:=by decide
  have e2:(2:Int)^min ((1+((2:Nat):Int))+2).toNat 64=32:=by decide
  have e3:(2:Int)^min ((1+((2:Nat):Int))+(1+((2:Nat):Int))+2).toNat 64=256:=by decide
  have e4:(2:Int)^(2*2+3)=128:=by decide
  rw [e1,e2,e3,e4]
  unfold wrap64
  omega
 ·have e1:((2^3:Nat):Int)=8:=by decide
  have e2:(2:Int)^min ((1+((3:Nat):Int))+2).toNat 64=64:=by decide
  have e3:(2:Int)^min ((1+((3:Nat):Int))+(1+((3:Nat):Int))+2).toNat 64=1024:=by decide
  have e4:(2:Int)^(2*3+3)=512:=by decide
  rw [e1,e2,e3,e4]
  unfold wrap64
  omega
 ·have e1:((2^4:Nat):Int)=16:=by decide
  have e2:(2:Int)^min ((1+((4:Nat):Int))+2).toNat 64=128:=by decide
  have e3:(2:Int)^min ((1+((4:Nat):Int))+(1+((4:Nat):Int))+2).toNat 64=4096:=by decide
  have e4:(2:Int)^(2*4+3)=2048:=by decide
  rw [e1,e2,e3,e4]
  unfold wrap64
  omega
 ·have e1:((2^5:Nat):Int)=32:=by decide
  have e2:(2:Int)^min ((1+((5:Nat):Int))+2).toNat 64=256:=by decide
  have e3:(2:Int)^min ((1+((5:Nat):Int))+(1+((5:Nat):Int))+2).toNat 64=16384:=by decide
  have e4:(2:Int)^(2*5+3)=8192:=by decide
  rw [e1,e2,e3,e4]
  unfold wrap64
  omega
 ·have e1:((2^6:Nat):Int)=64:=by decide
  have e2:(2:Int)^min ((1+((6:Nat):Int))+2).toNat 64=512:=by decide
  have e3:(2:Int)^min ((1+((6:Nat):Int))+(1+((6:Nat):Int))+2).toNat 64=65536:=by decide
  have e4:(2:Int)^(2*6+3)=32768:=by decide
  rw [e1,e2,e3,e4]
  unfold wrap64
  omega
theorem zgz {g:Nat} (h2:2≤g) (h6:g≤6) {L a x:Int} (l0:0≤L) (l1:L≤100000) (a0:-2147483648≤a) (a1:a≤2147483648) (x0:-2147483648≤x) (x1:x≤2147483648)
  (u0:128*(2^(2+g)*a - x)≤3*L*2^(2+g)) (u1:-(3*L*2^(2+g))≤128*(2^(2+g)*a - x)):LeB (3*L*2^(2*g+3)) (reV a x (2^g) (1+g)):=by
 have h:g=2∨g=3∨g=4∨g=5∨g=6:=by omega
 unfold LeB reV
 rcases h with rfl | rfl | rfl | rfl | rfl
 ·have e1:((2^2:Nat):Int)=4:=by decide
  have e2:(2:Int)^min ((1+((2:Nat):Int))+(1+((2:Nat):Int))+8).toNat 64=16384:=by decide
  have e3:(2:Int)^(2+2)=16:=by decide
  have e4:(2:Int)^(2*2+3)=128:=by decide
  rw [e3] at u0 u1
  rw [e1,e2,e4,zw (x:=a*_) (by omega) (by omega),zw (x:=x*_) (by omega) (by omega),zw (x:=x*_*256) (by omega) (by omega),zw (x:=a*_ - x*_*256) (by omega) (by omega),zw (by omega) (by omega)]
  omega
 ·have e1:((2^3:Nat):Int)=8:=by decide
  have e2:(2:Int)^min ((1+((3:Nat):Int))+(1+((3:Nat):Int))+8).toNat 64=65536:=by decide
  have e3:(2:Int)^(2+3)=32:=by decide
  have e4:(2:Int)^(2*3+3)=512:=by decide
  rw [e3] at u0 u1
  rw [e1,e2,e4,zw (x:=a*_) (by omega) (by omega),zw (x:=x*_) (by omega) (by omega),zw (x:=x*_*256) (by omega) (by omega),zw (x:=a*_ - x*_*256) (by omega) (by omega),zw (by omega) (by omega)]
  omega
 ·have e1:((2^4:Nat):Int)=16:=by decide
  have e2:(2:Int)^min ((1+((4:Nat):Int))+(1+((4:Nat):Int))+8).toNat 64=262144:=by decide
  have e3:(2:Int)^(2+4)=64:=by decide
  have e4:(2:Int)^(2*4+3)=2048:=by decide
  rw [e3] at u0 u1
  rw [e1,e2,e4,zw (x:=a*_) (by omega) (by omega),zw (x:=x*_) (by omega) (by omega),zw (x:=x*_*256) (by omega) (by omega),zw (x:=a*_ - x*_*256) (by omega) (by omega),zw (by omega) (by omega)]
  omega
 ·have e1:((2^5:Nat):Int)=32:=by decide
  have e2:(2:Int)^min ((1+((5:Nat):Int))+(1+((5:Nat):Int))+8).toNat 64=1048576:=by decide
  have e3:(2:Int)^(2+5)=128:=by decide
  have e4:(2:Int)^(2*5+3)=8192:=by decide
  rw [e3] at u0 u1
  rw [e1,e2,e4,zw (x:=a*_) (by omega) (by omega),zw (x:=x*_) (by omega) (by omega),zw (x:=x*_*256) (by omega) (by omega),zw (x:=a*_ - x*_*256) (by omega) (by omega),zw (by omega) (by omega)]
  omega
 ·have e1:((2^6:Nat):Int)=64:=by decide
  have e2:(2:Int)^min ((1+((6:Nat):Int))+(1+((6:Nat):Int))+8).toNat 64=4194304:=by decide
  have e3:(2:Int)^(2+6)=256:=by decide
  have e4:(2:Int)^(2*6+3)=32768:=by decide
  rw [e3] at u0 u1
  rw [e1,e2,e4,zw (x:=a*_) (by omega) (by omega),zw (x:=x*_) (by omega) (by omega),zw (x:=x*_*256) (by omega) (by omega),zw (x:=a*_ - x*_*256) (by omega) (by omega),zw (by omega) (by omega)]
  omega
theorem zfT (A:Option Addr) (c:Nat) (l0:List S38) (p0 p1 p2 p3 p4:Int) (p5:Bool) (w:World) (hr:Kd.C k38 w A l0.length l0) (hc:l0.length≤c) :
  Calls Tryz.prog 3 #[.slice A l0.length c,.agg #[.int .i64 p0,.int .i64 p1,.int .i64 p2,.int .i64 p3,.int .i64 p4,.bool p5]] w fun e w'=>e=.returned (.bool true)∧Below w.heap.size w w':=by
 obtain ⟨m,hm⟩:∃m,m=min l0.length 70:=⟨_,rfl⟩
 obtain ⟨l,hl⟩:∃l,l=l0.take m:=⟨_,rfl⟩
 have hml:l.length=m:=by rw [hl,List.length_take];omega
 rcases zkw p0 p1 p2 p4 p5 A c l (by omega) with ⟨bad,hb,hno⟩ | ⟨fm,g,ker,mode,rfl,rfl,rfl,rfl,hf,⟨h2,h6⟩,hk,hmo,hlen,hodd⟩
 ·refine zmx A c l0 l m p0 p1 p2 p3 p4 bad p5 w hr hc hm hl hb fun W hC=>?_
  have h:=hno W (by rw [hml];exact hC)
  unfold zlM zaj at h
  rw [hml] at h
  exact h
 ·obtain ⟨q0,q1⟩:=qN fm
  obtain ⟨l1,l2⟩:=zfM h6
  have hm2:m=2^g:=by omega
  have hz:=zhQ hodd
  obtain ⟨a1,a2,a3,a4,a5⟩:=zmz p5 mode hf h2 h6 hk hlen (fun z hz1=>by have:=hz z hz1;exact zbe (by omega))
  obtain ⟨b1,b2⟩:=zmA h2 h6 hk
  have hZin:=a4.in (m:=2147483648) (by omega)
  refine zlx A c l0 l (zaW fm g ker p5 mode l) (zaW fm g ker (!p5) mode (zaW fm g ker p5 mode l)) (za6 ker g) m fm g ker p3 mode (1+g) (zaY g ker) (3*zaY g ker*2^(2*g+3)) p5 w (by omega) (by omega) b1 b2 (by rw [hm2];exact zji h2 h6 b1 b2) (by rw [a3,hm2]) ?_ hr hc hm hl ?_ ?_ ?_ ?_
  ·intro k hk1
   rw [hm2] at hk1 ⊢
   obtain ⟨⟨c1,c2⟩,c3,c4⟩:=a5 k hk1
   rw [zbv,zbv]
   have g1:=hz (l.getD k z38) (by rw [List.getD_eq_getElem?_getD,List.getElem?_eq_getElem (by omega)];exact List.getElem_mem _)
   obtain ⟨d1,d2,d3,d4⟩:=zan (hZin ((zaW fm g ker (!p5) mode (zaW fm g ker p5 mode l)).getD k z38) (by rw [List.getD_eq_getElem?_getD,List.getElem?_eq_getElem (by omega)];exact List.getElem_mem _))
   exact ⟨zgz h2 h6 b1 b2 d3 d1 (by omega) (by omega) c1 c2,zgz h2 h6 b1 b2 d4 d2 (by omega) (by omega) c3 c4⟩
  ·intro W hC
   have h:=ziz p5 hf h2 h6 hk hmo A c l W (by rw [hml];exact hC) (by omega) hlen hodd
   unfold zen zaj at h
   rw [hlen] at h
   rw [hm2]
   exact h
  ·intro W A1 c1 hC h1
   have h:=ziz (!p5) hf h2 h6 hk hmo A1 c1 (zaW fm g ker p5 mode l) W (by rw [a1,← hm2];exact hC) (by omega) a1 (zlz a2 (by omega))
   unfold zen zaj at h
   rw [a1] at h
   rw [hm2]
   exact h
  ·intro W
   exact zkx p5 hf h2 h6 hk hmo W
  ·intro W A1 c1 hC h1
   exact zne p5 hf h2 h6 hk hmo W A1 c1 hC h1
end Go.Proofs.YteieahbadclppaaGreat.P

set_option linter.unusedVariables false
namespace Go.Proofs.YteieahbadclppaaGreat.P
open Go.RowKit Go.Proofs.YteieahbadclppaaGreatW.PrintWords Go.Proofs.YteieahbadclppaaGreatW.PrintLast Go.Proofs.YteieahbadclppaaGreatW.PrintMore
set_option linter.unusedVariables false
set_option linter.unusedSimpArgs false
def headroomtop_TopInverse.f (l0:List (S38)) (a1_0:Int) (a1_1:Int) (a1_2:Int) (a1_3:Int) (a1_4:Int) (a1_5:Bool):Option Bool:=some true
theorem headroomtop_TopInverse.calls (A0:Option Addr) (c0:Nat) (l0:List (S38)) (a1_0:Int) (a1_1:Int) (a1_2:Int) (a1_3:Int) (a1_4:Int) (a1_5:Bool) (r:Bool) (w:World) (hr0:Kd.C k38 w A0 l0.length l0) (hc0:l0.length≤c0) (h:headroomtop_TopInverse.f l0 a1_0 a1_1 a1_2 a1_3 a1_4 a1_5=some r) :
  Calls Tryz.prog 3 #[.slice A0 l0.length c0,.agg #[.int .i64 a1_0,.int .i64 a1_1,.int .i64 a1_2,.int .i64 a1_3,.int .i64 a1_4,.bool a1_5]] w fun e w'=>e=.returned (.bool r)∧Below w.heap.size w w':=by
 obtain rfl:=Option.some.inj h
 exact zfT A0 c0 l0 a1_0 a1_1 a1_2 a1_3 a1_4 a1_5 w hr0 hc0
end Go.Proofs.YteieahbadclppaaGreat.P

set_option linter.unusedVariables false
namespace Go.Proofs.YteieahbadclppaaGreat.Pure
open Go.RowKit Go.Proofs.YteieahbadclppaaGreat.P Go.Proofs.YteieahbadclppaaGreatW.PrintWords Go.Proofs.YteieahbadclppaaGreatW.PrintLast

theorem TopInverse:∀(l0:List S38) (a1_0:Int) (a1_1:Int) (a1_2:Int) (a1_3:Int) (a1_4:Int) (a1_5:Bool),l0.length≤maxLen→l0.length*16≤140737488351232→(∀x∈l0,(Lit.int .i64 x.f0).wf=true∧(Lit.int .i64 x.f1).wf=true)→(Lit.int .i64 a1_0).wf=true→(Lit.int .i64 a1_1).wf=true→(Lit.int .i64 a1_2).wf=true→(Lit.int .i64 a1_3).wf=true→(Lit.int .i64 a1_4).wf=true→headroomtop_TopInverse.f l0 a1_0 a1_1 a1_2 a1_3 a1_4 a1_5=some true:=fun _ _ _ _ _ _ _ _ _ _ _ _ _ _ _=>rfl

end Go.Proofs.YteieahbadclppaaGreat.Pure

