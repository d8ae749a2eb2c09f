/- Part 19 of 36 of the proof: the texts that it reaches, one behind the other. No condition. -/
import Derived.Test.YteieahbadclppaaGreatKr18
namespace Go.Proofs.YteieahbadclppaaGreat.P
open Go.RowKit Go.Proofs.YteieahbadclppaaGreatW.PrintWords Go.Proofs.YteieahbadclppaaGreatW.PrintLast Go.Proofs.YteieahbadclppaaGreatW.PrintMore
set_option linter.unusedVariables false
set_option linter.unusedSimpArgs false
def zX (x:S38) (r:Int):Prop:=0≤r∧x.f0*x.f0+x.f1*x.f1≤r*r
def zaz (x y:S38):S38:=⟨x.f0+y.f0,x.f1+y.f1⟩
def zaR (x y:S38):S38:=⟨x.f0*y.f0 - x.f1*y.f1,x.f0*y.f1+x.f1*y.f0⟩
def zah (n:Int) (x:S38):S38:=⟨n*x.f0,n*x.f1⟩
theorem zco (a:Int):0≤a*a:=by
 rcases Int.le_total 0 a with h | h
 ·exact Int.mul_nonneg h h
 ·have:=Int.mul_nonneg (a:=-a) (b:=-a) (by omega) (by omega);grind
theorem zdx {a b:Int} (hb:0≤b) (h:a*a≤b*b):a≤b:=by
 rcases Int.lt_or_le b a with h1 | h1
 ·exfalso
  have h2:0 < (a - b)*(a+b):=Int.mul_pos (by omega) (by omega)
  grind
 ·exact h1
theorem zX.add {x y:S38} {r s:Int} (hx:zX x r) (hy:zX y s):zX (zaz x y) (r+s):=by
 obtain ⟨a0,a1⟩:=x
 obtain ⟨b0,b1⟩:=y
 obtain ⟨hr,hx⟩:=hx
 obtain ⟨hs,hy⟩:=hy
 simp only [zaz,zX] at *
 refine ⟨by omega,?_⟩
 have h1:(a0*b0+a1*b1)*(a0*b0+a1*b1)≤(r*s)*(r*s):=by
  have e:(a0*b0+a1*b1)*(a0*b0+a1*b1)+(a0*b1 - a1*b0)*(a0*b1 - a1*b0)=(a0*a0+a1*a1)*(b0*b0+b1*b1):=by grind
  have p:=zco (a0*b1 - a1*b0)
  have b0n:=zco b0
  have b1n:=zco b1
  have rn:=zco r
  have q:(a0*a0+a1*a1)*(b0*b0+b1*b1)≤(r*r)*(s*s):=Int.mul_le_mul hx hy (by omega) rn
  grind
 have h2:a0*b0+a1*b1≤r*s:=zdx (Int.mul_nonneg hr hs) h1
 grind
theorem zX.mul {x y:S38} {r s:Int} (hx:zX x r) (hy:zX y s):zX (zaR x y) (r*s):=by
 obtain ⟨a0,a1⟩:=x
 obtain ⟨b0,b1⟩:=y
 obtain ⟨hr,hx⟩:=hx
 obtain ⟨hs,hy⟩:=hy
 simp only [zaR,zX] at *
 refine ⟨Int.mul_nonneg hr hs,?_⟩
 have b0n:=zco b0
 have b1n:=zco b1
 have rn:=zco r
 have q:(a0*a0+a1*a1)*(b0*b0+b1*b1)≤(r*r)*(s*s):=Int.mul_le_mul hx hy (by omega) rn
 grind
theorem zX.scl {x:S38} {r:Int} (n:Int) (hn:0≤n) (hx:zX x r):zX (zah n x) (n*r):=by
 obtain ⟨a0,a1⟩:=x
 obtain ⟨hr,hx⟩:=hx
 simp only [zah,zX] at *
 refine ⟨Int.mul_nonneg hn hr,?_⟩
 have q:=Int.mul_le_mul_of_nonneg_left hx (zco n)
 grind
theorem zX.up {x:S38} {r s:Int} (hx:zX x r) (h:r≤s):zX x s:=by
 obtain ⟨hr,hx⟩:=hx
 exact ⟨by omega,Int.le_trans hx (Int.mul_le_mul h h hr (by omega))⟩
theorem zX.part {x:S38} {r:Int} (hx:zX x r):(x.f0≤r∧-r≤x.f0)∧x.f1≤r∧-r≤x.f1:=by
 obtain ⟨hr,hx⟩:=hx
 have p0:=zco x.f0
 have p1:=zco x.f1
 have h0:=zdx (a:=x.f0) hr (by omega)
 have h1:=zdx (a:=x.f1) hr (by omega)
 have h2:=zdx (a:=-x.f0) hr (by grind)
 have h3:=zdx (a:=-x.f1) hr (by grind)
 omega
theorem zX.zero:zX z38 0:=⟨by decide,by decide⟩
theorem zX.box {x:S38} {m:Int} (hm:0≤m) (h0:x.f0≤m) (h1:-m≤x.f0) (h2:x.f1≤m) (h3:-m≤x.f1):zX (zah 64 x) (91*m):=by
 obtain ⟨a0,a1⟩:=x
 simp only [zah,zX] at *
 refine ⟨by omega,?_⟩
 have s0:a0*a0≤m*m:=by
  have:0≤(m - a0)*(m+a0):=Int.mul_nonneg (by omega) (by omega)
  grind
 have s1:a1*a1≤m*m:=by
  have:0≤(m - a1)*(m+a1):=Int.mul_nonneg (by omega) (by omega)
  grind
 have mm:=zco m
 grind
abbrev Row:=List (S38×Int×Nat)
def dot (x:List S38):Row→S38
 | []=>z38
 | t :: r=>zaz (zaR t.1 (x.getD t.2.2 z38)) (dot x r)
def zax:Row→Int
 | []=>0
 | t :: r=>t.2.1+zax r
def zbz (n:Nat):Row→Bool
 | []=>true
 | t :: r=>decide (0≤t.2.1) && (decide (t.1.f0*t.1.f0+t.1.f1*t.1.f1≤t.2.1*t.2.1) && (decide (t.2.2 < n) && zbz n r))
theorem zjf {n:Nat} {t:S38×Int×Nat} {r:Row} (h:zbz n (t :: r)=true):zX t.1 t.2.1∧t.2.2 < n∧zbz n r=true:=by
 simp only [zbz,Bool.and_eq_true,decide_eq_true_eq] at h
 exact ⟨⟨h.1,h.2.1⟩,h.2.2.1,h.2.2.2⟩
theorem zdy {x:List S38} {e:Int} (he:0≤e):∀(r:Row),zbz x.length r=true→(∀k,k < x.length→zX (x.getD k z38) e)→zX (dot x r) (zax r*e)
 | [],_,_=>by simp only [dot,zax,Int.zero_mul];exact zX.zero
 | t :: r,h,hx=>by
  obtain ⟨h1,h2,h3⟩:=zjf h
  have h4:=(h1.mul (hx _ h2)).add (zdy he r h3 hx)
  simp only [dot,zax]
  rw [Int.add_mul]
  exact h4
def zaB (x y:List S38):List S38:=List.zipWith zaz x y
def zhy (c:S38) (x:List S38):List S38:=x.map (zaR c)
theorem zeg {x y:List S38} (h:x.length=y.length):(zaB x y).length=x.length:=by simp [zaB,h]
theorem zcc {x y:List S38} (h:x.length=y.length) (k:Nat):(zaB x y).getD k z38=zaz (x.getD k z38) (y.getD k z38):=by
 simp only [zaB,List.getD_eq_getElem?_getD,List.getElem?_zipWith]
 by_cases hk:k < x.length
 ·rw [List.getElem?_eq_getElem hk,List.getElem?_eq_getElem (by omega)];rfl
 ·rw [List.getElem?_eq_none (by omega),List.getElem?_eq_none (by omega)];rfl
theorem zau {x y:S38} (h0:x.f0=y.f0) (h1:x.f1=y.f1):x=y:=by
 cases x;cases y;simp_all
theorem zgg {x y:List S38} (h:x.length=y.length):∀r:Row,dot (zaB x y) r=zaz (dot x r) (dot y r)
 | []=>rfl
 | t :: r=>by
  simp only [dot]
  rw [zcc h,zgg h r]
  apply zau <;> simp only [zaz,zaR] <;> grind
structure Lin (n m:Nat) (F:List S38→List S38):Prop where
 len:∀x,x.length=n→(F x).length=m
 add:∀x y,x.length=n→y.length=n→F (zaB x y)=zaB (F x) (F y)
 scl:∀c x,x.length=n→F (zhy c x)=zhy c (F x)
def zai (rows:List Row) (x:List S38):List S38:=rows.map (dot x)
theorem Lin.comp {n m k:Nat} {F G:List S38→List S38} (hG:Lin m k G) (hF:Lin n m F):Lin n k (fun x=>G (F x)) where
 len x hx:=hG.len _ (hF.len x hx)
 add x y hx hy:=by
  show G (F _)=_
  rw [hF.add x y hx hy,hG.add _ _ (hF.len x hx) (hF.len y hy)]
 scl c x hx:=by
  show G (F _)=_
  rw [hF.scl c x hx,hG.scl c _ (hF.len x hx)]
theorem Lin.sum {n m:Nat} {F G:List S38→List S38} (hF:Lin n m F) (hG:Lin n m G):Lin n m (fun x=>zaB (F x) (G x)) where
 len x hx:=by
  show (zaB _ _).length=_
  rw [zeg (by rw [hF.len x hx,hG.len x hx]),hF.len x hx]
 add x y hx hy:=by
  show zaB (F _) (G _)=zaB (zaB _ _) (zaB _ _)
  rw [hF.add x y hx hy,hG.add x y hx hy]
  have a:=hF.len x hx
  have b:=hF.len y hy
  have c:=hG.len x hx
  have d:=hG.len y hy
  apply List.ext_getElem
  ·simp only [zaB,List.length_zipWith,a,b,c,d,Nat.min_self]
  ·intro i h1 h2
   simp only [zaB,List.getElem_zipWith]
   apply zau <;> simp only [zaz] <;> omega
 scl c x hx:=by
  show zaB (F _) (G _)=zhy c (zaB _ _)
  rw [hF.scl c x hx,hG.scl c x hx]
  apply List.ext_getElem
  ·simp [zaB,zhy]
  ·intro i h1 h2
   simp only [zaB,zhy,List.getElem_zipWith,List.getElem_map]
   apply zau <;> simp only [zaz,zaR] <;> grind
def pre (x:List S38) (k:Nat):List S38:=x.take k++List.replicate (x.length - k) z38
def zbg (z:S38) (b:Int):Prop:=(z.f0≤b∧-b≤z.f0)∧z.f1≤b∧-b≤z.f1
theorem zbg.add {x y:S38} {a b:Int} (hx:zbg x a) (hy:zbg y b):zbg (zaz x y) (a+b):=by
 unfold zbg zaz at *;simp only;omega
theorem zcp {a b m:Int} (ha:a≤m∧-m≤a):a*b≤m*b.natAbs∧-(m*b.natAbs)≤a*b:=by
 rcases Int.le_total 0 b with h | h
 ·have e:((b.natAbs:Nat):Int)=b:=by omega
  rw [e]
  have h1:=Int.mul_le_mul_of_nonneg_right ha.1 h
  have h2:=Int.mul_le_mul_of_nonneg_right ha.2 h
  rw [Int.neg_mul] at h2
  exact ⟨h1,h2⟩
 ·have e:((b.natAbs:Nat):Int)=-b:=by omega
  rw [e]
  have h1:=Int.mul_le_mul_of_nonneg_right ha.1 (c:=-b) (by omega)
  have h2:=Int.mul_le_mul_of_nonneg_right ha.2 (c:=-b) (by omega)
  rw [Int.mul_neg,Int.mul_neg] at *
  rw [Int.neg_mul] at h2
  omega
theorem zbg.mul {x y:S38} {m:Int} (hx:zbg x m):zbg (zaR x y) (m*((y.f0.natAbs+y.f1.natAbs:Nat):Int)):=by
 obtain ⟨hx0,hx1⟩:=hx
 have h1:=zcp (b:=y.f0) hx0
 have h2:=zcp (b:=y.f1) hx0
 have h3:=zcp (b:=y.f0) hx1
 have h4:=zcp (b:=y.f1) hx1
 unfold zbg zaR
 simp only
 rw [Int.natCast_add,Int.mul_add]
 omega
def zcH (x y:List Int):List Int:=List.zipWith (·+·) x y
def zb0 (c:Int) (x:List Int):List Int:=x.map (c*·)
theorem zlk {x y:List Int} (h:x.length=y.length) (k:Nat):(zcH x y).getD k 0=x.getD k 0+y.getD k 0:=by
 simp only [zcH,List.getD_eq_getElem?_getD,List.getElem?_zipWith]
 by_cases hk:k < x.length
 ·rw [List.getElem?_eq_getElem hk,List.getElem?_eq_getElem (by omega)];rfl
 ·rw [List.getElem?_eq_none (by omega),List.getElem?_eq_none (by omega)];rfl
theorem zll (c:Int) (x:List Int) (k:Nat):(zb0 c x).getD k 0=c*x.getD k 0:=by
 simp only [zb0,List.getD_eq_getElem?_getD,List.getElem?_map]
 by_cases hk:k < x.length
 ·rw [List.getElem?_eq_getElem hk];rfl
 ·rw [List.getElem?_eq_none (by omega)];simp
def lsc (n:Int) (x:List S38):List S38:=x.map (zah n)
theorem zaO (n:Int) (x:List S38):(lsc n x).length=x.length:=by simp [lsc]
theorem zbs (c:Int) (x:List S38) (k:Nat):(lsc c x).getD k z38=zah c (x.getD k z38):=by
 simp only [lsc,List.getD_eq_getElem?_getD,List.getElem?_map]
 by_cases hk:k < x.length
 ·rw [List.getElem?_eq_getElem hk];rfl
 ·rw [List.getElem?_eq_none (by omega)];simp [zah,z38]
theorem zdn (c:Int) (x:List S38):∀r:Row,dot (lsc c x) r=zah c (dot x r)
 | []=>by simp [dot,zah,z38]
 | t :: r=>by
  simp only [dot]
  rw [zbs,zdn c x r]
  apply zau <;> simp only [zaz,zaR,zah] <;> grind
structure ZL (n m:Nat) (F:List Int→List S38):Prop where
 len:∀x,x.length=n→(F x).length=m
 add:∀x y,x.length=n→y.length=n→F (zcH x y)=zaB (F x) (F y)
 scl:∀c x,x.length=n→F (zb0 c x)=lsc c (F x)
theorem zeh {x y:List S38} (h:x.length=y.length) (hk:∀k,k < x.length→x.getD k z38=y.getD k z38):x=y:=by
 apply List.ext_getElem h
 intro i h1 h2
 have:=hk i h1
 rw [List.getD_eq_getElem?_getD,List.getD_eq_getElem?_getD,List.getElem?_eq_getElem h1,List.getElem?_eq_getElem h2] at this
 exact this
theorem ZL.of {n m:Nat} {F:List Int→List S38} {f:List Int→Nat→S38} (hl:∀x,x.length=n→(F x).length=m) (hf:∀x k,x.length=n→k < m→(F x).getD k z38=f x k)
  (ha:∀x y k,x.length=n→y.length=n→k < m→f (zcH x y) k=zaz (f x k) (f y k)) (hs:∀c x k,x.length=n→k < m→f (zb0 c x) k=zah c (f x k)):ZL n m F where
 len:=hl
 add x y hx hy:=by
  have hxy:(zcH x y).length=n:=by simp [zcH,hx,hy]
  refine zeh (by rw [hl _ hxy,zeg (by rw [hl _ hx,hl _ hy]),hl _ hx]) fun k hk=>?_
  rw [hl _ hxy] at hk
  rw [zcc (by rw [hl _ hx,hl _ hy]),hf _ _ hxy hk,hf _ _ hx hk,hf _ _ hy hk,ha _ _ _ hx hy hk]
 scl c x hx:=by
  have hcx:(zb0 c x).length=n:=by simp [zb0,hx]
  refine zeh (by rw [hl _ hcx,zaO,hl _ hx]) fun k hk=>?_
  rw [hl _ hcx] at hk
  rw [zbs,hf _ _ hcx hk,hf _ _ hx hk,hs _ _ _ hx hk]
theorem ZL.get_add {n m:Nat} {F:List Int→List S38} (h:ZL n m F) {x y:List Int} (hx:x.length=n) (hy:y.length=n) (k:Nat):(F (zcH x y)).getD k z38=zaz ((F x).getD k z38) ((F y).getD k z38):=by
 rw [h.add x y hx hy,zcc (by rw [h.len x hx,h.len y hy])]
theorem ZL.get_scl {n m:Nat} {F:List Int→List S38} (h:ZL n m F) (c:Int) {x:List Int} (hx:x.length=n) (k:Nat):(F (zb0 c x)).getD k z38=zah c ((F x).getD k z38):=by
 rw [h.scl c x hx,zbs]
theorem ZL.rows {n m:Nat} {F:List Int→List S38} (h:ZL n m F) (rs:List Row):ZL n rs.length (fun x=>zai rs (F x)) where
 len x _:=by simp [zai]
 add x y hx hy:=by
  show zai rs (F _)=zaB (zai rs _) (zai rs _)
  rw [h.add x y hx hy]
  simp only [zai,zaB]
  rw [List.zipWith_map,List.zipWith_self]
  exact List.map_congr_left fun r _=>zgg (by rw [h.len x hx,h.len y hy]) r
 scl c x hx:=by
  show zai rs (F _)=lsc c (zai rs _)
  rw [h.scl c x hx]
  simp only [zai,lsc,List.map_map]
  exact List.map_congr_left fun r _=>zdn c _ r
theorem zim {a b c d:List S38} (h:a.length=c.length):zaB (a++b) (c++d)=zaB a c++zaB b d:=by
 simp only [zaB]
 exact List.zipWith_append h
theorem ZL.append {n m k:Nat} {F G:List Int→List S38} (h:ZL n m F) (g:ZL n k G):ZL n (m+k) (fun x=>F x++G x) where
 len x hx:=by
  show (F x++G x).length=_
  rw [List.length_append,h.len x hx,g.len x hx]
 add x y hx hy:=by
  show F _++G _=zaB (F _++G _) (F _++G _)
  rw [h.add x y hx hy,g.add x y hx hy,zim (by rw [h.len x hx,h.len y hy])]
 scl c x hx:=by
  show F _++G _=lsc c (F _++G _)
  rw [h.scl c x hx,g.scl c x hx]
  simp [lsc]
def zaN (x:S38):S38:=⟨x.f0,-x.f1⟩
theorem ZL.conj {n m:Nat} {F:List Int→List S38} (h:ZL n m F):ZL n m (fun x=>(F x).map zaN) where
 len x hx:=by
  show ((F x).map zaN).length=_
  rw [List.length_map,h.len x hx]
 add x y hx hy:=by
  show (F _).map zaN=zaB ((F _).map zaN) ((F _).map zaN)
  rw [h.add x y hx hy]
  simp only [zaB,List.zipWith_map,List.map_zipWith]
  congr 1
  funext a b
  apply zau <;> simp only [zaz,zaN] <;> omega
 scl c x hx:=by
  show (F _).map zaN=lsc c ((F _).map zaN)
  rw [h.scl c x hx]
  simp only [lsc,List.map_map]
  refine List.map_congr_left fun a _=>?_
  apply zau <;> simp only [zah,zaN,Function.comp] <;> grind
theorem ZL.scaled {n m:Nat} {F:List Int→List S38} (h:ZL n m F) (d:Int):ZL n m (fun x=>lsc d (F x)) where
 len x hx:=by
  show (lsc d (F x)).length=_
  rw [zaO,h.len x hx]
 add x y hx hy:=by
  show lsc d (F _)=zaB (lsc d (F _)) (lsc d (F _))
  rw [h.add x y hx hy]
  simp only [zaB,lsc,List.zipWith_map,List.map_zipWith]
  congr 1
  funext a b
  apply zau <;> simp only [zaz,zah] <;> grind
 scl c x hx:=by
  show lsc d (F _)=lsc c (lsc d (F _))
  rw [h.scl c x hx]
  simp only [lsc,List.map_map]
  refine List.map_congr_left fun a _=>?_
  apply zau <;> simp only [zah,Function.comp] <;> grind
theorem ZL.sum {n m:Nat} {F G:List Int→List S38} (h:ZL n m F) (g:ZL n m G):ZL n m (fun x=>zaB (F x) (G x)) :=
 ZL.of (f:=fun x k=>zaz ((F x).getD k z38) ((G x).getD k z38)) (fun x hx=>by show (zaB (F x) (G x)).length=_;rw [zeg (by rw [h.len x hx,g.len x hx]),h.len x hx])
  (fun x k hx _=>by show (zaB (F x) (G x)).getD k z38=_;rw [zcc (by rw [h.len x hx,g.len x hx])])
  (fun x y k hx hy _=>by
   simp only [h.get_add hx hy,g.get_add hx hy]
   apply zau <;> simp only [zaz] <;> omega)
  (fun c x k hx _=>by
   simp only [h.get_scl c hx,g.get_scl c hx]
   apply zau <;> simp only [zaz,zah] <;> grind)
def z8:List Int→List S38
 | a :: b :: r=>⟨a,b⟩ :: z8 r
 | _=>[]
theorem zc2:∀(m:Nat) (x:List Int),x.length=2*m→(z8 x).length=m
 | 0,[],_=>rfl
 | m+1,a :: b :: r,h=>by
  have:=zc2 m r (by simp at h;omega)
  simp [z8,this]
theorem zfo (m:Nat):ZL (2*m) m z8 where
 len x hx:=zc2 m x hx
 add:=by
  induction m with
  | zero=>intro x y hx hy;obtain rfl:=List.length_eq_zero_iff.1 hx;obtain rfl:=List.length_eq_zero_iff.1 hy;rfl
  | succ m ih =>
   intro x y hx hy
   match x,y,hx,hy with
   | a :: b :: r,c :: d :: s,hx,hy =>
    have:=ih r s (by simp at hx;omega) (by simp at hy;omega)
    show (⟨a+c,b+d⟩:S38) :: z8 (zcH r s)=_
    rw [this]
    rfl
 scl:=by
  induction m with
  | zero=>intro c x hx;obtain rfl:=List.length_eq_zero_iff.1 hx;rfl
  | succ m ih =>
   intro c x hx
   match x,hx with
   | a :: b :: r,hx =>
    have:=ih c r (by simp at hx;omega)
    show (⟨c*a,c*b⟩:S38) :: z8 (zb0 c r)=_
    rw [this]
    rfl
def zac (x:List Int):List S38:=x.map fun a=>⟨a,0⟩
theorem zlm (n:Nat):ZL n n zac where
 len x hx:=by simp [zac,hx]
 add x y hx hy:=by
  simp only [zac,zcH,zaB,List.zipWith_map,List.map_zipWith]
  congr 1
 scl c x hx:=by
  simp only [zac,zb0,lsc,List.map_map]
  refine List.map_congr_left fun a _=>?_
  apply zau <;> simp [zah]
def zcI (x:List Int) (k:Nat):List Int:=x.take k++List.replicate (x.length - k) 0
def zav (n j:Nat):List Int:=(List.replicate n 0).set j 1
theorem zcj (n j:Nat):(zav n j).length=n:=by simp [zav]
theorem zln (x:List Int) (k:Nat) (h:k≤x.length):(zcI x k).length=x.length:=by simp [zcI];omega
theorem zkf (x:List Int) (k:Nat) (h:k < x.length):zcI x (k+1)=zcH (zcI x k) (zb0 (x.getD k 0) (zav x.length k)):=by
 apply List.ext_getElem
 ·simp [zcH,zb0,zcI,zav];omega
 ·intro i h1 h2
  simp only [zcH,zb0,zav,zcI,List.getElem_zipWith,List.getElem_map,List.getElem_append,List.getElem_set,List.getElem_replicate,List.length_take,List.getElem_take]
  rw [List.getD_eq_getElem?_getD,List.getElem?_eq_getElem h]
  by_cases e:i=k
  ·subst e
   rw [dif_pos (by omega),dif_neg (by omega),if_pos rfl]
   simp
  ·rw [if_neg (fun h=>e h.symm)]
   by_cases l:i < k
   ·rw [dif_pos (by omega),dif_pos (by omega)]
    simp
   ·rw [dif_neg (by omega),dif_neg (by omega)]
    simp
def zas (x:List Int) (c:Nat→Int):Nat→Int
 | 0=>0
 | k+1=>zas x c k+x.getD k 0*c k
theorem zhz {n m:Nat} {F:List Int→List S38} (h:ZL n m F) (x:List Int) (hx:x.length=n) (i:Nat):∀k,k≤n→(F (zcI x k)).getD i z38=⟨zas x (fun j=>((F (zav n j)).getD i z38).f0) k,zas x (fun j=>((F (zav n j)).getD i z38).f1) k⟩
 | 0,_=>by
  have e:zcI x 0=zb0 0 x:=by
   simp only [zcI,zb0,List.take_zero,List.nil_append,Nat.sub_zero]
   apply List.ext_getElem
   ·simp
   ·intro i h1 h2;simp
  rw [e,h.get_scl 0 hx]
  simp [zah,zas]
 | k+1,hk=>by
  have ih:=zhz h x hx i k (by omega)
  rw [zkf x k (by omega),hx,h.get_add (by rw [zln _ _ (by omega),hx]) (by simp [zb0,zav]),h.get_scl _ (zcj n k),ih]
  rfl
theorem zhA (x:List Int):zcI x x.length=x:=by simp [zcI]
def zei (H:Int):Nat→Int→List Int
 | 0,_=>[]
 | k+1,y=>((y+H) % (2*H) - H) :: zei H k ((y+H) / (2*H))
def zcd (B:Int):Nat→Int→List Int
 | 0,_=>[]
 | k+1,p=>p :: zcd B k (p*B)
def zbU (B:Int) (c:Nat→Int):Nat→Int
 | 0=>0
 | k+1=>c 0+B*zbU B (fun j=>c (j+1)) k
theorem zeJ (H:Int) (hH:0 < H):∀(n:Nat) (c:Nat→Int),(∀j,j < n→-H≤c j∧c j < H)→zei H n (zbU (2*H) c n)=(List.range n).map c
 | 0,_,_=>rfl
 | n+1,c,hc=>by
  have h0:=hc 0 (by omega)
  have ih:=zeJ H hH n (fun j=>c (j+1)) (fun j hj=>hc (j+1) (by omega))
  have e1:(c 0+2*H*zbU (2*H) (fun j=>c (j+1)) n+H) % (2*H)=c 0+H:=by
   have:c 0+2*H*zbU (2*H) (fun j=>c (j+1)) n+H=(c 0+H)+2*H*zbU (2*H) (fun j=>c (j+1)) n:=by omega
   rw [this,Int.add_mul_emod_self_left]
   exact Int.emod_eq_of_lt (by omega) (by omega)
  have e2:(c 0+2*H*zbU (2*H) (fun j=>c (j+1)) n+H) / (2*H)=zbU (2*H) (fun j=>c (j+1)) n:=by
   have:c 0+2*H*zbU (2*H) (fun j=>c (j+1)) n+H=(c 0+H)+2*H*zbU (2*H) (fun j=>c (j+1)) n:=by omega
   rw [this,Int.add_mul_ediv_left _ _ (by omega),Int.ediv_eq_zero_of_lt (by omega) (by omega),Int.zero_add]
  show ((c 0+2*H*_+H) % (2*H) - H) :: zei H n ((c 0+2*H*_+H) / (2*H))=_
  rw [e1,e2,ih,List.range_succ_eq_map,List.map_cons,List.map_map]
  congr 1
  omega
theorem zfp (B:Int):∀n p,(zcd B n p).length=n
 | 0,_=>rfl
 | n+1,p=>by simp [zcd,zfp B n]
theorem zgz (p:Int) (x:List Int) (c:Nat→Int):∀k,zas (p :: x) c (k+1)=p*c 0+zas x (fun j=>c (j+1)) k
 | 0=>by simp [zas]
 | k+1=>by
  rw [show zas (p :: x) c (k+1+1)=zas (p :: x) c (k+1)+(p :: x).getD (k+1) 0*c (k+1) from rfl,zgz p x c k]
  simp only [zas,List.getD_cons_succ]
  omega
theorem zej (B:Int):∀(n:Nat) (p:Int) (c:Nat→Int),zas (zcd B n p) c n=p*zbU B c n
 | 0,_,_=>by simp [zas,zbU]
 | n+1,p,c=>by
  show zas (p :: zcd B n (p*B)) c (n+1)=_
  rw [zgz,zej B n (p*B)]
  simp only [zbU]
  grind
def zcq:List Int→Nat
 | []=>0
 | a :: r=>a.natAbs+zcq r
def zcr (c:Nat→Int):Nat→Nat
 | 0=>0
 | k+1=>zcr c k+(c k).natAbs
theorem zin (x y:List Int):zcq (x++y)=zcq x+zcq y:=by
 induction x with
 | nil=>simp [zcq]
 | cons a r ih=>simp [zcq,ih];omega
theorem zfq (c:Nat→Int):∀n,zcq ((List.range n).map c)=zcr c n
 | 0=>rfl
 | n+1=>by rw [List.range_succ,List.map_append,zin,zfq c n];simp [zcq,zcr]
theorem ze4 {x:List Int} {X:Int} (hX:∀k,x.getD k 0≤X∧-X≤x.getD k 0) (c:Nat→Int):∀n,zas x c n≤X*zcr c n∧-(X*zcr c n)≤zas x c n
 | 0=>by simp [zas,zcr]
 | n+1=>by
  have ih:=ze4 hX c n
  have h:=zcp (b:=c n) (hX n)
  simp only [zas,zcr]
  rw [Int.natCast_add,Int.mul_add]
  omega
theorem zlo {n m:Nat} {F:List Int→List S38} (h:ZL n m F) {H:Int} (hH:0 < H) {B:Nat} (i:Nat)
  (hM:∀j,j < n→-H≤((F (zav n j)).getD i z38).f0∧((F (zav n j)).getD i z38).f0 < H∧-H≤((F (zav n j)).getD i z38).f1∧((F (zav n j)).getD i z38).f1 < H)
  (hB:zcq (zei H n ((F (zcd (2*H) n 1)).getD i z38).f0)≤B∧zcq (zei H n ((F (zcd (2*H) n 1)).getD i z38).f1)≤B)
  {x:List Int} (hx:x.length=n) {X:Int} (hX0:0≤X) (hX:∀k,x.getD k 0≤X∧-X≤x.getD k 0):zbg ((F x).getD i z38) (X*B):=by
 have e1:=zhz h x hx i n (Nat.le_refl _)
 have hp:=zfp (2*H) n 1
 have e2:=zhz h (zcd (2*H) n 1) hp i n (Nat.le_refl _)
 rw [show zcI x n=x from by rw [← hx];exact zhA x] at e1
 rw [show zcI (zcd (2*H) n 1) n=zcd (2*H) n 1 from by have:=zhA (zcd (2*H) n 1);rwa [hp] at this] at e2
 rw [e2] at hB
 dsimp only at hB
 rw [zej,zej,Int.one_mul,Int.one_mul,zeJ H hH n _ (fun j hj=>⟨(hM j hj).1,(hM j hj).2.1⟩),zeJ H hH n _ (fun j hj=>⟨(hM j hj).2.2.1,(hM j hj).2.2.2⟩),zfq,zfq] at hB
 have b0:=ze4 hX (fun j=>((F (zav n j)).getD i z38).f0) n
 have b1:=ze4 hX (fun j=>((F (zav n j)).getD i z38).f1) n
 have c0:X*(zcr (fun j=>((F (zav n j)).getD i z38).f0) n:Nat)≤X*B:=Int.mul_le_mul_of_nonneg_left (by omega) hX0
 have c1:X*(zcr (fun j=>((F (zav n j)).getD i z38).f1) n:Nat)≤X*B:=Int.mul_le_mul_of_nonneg_left (by omega) hX0
 rw [e1]
 unfold zbg
 dsimp only
 omega

theorem zek (x how:Int) (c:Nat) (h62:c≤62) (h0:-4611686018427387904≤x) (h1:x≤4611686018427387904):-(2^c:Int)≤2^c*shV x c how - x∧2^c*shV x c how - x≤2^c:=by
 have e:((c:Int)).toNat=c:=by omega
 have hp:(1:Int)≤2^c:=by
  have h:(0:Int) < 2^c:=Int.pow_pos (by decide)
  omega
 unfold shV
 rw [e]
 by_cases hc:(c:Int)=0
 ·rw [if_pos hc]
  have:c=0:=by omega
  subst this
  simp
 ·rw [if_neg hc]
  have m1:=Int.mul_ediv_self_le (x:=x) (k:=2^c) (by omega)
  have m2:=Int.lt_mul_ediv_self_add (x:=x) (k:=2^c) (by omega)
  have q1:x / 2^c≤4611686018427387904:=by
   rcases Int.le_total 0 x with h | h
   ·exact Int.le_trans (Int.ediv_le_self _ h) h1
   ·have:=Int.ediv_neg_of_neg_of_pos (a:=x) (b:=2^c)
    rcases Int.lt_or_eq_of_le h with h' | h'
    ·have:=this h' (by omega);omega
    ·rw [h'];simp
  have q0:-4611686018427387905≤x / 2^c:=by
   have:-4611686018427387904 / (2:Int)^c≤x / 2^c:=Int.ediv_le_ediv (by omega) h0
   have h3:-4611686018427387904≤-4611686018427387904 / (2:Int)^c:=by
    apply Int.le_ediv_of_mul_le (by omega)
    have:(4611686018427387904:Int)*1≤4611686018427387904*2^c:=Int.mul_le_mul_of_nonneg_left hp (by decide)
    omega
   omega
  generalize x / 2^c=q at *
  generalize (2:Int)^c=p at *
  by_cases hu:upV x c how=true
  ·rw [if_pos hu]
   have w:wrap64 (q+1)=q+1:=by unfold wrap64;omega
   rw [w,Int.mul_add,Int.mul_one]
   omega
  ·rw [if_neg hu]
   omega
def zbN (D:Nat) (u v:S38):S38:=zaz (zah (64*2^D) u) (zah (-64) v)
def zfr (D:Nat) (x v:List S38):List S38:=zaB (lsc (64*2^D) x) (lsc (-64) v)
theorem zlp {D:Nat} {x v:List S38} (h:x.length=v.length) (k:Nat):(zfr D x v).getD k z38=zbN D (x.getD k z38) (v.getD k z38):=by
 unfold zfr zbN
 rw [zcc (by rw [zaO,zaO,h]),zbs,zbs]
theorem zhB {D:Nat} {x v:List S38} (h:x.length=v.length):(zfr D x v).length=x.length:=by
 unfold zfr
 rw [zeg (by rw [zaO,zaO,h]),zaO]
theorem zmx {D:Nat} {x v:List S38} (h:x.length=v.length) (r:Row):dot (zfr D x v) r=zbN D (dot x r) (dot v r):=by
 unfold zfr zbN
 rw [zgg (by rw [zaO,zaO,h]),zdn,zdn]
def zaC (D:Nat) (E:Int) (x v:List S38):Prop:=x.length=v.length∧0≤E∧∀k,k < x.length→zX (zbN D (x.getD k z38) (v.getD k z38)) (E*2^D)
def zfP (z:S38) (b:Int):Prop:=(-b≤z.f0∧z.f0≤b)∧-b≤z.f1∧z.f1≤b
theorem zkg {x v:List S38} {D c:Nat} {E:Int} {r:Row} {mode:Int} (h:zaC D E x v) (hr:zbz x.length r=true) (hN:zax r*E≤2^c*(E+1)) (hc:c≤62) (hb:zfP (dot x r) 4611686018427387904) :
  zX (zbN (D+c) (shC c mode (dot x r)) (dot v r)) ((E+92)*2^(D+c)):=by
 obtain ⟨hl,hE,hk⟩:=h
 have h1:=zdy (x:=zfr D x v) (e:=E*2^D) (Int.mul_nonneg hE (Int.le_of_lt (Int.pow_pos (by decide)))) r (by rw [zhB hl];exact hr) (fun k hk2=>by rw [zlp hl];exact hk k (by rw [zhB hl] at hk2;exact hk2))
 rw [zmx hl] at h1
 have s0:=zek (dot x r).f0 mode c hc hb.1.1 hb.1.2
 have s1:=zek (dot x r).f1 mode c hc hb.2.1 hb.2.2
 have hp:(0:Int) < 2^D:=Int.pow_pos (by decide)
 have hpc:(0:Int) < 2^c:=Int.pow_pos (by decide)
 have h2:=zX.box (x:=⟨2^c*shV (dot x r).f0 c mode - (dot x r).f0,2^c*shV (dot x r).f1 c mode - (dot x r).f1⟩) (m:=2^c) (by omega) s0.2 s0.1 s1.2 s1.1
 have h3:=(zX.scl (2^D) (by omega) h2).add h1
 have e:zaz (zah (2^D) (zah 64 ⟨2^c*shV (dot x r).f0 c mode - (dot x r).f0,2^c*shV (dot x r).f1 c mode - (dot x r).f1⟩)) (zbN D (dot x r) (dot v r))=zbN (D+c) (shC c mode (dot x r)) (dot v r):=by
  unfold zbN zaz zah shC
  rw [Int.pow_add]
  apply zau <;> dsimp only <;> grind
 rw [e] at h3
 refine h3.up ?_
 rw [Int.pow_add]
 have h4:=Int.mul_le_mul_of_nonneg_right hN (Int.le_of_lt hp)
 generalize (2:Int)^D=p at *
 generalize (2:Int)^c=q at *
 generalize zax r=n at *
 grind
def zaf (c:Nat) (mode:Int) (rows:List Row) (x:List S38):List S38:=rows.map fun r=>shC c mode (dot x r)
theorem zjg {x v:List S38} {D c:Nat} {E:Int} {rows:List Row} {mode:Int} (h:zaC D E x v) (hr:∀r,r∈rows→zbz x.length r=true∧zax r*E≤2^c*(E+1)∧zfP (dot x r) 4611686018427387904) (hc:c≤62):zaC (D+c) (E+92) (zaf c mode rows x) (zai rows v):=by
 refine ⟨by simp [zaf,zai],by have:=h.2.1;omega,fun k hk=>?_⟩
 have hk2:k < rows.length:=by simpa [zaf] using hk
 have e1:(zaf c mode rows x).getD k z38=shC c mode (dot x rows[k]):=by
  simp [zaf,List.getD_eq_getElem?_getD,List.getElem?_map,List.getElem?_eq_getElem hk2]
 have e2:(zai rows v).getD k z38=dot v rows[k]:=by
  simp [zai,List.getD_eq_getElem?_getD,List.getElem?_map,List.getElem?_eq_getElem hk2]
 rw [e1,e2]
 obtain ⟨a1,a2,a3⟩:=hr _ (List.getElem_mem hk2)
 exact zkg h a1 a2 hc a3
theorem zjh {x:List S38} {c:Nat} {M M':Int} {r:Row} {mode:Int} (hM:0≤M) (h:∀k,k < x.length→zX (zah 64 (x.getD k z38)) M) (hr:zbz x.length r=true) (hN:zax r*M+91*2^c≤2^c*M') (hc:c≤62) (hb:zfP (dot x r) 4611686018427387904):zX (zah (2^c) (zah 64 (shC c mode (dot x r)))) (2^c*M'):=by
 have h1:=zdy (x:=lsc 64 x) hM r (by rw [zaO];exact hr) (fun k hk=>by rw [zbs];rw [zaO] at hk;exact h k hk)
 rw [zdn] at h1
 have s0:=zek (dot x r).f0 mode c hc hb.1.1 hb.1.2
 have s1:=zek (dot x r).f1 mode c hc hb.2.1 hb.2.2
 have hpc:(0:Int) < 2^c:=Int.pow_pos (by decide)
 have h2:=zX.box (x:=⟨2^c*shV (dot x r).f0 c mode - (dot x r).f0,2^c*shV (dot x r).f1 c mode - (dot x r).f1⟩) (m:=2^c) (by omega) s0.2 s0.1 s1.2 s1.1
 have h3:=h2.add h1
 have e:zaz (zah 64 ⟨2^c*shV (dot x r).f0 c mode - (dot x r).f0,2^c*shV (dot x r).f1 c mode - (dot x r).f1⟩) (zah 64 (dot x r))=zah (2^c) (zah 64 (shC c mode (dot x r))):=by
  unfold zaz zah shC
  apply zau <;> dsimp only <;> grind
 rw [e] at h3
 exact h3.up (by omega)
def zaS (o:List S38):List (Nat×S38)→List S38
 | []=>o
 | p :: l=>zaS (o.set p.1 p.2) l
theorem zeK:∀(l:List (Nat×S38)) (o:List S38),(zaS o l).length=o.length
 | [],_=>rfl
 | p :: l,o=>by rw [zaS,zeK l,List.length_set]
theorem zdH:∀(l:List (Nat×S38)) (o:List S38) (i:Nat),(∀p,p∈l→p.1≠i)→(zaS o l).getD i z38=o.getD i z38
 | [],_,_,_=>rfl
 | p :: l,o,i,h=>by
  rw [zaS,zdH l _ i (fun q hq=>h q (List.mem_cons_of_mem _ hq))]
  have:=h p (List.mem_cons_self ..)
  simp [List.getD_eq_getElem?_getD,List.getElem?_set,this]
theorem zgA:∀(l:List (Nat×S38)) (o:List S38),(l.map (·.1)).Nodup→(∀p,p∈l→p.1 < o.length)→∀p,p∈l→(zaS o l).getD p.1 z38=p.2
 | [],_,_,_,_,h=>by cases h
 | q :: l,o,hn,hlt,p,h=>by
  rw [List.map_cons,List.nodup_cons] at hn
  rw [zaS]
  rcases List.mem_cons.1 h with rfl | h
  ·rw [zdH l _ _ (fun r hr e=>hn.1 (by rw [← e];exact List.mem_map_of_mem hr))]
   have:=hlt p (List.mem_cons_self ..)
   simp [List.getD_eq_getElem?_getD,List.getElem?_set,this]
  ·exact zgA l _ hn.2 (fun r hr=>by rw [List.length_set];exact hlt r (List.mem_cons_of_mem _ hr)) p h
theorem zcs:∀(l m:List (Nat×S38)) (o:List S38),zaS o (l++m)=zaS (zaS o l) m
 | [],_,_=>rfl
 | p :: l,m,o=>by rw [List.cons_append,zaS,zcs l m];rfl
theorem zfs {l:List (Nat×S38)} {o r:List S38} (hn:(l.map (·.1)).Nodup) (hlt:∀p,p∈l→p.1 < o.length) (hlen:r.length=o.length) (hall:∀i,i < o.length→∃p,p∈l∧p.1=i) (hv:∀p,p∈l→r.getD p.1 z38=p.2):zaS o l=r:=by
 refine zeh (by rw [zeK,hlen]) fun k hk=>?_
 rw [zeK] at hk
 obtain ⟨p,hp,rfl⟩:=hall k hk
 rw [zgA l o hn hlt p hp,hv p hp]
structure Grp where
 pl:List Nat
 f:List S38→List S38
def Grp.asg (g:Grp) (o:List S38):List (Nat×S38):=g.pl.zip (g.f (g.pl.map fun p=>o.getD p z38))
def zdI (o:List S38) (gs:List Grp):List S38:=gs.foldl (fun o g=>zaS o (g.asg o)) o
theorem zfg {α β:Type}:∀(a:List α) (b:List β) (p:α×β),p∈a.zip b→p.1∈a
 | a,b,p,h=>(List.of_mem_zip h).1
theorem zhC:∀(gs:List Grp) (o:List S38),(gs.flatMap (·.pl)).Nodup→zdI o gs=zaS o (gs.flatMap fun g=>g.asg o)
 | [],_,_=>rfl
 | g :: gs,o,hn=>by
  rw [List.flatMap_cons,List.nodup_append] at hn
  obtain ⟨h1,h2,h3⟩:=hn
  have ih:=zhC gs (zaS o (g.asg o)) h2
  have hr:∀g'∈gs,g'.asg (zaS o (g.asg o))=g'.asg o:=by
   intro g' hg'
   unfold Grp.asg
   congr 2
   refine List.map_congr_left fun p hp=>?_
   refine zdH _ _ _ fun q hq e=>?_
   have:=zfg _ _ _ hq
   rw [e] at this
   exact h3 p this p (List.mem_flatMap.2 ⟨g',hg',hp⟩) rfl
  show zdI (zaS o (g.asg o)) gs=_
  rw [ih,List.flatMap_cons,zcs]
  congr 1
  rw [List.flatMap_def,List.flatMap_def]
  congr 1
  exact List.map_congr_left hr
end Go.Proofs.YteieahbadclppaaGreat.P

namespace Go.Proofs.YteieahbadclppaaGreat.P
open Go.RowKit Go.Proofs.YteieahbadclppaaGreatW.PrintWords Go.Proofs.YteieahbadclppaaGreatW.PrintLast Go.Proofs.YteieahbadclppaaGreatW.PrintMore
attribute [local go_sem] zF zG zK zL
set_option linter.unusedVariables false
set_option linter.unusedSimpArgs false
theorem zct {e base:Nat} {ok:Nat→Prop} {w:World} {A:Option Addr} {n c:Nat} {xs:List S38} (h:Kd.R k38 e w base ok (.slice A n c) xs):n≤c∧Kd.C k38 w A n xs:=by
 obtain ⟨A',c',hv,h1,h2⟩:=Kd.R_reads h
 injection hv with e1 e2 e3
 subst e1;subst e3;subst e2
 exact ⟨h1,h2⟩
set_option maxRecDepth 100000 in
set_option maxHeartbeats 4000000 in
theorem zgB (p0 p1 p4:Int) (p5:Bool) (A:Option Addr) (c:Nat) (l:List S38) (n:Nat) (Y0 Y1:List S38) (w:World) (hr:Kd.C k38 w A l.length l)
  (hrd:∀W:World,Kd.C k38 W A l.length l→Calls Tryz.prog 16 #[.slice A l.length c,.agg #[.int .i64 p0,.int .i64 p1,.int .i64 2,.int .i64 0,.int .i64 p4,.bool p5]] W fun e w'=>∃A' c',e=.returned (.tuple #[.agg #[.slice A' n c',.int .i64 1,.bool false,.slice none 0 0],.int .i64 0])∧Kd.R k38 38 w' W.heap.size (fun _=>True) (.slice A' n c') Y0∧Below W.heap.size W w')
  (hsp:∀(W:World) (A':Option Addr) (c':Nat),Kd.C k38 W A' n Y0→n≤c'→Calls Tryz.prog 17 #[.slice A' n c',.int .i64 p0,.int .i64 p4,.bool p5] W fun e w'=>∃A2 c2,e=.returned (.tuple #[.slice A2 n c2,.int .i64 0])∧Kd.R k38 38 w' W.heap.size (fun _=>True) (.slice A2 n c2) Y1∧Below W.heap.size W w') :
  Calls Tryz.prog 7 #[.slice A l.length c,.agg (zay p0 p1 2 0 p4 p5)] w fun e w'=>∃A' c',e=.returned (.tuple #[.agg #[.slice A' n c',.int .i64 (wrap64 (1+p1)),.bool false,.slice none 0 0],.int .i64 0])∧Kd.R k38 38 w' w.heap.size (fun _=>True) (.slice A' n c') Y1∧Below w.heap.size w w':=by
 have HR:=hhd hr
 have HRD:=hhd hrd
 have HSP:=hhd hsp
 have fW:=hhd (Below.refl w.heap.size w)
 clear hr hrd hsp
 unfold zay
 go_enter Tryz.func7,Tryz.ntmps7
 go_wp2_with (first
  | ((with_reducible refine zf (N:=3) rfl ?_);refine bb_ 3 rfl fW #[.int .i64 p0,.int .i64 p1,.int .i64 2,.int .i64 0,.int .i64 p4,.bool p5] 24 ?_;intro g3 W1 hg aC L3 aG aW;have gI:=zc_ HR aW;obtain ⟨aX,aY,aZ,a7,a8,a9⟩:=bk6 aG;clear aC hg)
  | ((with_reducible refine zf (N:=4) rfl ?_);refine bb_ 4 rfl aW #[.slice none 0 0,.int .i64 0,.bool false,.slice none 0 0] 28 ?_;intro g4 W2 hg aC L4 bA aH;have aI:=za_ aG aC;have fJ:=zc_ HR aH;obtain ⟨bB,bC,bD,bE,bF,bG⟩:=bk6 aI;clear aX aY aZ a7 a8 a9;obtain ⟨bH,bI,bJ,bK⟩:=bk4 bA;have fH:=ne_ aG hg;clear aC hg)
  | ((with_reducible refine zf (N:=15) rfl ?_);refine lr_ 15 rfl 24 aI Tryz.underlying24 ?_)
  | (go_at_call 16;refine (HRD.out _ fJ.out).mono ?_;rintro e W3 ⟨A1,c1,rfl,ho,hb⟩;have fK:=hhd (Kd.R_lower ho (zi aH));have bL:=zs_ aH hb;have aJ:=za_ aI hb;have aK:=za_ bA hb;have gJ:=zc_ HR bL;obtain ⟨bM,bP,bQ,bR,bS,bT⟩:=bk6 aJ;obtain ⟨bU,bV,bW,bX⟩:=bk4 aK;clear bB bC bD bE bF bG bH bI bJ bK;clear hb ho)
  | ((with_reducible refine zf (N:=6) rfl ?_);refine bb_ 6 rfl bL #[.slice none 0 0,.int .i64 0,.bool false,.slice none 0 0] 28 ?_;intro g6 W4 hg aC L6 aM bY;have bZ:=za_ aJ aC;have b6:=za_ aK aC;have fM:=zr_ fK aC;have gK:=zc_ HR bY;obtain ⟨b7,b8,b9,cA,cB,cC⟩:=bk6 bZ;obtain ⟨cD,cH,cI,cJ⟩:=bk4 b6;clear bM bP bQ bR bS bT bU bV bW bX;obtain ⟨cK,cL,cM,cN⟩:=bk4 aM;have aE:=ne_ aJ hg;have aD:=ne_ aK hg;clear aC hg)
  | ((with_reducible refine zo (t:=28) (p:=6) rfl ?_);refine re_ 28 6 rfl #[.slice A1 n c1,.int .i64 1,.bool false,.slice none 0 0] aM L6 bY ?_;intro W5 I cO aN;have cP:=zt_ I aE bZ;have cQ:=zt_ I aD b6;have cR:=zg_ fM aM I;obtain ⟨cS,cT,cU,cV,cW,cX⟩:=bk6 cP;obtain ⟨cY,cZ,dB,dC⟩:=bk4 cQ;clear b7 b8 b9 cA cB cC cD cH cI cJ cK cL cM cN;obtain ⟨dD,dE,dF,dG⟩:=bk4 cO;have gL:=zc_ HR aN;clear I)
  | (go_at_call 17;refine (HSP.out _ A1 c1 (zct cR.out).2 (zct cR.out).1).mono ?_;rintro e W6 ⟨A2,c2,rfl,ho,hb⟩;have fO:=hhd (Kd.R_lower ho (zi aN));have dH:=zs_ aN hb;have dI:=za_ cP hb;have dJ:=za_ cQ hb;have aQ:=za_ cO hb;have gM:=zc_ HR dH;obtain ⟨dK,dL,dM,dN,dO,dP⟩:=bk6 dI;obtain ⟨dQ,dR,dS,dU⟩:=bk4 dJ;obtain ⟨dV,dW,dX,dY⟩:=bk4 aQ;clear cS cT cU cV cW cX cY cZ dB dC dD dE dF dG;clear hb ho)
  | ((with_reducible refine zo (t:=22) (p:=38) rfl ?_);refine zba rfl rfl 22 _ _ rfl g6 0 (.slice A2 n c2) rfl rfl 28 _ aQ.out (show (0:Nat) < 4 from by decide) zeI rfl rfl #[.slice A2 n c2,.int .i64 1,.bool false,.slice none 0 0] rfl ?_;intro W7 hq I aA;have aT:=hhd hq;have dZ:=hhd (aA _ _ L6 dH.out);have d5:=zt_ I aE dI;have d6:=zt_ I aD dJ;have fP:=zg_ fO aQ I;obtain ⟨d7,d8,d9,eB,eC,eD⟩:=bk6 d5;obtain ⟨eE,eF,eG,eH⟩:=bk4 d6;clear dK dL dM dN dO dP dQ dR dS dU dV dW dX dY;obtain ⟨eI,eJ,eK,eM⟩:=bk4 aT;have gN:=zc_ HR dZ;clear hq I aA)
  | ((with_reducible refine zo (t:=3) (p:=44) rfl ?_);refine zba rfl rfl 3 _ _ rfl g6 1 (.int .i64 (wrap64 (1+p1))) rfl rfl 28 _ aT.out (show (1:Nat) < 4 from by decide) zbP rfl rfl #[.slice A2 n c2,.int .i64 (wrap64 (1+p1)),.bool false,.slice none 0 0] rfl ?_;intro W8 hq I aA;have aU:=hhd hq;have eN:=hhd (aA _ _ L6 dZ.out);have eO:=zt_ I aE d5;have aV:=zt_ I aD d6;have fQ:=zg_ fP aT I;obtain ⟨eP,eQ,eR,eT,eU,eV⟩:=bk6 eO;obtain ⟨eW,eX,eY,eZ⟩:=bk4 aV;clear d7 d8 d9 eB eC eD eE eF eG eH eI eJ eK eM;obtain ⟨fA,fB,fD,fE⟩:=bk4 aU;have gO:=zc_ HR eN;clear hq I aA)
  | ((with_reducible refine zf (N:=45) rfl ?_);refine lr_ 45 rfl 28 aU Tryz.underlying28 ?_)
  | ((with_reducible refine zo (t:=28) (p:=4) rfl ?_);have fR:=fH;have fS:=hhd (Ne.symm aD.out);refine zN rfl 28 _ _ rfl g4 #[.slice A2 n c2,.int .i64 (wrap64 (1+p1)),.bool false,.slice none 0 0] rfl rfl 28 #[.slice none 0 0,.int .i64 0,.bool false,.slice none 0 0] aV.out (zV _ _ _ _) rfl (zaK _ _ _ _ _ _ _ _) ?_;intro W9 hq I aA;have fF:=hhd hq;have fG:=hhd (aA _ _ L4 eN.out);have fT:=zt_ I fR eO;have fU:=zt_ I fS aU;have fV:=zg_ fQ aV I;obtain ⟨fX,fY,fZ,f6,f7,f8⟩:=bk6 fT;obtain ⟨f9,gA,gB,gC⟩:=bk4 fU;clear eP eQ eR eT eU eV eW eX eY eZ fA fB fD fE;obtain ⟨gE,gF,gG,gH⟩:=bk4 fF;have gP:=zc_ HR fG;clear hq I aA))
 refine bodyPost_ret (zW rfl _ _ g4 28 #[.slice A2 n c2,.int .i64 (wrap64 (1+p1)),.bool false,.slice none 0 0] (0,0) _ rfl fF.out Tryz.underlying28 rfl (zV _ _ _ _)) rfl ?_
 exact ⟨_,_,rfl,fV.out,fG.out⟩
set_option maxRecDepth 100000 in
set_option maxHeartbeats 4000000 in
theorem ziC (p0 p1 p2 p3 p4 bad:Int) (p5:Bool) (A:Option Addr) (c:Nat) (l:List S38) (w:World) (hr:Kd.C k38 w A l.length l) (hb:bad≠0)
  (hrd:∀W:World,Kd.C k38 W A l.length l→Calls Tryz.prog 16 #[.slice A l.length c,.agg #[.int .i64 p0,.int .i64 p1,.int .i64 p2,.int .i64 p3,.int .i64 p4,.bool p5]] W fun e w'=>e=.returned (.tuple #[.agg #[.slice none 0 0,.int .i64 0,.bool false,.slice none 0 0],.int .i64 bad])∧Below W.heap.size W w') :
  Calls Tryz.prog 7 #[.slice A l.length c,.agg (zay p0 p1 p2 p3 p4 p5)] w fun e w'=>e=.returned (.tuple #[.agg #[.slice none 0 0,.int .i64 0,.bool false,.slice none 0 0],.int .i64 bad])∧Below w.heap.size w w':=by
 have HR:=hhd hr
 have HRD:=hhd hrd
 have dH:=hhd (Below.refl w.heap.size w)
 have hb1:(bad == 0)=false:=by simpa using hb
 have hb2:(bad=0)=False:=eq_false hb
 clear hr hrd
 unfold zay
 go_enter Tryz.func7,Tryz.ntmps7
 go_wp2_with (first
  | ((with_reducible refine zf (N:=3) rfl ?_);refine bb_ 3 rfl dH #[.int .i64 p0,.int .i64 p1,.int .i64 p2,.int .i64 p3,.int .i64 p4,.bool p5] 24 ?_;intro g3 W1 hg aA L3 aC aI;have dX:=zc_ HR aI;obtain ⟨aJ,aK,aM,aN,aQ,aT⟩:=bk6 aC;clear aA hg)
  | ((with_reducible refine zf (N:=4) rfl ?_);refine bb_ 4 rfl aI #[.slice none 0 0,.int .i64 0,.bool false,.slice none 0 0] 28 ?_;intro g4 W2 hg aA L4 aU aV;have aD:=za_ aC aA;have dE:=zc_ HR aV;obtain ⟨aW,aX,aY,aZ,a7,a8⟩:=bk6 aD;clear aJ aK aM aN aQ aT;obtain ⟨a9,bA,bB,bC⟩:=bk4 aU;have dC:=ne_ aC hg;clear aA hg)
  | ((with_reducible refine zf (N:=15) rfl ?_);refine lr_ 15 rfl 24 aD Tryz.underlying24 ?_)
  | (go_at_call 16;refine (HRD.out _ dE.out).mono ?_;rintro e W3 ⟨rfl,hb⟩;have bD:=zs_ aV hb;have aE:=za_ aD hb;have aG:=za_ aU hb;have dY:=zc_ HR bD;obtain ⟨bE,bF,bG,bH,bI,bJ⟩:=bk6 aE;obtain ⟨bK,bL,bM,bP⟩:=bk4 aG;clear aW aX aY aZ a7 a8 a9 bA bB bC;clear hb)
  | ((with_reducible refine zf (N:=6) rfl ?_);refine bb_ 6 rfl bD #[.slice none 0 0,.int .i64 0,.bool false,.slice none 0 0] 28 ?_;intro g6 W4 hg aA L6 bQ bR;have bS:=za_ aE aA;have bT:=za_ aG aA;have dZ:=zc_ HR bR;obtain ⟨bU,bV,bW,bX,bY,bZ⟩:=bk6 bS;obtain ⟨b6,b7,b8,b9⟩:=bk4 bT;clear bE bF bG bH bI bJ bK bL bM bP;obtain ⟨cA,cB,cC,cD⟩:=bk4 bQ;have dD:=ne_ aE hg;have aH:=ne_ aG hg;clear aA hg)
  | ((with_reducible refine zo (t:=28) (p:=6) rfl ?_);refine re_ 28 6 rfl #[.slice none 0 0,.int .i64 0,.bool false,.slice none 0 0] bQ L6 bR ?_;intro W5 I cH cI;have cJ:=zt_ I dD bS;have cK:=zt_ I aH bT;obtain ⟨cL,cM,cN,cO,cP,cQ⟩:=bk6 cJ;obtain ⟨cR,cS,cT,cU⟩:=bk4 cK;clear bU bV bW bX bY bZ b6 b7 b8 b9 cA cB cC cD;obtain ⟨cV,cW,cX,cY⟩:=bk4 cH;have d5:=zc_ HR cI;clear I)
  | ((with_reducible refine zo (t:=28) (p:=4) rfl ?_);refine re_ 28 4 rfl #[.slice none 0 0,.int .i64 0,.bool false,.slice none 0 0] cK L4 cI ?_;intro W6 I cZ dB;have dF:=zt_ I dC cJ;have dG:=hhd ((I _ (Ne.symm aH.out)).trans cH.out);obtain ⟨dI,dJ,dK,dL,dM,dN⟩:=bk6 dF;obtain ⟨dO,dP,dQ,dR⟩:=bk4 dG;clear cL cM cN cO cP cQ cR cS cT cU cV cW cX cY;obtain ⟨dS,dU,dV,dW⟩:=bk4 cZ;have d6:=zc_ HR dB;clear I))
 refine bodyPost_ret (zW rfl _ _ g4 28 #[.slice none 0 0,.int .i64 0,.bool false,.slice none 0 0] (0,0) _ rfl cZ.out Tryz.underlying28 rfl (zV _ _ _ _)) rfl ?_
 exact ⟨rfl,dB.out⟩
end Go.Proofs.YteieahbadclppaaGreat.P

