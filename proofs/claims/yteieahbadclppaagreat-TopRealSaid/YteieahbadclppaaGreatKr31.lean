/- Part 31 of 36 of the proof: the texts that it reaches, one behind the other. No condition. -/
import Derived.Test.YteieahbadclppaaGreatKr30
namespace Go.Proofs.YteieahbadclppaaGreat.P

set_option linter.unusedVariables false
set_option linter.unusedSimpArgs false
set_option maxRecDepth 100000 in
theorem znz:([0,1].all fun fm=>[2,3,4,5].all fun g=>[0,1,2].all fun ker=>reB fm g ker)=true:=by decide +kernel
end Go.Proofs.YteieahbadclppaaGreat.P

namespace Go.Proofs.YteieahbadclppaaGreat.P
open Go.RowKit Go.Proofs.YteieahbadclppaaGreatW.PrintWords Go.Proofs.YteieahbadclppaaGreatW.PrintLast Go.Proofs.YteieahbadclppaaGreatW.PrintMore
set_option linter.unusedVariables false
set_option linter.unusedSimpArgs false
theorem zgp {ker:Nat} (h:ker < 3):ker∈[0,1,2]:=by simp;omega
theorem znA:zX ⟨0,1⟩ 1:=⟨by decide,by decide⟩
theorem zkF (m j:Nat) (hj:j < 2*m):∀k,k < m→zX ((z8 (zav (2*m) j)).getD k z38) 1:=by
 have h:∀(l:List Int),(∀a,a∈l→a=0)→∀k,zX ((z8 l).getD k z38) 0:=by
  intro l
  induction l using z8.induct with
  | case1 a b r ih =>
   intro hl k
   have e0:=hl a (by simp)
   have e1:=hl b (by simp)
   subst e0;subst e1
   match k with
   | 0=>exact zX.zero
   | k+1=>exact ih (fun a ha=>hl a (by simp [ha])) k
  | case2 l hl =>
   intro _ k
   have e:z8 l=[]:=by
    match l,hl with
    | [],_=>rfl
    | [a],_=>rfl
    | a :: b :: r,hl=>exact absurd rfl (hl a b r)
   rw [e]
   exact zX.zero
 have hrep:∀n,∀a,a∈List.replicate n (0:Int)→a=0:=fun n a ha=>(List.mem_replicate.1 ha).2
 induction m generalizing j with
 | zero=>intro k hk;omega
 | succ m ih =>
  intro k hk
  match j with
  | 0 =>
   have e:z8 (zav (2*(m+1)) 0)=⟨1,0⟩ :: z8 (List.replicate (2*m) 0):=rfl
   rw [e]
   match k with
   | 0=>exact zdA
   | k+1=>exact (h _ (hrep _) k).up (by decide)
  | 1 =>
   have e:z8 (zav (2*(m+1)) 1)=⟨0,1⟩ :: z8 (List.replicate (2*m) 0):=rfl
   rw [e]
   match k with
   | 0=>exact znA
   | k+1=>exact (h _ (hrep _) k).up (by decide)
  | j+2 =>
   have e:z8 (zav (2*(m+1)) (j+2))=⟨0,0⟩ :: z8 (zav (2*m) j):=rfl
   rw [e]
   match k with
   | 0=>exact zX.zero.up (by decide)
   | k+1=>exact ih j (by omega) k (by omega)
end Go.Proofs.YteieahbadclppaaGreat.P

