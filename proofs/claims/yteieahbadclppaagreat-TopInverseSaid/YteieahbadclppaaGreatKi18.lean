/- Part 18 of 18 of the proof: the texts that it reaches, one behind the other. No condition. -/
import Derived.Test.YteieahbadclppaaGreatKi17
import Derived.Test.YteieahbadclppaaGreatRows
import Derived.WalkKit
import Derived.ProofKit
import Derived.OpenShut
import Derived.ShutString
import Derived.ChangeOld
import Derived.Below
import Derived.SizedLaws
import Derived.Carry
namespace Go.Proofs.YteieahbadclppaaGreat.topInverse
open Go.ChangeShapes Go.WideShapes Go.ChangeAt Go.RowKit Go.Proofs.YteieahbadclppaaGreatW.PrintWords Go.Proofs.YteieahbadclppaaGreatW.PrintLast Go.Proofs.YteieahbadclppaaGreatW.PrintMore
open Go.ChangeMaps (open_string shut_string)
set_option linter.unusedVariables false
theorem own:ownKnob Tryz.prog.godebug=none:=by kernel_rfl
theorem laidOut:laidOutB Tryz.prog=true:=by kernel_rfl
set_option maxRecDepth 100000 in
theorem lifted (os:Os) (started:os.Started) (H:Type) (enc:TypeId×Value→H) :
  ReturnsInHanded {} Tryz.checked os 3 .any (Rows.topInverseSpec.pre6 enc Tryz.prog Tryz.f3 Rows.topInverseRow.domain false) (Rows.topInverseSpec.post enc Tryz.prog Tryz.f3 false true false false):=by
 refine returnsInHanded_of_change_sized (C:=Tryz.checked) own started (by kernel_rfl) Tryz.func3
  (ChangeSpec.witness6 (enc:=enc) (C:=Tryz.checked) false ⟨#[],#[.slice none 0 0,.agg #[.int .i64 0,.int .i64 0,.int .i64 0,.int .i64 0,.int .i64 0,.bool false]],[]⟩ 8 (by kernel_rfl) (by kernel_rfl) (by kernel_rfl) (by kernel_rfl)) ?_
 intro W base args ds gs before hval0 hW hcnd hsz0 _
 have hsz:(DataW.weightsEach Tryz.prog (Tryz.f3.params.toList++Rows.topInverseSpec.plain.varTypes Tryz.prog) (ds++gs)).all (·≤reachBytes)=true:=hsz0
 have hval:∀(j:Nat) t v,Tryz.f3.params[j]?=some t→args[j]?=some v→Value.okWide Tryz.prog W .any base t v:=hval0
 have hW':=hW
 obtain ⟨p,q,hA0,hV,rfl,hfz,hnd⟩:=hW
 have hA:DataW.TrodAll enc Tryz.prog W 0 (fun _=>true) true Tryz.f3.params.toList args.toList ds p:=hA0
 rw [Tryz.params3] at hA hval hsz
 obtain ⟨v0,vs0,d0,ds0,p0,q0,hargs,rfl,rfl,h0,r0⟩:=trodAll_cons hA
 obtain ⟨v1,vs1,d1,ds1,p1,q1,rfl,rfl,rfl,h1,r1⟩:=trodAll_cons r0
 obtain ⟨rfl,rfl,rfl⟩:=trodAll_nil r1
 obtain rfl:args=#[v0,v1]:=by cases args;simp_all
 obtain ⟨rfl,rfl⟩:=trodVars_none hV
 obtain ⟨a0,len0,cap0,rfl⟩:=okWide_slice Tryz.underlying22 (hval 0 22 v0 rfl rfl)
 have k0:=h0
 have lt0:∀x∈p0,x.block < W.heap.size:=by obtain ⟨m,hm⟩:=k0;exact DataW.trod_lt m _ _ _ hm
 have y0:len0*16≤140737488351232:=Agg.sized38 hsz (j:=0) rfl rfl h0
 obtain ⟨l0,e0,m0,hc0,hr0,hw0⟩:=Agg.rows38 k0
 subst e0
 have k1:=h1
 have lt1:∀x∈p1,x.block < W.heap.size:=by obtain ⟨m,hm⟩:=k1;exact DataW.trod_lt m _ _ _ hm
 obtain ⟨a1_0,a1_1,a1_2,a1_3,a1_4,a1_5,rfl,w1_0,w1_1,w1_2,w1_3,w1_4⟩:=Agg.open24 (hval 1 24 v1 rfl rfl) h1
 clear hA0 hval0 hsz0 hsz
 have hp:=Pure.TopInverse l0 a1_0 a1_1 a1_2 a1_3 a1_4 a1_5 m0 y0 hw0 w1_0 w1_1 w1_2 w1_3 w1_4
 refine (P.headroomtop_TopInverse.calls _ _ l0 a1_0 a1_1 a1_2 a1_3 a1_4 a1_5 true W hr0 hc0 hp).mono fun e W' ⟨he,bel0⟩=>?_
 have bel:Below W.heap.size W W':=by first | exact bel0 | exact bel0.below
 subst he
 exact ⟨_,rfl,_,_,_,[],_,[],hW',trodAll_mk1 (shut_bool Tryz.underlying4 _),(trodAll_cons_mk (Below.trod laidOut (by kernel_rfl) (of_decide_eq_true (by kernel_rfl)) k0 bel lt0) (trodAll_cons_mk (Below.trod laidOut (by kernel_rfl) (of_decide_eq_true (by kernel_rfl)) k1 bel lt1) trodAll_mk0)),rfl,bel.frame _,fun h=>by cases h⟩
theorem over:Rows.topInverseRow.holds Tryz.pinned (OpenSpec.ofChange Rows.topInverseSpec) :=
 OpenClaim.holds_of_wide 3 Tryz.f3 rfl rfl rfl rfl rfl rfl rfl ⟨rfl,rfl,rfl,rfl,rfl⟩ rfl rfl rfl rfl rfl (by kernel_rfl) Tryz.func3 (by kernel_rfl)
  (of_decide_eq_true (by kernel_rfl)) (by unfold Func.isWrapper;first | (rw [if_pos (by decide +kernel)];kernel_rfl) | (rw [if_neg (by decide +kernel)];exact ⟨rfl,rfl⟩))
  (fun os started H enc _=>lifted os started H enc)
theorem proved:Rows.TopInverseSaid:=over
#print axioms proved
end Go.Proofs.YteieahbadclppaaGreat.topInverse
namespace Go.Proofs.YteieahbadclppaaGreat
theorem topInverse_holds:Rows.TopInverseSaid:=topInverse.proved
end Go.Proofs.YteieahbadclppaaGreat

