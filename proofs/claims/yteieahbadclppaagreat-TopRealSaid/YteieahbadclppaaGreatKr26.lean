/- Part 26 of 36 of the proof: the texts that it reaches, one behind the other. No condition. -/
import Derived.Test.YteieahbadclppaaGreatKr25
namespace Go.Proofs.YteieahbadclppaaGreat.P
open Go.RowKit Go.Shelf Go.Proofs.YteieahbadclppaaGreatW.PrintWords Go.Proofs.YteieahbadclppaaGreatW.PrintLast Go.Proofs.YteieahbadclppaaGreatW.PrintMore
set_option linter.unusedVariables false
set_option linter.unusedSimpArgs false
theorem zfV {P : Program} {ops : Array Oper} {Q : Exit → Act → World → Prop} {oi : Oper} {N : Option Tmp} {a : Act} {w : World} {K : Act → World → Prop} {f : FuncId} {fn : Func} {ar : Array Operand} {ts : Array TypeId} (hf : P.funcs[f]? = some fn) (hname : (fn.name == "runtime.NumGoroutine") = false) (args : Array Value) {x : Tmp} {lb : Array Value} (hb : fn.body.isSome = true)
  (hw:Region.wanted oi (yielded ops a.tmps)=true) (hN:oi.dst=N) (hop:oi.op=.call { callee:=.value (.tmp x),args:=ar,argTypes:=ts }) (hx:a.eval (.tmp x)=.func (.func f) #[] lb) (hargs:ar.map a.eval++lb=args)
  (h:Calls P f args w fun e w'=>∃v,e=.returned v∧K (a.put N v) w'):if Region.wanted oi (yielded ops a.tmps)=true then Oper.wp P oi a w K Q else K (a.put N undef) w:=by
 refine zlY f args hw hN ?_ h
 have he:=zf6 hf hname hb args w
 unfold execOp
 simp [hop,resolve,Deferred.ofValue,invoke,hx,hargs,he]
def zcv (a b:S38) (bits sign:Int):S38:=⟨wrap64 (wrap64 (a.f0*2^(bits+1).toNat)+wrap64 (sign*b.f0)),wrap64 (wrap64 (a.f1*2^(bits+1).toNat)+wrap64 (sign*b.f1))⟩
set_option maxRecDepth 100000 in
set_option maxHeartbeats 4000000 in
theorem ze7 (g3:Nat) (Aw:Option Addr) (wn cw:Nat) (a b r:S38) (bits mode sign turn:Int) (hb0:0≤bits) (hb1:bits≤29) (w:World) (h3:w.heap[g3]?=some (.cells #[.slice Aw wn cw,.int .i64 bits,.int .i64 mode,.int .i64 turn] 95 (0,0)))
  (hc:∀W:World,Calls Tryz.prog 70 #[.agg #[.int .i64 (zcv a b bits sign).f0,.int .i64 (zcv a b bits sign).f1],.int .i64 (bits+2),.int .i64 mode] W fun e w'=>e=.returned (.tuple #[.agg #[.int .i64 r.f0,.int .i64 r.f1],.int .i64 0])∧Below W.heap.size W w') :
  Calls Tryz.prog 105 #[.agg #[.int .i64 a.f0,.int .i64 a.f1],.agg #[.int .i64 b.f0,.int .i64 b.f1],.int .i64 sign,.pointer (some ⟨g3,0,none⟩)] w fun e w'=>e=.returned (.agg #[.int .i64 r.f0,.int .i64 r.f1])∧Below w.heap.size w w':=by
 have hmx:Tryz.prog.follows .mixedOrders=true:=by kernel_rfl
 have HP3:=hhd h3
 have HC:=hhd hc
 have b8:=hhd (Below.refl w.heap.size w)
 have c3_0:=(za h3 0).trans rfl
 have c3_1:=(za h3 1).trans rfl
 have c3_2:=(za h3 2).trans rfl
 have c3_3:=(za h3 3).trans rfl
 have hs1:wrap64 (bits+1)=bits+1:=zv (by omega) (by omega)
 have hs2:wrap64 (bits+2)=bits+2:=zv (by omega) (by omega)
 have hs3:0≤bits+1:=by omega
 have hs4:¬bits+1 < 0:=by omega
 clear h3 hc
 go_enter Tryz.func105,Tryz.ntmps105
 go_wp2_with (first
  | ((with_reducible refine zf (N:=4) rfl ?_);refine bb_ 4 rfl b8 #[.int .i64 a.f0,.int .i64 a.f1] 38 ?_;intro g4 W1 hg aA L4 a7 bX;have a8:=za_ HP3 aA;obtain ⟨a9,bA,bB,bC⟩:=bk4 a8;clear c3_0 c3_1 c3_2 c3_3;obtain ⟨bD,bE⟩:=bk2 a7;clear aA hg)
  | ((with_reducible refine zf (N:=5) rfl ?_);refine bb_ 5 rfl bX #[.int .i64 b.f0,.int .i64 b.f1] 38 ?_;intro g5 W2 hg aA L5 bF bY;have bG:=za_ a8 aA;have bH:=za_ a7 aA;obtain ⟨bI,bJ,bK,bL⟩:=bk4 bG;obtain ⟨bM,bP⟩:=bk2 bH;clear a9 bA bB bC bD bE;obtain ⟨bQ,bR⟩:=bk2 bF;clear aA hg)
  | ((with_reducible refine zf (N:=7) rfl ?_);refine bb_ 7 rfl bY #[.int .i64 0,.int .i64 0] 38 ?_;intro g7 W3 hg aA L7 aW aZ;have bZ:=za_ bG aA;have b6:=za_ bH aA;have b7:=za_ bF aA;obtain ⟨bS,aK,aM,bT⟩:=bk4 bZ;obtain ⟨aN,aQ⟩:=bk2 b6;obtain ⟨aT,aU⟩:=bk2 b7;clear bI bJ bK bL bM bP bQ bR;obtain ⟨bU,bV⟩:=bk2 aW;clear aA hg))
 refine z7 (S:=fun w'=>Below W3.heap.size W3 w') (ds:=[33]) (fl 35 0) hmx rfl rfl (Below.refl _ _).drew (fun I=>?_)
 refine px_ 0 rfl ?_
 refine px_ 2 rfl ?_
 refine px_ 6 rfl ?_
 refine px_ 7 rfl ?_
 refine px_ 11 rfl ?_
 refine px_ 13 rfl ?_
 refine px_ 17 rfl ?_
 refine px_ 18 rfl ?_
 refine px_ 23 rfl ?_
 refine px_ 26 rfl ?_
 refine tx_ 1 rfl I (by rintro w' hs;obtain ⟨aD,aE,aG,aH,aI,aJ⟩:=bg6 hs aN aQ aT aU aK aM;go_simp;with_reducible rfl) ?_
 refine tx_ 3 rfl I (by rintro w' hs;obtain ⟨aD,aE,aG,aH,aI,aJ⟩:=bg6 hs aN aQ aT aU aK aM;go_simp;with_reducible rfl) ?_
 refine px_ 4 rfl ?_
 refine px_ 5 rfl ?_
 refine tx_ 8 rfl I (by rintro w' hs;obtain ⟨aD,aE,aG,aH,aI,aJ⟩:=bg6 hs aN aQ aT aU aK aM;go_simp;with_reducible rfl) ?_
 refine px_ 9 rfl ?_
 refine px_ 10 rfl ?_
 refine tx_ 12 rfl I (by rintro w' hs;obtain ⟨aD,aE,aG,aH,aI,aJ⟩:=bg6 hs aN aQ aT aU aK aM;go_simp;with_reducible rfl) ?_
 refine tx_ 14 rfl I (by rintro w' hs;obtain ⟨aD,aE,aG,aH,aI,aJ⟩:=bg6 hs aN aQ aT aU aK aM;go_simp;with_reducible rfl) ?_
 refine px_ 15 rfl ?_
 refine px_ 16 rfl ?_
 refine tx_ 19 rfl I (by rintro w' hs;obtain ⟨aD,aE,aG,aH,aI,aJ⟩:=bg6 hs aN aQ aT aU aK aM;go_simp;with_reducible rfl) ?_
 refine px_ 20 rfl ?_
 refine px_ 21 rfl ?_
 refine px_ 22 rfl ?_
 refine tx_ 24 rfl I (by rintro w' hs;obtain ⟨aD,aE,aG,aH,aI,aJ⟩:=bg6 hs aN aQ aT aU aK aM;go_simp;with_reducible rfl) ?_
 refine px_ 25 rfl ?_
 refine tx_ 27 rfl I (by rintro w' hs;obtain ⟨aD,aE,aG,aH,aI,aJ⟩:=bg6 hs aN aQ aT aU aK aM;go_simp;with_reducible rfl) ?_
 refine wx_ 28 32 (some 39) (some 8) rfl rfl rfl rfl (fun K hK=>?e1_28) fun K hK=>?e1_32
 case' e1_28 =>
  refine zJ Tryz.func70 (by kernel_rfl) rfl #[.agg #[.int .i64 (zcv a b bits sign).f0,.int .i64 (zcv a b bits sign).f1],.int .i64 (bits+2),.int .i64 mode] (by rfl) rfl rfl (by go_simp;exact ⟨rfl,rfl⟩) ?_
  refine (HC.out _).mono ?_
  rintro e Wc ⟨rfl,aA⟩
  refine ⟨_,rfl,?_⟩
  refine hK.out _ _ (zb I aA) (fun aC=>?_)
  clear hK K I aA
  have I:=aC
  clear aC
  refine nx_ ?_
  refine px_ 29 rfl ?_
  refine px_ 30 rfl ?_
  refine px_ 31 rfl ?_
  refine ox_ 32 (some 8) rfl rfl fun K hK=>?_
  refine box_step rfl rfl (cs:=#[.int .i64 0,.int .i64 0]) (t:=38) (by first | (go_simp;done) | (go_simp;rfl)) ?_
  intro g8 hg Wc aX aA
  refine hK.out _ _ (zb I aA) (fun aC=>?_)
  have L8:w.heap.size≤g8:=by rw [hg];exact zi (zb aZ I)
  have B8:=hhd aX
  have bW:=hhd (show g7≠g8 from fun e=>by have:=zj (zd aW I);omega)
  clear hK K I aA aX hg
  have I:=aC
  clear aC
  refine nx_ ?_
  refine lx_ 33 none rfl rfl fun K hK=>?_
  refine zA rfl rfl 38 _ _ rfl g8 #[.int .i64 r.f0,.int .i64 r.f1] rfl rfl 38 #[.int .i64 0,.int .i64 0] B8.out (zw _ _) rfl (zM _ _) ?_
  intro Wd hq aV aY
  refine hK.out _ _ ?_
  have E8:=hhd hq
  have HBd:=hhd (aY _ _ L8 (zb aZ I))
  have E7:=hhd ((aV _ bW.out).trans (zd aW I))
  clear hK K I hq aV aY
  refine px_ 34 rfl ?_
  refine zE (by kernel_rfl) ?_
 case' e1_32 =>
  refine box_step rfl rfl (cs:=#[.int .i64 0,.int .i64 0]) (t:=38) (by first | (go_simp;done) | (go_simp;rfl)) ?_
  intro g8 hg Wc aX aA
  refine hK.out _ _ (zb I aA) (fun aC=>?_)
  have L8:w.heap.size≤g8:=by rw [hg];exact zi (zb aZ I)
  have B8:=hhd aX
  have bW:=hhd (show g7≠g8 from fun e=>by have:=zj (zd aW I);omega)
  clear hK K I aA aX hg
  have I:=aC
  clear aC
  refine nx_ ?_
  refine ox_ 28 (some 39) rfl rfl fun K hK=>?_
  refine zJ Tryz.func70 (by kernel_rfl) rfl #[.agg #[.int .i64 (zcv a b bits sign).f0,.int .i64 (zcv a b bits sign).f1],.int .i64 (bits+2),.int .i64 mode] (by rfl) rfl rfl (by go_simp;exact ⟨rfl,rfl⟩) ?_
  refine (HC.out _).mono ?_
  rintro e Wc ⟨rfl,aA⟩
  refine ⟨_,rfl,?_⟩
  refine hK.out _ _ (zb I aA) (fun aC=>?_)
  replace B8:=za_ B8 aA
  clear hK K I aA
  have I:=aC
  clear aC
  refine nx_ ?_
  refine px_ 29 rfl ?_
  refine px_ 30 rfl ?_
  refine px_ 31 rfl ?_
  refine lx_ 33 none rfl rfl fun K hK=>?_
  refine zA rfl rfl 38 _ _ rfl g8 #[.int .i64 r.f0,.int .i64 r.f1] rfl rfl 38 #[.int .i64 0,.int .i64 0] B8.out (zw _ _) rfl (zM _ _) ?_
  intro Wd hq aV aY
  refine hK.out _ _ ?_
  have E8:=hhd hq
  have HBd:=hhd (aY _ _ L8 (zb aZ I))
  have E7:=hhd ((aV _ bW.out).trans (zd aW I))
  clear hK K I hq aV aY
  refine px_ 34 rfl ?_
  refine zE (by kernel_rfl) ?_
 all_goals
  clear B8 bS aK aM bT aN aQ aT aU bU bV
  go_wp2_with (first
   | ((with_reducible refine zf (N:=42) rfl ?_);refine lr_ 42 rfl 38 E8 Tryz.underlying38 ?_)
   | ((with_reducible refine zo (t:=38) (p:=7) rfl ?_);refine re_ 38 7 rfl #[.int .i64 r.f0,.int .i64 r.f1] E7 L7 HBd ?_;intro We aV F7 HBe;clear aV))
  refine bodyPost_ret (results_cell_row rfl _ _ g7 38 #[.int .i64 r.f0,.int .i64 r.f1] (0,0) _ rfl F7.out Tryz.underlying38 rfl (zw _ _)) rfl ?_
  exact ⟨rfl,HBe.out⟩
end Go.Proofs.YteieahbadclppaaGreat.P

