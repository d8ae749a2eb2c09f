/- Part 29 of 36 of the proof: the texts that it reaches, one behind the other. No condition. -/
import Derived.Test.YteieahbadclppaaGreatKr27
import Derived.Test.YteieahbadclppaaGreatKr28
namespace Go.Proofs.YteieahbadclppaaGreat.P
open Go.RowKit Go.Shelf Go.Proofs.YteieahbadclppaaGreatW.PrintWords Go.Proofs.YteieahbadclppaaGreatW.PrintLast Go.Proofs.YteieahbadclppaaGreatW.PrintMore
set_option linter.unusedVariables false
set_option linter.unusedSimpArgs false
def nT (inv:Bool):Nat:=if inv then 1 else 3
def zaV (inv:Bool):Int:=if inv then 1 else -1
def za9 (u v y z w1 w3:S38) (bits mode:Int) (inv:Bool):Nat→S38
 | 0=>shC (bits+2) mode (zao (upC (bits+1) u) (zao (zS y w1) (zS z w3)))
 | 1=>shC (bits+2) mode (zao (upC (bits+1) v) (zaE (zab (nT inv) (zS y w1)) (zab (nT inv) (zS z w3))))
 | 2=>shC (bits+2) mode (zaE (upC (bits+1) u) (zao (zS y w1) (zS z w3)))
 | _=>shC (bits+2) mode (zaE (upC (bits+1) v) (zaE (zab (nT inv) (zS y w1)) (zab (nT inv) (zS z w3))))
def leB (x:S38) (m:Int):Prop:=x.f0≤m∧x.f1≤m∧-m≤x.f0∧-m≤x.f1
theorem ziG {a b:S38} (ha:inB 2147483648 a=true) (hb:inB 536870912 b=true):leB (zS a b) 2305843009213693952:=by
 obtain ⟨a1,a2,a3,a4⟩:=zaj ha
 obtain ⟨w1,w2,w3,w4⟩:=zaj hb
 have m1:=zam (by decide) a1 a3 w1 w3 (by decide)
 have m2:=zam (by decide) a2 a4 w2 w4 (by decide)
 have m3:=zam (by decide) a1 a3 w2 w4 (by decide)
 have m4:=zam (by decide) a2 a4 w1 w3 (by decide)
 unfold leB zS
 dsimp only
 omega
theorem zkt {a:S38} {bits:Int} (b0:0≤bits) (b1:bits≤29) (ha:inB 2147483648 a=true):leB (upC (bits+1) a) 2305843009213693952:=by
 obtain ⟨a1,a2,a3,a4⟩:=zaj ha
 have p0:=zaG (a:=0) (b:=(bits+1).toNat) (by omega)
 have p1:=zaG (a:=(bits+1).toNat) (b:=30) (by omega)
 have e:(2:Int)^30=1073741824:=by decide
 have e0:(2:Int)^0=1:=by decide
 rw [e] at p1
 rw [e0] at p0
 have n1:=zam (by decide) a1 a3 p1 (by omega) (by decide)
 have n2:=zam (by decide) a2 a4 p1 (by omega) (by decide)
 unfold leB upC
 dsimp only
 omega
theorem zhP (a b:S38) (bits:Int) (ha:leB (upC (bits+1) a) 2305843009213693952) (hb:leB b 4611686018427387904):zcv a b bits 1=zao (upC (bits+1) a) b:=by
 obtain ⟨a1,a2,a3,a4⟩:=ha
 obtain ⟨b1,b2,b3,b4⟩:=hb
 unfold zcv zao
 change S38.mk (wrap64 (wrap64 (upC (bits+1) a).f0+wrap64 (1*b.f0))) (wrap64 (wrap64 (upC (bits+1) a).f1+wrap64 (1*b.f1)))=_
 rw [Int.one_mul,Int.one_mul,zv (x:=b.f0) (by omega) (by omega),zv (x:=b.f1) (by omega) (by omega),zv (x:=(upC (bits+1) a).f0) (by omega) (by omega),zv (x:=(upC (bits+1) a).f1) (by omega) (by omega),zv (by omega) (by omega),zv (by omega) (by omega)]
theorem zhQ (a b:S38) (bits:Int) (ha:leB (upC (bits+1) a) 2305843009213693952) (hb:leB b 4611686018427387904):zcv a b bits (-1)=zaE (upC (bits+1) a) b:=by
 obtain ⟨a1,a2,a3,a4⟩:=ha
 obtain ⟨b1,b2,b3,b4⟩:=hb
 unfold zcv zaE
 change S38.mk (wrap64 (wrap64 (upC (bits+1) a).f0+wrap64 (-1*b.f0))) (wrap64 (wrap64 (upC (bits+1) a).f1+wrap64 (-1*b.f1)))=_
 rw [Int.neg_one_mul,Int.neg_one_mul,zv (x:=-b.f0) (by omega) (by omega),zv (x:=-b.f1) (by omega) (by omega),zv (x:=(upC (bits+1) a).f0) (by omega) (by omega),zv (x:=(upC (bits+1) a).f1) (by omega) (by omega),zv (by omega) (by omega),zv (by omega) (by omega)]
 rfl
theorem zmD (inv:Bool):zaX (zaV inv)=nT inv:=by cases inv <;> decide +kernel
theorem zlF (Aw:Option Addr) (wn cw:Nat) (u v y z w1 w3:S38) (bits mode:Int) (inv:Bool) (hb0:0≤bits) (hb1:bits≤29) (m0:0≤mode) (m1:mode < 3) (hu:inB 2147483648 u=true) (hv:inB 2147483648 v=true) (hy:inB 2147483648 y=true) (hz:inB 2147483648 z=true) (h1:inB 536870912 w1=true) (h3:inB 536870912 w3=true) (w:World) :
  Calls Tryz.prog 73 #[.agg #[.slice Aw wn cw,.int .i64 bits,.int .i64 mode,.int .i64 (zaV inv)],.agg #[.int .i64 u.f0,.int .i64 u.f1],.agg #[.int .i64 v.f0,.int .i64 v.f1],.agg #[.int .i64 y.f0,.int .i64 y.f1],.agg #[.int .i64 z.f0,.int .i64 z.f1],.agg #[.int .i64 w1.f0,.int .i64 w1.f1],.agg #[.int .i64 w3.f0,.int .i64 w3.f1]] w fun e w'=>e=.returned (.agg #[.int .i64 (za9 u v y z w1 w3 bits mode inv 0).f0,.int .i64 (za9 u v y z w1 w3 bits mode inv 0).f1,.int .i64 (za9 u v y z w1 w3 bits mode inv 1).f0,.int .i64 (za9 u v y z w1 w3 bits mode inv 1).f1,.int .i64 (za9 u v y z w1 w3 bits mode inv 2).f0,.int .i64 (za9 u v y z w1 w3 bits mode inv 2).f1,.int .i64 (za9 u v y z w1 w3 bits mode inv 3).f0,.int .i64 (za9 u v y z w1 w3 bits mode inv 3).f1])∧Below w.heap.size w w':=by
 have q1:=ziG hy h1
 have q3:=ziG hz h3
 have qu:=zkt hb0 hb1 hu
 have qv:=zkt hb0 hb1 hv
 have hT:∀(a b:S38),inB 2147483648 a=true→inB 536870912 b=true→∀W:World,Calls Tryz.prog 104 #[.agg #[.int .i64 a.f0,.int .i64 a.f1],.agg #[.int .i64 b.f0,.int .i64 b.f1]] W fun e w'=>e=.returned (.tuple #[.agg #[.int .i64 (zS a b).f0,.int .i64 (zS a b).f1],.int .i64 0])∧Below W.heap.size W w':=by
  intro a b ha hb W
  have hb3:inB 1073741824 b=true:=by obtain ⟨c0,c1,c2,c3⟩:=zaj hb;exact za3 (by omega)
  have e:=zgf a b ha hb3
  have h:=zeD a b ha hb3 W
  rw [show zbx a b=(zS a b).f0 from congrArg S38.f0 e,show zby a b=(zS a b).f1 from congrArg S38.f1 e] at h
  exact h
 have hS:∀x:S38,leB x 2305843009213693952→∀W:World,Calls Tryz.prog 96 #[.agg #[.int .i64 x.f0,.int .i64 x.f1],.int .i64 (zaV inv)] W fun e w'=>e=.returned (.tuple #[.agg #[.int .i64 (zab (nT inv) x).f0,.int .i64 (zab (nT inv) x).f1],.int .i64 0])∧Below W.heap.size W w':=by
  intro x hx W
  have h:=zeb x (zaV inv) (decide_eq_true hx) W
  rw [zmD] at h
  have e:=zfv x (nT inv) (by cases inv <;> decide) hx.1 hx.2.1 hx.2.2.1 hx.2.2.2
  rw [show (zal x.f0 x.f1 (nT inv)).1=_ from congrArg S38.f0 e,show (zal x.f0 x.f1 (nT inv)).2=_ from congrArg S38.f1 e] at h
  exact h
 have hrot:∀x:S38,leB x 2305843009213693952→leB (zab (nT inv) x) 2305843009213693952:=fun x hx=>zkm _ hx.1 hx.2.1 hx.2.2.1 hx.2.2.2
 have eS:(⟨wrap64 ((zS y w1).f0+(zS z w3).f0),wrap64 ((zS y w1).f1+(zS z w3).f1)⟩:S38)=zao (zS y w1) (zS z w3):=by
  unfold leB at q1 q3
  unfold zao
  rw [zv (by omega) (by omega),zv (by omega) (by omega)]
 have eL:(⟨wrap64 ((zab (nT inv) (zS y w1)).f0 - (zab (nT inv) (zS z w3)).f0),wrap64 ((zab (nT inv) (zS y w1)).f1 - (zab (nT inv) (zS z w3)).f1)⟩:S38)=zaE (zab (nT inv) (zS y w1)) (zab (nT inv) (zS z w3)):=by
  have r1:=hrot _ q1
  have r3:=hrot _ q3
  unfold leB at r1 r3
  unfold zaE
  rw [zv (by omega) (by omega),zv (by omega) (by omega)]
 have lS:leB (zao (zS y w1) (zS z w3)) 4611686018427387904:=by
  unfold leB at q1 q3 ⊢
  unfold zao
  dsimp only
  omega
 have lL:leB (zaE (zab (nT inv) (zS y w1)) (zab (nT inv) (zS z w3))) 4611686018427387904:=by
  have r1:=hrot _ q1
  have r3:=hrot _ q3
  unfold leB at r1 r3 ⊢
  unfold zaE
  dsimp only
  omega
 refine zkr Aw wn cw u v y z w1 w3 (zS y w1) (zS z w3) (zab (nT inv) (zS y w1)) (zab (nT inv) (zS z w3)) (za9 u v y z w1 w3 bits mode inv) bits mode (zaV inv) hb0 hb1 w (hT y w1 hy h1) (hT z w3 hz h3) (hS _ q1) (hS _ q3) ?_
 intro x sg q hx W
 rw [eS,eL,zhP u _ bits qu lS,zhP v _ bits qv lL,zhQ u _ bits qu lS,zhQ v _ bits qv lL] at hx
 rcases hx with ⟨rfl,rfl⟩ | ⟨rfl,rfl⟩ | ⟨rfl,rfl⟩ | ⟨rfl,rfl⟩ <;> exact cx_Shift.calls _ _ _ _ _ _ _ W (zbf _ (bits+2) mode (by omega) (by omega) m0 m1)
theorem zhR (Aw:Option Addr) (cw:Nat) (wl:List S38) (bits mode:Int) (inv:Bool) (k:Int) (h0:0≤k) (h1:k < wl.length) (hw:∀x,x∈wl→inB 536870912 x=true) (w:World) (hC:Kd.C k38 w Aw wl.length wl) (hc:wl.length≤cw) :
  Calls Tryz.prog 74 #[.agg #[.slice Aw wl.length cw,.int .i64 bits,.int .i64 mode,.int .i64 (zaV inv)],.int .i64 k] w fun e w'=>e=.returned (.agg #[.int .i64 (zH inv (zk wl k)).f0,.int .i64 (zH inv (zk wl k)).f1])∧Below w.heap.size w w':=by
 refine split_plan_root.calls Aw cw wl bits mode (zaV inv) k _ _ w hC hc ?_
 unfold split_plan_root.f
 rw [if_pos h0,if_pos h1]
 cases inv with
 | true =>
  rw [if_pos (show zaV true=1 from rfl)]
  unfold cx_Conj.f
  rw [if_pos (show zbX ⟨(zk wl k).f0,(zk wl k).f1⟩=true from by
   obtain ⟨c0,c1,c2,c3⟩:=zaj (zdb hw h0 h1)
   exact decide_eq_true (by dsimp only;omega))]
  rfl
 | false=>rfl
def zbu (E F G wl:List S38) (by_:Nat) (bits mode:Int) (inv:Bool) (hN:Nat):Nat→List S38
 | 0=>List.replicate (4*hN) z38
 | k+1=>zda (zbu E F G wl by_ bits mode inv hN k) 0 hN k (za9 (zk E k) (zk E ((hN+k:Nat):Int)) (zk F k) (zk G k) (zH inv (zk wl ((k*by_:Nat):Int))) (zH inv (zk wl ((3*k*by_:Nat):Int))) bits mode inv) 4
theorem zen (E F G wl:List S38) (by_:Nat) (bits mode:Int) (inv:Bool) (hN:Nat):∀k,(zbu E F G wl by_ bits mode inv hN k).length=4*hN
 | 0=>by simp [zbu]
 | k+1=>by rw [zbu,zfw,zen E F G wl by_ bits mode inv hN k]
def zaq (wl:List S38) (bits mode:Int) (inv:Bool):Nat→List S38→List S38
 | 0,x=>x
 | 1,x=>[shC 1 mode (zao (zk x 0) (zk x 1)),shC 1 mode (zaE (zk x 0) (zk x 1))]
 | l+2,x=>zbu (zaq wl bits mode inv (l+1) (zB x 0 2 (2^(l+1)))) (zaq wl bits mode inv l (zB x 1 4 (2^l))) (zaq wl bits mode inv l (zB x 3 4 (2^l))) wl (wl.length / 2^(l+2)) bits mode inv (2^l) (2^l)
theorem zbB (wl:List S38) (bits mode:Int) (inv:Bool):∀(l:Nat) (x:List S38),x.length=2^l→(zaq wl bits mode inv l x).length=2^l
 | 0,x,h=>h
 | 1,x,h=>rfl
 | l+2,x,h=>by rw [zaq,zen,Nat.pow_succ,Nat.pow_succ];omega
def okS (wl:List S38) (bits mode:Int) (inv:Bool):Nat→List S38→Prop
 | 0,x=>∀z,z∈x→inB 2147483648 z=true
 | 1,x=>∀z,z∈x→inB 2147483648 z=true
 | l+2,x=>okS wl bits mode inv (l+1) (zB x 0 2 (2^(l+1)))∧okS wl bits mode inv l (zB x 1 4 (2^l))∧okS wl bits mode inv l (zB x 3 4 (2^l)) ∧
  (∀z,z∈zaq wl bits mode inv (l+1) (zB x 0 2 (2^(l+1)))→inB 2147483648 z=true)∧(∀z,z∈zaq wl bits mode inv l (zB x 1 4 (2^l))→inB 2147483648 z=true)∧(∀z,z∈zaq wl bits mode inv l (zB x 3 4 (2^l))→inB 2147483648 z=true)
def zdp (Aw:Option Addr) (cw:Nat) (wl:List S38) (bits mode:Int) (inv:Bool) (l:Nat):Prop :=
 ∀(x:List S38) (Ax:Option Addr) (cx:Nat) (W:World),x.length=2^l→okS wl bits mode inv l x→Kd.C k38 W Ax x.length x→x.length≤cx→Kd.C k38 W Aw wl.length wl →
  Calls Tryz.prog 48 #[.agg #[.slice Aw wl.length cw,.int .i64 bits,.int .i64 mode,.int .i64 (zaV inv)],.slice Ax x.length cx] W fun e w'=>∃A' c',e=.returned (.slice A' (2^l) c')∧2^l≤c'∧Kd.C k38 w' A' (2^l) (zaq wl bits mode inv l x)∧(1≤l→Kd.R k38 38 w' W.heap.size (fun _=>True) (.slice A' (2^l) c') (zaq wl bits mode inv l x))∧Below W.heap.size W w'
set_option maxRecDepth 100000 in
set_option maxHeartbeats 4000000 in
theorem zlG (Aw:Option Addr) (cw:Nat) (wl:List S38) (bits mode:Int) (inv:Bool):zdp Aw cw wl bits mode inv 0:=by
 intro x Ax cx w hl hok hC hc hwC
 have aC:=hhd (Below.refl w.heap.size w)
 have HC:=hhd hC
 have HCC:=hhd hc
 have hl1:x.length=1:=hl
 clear hl hok hC hwC hc
 rw [hl1]
 go_enter Tryz.func48,Tryz.ntmps48
 go_wp2_with (first
  | ((with_reducible refine zf (N:=2) rfl ?_);refine bb_ 2 rfl aC #[.slice Aw wl.length cw,.int .i64 bits,.int .i64 mode,.int .i64 (zaV inv)] 95 ?_;intro g2 W1 hg aD L2 aA I;obtain ⟨aE,aG,aH,aI⟩:=bk4 aA;clear aD hg))
 go_ret
 exact ⟨Ax,cx,rfl,by have:=HCC.out;omega,by have:=Kd.C_below HC.out I.out;rw [hl1] at this;exact this,by omega,I.out⟩
theorem zku (a b:S38) (W:World) (base:Nat):zat (k38.M W base fun _=>True) k38.sz [a,b] [.int .i64 a.f0,.int .i64 a.f1,.int .i64 b.f0,.int .i64 b.f1]:=by
 refine ⟨rfl,fun j p hj=>?_⟩
 match j,hj with
 | 0,hj=>obtain rfl:=Option.some.inj hj;exact zaA W base _ a
 | 1,hj=>obtain rfl:=Option.some.inj hj;exact zaA W base _ b
set_option maxRecDepth 100000 in
set_option maxHeartbeats 4000000 in
theorem zmE (Aw:Option Addr) (cw:Nat) (wl:List S38) (bits mode:Int) (inv:Bool) (m0:0≤mode) (m1:mode < 3):zdp Aw cw wl bits mode inv 1:=by
 intro x Ax cx w hl hok hC hc hwC
 have hmx:Tryz.prog.follows .mixedOrders=true:=by kernel_rfl
 have aV:=hhd (Below.refl w.heap.size w)
 have HC:=hhd hC
 have HM:=hhd (And.intro m0 m1)
 have hl1:x.length=2:=hl
 have b0:=zaj (hok (zk x 0) (zeF x 0 (by omega)))
 have b1:=zaj (hok (zk x 1) (zeF x 1 (by omega)))
 have HRS:=hhd (show zaq wl bits mode inv 1 x=[shC 1 mode (zao (zk x 0) (zk x 1)),shC 1 mode (zaE (zk x 0) (zk x 1))] from rfl)
 clear hl hok hC hwC hc
 rw [hl1]
 go_enter Tryz.func48,Tryz.ntmps48
 go_wp2_with (first
  | ((with_reducible refine zf (N:=2) rfl ?_);refine bb_ 2 rfl aV #[.slice Aw wl.length cw,.int .i64 bits,.int .i64 mode,.int .i64 (zaV inv)] 95 ?_;intro g2 W1 hg aC L2 aT aQ;have aW:=zc_ HC aQ;obtain ⟨aU,aH,aI,aJ⟩:=bk4 aT;clear aC hg))
 have hcc:=Kd.C_below HC.out aQ.out
 obtain ⟨ad,hAx,x00,x01⟩:=zag hcc 0 (by decide) (by rw [hl1];decide)
 obtain ⟨ad',hAx',x10,x11⟩:=zag hcc 1 (by decide) (by rw [hl1];decide)
 subst hAx
 obtain rfl:=Option.some.inj hAx'
 simp [Addr.add] at x00 x01 x10 x11
 have HEsm:=hhd (show wrap64 ((zk x 0).f0+(zk x 1).f0)=(zao (zk x 0) (zk x 1)).f0∧wrap64 ((zk x 0).f1+(zk x 1).f1)=(zao (zk x 0) (zk x 1)).f1 from ⟨zv (by omega) (by omega),zv (by omega) (by omega)⟩)
 have HEdf:=hhd (show wrap64 ((zk x 0).f0 - (zk x 1).f0)=(zaE (zk x 0) (zk x 1)).f0∧wrap64 ((zk x 0).f1 - (zk x 1).f1)=(zaE (zk x 0) (zk x 1)).f1 from ⟨zv (by omega) (by omega),zv (by omega) (by omega)⟩)
 generalize zao (zk x 0) (zk x 1)=sm at *
 generalize zaE (zk x 0) (zk x 1)=df at *
 generalize hxa:zk x 0=a at *
 generalize hxb:zk x 1=b at *
 have HXA:=hhd hxa
 have HXB:=hhd hxb
 clear hxa hxb
 clear b0 b1 hcc
 refine z7 (S:=fun w'=>Below W1.heap.size W1 w') (ds:=[26]) (fl 28 0) hmx rfl rfl (Below.refl _ _).drew (fun I=>?_)
 refine px_ 0 rfl ?_
 refine px_ 1 rfl ?_
 refine px_ 2 rfl ?_
 refine px_ 4 rfl ?_
 refine px_ 5 rfl ?_
 refine px_ 6 rfl ?_
 refine px_ 9 rfl ?_
 refine px_ 10 rfl ?_
 refine px_ 11 rfl ?_
 refine px_ 13 rfl ?_
 refine px_ 14 rfl ?_
 refine px_ 15 rfl ?_
 refine px_ 19 rfl ?_
 refine tx_ 3 rfl I (by rintro w' hs;obtain ⟨aK,aM,aN,j_x00,j_x01,j_x10⟩:=bg6 hs aH aI aJ x00 x01 x10;have j_x11:=bg hs x11;go_simp;with_reducible rfl) ?_
 refine tx_ 7 rfl I (by rintro w' hs;obtain ⟨aK,aM,aN,j_x00,j_x01,j_x10⟩:=bg6 hs aH aI aJ x00 x01 x10;have j_x11:=bg hs x11;go_simp;with_reducible rfl) ?_
 refine px_ 8 rfl ?_
 refine tx_ 12 rfl I (by rintro w' hs;obtain ⟨aK,aM,aN,j_x00,j_x01,j_x10⟩:=bg6 hs aH aI aJ x00 x01 x10;have j_x11:=bg hs x11;go_simp;with_reducible rfl) ?_
 refine tx_ 16 rfl I (by rintro w' hs;obtain ⟨aK,aM,aN,j_x00,j_x01,j_x10⟩:=bg6 hs aH aI aJ x00 x01 x10;have j_x11:=bg hs x11;go_simp;with_reducible rfl) ?_
 refine px_ 17 rfl ?_
 refine px_ 18 rfl ?_
 refine tx_ 20 rfl I (by rintro w' hs;obtain ⟨aK,aM,aN,j_x00,j_x01,j_x10⟩:=bg6 hs aH aI aJ x00 x01 x10;have j_x11:=bg hs x11;go_simp;with_reducible rfl) ?_
 refine wx_ 21 25 (some 48) (some 6) rfl rfl rfl rfl (fun K hK=>?e1_21) fun K hK=>?e1_25
 case' e1_21 =>
  refine zJ Tryz.func70 (by kernel_rfl) rfl #[.agg #[.int .i64 sm.f0,.int .i64 sm.f1],.int .i64 1,.int .i64 mode] (by rfl) rfl rfl (by go_simp;exact ⟨HEsm.out.1,HEsm.out.2⟩) ?_
  refine (cx_Shift.calls _ _ _ _ _ _ _ _ (zbf sm 1 mode (by decide) (by decide) HM.out.1 HM.out.2)).mono ?_
  rintro e Wc ⟨rfl,aC⟩
  refine ⟨_,rfl,?_⟩
  refine hK.out _ _ (zb I aC) (fun aA=>?_)
  clear hK K I aC
  have I:=aA
  clear aA
  refine nx_ ?_
  refine px_ 22 rfl ?_
  refine px_ 23 rfl ?_
  refine px_ 24 rfl ?_
  refine ox_ 25 (some 6) rfl rfl fun K hK=>?_
  refine box_step rfl rfl (cs:=#[.int .i64 0,.int .i64 0]) (t:=38) (by first | (go_simp;done) | (go_simp;rfl)) ?_
  intro g6 hg Wc aD aC
  refine hK.out _ _ (zb I aC) (fun aA=>?_)
  have L6:w.heap.size≤g6:=by rw [hg];exact zi (zb aQ I)
  have M6:W1.heap.size≤g6:=by rw [hg];exact I.size
  have B6:=hhd aD
  clear hK K I aC aD hg
  have I:=aA
  clear aA
  refine nx_ ?_
  refine lx_ 26 none rfl rfl fun K hK=>?_
  refine zA rfl rfl 38 _ _ rfl g6 #[.int .i64 (shC 1 mode sm).f0,.int .i64 (shC 1 mode sm).f1] rfl rfl 38 #[.int .i64 0,.int .i64 0] B6.out (zw _ _) rfl (zM _ _) ?_
  intro Wd hq aE aG
  refine hK.out _ _ ?_
  have E6:=hhd hq
  have HBd:=hhd (aG _ _ L6 (zb aQ I))
  have D2:=hhd ((aE _ (fun e=>by have:=zj aT;omega)).trans (zd aT I))
  clear hK K I hq aE aG B6
  refine px_ 27 rfl ?_
  refine zE (by kernel_rfl) ?_
 case' e1_25 =>
  refine box_step rfl rfl (cs:=#[.int .i64 0,.int .i64 0]) (t:=38) (by first | (go_simp;done) | (go_simp;rfl)) ?_
  intro g6 hg Wc aD aC
  refine hK.out _ _ (zb I aC) (fun aA=>?_)
  have L6:w.heap.size≤g6:=by rw [hg];exact zi (zb aQ I)
  have M6:W1.heap.size≤g6:=by rw [hg];exact I.size
  have B6:=hhd aD
  clear hK K I aC aD hg
  have I:=aA
  clear aA
  refine nx_ ?_
  refine ox_ 21 (some 48) rfl rfl fun K hK=>?_
  refine zJ Tryz.func70 (by kernel_rfl) rfl #[.agg #[.int .i64 sm.f0,.int .i64 sm.f1],.int .i64 1,.int .i64 mode] (by rfl) rfl rfl (by go_simp;exact ⟨HEsm.out.1,HEsm.out.2⟩) ?_
  refine (cx_Shift.calls _ _ _ _ _ _ _ _ (zbf sm 1 mode (by decide) (by decide) HM.out.1 HM.out.2)).mono ?_
  rintro e Wc ⟨rfl,aC⟩
  refine ⟨_,rfl,?_⟩
  refine hK.out _ _ (zb I aC) (fun aA=>?_)
  replace B6:=za_ B6 aC
  clear hK K I aC
  have I:=aA
  clear aA
  refine nx_ ?_
  refine px_ 22 rfl ?_
  refine px_ 23 rfl ?_
  refine px_ 24 rfl ?_
  refine lx_ 26 none rfl rfl fun K hK=>?_
  refine zA rfl rfl 38 _ _ rfl g6 #[.int .i64 (shC 1 mode sm).f0,.int .i64 (shC 1 mode sm).f1] rfl rfl 38 #[.int .i64 0,.int .i64 0] B6.out (zw _ _) rfl (zM _ _) ?_
  intro Wd hq aE aG
  refine hK.out _ _ ?_
  have E6:=hhd hq
  have HBd:=hhd (aG _ _ L6 (zb aQ I))
  have D2:=hhd ((aE _ (fun e=>by have:=zj aT;omega)).trans (zd aT I))
  clear hK K I hq aE aG B6
  refine px_ 27 rfl ?_
  refine zE (by kernel_rfl) ?_
 all_goals
  clear aU aH aI aJ x00 x01 x10 x11
  have hcc:=Kd.C_below HC.out HBd.out
  obtain ⟨ad2,hAx,x00,x01⟩:=zag hcc 0 (by decide) (by rw [hl1];decide)
  obtain ⟨ad3,hAx',x10,x11⟩:=zag hcc 1 (by decide) (by rw [hl1];decide)
  obtain rfl:=Option.some.inj hAx
  obtain rfl:=Option.some.inj hAx'
  simp [Addr.add] at x00 x01 x10 x11
  have e0:zk x 0=a:=HXA.out
  have e1:zk x 1=b:=HXB.out
  rw [e0] at x00 x01
  rw [e1] at x10 x11
  have m1:=(za D2 1).trans rfl
  have m2:=(za D2 2).trans rfl
  have m3:=(za D2 3).trans rfl
  clear hcc e0 e1
  go_wp2
  refine z7 (S:=fun w'=>Below Wd.heap.size Wd w') (ds:=[26]) (fl 28 0) hmx rfl rfl (Below.refl _ _).drew (fun I=>?_)
  refine px_ 0 rfl ?_
  refine px_ 1 rfl ?_
  refine px_ 2 rfl ?_
  refine px_ 4 rfl ?_
  refine px_ 5 rfl ?_
  refine px_ 6 rfl ?_
  refine px_ 9 rfl ?_
  refine px_ 10 rfl ?_
  refine px_ 11 rfl ?_
  refine px_ 13 rfl ?_
  refine px_ 14 rfl ?_
  refine px_ 15 rfl ?_
  refine px_ 19 rfl ?_
  refine tx_ 3 rfl I (by rintro w' hs;obtain ⟨j_m1,j_m2,j_m3,j_x00,j_x01,j_x10⟩:=bg6 hs m1 m2 m3 x00 x01 x10;have j_x11:=bg hs x11;go_simp;with_reducible rfl) ?_
  refine tx_ 7 rfl I (by rintro w' hs;obtain ⟨j_m1,j_m2,j_m3,j_x00,j_x01,j_x10⟩:=bg6 hs m1 m2 m3 x00 x01 x10;have j_x11:=bg hs x11;go_simp;with_reducible rfl) ?_
  refine px_ 8 rfl ?_
  refine tx_ 12 rfl I (by rintro w' hs;obtain ⟨j_m1,j_m2,j_m3,j_x00,j_x01,j_x10⟩:=bg6 hs m1 m2 m3 x00 x01 x10;have j_x11:=bg hs x11;go_simp;with_reducible rfl) ?_
  refine tx_ 16 rfl I (by rintro w' hs;obtain ⟨j_m1,j_m2,j_m3,j_x00,j_x01,j_x10⟩:=bg6 hs m1 m2 m3 x00 x01 x10;have j_x11:=bg hs x11;go_simp;with_reducible rfl) ?_
  refine px_ 17 rfl ?_
  refine px_ 18 rfl ?_
  refine tx_ 20 rfl I (by rintro w' hs;obtain ⟨j_m1,j_m2,j_m3,j_x00,j_x01,j_x10⟩:=bg6 hs m1 m2 m3 x00 x01 x10;have j_x11:=bg hs x11;go_simp;with_reducible rfl) ?_
  refine wx_ 21 25 (some 73) (some 8) rfl rfl rfl rfl (fun K hK=>?_) fun K hK=>?_
  focus
   refine zJ Tryz.func70 (by kernel_rfl) rfl #[.agg #[.int .i64 df.f0,.int .i64 df.f1],.int .i64 1,.int .i64 mode] (by rfl) rfl rfl (by go_simp;exact ⟨HEdf.out.1,HEdf.out.2⟩) ?_
   refine (cx_Shift.calls _ _ _ _ _ _ _ _ (zbf df 1 mode (by decide) (by decide) HM.out.1 HM.out.2)).mono ?_
   rintro e Wc ⟨rfl,aC⟩
   refine ⟨_,rfl,?_⟩
   refine hK.out _ _ (zb I aC) (fun aA=>?_)
   clear hK K I aC
   have I:=aA
   clear aA
   refine nx_ ?_
   refine px_ 22 rfl ?_
   refine px_ 23 rfl ?_
   refine px_ 24 rfl ?_
   refine ox_ 25 (some 8) rfl rfl fun K hK=>?_
   refine box_step rfl rfl (cs:=#[.int .i64 0,.int .i64 0]) (t:=38) (by first | (go_simp;done) | (go_simp;rfl)) ?_
   intro g8 hg Wc aD aC
   refine hK.out _ _ (zb I aC) (fun aA=>?_)
   have L8:w.heap.size≤g8:=by rw [hg];exact zi (zb HBd I)
   have M8:Wd.heap.size≤g8:=by rw [hg];exact I.size
   have B8:=hhd aD
   clear hK K I aC aD hg
   have I:=aA
   clear aA
   refine nx_ ?_
   refine lx_ 26 none rfl rfl fun K hK=>?_
   refine zA rfl rfl 38 _ _ rfl g8 #[.int .i64 (shC 1 mode df).f0,.int .i64 (shC 1 mode df).f1] rfl rfl 38 #[.int .i64 0,.int .i64 0] B8.out (zw _ _) rfl (zM _ _) ?_
   intro We hq aE aG
   refine hK.out _ _ ?_
   have E8:=hhd hq
   have HBe:=hhd (aG _ _ L8 (zb HBd I))
   have F6:=hhd ((aE _ (fun e=>by have:=zj E6;omega)).trans (zd E6 I))
   clear hK K I hq aE aG B8
   refine px_ 27 rfl ?_
   refine zE (by kernel_rfl) ?_
  rotate_left 1
  focus
   refine box_step rfl rfl (cs:=#[.int .i64 0,.int .i64 0]) (t:=38) (by first | (go_simp;done) | (go_simp;rfl)) ?_
   intro g8 hg Wc aD aC
   refine hK.out _ _ (zb I aC) (fun aA=>?_)
   have L8:w.heap.size≤g8:=by rw [hg];exact zi (zb HBd I)
   have M8:Wd.heap.size≤g8:=by rw [hg];exact I.size
   have B8:=hhd aD
   clear hK K I aC aD hg
   have I:=aA
   clear aA
   refine nx_ ?_
   refine ox_ 21 (some 73) rfl rfl fun K hK=>?_
   refine zJ Tryz.func70 (by kernel_rfl) rfl #[.agg #[.int .i64 df.f0,.int .i64 df.f1],.int .i64 1,.int .i64 mode] (by rfl) rfl rfl (by go_simp;exact ⟨HEdf.out.1,HEdf.out.2⟩) ?_
   refine (cx_Shift.calls _ _ _ _ _ _ _ _ (zbf df 1 mode (by decide) (by decide) HM.out.1 HM.out.2)).mono ?_
   rintro e Wc ⟨rfl,aC⟩
   refine ⟨_,rfl,?_⟩
   refine hK.out _ _ (zb I aC) (fun aA=>?_)
   replace B8:=za_ B8 aC
   clear hK K I aC
   have I:=aA
   clear aA
   refine nx_ ?_
   refine px_ 22 rfl ?_
   refine px_ 23 rfl ?_
   refine px_ 24 rfl ?_
   refine lx_ 26 none rfl rfl fun K hK=>?_
   refine zA rfl rfl 38 _ _ rfl g8 #[.int .i64 (shC 1 mode df).f0,.int .i64 (shC 1 mode df).f1] rfl rfl 38 #[.int .i64 0,.int .i64 0] B8.out (zw _ _) rfl (zM _ _) ?_
   intro We hq aE aG
   refine hK.out _ _ ?_
   have E8:=hhd hq
   have HBe:=hhd (aG _ _ L8 (zb HBd I))
   have F6:=hhd ((aE _ (fun e=>by have:=zj E6;omega)).trans (zd E6 I))
   clear hK K I hq aE aG B8
   refine px_ 27 rfl ?_
   refine zE (by kernel_rfl) ?_
  all_goals
   clear m1 m2 m3 x00 x01 x10 x11
   go_wp2_with (first
    | ((with_reducible refine zf (N:=76) rfl ?_);(try simp only [Act.put,zzA,zzB,zzC]);refine wpList_load_row rfl 38 _ rfl g6 rfl 38 #[.int .i64 (shC 1 mode sm).f0,.int .i64 (shC 1 mode sm).f1] (0,0) _ F6.out Tryz.underlying38 rfl (zw _ _) ?_)
    | ((with_reducible refine zf (N:=77) rfl ?_);(try simp only [Act.put,zzA,zzB,zzC]);refine wpList_load_row rfl 38 _ rfl g8 rfl 38 #[.int .i64 (shC 1 mode df).f0,.int .i64 (shC 1 mode df).f1] (0,0) _ E8.out Tryz.underlying38 rfl (zw _ _) ?_)
    | ((with_reducible refine zf (N:=78) rfl ?_);refine Kd.R_lit k38 _ 38 ?hg (N:=78) ?hd (xs:=[shC 1 mode sm,shC 1 mode df]) (inner:=[.int .i64 (shC 1 mode sm).f0,.int .i64 (shC 1 mode sm).f1,.int .i64 (shC 1 mode df).f0,.int .i64 (shC 1 mode df).f1]) (ok:=fun _=>True) (okp:=fun _=>True) ?hr (zku _ _ _ _) (fun _ hk=>hk) trivial (Below.refl _ _) (Nat.le_refl _) (show (2:Nat)≤9223372036854775807 from by omega) ?_;(case hd=>rfl);(case hg=>rfl);(case hr=>first | (go_simp;done) | (go_simp;rfl));intro v78 Wl ho hb hg_ hnew_;clear hg_ hnew_;obtain ⟨A78,c78,ev,hc78,hC78⟩:=Kd.R_reads ho;subst ev;have RL:=hhd (Kd.R_lower ho (zi HBe));have CL:=hhd hC78;have HCL:=hhd hc78;have HBl:=zs_ HBe hb;clear ho hb hc78 hC78))
   go_ret
   exact ⟨A78,c78,rfl,HCL.out,by rw [HRS.out];exact CL.out,fun _=>by rw [HRS.out];exact RL.out,HBl.out⟩
end Go.Proofs.YteieahbadclppaaGreat.P

namespace Go.Proofs.YteieahbadclppaaGreat.P
open Go.RowKit Go.Proofs.YteieahbadclppaaGreatW.PrintWords Go.Proofs.YteieahbadclppaaGreatW.PrintLast Go.Proofs.YteieahbadclppaaGreatW.PrintMore
set_option linter.unusedVariables false
set_option linter.unusedSimpArgs false
def zbW (x:S38):S38:=⟨-x.f0,-x.f1⟩
def zcf (bits:Nat) (w w':S38) (i j l:Nat):Row:=[(⟨2^(bits+1),0⟩,2^(bits+1),i),(w,2^bits+1,j),(w',2^bits+1,l)]
theorem zeo (x:List S38) (bits:Nat) (w w':S38) (i j l:Nat):dot x (zcf bits w w' i j l)=zao (upC ((bits:Int)+1) (x.getD i z38)) (zao (zaR w (x.getD j z38)) (zaR w' (x.getD l z38))):=by
 have e:((bits:Int)+1).toNat=bits+1:=by omega
 unfold zcf dot dot dot dot zaz zao upC z38
 rw [e]
 apply zau <;> (simp only [zaR];grind)
def zfx (wl:List S38) (bits:Nat) (inv:Bool) (by_ hN q k:Nat):Row :=
 match q with
 | 0=>zcf bits (zH inv (zk wl ((k*by_:Nat):Int))) (zH inv (zk wl ((3*k*by_:Nat):Int))) k (2*hN+k) (3*hN+k)
 | 1=>zcf bits (zab (nT inv) (zH inv (zk wl ((k*by_:Nat):Int)))) (zbW (zab (nT inv) (zH inv (zk wl ((3*k*by_:Nat):Int))))) (hN+k) (2*hN+k) (3*hN+k)
 | 2=>zcf bits (zbW (zH inv (zk wl ((k*by_:Nat):Int)))) (zbW (zH inv (zk wl ((3*k*by_:Nat):Int)))) k (2*hN+k) (3*hN+k)
 | _=>zcf bits (zbW (zab (nT inv) (zH inv (zk wl ((k*by_:Nat):Int))))) (zab (nT inv) (zH inv (zk wl ((3*k*by_:Nat):Int)))) (hN+k) (2*hN+k) (3*hN+k)
def zb8 (wl:List S38) (bits:Nat) (inv:Bool) (by_ hN:Nat):List Row:=(List.range (4*hN)).map fun p=>zfx wl bits inv by_ hN (p / hN) (p % hN)
theorem neg_mul (w y:S38):zaR (zbW w) y=zbW (zaR w y):=by
 unfold zaR zbW
 apply zau <;> dsimp only <;> grind
theorem zdM (y w:S38):zS y w=zaR w y:=by
 unfold zS zaR
 apply zau <;> dsimp only <;> grind
theorem znr (wl:List S38) (bits:Nat) (inv:Bool) (by_ hN k:Nat):zfx wl bits inv by_ hN 0 k=zcf bits (zH inv (zk wl ((k*by_:Nat):Int))) (zH inv (zk wl ((3*k*by_:Nat):Int))) k (2*hN+k) (3*hN+k):=rfl
theorem zns (wl:List S38) (bits:Nat) (inv:Bool) (by_ hN k:Nat):zfx wl bits inv by_ hN 1 k=zcf bits (zab (nT inv) (zH inv (zk wl ((k*by_:Nat):Int)))) (zbW (zab (nT inv) (zH inv (zk wl ((3*k*by_:Nat):Int))))) (hN+k) (2*hN+k) (3*hN+k):=rfl
theorem znt (wl:List S38) (bits:Nat) (inv:Bool) (by_ hN k:Nat):zfx wl bits inv by_ hN 2 k=zcf bits (zbW (zH inv (zk wl ((k*by_:Nat):Int)))) (zbW (zH inv (zk wl ((3*k*by_:Nat):Int)))) k (2*hN+k) (3*hN+k):=rfl
theorem znu (wl:List S38) (bits:Nat) (inv:Bool) (by_ hN k:Nat):zfx wl bits inv by_ hN 3 k=zcf bits (zbW (zab (nT inv) (zH inv (zk wl ((k*by_:Nat):Int))))) (zab (nT inv) (zH inv (zk wl ((3*k*by_:Nat):Int)))) (hN+k) (2*hN+k) (3*hN+k):=rfl
theorem zmF (u v y z w1 w3:S38) (bits mode:Int) (inv:Bool):za9 u v y z w1 w3 bits mode inv 0=shC (bits+2) mode (zao (upC (bits+1) u) (zao (zS y w1) (zS z w3))):=rfl
theorem zmG (u v y z w1 w3:S38) (bits mode:Int) (inv:Bool):za9 u v y z w1 w3 bits mode inv 1=shC (bits+2) mode (zao (upC (bits+1) v) (zaE (zab (nT inv) (zS y w1)) (zab (nT inv) (zS z w3)))):=rfl
theorem zmH (u v y z w1 w3:S38) (bits mode:Int) (inv:Bool):za9 u v y z w1 w3 bits mode inv 2=shC (bits+2) mode (zaE (upC (bits+1) u) (zao (zS y w1) (zS z w3))):=rfl
theorem zmI (u v y z w1 w3:S38) (bits mode:Int) (inv:Bool):za9 u v y z w1 w3 bits mode inv 3=shC (bits+2) mode (zaE (upC (bits+1) v) (zaE (zab (nT inv) (zS y w1)) (zab (nT inv) (zS z w3)))):=rfl
theorem zn8 (E F G wl:List S38) (mode:Int) (bits:Nat) (inv:Bool) (by_ hN q k c:Nat) (hE:E.length=2*hN) (hF:F.length=hN) (hG:G.length=hN) (hk:k < hN) (hq:q < 4) (hc:(bits:Int)+2=c) :
  shC c mode (dot (E++F++G) (zfx wl bits inv by_ hN q k))=za9 (zk E k) (zk E ((hN+k:Nat):Int)) (zk F k) (zk G k) (zH inv (zk wl ((k*by_:Nat):Int))) (zH inv (zk wl ((3*k*by_:Nat):Int))) bits mode inv q:=by
 have g0:(E++F++G).getD k z38=zk E k:=by
  rw [zbV,List.getD_eq_getElem?_getD,List.getD_eq_getElem?_getD,List.append_assoc,List.getElem?_append_left (by omega)]
 have g1:(E++F++G).getD (hN+k) z38=zk E ((hN+k:Nat):Int):=by
  rw [zbV,List.getD_eq_getElem?_getD,List.getD_eq_getElem?_getD,List.append_assoc,List.getElem?_append_left (by omega)]
 have g2:(E++F++G).getD (2*hN+k) z38=zk F k:=by
  rw [zbV,List.getD_eq_getElem?_getD,List.getD_eq_getElem?_getD,List.append_assoc,List.getElem?_append_right (by omega),List.getElem?_append_left (by omega),hE,Nat.add_sub_cancel_left]
 have g3:(E++F++G).getD (3*hN+k) z38=zk G k:=by
  rw [zbV,List.getD_eq_getElem?_getD,List.getD_eq_getElem?_getD,List.append_assoc,List.getElem?_append_right (by omega),List.getElem?_append_right (by omega),hE,hF,show 3*hN+k - 2*hN - hN=k by omega]
 have h4:q=0∨q=1∨q=2∨q=3:=by omega
 rcases h4 with rfl | rfl | rfl | rfl
 ·rw [znr,zmF,zeo,g0,g2,g3,hc,zdM,zdM]
 ·rw [zns,zmG,zeo,g1,g2,g3,hc,zcK,zcK,neg_mul]
  congr 1
 ·rw [znt,zmH,zeo,g0,g2,g3,hc,zdM,zdM,neg_mul,neg_mul]
  congr 1
  unfold zao zaE zbW
  apply zau <;> dsimp only <;> omega
 ·rw [znu,zmI,zeo,g1,g2,g3,hc,zcK,zcK,neg_mul]
  congr 1
  unfold zao zaE zbW
  apply zau <;> dsimp only <;> omega
def zgj (hN:Nat):List Nat:=(List.range hN).flatMap fun k=>[0+(0*hN+k),0+(1*hN+k),0+(2*hN+k),0+(3*hN+k)]
def zjm (hN:Nat):Bool :=
 decide ((zgj hN).Nodup) && ((List.range (4*hN)).all fun i=>(zgj hN).contains i) &&
 (List.range hN).all fun k=>(List.range 4).all fun q=>decide ((0+(q*hN+k)) / hN=q) && (decide ((0+(q*hN+k)) % hN=k) && decide (0+(q*hN+k) < 4*hN))
set_option maxRecDepth 100000 in
theorem zlH:((List.range 5).all fun t=>zjm (2^t))=true:=by decide +kernel
theorem zfh (E F G wl:List S38) (by_:Nat) (bits mode:Int) (inv:Bool) (hN:Nat):∀n,zbu E F G wl by_ bits mode inv hN n=zaS (List.replicate (4*hN) z38) ((List.range n).flatMap fun k=>(List.range 4).map fun q=>(0+(q*hN+k),za9 (zk E k) (zk E ((hN+k:Nat):Int)) (zk F k) (zk G k) (zH inv (zk wl ((k*by_:Nat):Int))) (zH inv (zk wl ((3*k*by_:Nat):Int))) bits mode inv q))
 | 0=>rfl
 | n+1=>by
  rw [zbu,zfh E F G wl by_ bits mode inv hN n,List.range_succ (n:=n),List.flatMap_append,zcs,List.flatMap_cons,List.flatMap_nil,List.append_nil]
  rfl
theorem zir (E F G wl:List S38) (mode:Int) (bits:Nat) (inv:Bool) (by_ hN c:Nat) (hE:E.length=2*hN) (hF:F.length=hN) (hG:G.length=hN) (hck:zjm hN=true) (hc:(bits:Int)+2=c) :
  zbu E F G wl by_ bits mode inv hN hN=zaf c mode (zb8 wl bits inv by_ hN) (E++F++G):=by
 unfold zjm at hck
 rw [Bool.and_eq_true,Bool.and_eq_true,decide_eq_true_eq,List.all_eq_true,List.all_eq_true] at hck
 obtain ⟨⟨hn,hall⟩,hp⟩:=hck
 have hq:∀k,k < hN→∀q,q < 4→(0+(q*hN+k)) / hN=q∧(0+(q*hN+k)) % hN=k∧0+(q*hN+k) < 4*hN:=by
  intro k hk q hq
  have h1:=hp k (List.mem_range.2 hk)
  rw [List.all_eq_true] at h1
  have h2:=h1 q (List.mem_range.2 hq)
  simpa only [Bool.and_eq_true,decide_eq_true_eq] using h2
 rw [zfh]
 have hms:(((List.range hN).flatMap fun k=>(List.range 4).map fun q=>(0+(q*hN+k),za9 (zk E k) (zk E ((hN+k:Nat):Int)) (zk F k) (zk G k) (zH inv (zk wl ((k*by_:Nat):Int))) (zH inv (zk wl ((3*k*by_:Nat):Int))) bits mode inv q)).map (·.1))=zgj hN:=by
  rw [List.map_flatMap]
  rfl
 refine zfs (by rw [hms];exact hn) ?_ (by simp [zaf,zb8]) ?_ ?_
 ·intro p hp1
  obtain ⟨k,hk,hp1⟩:=List.mem_flatMap.1 hp1
  obtain ⟨q,hq1,rfl⟩:=List.mem_map.1 hp1
  rw [List.length_replicate]
  exact (hq k (List.mem_range.1 hk) q (List.mem_range.1 hq1)).2.2
 ·intro i hi
  rw [List.length_replicate] at hi
  have h1:=hall i (List.mem_range.2 hi)
  rw [List.contains_iff_mem,← hms] at h1
  obtain ⟨p,hp1,rfl⟩:=List.mem_map.1 h1
  exact ⟨p,hp1,rfl⟩
 ·intro p hp1
  obtain ⟨k,hk,hp1⟩:=List.mem_flatMap.1 hp1
  obtain ⟨q,hq1,rfl⟩:=List.mem_map.1 hp1
  have hk:=List.mem_range.1 hk
  have hq1:=List.mem_range.1 hq1
  obtain ⟨a1,a2,a3⟩:=hq k hk q hq1
  have e:(zaf c mode (zb8 wl bits inv by_ hN) (E++F++G)).getD (0+(q*hN+k)) z38=shC c mode (dot (E++F++G) (zfx wl bits inv by_ hN ((0+(q*hN+k)) / hN) ((0+(q*hN+k)) % hN))):=by
   generalize 0+(q*hN+k)=i at *
   simp [zaf,zb8,List.getD_eq_getElem?_getD,a3]
  rw [e,a1,a2]
  exact zn8 E F G wl mode bits inv by_ hN q k c hE hF hG hk hq1 hc
theorem zX.div {z:S38} {p M:Int} (hp:0 < p) (hM:0≤M) (h:zX (zah p z) (p*M)):zX z M:=by
 obtain ⟨a,b⟩:=z
 obtain ⟨_,h⟩:=h
 simp only [zah,zX] at *
 refine ⟨hM,?_⟩
 have hpp:0 < p*p:=Int.mul_pos hp hp
 refine Int.le_of_mul_le_mul_left (a:=p*p) ?_ hpp
 grind
def zak (M:Int) (x:List S38):Prop:=0≤M∧∀k,k < x.length→zX (zah 64 (x.getD k z38)) M
theorem zhS {x:List S38} {M:Int} {r:Row} (h:zak M x) (hr:zbz x.length r=true) (hN:zax r*M≤64*4611686018427387904):zfP (dot x r) 4611686018427387904:=by
 have h1:=zdy (x:=lsc 64 x) h.1 r (by rw [zaO];exact hr) (fun k hk=>by rw [zbs];rw [zaO] at hk;exact h.2 k hk)
 rw [zdn] at h1
 have h2:=(h1.up hN).part
 unfold zah at h2
 dsimp only at h2
 unfold zfP
 omega
def zcw (n c:Nat) (E M M':Int) (rows:List Row):Prop:=∀r,r∈rows→zbz n r=true∧zax r*E≤2^c*(E+1)∧zax r*M+91*2^c≤2^c*M'∧zax r*M≤64*4611686018427387904
theorem zkv {c:Nat} {mode:Int} {rows:List Row} {x:List S38} {k:Nat} (hk:k < rows.length):(zaf c mode rows x).getD k z38=shC c mode (dot x rows[k]):=by
 simp [zaf,List.getD_eq_getElem?_getD,List.getElem?_map,List.getElem?_eq_getElem hk]
theorem zdN (c:Nat) (mode:Int) (rows:List Row) (x:List S38):(zaf c mode rows x).length=rows.length:=by simp [zaf]
theorem zcL {x v:List S38} {D c:Nat} {E M M':Int} {rows:List Row} {mode:Int} (h:zaC D E x v) (hm:zak M x) (hM':0≤M') (hr:zcw x.length c E M M' rows) (hc:c≤62):zaC (D+c) (E+92) (zaf c mode rows x) (zai rows v)∧zak M' (zaf c mode rows x):=by
 refine ⟨zjg h (fun r hr1=>⟨(hr r hr1).1,(hr r hr1).2.1,zhS hm (hr r hr1).1 (hr r hr1).2.2.2⟩) hc,hM',fun k hk=>?_⟩
 rw [zdN] at hk
 rw [zkv hk]
 obtain ⟨a1,a2,a3,a4⟩:=hr _ (List.getElem_mem hk)
 exact zX.div (Int.pow_pos (by decide)) hM' (zjh hm.1 hm.2 a1 a3 hc (zhS hm a1 a4))
theorem zak.in {M m:Int} {x:List S38} (h:zak M x) (hm:M≤64*m):∀z,z∈x→inB m z=true:=by
 intro z hz
 obtain ⟨k,hk,rfl⟩:=List.getElem_of_mem hz
 have h1:=((h.2 k hk).up hm).part
 rw [List.getD_eq_getElem?_getD,List.getElem?_eq_getElem hk] at h1
 unfold zah at h1
 dsimp only [Option.getD] at h1
 exact za3 (by omega)
theorem zaC.shift {D d:Nat} {E:Int} {x v:List S38} (h:zaC D E x v):zaC (D+d) E x (lsc (2^d) v):=by
 obtain ⟨hl,hE,hk⟩:=h
 refine ⟨by rw [zaO,hl],hE,fun k hk1=>?_⟩
 have h1:=(hk k hk1).scl (2^d) (Int.le_of_lt (Int.pow_pos (by decide)))
 rw [zbs]
 have e:zah (2^d) (zbN D (x.getD k z38) (v.getD k z38))=zbN (D+d) (x.getD k z38) (zah (2^d) (v.getD k z38)):=by
  unfold zbN zaz zah
  rw [Int.pow_add]
  apply zau <;> dsimp only <;> grind
 rw [e] at h1
 refine h1.up ?_
 rw [Int.pow_add]
 have:2^d*(E*2^D)=E*((2:Int)^D*2^d):=by grind
 omega
theorem zaC.append {D:Nat} {E:Int} {x v y u:List S38} (h:zaC D E x v) (g:zaC D E y u):zaC D E (x++y) (v++u):=by
 refine ⟨by rw [List.length_append,List.length_append,h.1,g.1],h.2.1,fun k hk=>?_⟩
 rw [List.length_append] at hk
 by_cases hk1:k < x.length
 ·have:=h.2.2 k hk1
  rw [List.getD_eq_getElem?_getD,List.getD_eq_getElem?_getD] at this ⊢
  rw [List.getElem?_append_left hk1,List.getElem?_append_left (by rw [← h.1];exact hk1)]
  exact this
 ·have:=g.2.2 (k - x.length) (by omega)
  rw [List.getD_eq_getElem?_getD,List.getD_eq_getElem?_getD] at this ⊢
  rw [List.getElem?_append_right (by omega),List.getElem?_append_right (by rw [← h.1];omega),← h.1]
  exact this
theorem zak.append {M:Int} {x y:List S38} (h:zak M x) (g:zak M y):zak M (x++y):=by
 refine ⟨h.1,fun k hk=>?_⟩
 rw [List.length_append] at hk
 by_cases hk1:k < x.length
 ·have:=h.2 k hk1
  rw [List.getD_eq_getElem?_getD] at this ⊢
  rw [List.getElem?_append_left hk1]
  exact this
 ·have:=g.2 (k - x.length) (by omega)
  rw [List.getD_eq_getElem?_getD] at this ⊢
  rw [List.getElem?_append_right (by omega)]
  exact this
theorem zaC.up {D:Nat} {E E':Int} {x v:List S38} (h:zaC D E x v) (hE:E≤E'):zaC D E' x v :=
 ⟨h.1,Int.le_trans h.2.1 hE,fun k hk=>(h.2.2 k hk).up (Int.mul_le_mul_of_nonneg_right hE (Int.le_of_lt (Int.pow_pos (by decide))))⟩
theorem zak.up {M M':Int} {x:List S38} (h:zak M x) (hM:M≤M'):zak M' x:=⟨Int.le_trans h.1 hM,fun k hk=>(h.2 k hk).up hM⟩
theorem zaF {n:Nat} {t:S38×Int×Nat} {r:Row} (h1:zX t.1 t.2.1) (h2:t.2.2 < n) (h3:zbz n r=true):zbz n (t :: r)=true:=by
 simp only [zbz,Bool.and_eq_true,decide_eq_true_eq]
 exact ⟨h1.1,h1.2,h2,h3⟩
theorem zcM (b:Nat):zX ⟨2^b,0⟩ (2^b):=⟨Int.le_of_lt (Int.pow_pos (by decide)),by simp⟩
theorem zdO {inv:Bool} {w:S38} {R:Int} (hR:R≤9223372036854775807) (h:zX w R):zX (zH inv w) R:=by
 have hp:=h.part
 unfold zH
 split
 ·have e:wrap64 (-w.f1)=-w.f1:=zv (by omega) (by omega)
  rw [e]
  obtain ⟨h0,h1⟩:=h
  exact ⟨h0,by dsimp only;grind⟩
 ·exact h
theorem zbC {w:S38} {R:Int} (q:Nat) (h:zX w R):zX (zab q w) R:=by
 obtain ⟨h0,h1⟩:=h
 refine ⟨h0,?_⟩
 unfold zab
 split <;> (try dsimp only) <;> grind
theorem zcN {w:S38} {R:Int} (h:zX w R):zX (zbW w) R:=by
 obtain ⟨h0,h1⟩:=h
 refine ⟨h0,?_⟩
 unfold zbW
 dsimp only
 grind
theorem zkw (wl:List S38) (bits:Nat) (inv:Bool) (h m:Int) (n:Nat) (hh:0≤h) (hc:zeP h m n=true) (k:Nat) (hk:k < n) :
  ∃(a b:Nat) (i:Int),a < n∧b < n∧0≤i∧i < n∧(zeO wl bits inv h m k=zfT bits (zH inv (zk wl i)) a b∨zeO wl bits inv h m k=zfU bits (zH inv (zk wl i)) a b):=by
 unfold zeP at hc
 rw [Bool.and_eq_true,Bool.and_eq_true,decide_eq_true_eq,List.all_eq_true,List.all_eq_true] at hc
 obtain ⟨⟨hn,hall⟩,hp⟩:=hc
 have h1:=hall k (List.mem_range.2 hk)
 rw [List.contains_iff_mem] at h1
 obtain ⟨p,hp1,hq⟩:=List.mem_flatMap.1 h1
 have h2:=hp p hp1
 simp only [Bool.and_eq_true,decide_eq_true_eq] at h2
 obtain ⟨q0,q1,q2,q3,q4,q5,q6⟩:=h2
 simp only [List.mem_cons,List.not_mem_nil,or_false] at hq
 have t1:((p.1.toNat:Nat):Int)=p.1:=Int.toNat_of_nonneg q0
 have t2:(((p.1+h).toNat:Nat):Int)=p.1+h:=Int.toNat_of_nonneg (by omega)
 rcases hq with rfl | rfl
 ·refine ⟨p.1.toNat,p.1.toNat+h.toNat,p.2,hk,by omega,q5,q6,.inl ?_⟩
  unfold zeO
  rw [t1,if_pos q2,← q4]
 ·refine ⟨(p.1+h).toNat - h.toNat,(p.1+h).toNat,p.2,by omega,hk,q5,q6,.inr ?_⟩
  unfold zeO
  rw [t2,if_neg q3,show p.1+h - h=p.1 by omega,← q4]
theorem zlI (wl:List S38) (bits:Nat) (inv:Bool) (h m:Int) (n c:Nat) (E M M':Int) (hh:0≤h) (hc:zeP h m n=true) (hb:bits≤40) (hw:∀i:Int,0≤i→i < n→zX (zk wl i) (2^bits+1))
  (h1:(2*2^bits+1)*E≤2^c*(E+1)) (h2:(2*2^bits+1)*M+91*2^c≤2^c*M') (h3:(2*2^bits+1)*M≤64*4611686018427387904):zcw n c E M M' (zdL wl bits inv h m n):=by
 have hR:(2:Int)^bits+1≤9223372036854775807:=by
  have:=zaG (a:=bits) (b:=40) hb
  have e:(2:Int)^40=1099511627776:=by decide
  omega
 intro r hr
 obtain ⟨k,hk,rfl⟩:=List.mem_map.1 hr
 obtain ⟨a,b,i,ha,hb1,i0,i1,hf⟩:=zkw wl bits inv h m n hh hc k (List.mem_range.1 hk)
 have hn:=zdO (inv:=inv) hR (hw i i0 i1)
 have hN:∀w:S38,zax [((⟨2^bits,0⟩:S38),(2:Int)^bits,a),(w,2^bits+1,b)]=2*2^bits+1:=fun w=>by unfold zax zax zax;dsimp only;omega
 rcases hf with e | e <;> rw [e]
 ·refine ⟨zaF (zcM bits) ha (zaF hn hb1 rfl),?_⟩
  unfold zfT
  rw [hN]
  exact ⟨h1,h2,h3⟩
 ·refine ⟨zaF (zcM bits) ha (zaF (zcN hn) hb1 rfl),?_⟩
  unfold zfU
  rw [hN]
  exact ⟨h1,h2,h3⟩
theorem zn9 (a b c d:Nat) (p:Int) (w0 w1 w2 w3:S38):zax [(w0,p,a),(w1,p+1,b),(w2,p+1,c),(w3,p+1,d)]=4*p+3:=by
 unfold zax zax zax zax zax
 dsimp only
 omega
theorem zlJ (wl:List S38) (h T n:Nat) (u:Int) (bits c:Nat) (inv:Bool) (E M M':Int) (hc:zeQ h T n=true) (hb:bits≤40) (hw:∀j k:Nat,j < h→k < 4→zX (zk wl ((k:Int)*j*u)) (2^bits+1))
  (h1:(4*2^bits+3)*E≤2^c*(E+1)) (h2:(4*2^bits+3)*M+91*2^c≤2^c*M') (h3:(4*2^bits+3)*M≤64*4611686018427387904):zcw n c E M M' (zcY wl h u bits inv n):=by
 have hR:(2:Int)^bits+1≤9223372036854775807:=by
  have:=zaG (a:=bits) (b:=40) hb
  have e:(2:Int)^40=1099511627776:=by decide
  omega
 unfold zeQ at hc
 rw [Bool.and_eq_true,Bool.and_eq_true,decide_eq_true_eq,List.all_eq_true,List.all_eq_true] at hc
 obtain ⟨⟨hn,hall⟩,hp⟩:=hc
 have hq:∀t,t < T→∀j,j < h→∀q,q < 4→(t*(4*h)+(q*h+j)) / (4*h)=t∧(t*(4*h)+(q*h+j)) % (4*h) % h=j∧(t*(4*h)+(q*h+j)) % (4*h) / h=q∧t*(4*h)+(q*h+j) < n:=by
  intro t ht j hj q hq
  have h1:=hp t (List.mem_range.2 ht)
  rw [List.all_eq_true] at h1
  have h2:=h1 j (List.mem_range.2 hj)
  rw [List.all_eq_true] at h2
  have h3:=h2 q (List.mem_range.2 hq)
  simpa only [Bool.and_eq_true,decide_eq_true_eq] using h3
 intro r hr
 obtain ⟨k,hk,rfl⟩:=List.mem_map.1 hr
 have hkk:=hall k hk
 rw [List.contains_iff_mem] at hkk
 obtain ⟨t,ht,hkk⟩:=List.mem_flatMap.1 hkk
 obtain ⟨j,hj,hkk⟩:=List.mem_flatMap.1 hkk
 have ht:=List.mem_range.1 ht
 have hj:=List.mem_range.1 hj
 have key:∃q,q < 4∧k=t*(4*h)+(q*h+j):=by
  simp only [List.mem_cons,List.not_mem_nil,or_false] at hkk
  rcases hkk with e | e | e | e
  ·exact ⟨0,by decide,e⟩
  ·exact ⟨1,by decide,e⟩
  ·exact ⟨2,by decide,e⟩
  ·exact ⟨3,by decide,e⟩
 obtain ⟨q,hq4,rfl⟩:=key
 obtain ⟨a1,a2,a3,a4⟩:=hq t ht j hj q hq4
 unfold zjk
 rw [a1,a2,a3]
 have hn:∀k,k < 4→zX (wOf wl u inv j k) (2^bits+1):=fun k hk=>zdO hR (hw j k hj hk)
 unfold zjj
 rw [zn9]
 exact ⟨zaF (zcM bits) (hq t ht j hj 0 (by decide)).2.2.2 (zaF (zbC _ (hn 1 (by decide))) (hq t ht j hj 2 (by decide)).2.2.2 (zaF (zbC _ (hn 2 (by decide))) (hq t ht j hj 1 (by decide)).2.2.2 (zaF (zbC _ (hn 3 (by decide))) (hq t ht j hj 3 (by decide)).2.2.2 rfl))),h1,h2,h3⟩
theorem zoa (a b c:Nat) (bits:Nat) (w0 w1 w2:S38):zax [(w0,(2:Int)^(bits+1),a),(w1,(2:Int)^bits+1,b),(w2,(2:Int)^bits+1,c)]=4*2^bits+2:=by
 unfold zax zax zax zax
 dsimp only
 rw [Int.pow_succ]
 omega
theorem zhT (wl:List S38) (bits:Nat) (inv:Bool) (by_ hN c:Nat) (E M M':Int) (hN0:0 < hN) (hb:bits≤40) (hw:∀k:Nat,k < hN→zX (zk wl ((k*by_:Nat):Int)) (2^bits+1)∧zX (zk wl ((3*k*by_:Nat):Int)) (2^bits+1))
  (h1:(4*2^bits+2)*E≤2^c*(E+1)) (h2:(4*2^bits+2)*M+91*2^c≤2^c*M') (h3:(4*2^bits+2)*M≤64*4611686018427387904):zcw (4*hN) c E M M' (zb8 wl bits inv by_ hN):=by
 have hR:(2:Int)^bits+1≤9223372036854775807:=by
  have:=zaG (a:=bits) (b:=40) hb
  have e:(2:Int)^40=1099511627776:=by decide
  omega
 intro r hr
 obtain ⟨p,hp,rfl⟩:=List.mem_map.1 hr
 have hk:p % hN < hN:=Nat.mod_lt _ hN0
 generalize p % hN=k at *
 obtain ⟨w1,w3⟩:=hw k hk
 have n1:=zdO (inv:=inv) hR w1
 have n3:=zdO (inv:=inv) hR w3
 have hall:∀(w w':S38) (i:Nat),zX w (2^bits+1)→zX w' (2^bits+1)→i < 4*hN→zbz (4*hN) (zcf bits w w' i (2*hN+k) (3*hN+k))=true∧zax (zcf bits w w' i (2*hN+k) (3*hN+k))*E≤2^c*(E+1)∧zax (zcf bits w w' i (2*hN+k) (3*hN+k))*M+91*2^c≤2^c*M'∧zax (zcf bits w w' i (2*hN+k) (3*hN+k))*M≤64*4611686018427387904:=by
  intro w w' i hw hw' hi
  unfold zcf
  rw [zoa]
  exact ⟨zaF (zcM (bits+1)) hi (zaF hw (by dsimp only;omega) (zaF hw' (by dsimp only;omega) rfl)),h1,h2,h3⟩
 generalize p / hN=q at *
 match q with
 | 0=>exact hall _ _ _ n1 n3 (by omega)
 | 1=>exact hall _ _ _ (zbC _ n1) (zcN (zbC _ n3)) (by omega)
 | 2=>exact hall _ _ _ (zcN n1) (zcN n3) (by omega)
 | q+3=>exact hall _ _ _ (zcN (zbC _ n1)) (zbC _ n3) (by omega)
def goT (mode:Int) (T:List (Nat×List Row)) (x:List S38):List S38:=T.foldl (fun y s=>zaf s.1 mode s.2 y) x
def idT (T:List (Nat×List Row)) (v:List S38):List S38:=T.foldl (fun y s=>zai s.2 y) v
def zad (fm g:Nat) (inv:Bool) (p:Bool×Nat):Nat×List Row :=
 if p.1 then (bN fm+2,zcY (twL fm g) (2^p.2) ((2^g / (4*2^p.2):Nat):Int) (bN fm) inv (2^g))
 else (bN fm+1,zdL (twL fm g) (bN fm) inv (2^p.2) (2^g / (2*2^p.2)) (2^g))
theorem zep (fm:Nat):bN fm≤29∧13≤bN fm:=by unfold bN;split <;> omega
theorem qN (fm:Nat):(8192:Int)≤2^bN fm∧(2:Int)^bN fm≤536870912:=by
 unfold bN
 split <;> decide
theorem zmJ {wl:List S38} {R:Int} (hR:0≤R) (h:∀z,z∈wl→zX z R) (i:Int):zX (zk wl i) R:=by
 unfold zk
 rw [List.getD_eq_getElem?_getD]
 by_cases hi:i.toNat < wl.length
 ·rw [List.getElem?_eq_getElem hi]
  exact h _ (List.getElem_mem hi)
 ·rw [List.getElem?_eq_none (by omega)]
  exact zX.zero.up hR
theorem zcO (fm g:Nat) (inv:Bool) (p:Bool×Nat):(zad fm g inv p).2.length=2^g:=by
 unfold zad
 split <;> simp [zdL,zcY]
theorem zmK {Q E M:Int} (q0:8192≤Q) (q1:Q≤536870912) (e0:0≤E) (e1:E≤Q) (m0:0≤M) (m1:M≤184*Q):(2*Q+1)*E≤2*Q*(E+1)∧(2*Q+1)*M+91*(2*Q)≤2*Q*(M+240)∧(2*Q+1)*M≤64*4611686018427387904:=by
 refine ⟨by grind,by grind,?_⟩
 have h:=Int.mul_le_mul (show 2*Q+1≤1073741825 by omega) (show M≤98784247808 by omega) m0 (by decide)
 omega
theorem zmL {Q E M:Int} (q0:8192≤Q) (q1:Q≤536870912) (e0:0≤E) (e1:E≤Q) (m0:0≤M) (m1:M≤184*Q):(4*Q+3)*E≤4*Q*(E+1)∧(4*Q+3)*M+91*(4*Q)≤4*Q*(M+240)∧(4*Q+3)*M≤64*4611686018427387904:=by
 refine ⟨by grind,by grind,?_⟩
 have h:=Int.mul_le_mul (show 4*Q+3≤2147483651 by omega) (show M≤98784247808 by omega) m0 (by decide)
 omega
theorem pc2 {g t:Nat} (h2:2≤g) (h6:g≤6) (h:pcB g (false,t)=true):zeP (2^t) (2^g / (2*2^t)) (2^g)=true∧2*2^t≤2^g∧Go.bits .and .i64 ((2^t:Nat):Int) (((2^t:Nat):Int) - 1)=0∧t < g:=by
 unfold pcB at h
 simp only [Bool.false_eq_true,if_false,Bool.and_eq_true,decide_eq_true_eq] at h
 exact ⟨List.all_eq_true.1 (List.all_eq_true.1 zlx g (zb6 h2 h6)) t (List.mem_range.2 h.1),h.2.1,h.2.2,h.1⟩
theorem pc4 {g t:Nat} (h2:2≤g) (h6:g≤6) (h:pcB g (true,t)=true):zeQ (2^t) (2^g / (4*2^t)) (2^g)=true∧2^g / (4*2^t)*(4*2^t)=2^g∧((2^g:Nat):Int).tdiv (4*((2^t:Nat):Int))=((2^g / (4*2^t):Nat):Int)∧((2^t:Nat):Int)≤((2^g:Nat):Int) / 4∧Go.bits .and .i64 ((2^t:Nat):Int) (((2^t:Nat):Int) - 1)=0:=by
 unfold pcB at h
 simp only [if_true,Bool.and_eq_true,decide_eq_true_eq] at h
 exact ⟨List.all_eq_true.1 (List.all_eq_true.1 zlA g (zb6 h2 h6)) t (List.mem_range.2 h.1),h.2.1,h.2.2.1,h.2.2.2.1,h.2.2.2.2⟩
theorem ziH {fm g:Nat} (inv:Bool) (hf:fm < 2) (h2:2≤g) (h6:g≤6) {p:Bool×Nat} (hp:pcB g p=true) {E M:Int} (e0:0≤E) (e1:E≤2^bN fm) (m0:0≤M) (m1:M≤184*2^bN fm) :
  zcw (2^g) (zad fm g inv p).1 E M (M+240) (zad fm g inv p).2∧(zad fm g inv p).1≤62:=by
 obtain ⟨q0,q1⟩:=qN fm
 obtain ⟨b0,b1⟩:=zep fm
 obtain ⟨t1,t2,t3⟩:=za7 hf h2 h6
 have hw:∀i:Int,zX (zk (twL fm g) i) (2^bN fm+1):=zmJ (by omega) fun z hz=>(t3 z hz).1
 obtain ⟨f,t⟩:=p
 cases f with
 | false =>
  obtain ⟨c1,c2,c3,c4⟩:=pc2 h2 h6 hp
  have ec:(2:Int)^(bN fm+1)=2*2^bN fm:=by rw [Int.pow_succ];omega
  obtain ⟨n1,n2,n3⟩:=zmK q0 q1 e0 e1 m0 m1
  refine ⟨?_,by show bN fm+1≤62;omega⟩
  exact zlI (twL fm g) (bN fm) inv (2^t) (2^g / (2*2^t)) (2^g) (bN fm+1) E M (M+240) (Int.le_of_lt (Int.pow_pos (by decide))) c1 (by omega) (fun i _ _=>hw i) (by rw [ec];exact n1) (by rw [ec];exact n2) n3
 | true =>
  obtain ⟨c1,_⟩:=pc4 h2 h6 hp
  have ec:(2:Int)^(bN fm+2)=4*2^bN fm:=by rw [Int.pow_succ,Int.pow_succ];omega
  obtain ⟨n1,n2,n3⟩:=zmL q0 q1 e0 e1 m0 m1
  refine ⟨?_,by show bN fm+2≤62;omega⟩
  exact zlJ (twL fm g) (2^t) (2^g / (4*2^t)) (2^g) ((2^g / (4*2^t):Nat):Int) (bN fm) (bN fm+2) inv E M (M+240) c1 (by omega) (fun j k _ _=>hw _) (by rw [ec];exact n1) (by rw [ec];exact n2) n3
def csN (fm:Nat):List (Bool×Nat)→Nat
 | []=>0
 | p :: r=>(if p.1 then bN fm+2 else bN fm+1)+csN fm r
theorem zkx (fm g:Nat) (inv:Bool) (p:Bool×Nat):(zad fm g inv p).1=if p.1 then bN fm+2 else bN fm+1:=by
 unfold zad
 split <;> rfl
theorem znv {fm g:Nat} (inv:Bool) (mode:Int) (hf:fm < 2) (h2:2≤g) (h6:g≤6):∀(ps:List (Bool×Nat)),(∀p,p∈ps→pcB g p=true)→∀(x v:List S38) (D:Nat) (E M:Int),x.length=2^g→zaC D E x v→zak M x→E+92*ps.length≤2^bN fm→M+240*ps.length≤184*2^bN fm →
  zaC (D+csN fm ps) (E+92*ps.length) (goT mode (ps.map (zad fm g inv)) x) (idT (ps.map (zad fm g inv)) v)∧zak (M+240*ps.length) (goT mode (ps.map (zad fm g inv)) x)∧(goT mode (ps.map (zad fm g inv)) x).length=2^g
 | [],_,x,v,D,E,M,hx,hn,hm,hE,hM=>⟨by simpa [goT,idT,csN] using hn,by simpa [goT] using hm,hx⟩
 | p :: ps,hp,x,v,D,E,M,hx,hn,hm,hE,hM=>by
  rw [List.length_cons,Int.natCast_add] at hE hM
  have e0:=hn.2.1
  have m0:=hm.1
  obtain ⟨r1,r2⟩:=ziH inv hf h2 h6 (hp p (List.mem_cons_self ..)) e0 (show E≤2^bN fm by omega) m0 (show M≤184*2^bN fm by omega)
  obtain ⟨s1,s2⟩:=zcL (mode:=mode) (M':=M+240) hn hm (by omega) (by rw [hx];exact r1) r2
  have ih:=znv inv mode hf h2 h6 ps (fun q hq=>hp q (List.mem_cons_of_mem _ hq)) _ _ _ _ _ (by rw [zdN,zcO]) s1 s2 (by omega) (by omega)
  rw [List.length_cons,Int.natCast_add]
  obtain ⟨i1,i2,i3⟩:=ih
  refine ⟨?_,?_,i3⟩
  ·have e:D+csN fm (p :: ps)=D+(zad fm g inv p).1+csN fm ps:=by rw [zkx];simp only [csN];omega
   rw [e,show E+92*((ps.length:Int)+((1:Nat):Int))=E+92+92*ps.length by omega]
   exact i1
  ·rw [show M+240*((ps.length:Int)+((1:Nat):Int))=M+240+240*ps.length by omega]
   exact i2
theorem zky {fm g n:Nat} (inv:Bool):∀(ps:List (Bool×Nat)) (F:List Int→List S38),ZL n (2^g) F→ZL n (2^g) (fun x=>idT (ps.map (zad fm g inv)) (F x))
 | [],F,h=>h
 | p :: ps,F,h=>by
  have h1:=h.rows (zad fm g inv p).2
  rw [zcO] at h1
  exact zky inv ps _ h1
theorem two_pow_pos (k:Nat):(0:Int) < 2^k:=Int.pow_pos (by decide)
theorem zcP {n c:Nat} {rows:List Row} (h:∀r,r∈rows→zbz n r=true∧zax r≤2^c) {v:List S38} {e:Int} (hv:v.length=n) (he:0≤e) (hn:∀k,k < n→zX (v.getD k z38) e):∀k,k < rows.length→zX ((zai rows v).getD k z38) (2^c*e):=by
 intro k hk
 have e1:(zai rows v).getD k z38=dot v rows[k]:=by
  simp [zai,List.getD_eq_getElem?_getD,List.getElem?_map,List.getElem?_eq_getElem hk]
 obtain ⟨h1,h2⟩:=h _ (List.getElem_mem hk)
 rw [e1]
 exact (zdy he _ (by rw [hv];exact h1) (by rw [hv];exact hn)).up (Int.mul_le_mul_of_nonneg_right h2 he)
theorem ziI {fm g:Nat} (inv:Bool) (hf:fm < 2) (h2:2≤g) (h6:g≤6):∀(ps:List (Bool×Nat)),(∀p,p∈ps→pcB g p=true)→∀(v:List S38) (e:Int),v.length=2^g→0≤e→(∀k,k < 2^g→zX (v.getD k z38) e) →
  ∀k,k < 2^g→zX ((idT (ps.map (zad fm g inv)) v).getD k z38) (2^(csN fm ps+ps.length)*e)
 | [],_,v,e,hv,he,hn=>by
  intro k hk
  have:=hn k hk
  simpa [idT,csN] using this
 | p :: ps,hp,v,e,hv,he,hn=>by
  have hq:=qN fm
  obtain ⟨r1,r2⟩:=ziH inv hf h2 h6 (hp p (List.mem_cons_self ..)) (E:=1) (M:=0) (by decide) (by omega) (by decide) (by omega)
  have h1:=zcP (c:=(zad fm g inv p).1+1) (rows:=(zad fm g inv p).2) (fun r hr=>⟨(r1 r hr).1,by have:=(r1 r hr).2.1;rw [Int.pow_succ];omega⟩) hv he hn
  rw [zcO] at h1
  have ih:=ziI inv hf h2 h6 ps (fun q hq=>hp q (List.mem_cons_of_mem _ hq)) _ _ (by rw [zai,List.length_map,zcO]) (Int.mul_nonneg (Int.le_of_lt (two_pow_pos _)) he) h1
  intro k hk
  have h3:=ih k hk
  rw [zkx,← Int.mul_assoc,← Int.pow_add] at h3
  have e2:csN fm (p :: ps)+(p :: ps).length=csN fm ps+ps.length+((if p.1=true then bN fm+2 else bN fm+1)+1):=by simp only [csN,List.length_cons];omega
  rw [e2]
  exact h3
theorem zdA:zX ⟨1,0⟩ 1:=⟨by decide,by decide⟩
def zaM (s:Nat→Nat) (n:Nat):List Row:=(List.range n).map fun k=>[(⟨1,0⟩,1,s k)]
theorem zob (x:List S38) (j:Nat):dot x [(⟨1,0⟩,1,j)]=x.getD j z38:=by
 unfold dot dot zaz zaR z38
 apply zau <;> dsimp only <;> omega
theorem zgE (mode:Int) (s:Nat→Nat) (n:Nat) (x:List S38):zaf 1 mode (zaM s n) x=((List.range n).map fun k=>x.getD (s k) z38).map (shC 1 mode):=by
 unfold zaf zaM
 rw [List.map_map,List.map_map]
 refine List.map_congr_left fun k _=>?_
 simp only [Function.comp,zob]
 rfl
theorem zkz {g:Nat} (h2:2≤g) (h6:g≤6) {k:Nat} (hk:k < 2^g):zbt g k < 2^g:=by
 have h:([2,3,4,5,6].all fun g=>(List.range (2^g)).all fun k=>decide (zbt g k < 2^g))=true:=by decide +kernel
 exact of_decide_eq_true (List.all_eq_true.1 (List.all_eq_true.1 h g (zb6 h2 h6)) k (List.mem_range.2 hk))
theorem ziJ {fm n:Nat} {s:Nat→Nat} (hs:∀k,k < n→s k < n) {E M M':Int} (e0:0≤E) (h1:M+182≤2*M') (h2:M≤64*4611686018427387904):zcw n 1 E M M' (zaM s n):=by
 intro r hr
 obtain ⟨k,hk,rfl⟩:=List.mem_map.1 hr
 refine ⟨zaF zdA (hs k (List.mem_range.1 hk)) rfl,?_⟩
 have e:∀j:Nat,zax [((⟨1,0⟩:S38),(1:Int),j)]=1:=fun j=>rfl
 rw [e]
 omega
structure Tr (fm g:Nat) (R V:List S38→List S38) (D K:Nat) (E:Int):Prop where
 near:∀(x v:List S38) (D0:Nat) (I:Int),x.length=2^g→zaC D0 I x v→zak (364*2^bN fm) x→I≤1000→zaC (D0+D) (I+E) (R x) (V v)∧zak (184*2^bN fm) (R x)∧(R x).length=2^g
 zl:∀(n:Nat) (F:List Int→List S38),ZL n (2^g) F→ZL n (2^g) (fun x=>V (F x))
 big:∀(v:List S38) (e:Int),v.length=2^g→0≤e→(∀k,k < 2^g→zX (v.getD k z38) e)→∀k,k < 2^g→zX ((V v).getD k z38) (2^K*e)
def zgk (fm g ker:Nat) (inv:Bool):List (Nat×List Row):=(pcL ker g).map (zad fm g inv)
def zcQ (fm g ker:Nat) (inv:Bool) (mode:Int) (x:List S38) (k:Nat):List S38:=goT mode (((pcL ker g).take k).map (zad fm g inv)) ((zb7 g x).map (shC 1 mode))
def zjn (fm g ker:Nat) (inv:Bool) (mode:Int) (x:List S38):List S38:=goT mode (zgk fm g ker inv) ((zb7 g x).map (shC 1 mode))
def zl5 (fm g ker:Nat) (inv:Bool) (v:List S38):List S38:=idT (zgk fm g ker inv) (zai (zaM (zbt g) (2^g)) v)
theorem zkA (g:Nat) (mode:Int) (x:List S38):(zb7 g x).map (shC 1 mode)=zaf 1 mode (zaM (zbt g) (2^g)) x:=(zgE mode (zbt g) (2^g) x).symm
theorem zmM {fm g:Nat} (mode:Int) (h2:2≤g) (h6:g≤6) {x v:List S38} {D0:Nat} {I:Int} (hx:x.length=2^g) (hn:zaC D0 I x v) (hm:zak (364*2^bN fm) x) :
  zaC (D0+1) (I+92) ((zb7 g x).map (shC 1 mode)) (zai (zaM (zbt g) (2^g)) v)∧zak (182*2^bN fm+91) ((zb7 g x).map (shC 1 mode))∧((zb7 g x).map (shC 1 mode)).length=2^g:=by
 have hq:=qN fm
 have r1:=ziJ (fm:=fm) (n:=2^g) (s:=zbt g) (fun k hk=>zkz h2 h6 hk) hn.2.1 (M:=364*2^bN fm) (M':=182*2^bN fm+91) (by omega) (by omega)
 have s:=zcL (mode:=mode) (M':=182*2^bN fm+91) hn hm (by omega) (by rw [hx];exact r1) (by decide)
 rw [zkA]
 exact ⟨s.1,s.2,by simp [zaf,zaM]⟩
theorem zkB {fm g ker:Nat} (inv:Bool) (mode:Int) (hf:fm < 2) (h2:2≤g) (h6:g≤6) (hk:ker < 2) {x v:List S38} {D0:Nat} {I:Int} (hx:x.length=2^g) (hn:zaC D0 I x v) (hm:zak (364*2^bN fm) x) (hE:I≤1000) (k:Nat) :
  zaC (D0+1+csN fm ((pcL ker g).take k)) (I+92+92*((pcL ker g).take k).length) (zcQ fm g ker inv mode x k) (idT (((pcL ker g).take k).map (zad fm g inv)) (zai (zaM (zbt g) (2^g)) v))∧zak (184*2^bN fm) (zcQ fm g ker inv mode x k)∧(zcQ fm g ker inv mode x k).length=2^g:=by
 have hq:=qN fm
 have hl:=zfQ h2 h6 hk
 have hl2:((pcL ker g).take k).length≤6:=by rw [List.length_take];omega
 obtain ⟨s1,s2,s3⟩:=zmM mode h2 h6 hx hn hm
 obtain ⟨p1,p2,p3⟩:=znv inv mode hf h2 h6 ((pcL ker g).take k) (fun p hp=>zfu h2 h6 hk p (List.mem_of_mem_take hp)) _ _ _ _ _ s3 s1 s2 (by omega) (by omega)
 exact ⟨p1,p2.up (by omega),p3⟩
theorem zor {fm g ker:Nat} (inv:Bool) (mode:Int) (hf:fm < 2) (h2:2≤g) (h6:g≤6) (hk:ker < 2):Tr fm g (zjn fm g ker inv mode) (zl5 fm g ker inv) (1+csN fm (pcL ker g)) (csN fm (pcL ker g)+(pcL ker g).length) (92+92*(pcL ker g).length) where
 near x v D0 I hx hn hm hE:=by
  have h:=zkB inv mode hf h2 h6 hk hx hn hm hE (pcL ker g).length
  unfold zcQ at h
  rw [List.take_length] at h
  rw [show D0+(1+csN fm (pcL ker g))=D0+1+csN fm (pcL ker g) by omega,show I+(92+92*((pcL ker g).length:Int))=I+92+92*((pcL ker g).length:Int) by omega]
  exact h
 zl n F h:=by
  have h1:=h.rows (zaM (zbt g) (2^g))
  rw [show (zaM (zbt g) (2^g)).length=2^g by simp [zaM]] at h1
  exact zky inv (pcL ker g) _ h1
 big v e hv he hn:=by
  have h1:=zcP (n:=2^g) (c:=0) (rows:=zaM (zbt g) (2^g)) (fun r hr=>by
   obtain ⟨k,hk,rfl⟩:=List.mem_map.1 hr
   exact ⟨zaF zdA (zkz h2 h6 (List.mem_range.1 hk)) rfl,by show (1:Int)+0≤2^0;decide⟩) hv he hn
  rw [show (zaM (zbt g) (2^g)).length=2^g by simp [zaM],show (2:Int)^0*e=e by omega] at h1
  exact ziI inv hf h2 h6 (pcL ker g) (zfu h2 h6 hk) _ e (by simp [zai,zaM]) he h1
end Go.Proofs.YteieahbadclppaaGreat.P

