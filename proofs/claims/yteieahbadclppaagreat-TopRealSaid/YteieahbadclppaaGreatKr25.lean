/- Part 25 of 36 of the proof: the texts that it reaches, one behind the other. No condition. -/
import Derived.Test.YteieahbadclppaaGreatKr24
namespace Go.Proofs.YteieahbadclppaaGreat.P
open Go.RowKit Go.Shelf Go.Proofs.YteieahbadclppaaGreatW.PrintWords Go.Proofs.YteieahbadclppaaGreatW.PrintLast Go.Proofs.YteieahbadclppaaGreatW.PrintMore
set_option linter.unusedVariables false
set_option linter.unusedSimpArgs false
def zab:Nat→S38→S38
 | 0,x=>x
 | 1,x=>⟨-x.f1,x.f0⟩
 | 2,x=>⟨-x.f0,-x.f1⟩
 | _,x=>⟨x.f1,-x.f0⟩
def byN (inv:Bool):Nat→Nat
 | 0=>0
 | 1=>if inv then 1 else 3
 | 2=>2
 | _=>if inv then 3 else 1
def zaQ (a w:Nat→S38) (bits:Int):Nat→S38
 | 0=>upC bits (a 0)
 | k+1=>zS (a (k+1)) (w (k+1))
def zcu (a w:Nat→S38) (bits:Int) (inv:Bool) (q k:Nat):S38:=zab (q*byN inv k % 4) (zaQ a w bits k)
def ze6 (a w:Nat→S38) (bits:Int) (inv:Bool) (q:Nat):S38:=zao (zao (zao (zcu a w bits inv q 0) (zcu a w bits inv q 1)) (zcu a w bits inv q 2)) (zcu a w bits inv q 3)
def zaT (a w:Nat→S38) (bits s mode:Int) (inv:Bool) (q:Nat):S38:=shC (bits+s) mode (ze6 a w bits inv q)
theorem zkl (inv:Bool) (q k:Nat) (hq:q < 4) (hk:k < 4):zaX (wrap64 (q*byV inv k))=q*byN inv k % 4:=by
 have h1:q=0∨q=1∨q=2∨q=3:=by omega
 have h2:k=0∨k=1∨k=2∨k=3:=by omega
 rcases h1 with rfl | rfl | rfl | rfl <;> rcases h2 with rfl | rfl | rfl | rfl <;> cases inv <;> decide +kernel
theorem zfv (x:S38) (n:Nat) (hn:n < 4) (h0:x.f0≤2305843009213693952) (h1:x.f1≤2305843009213693952) (h2:-2305843009213693952≤x.f0) (h3:-2305843009213693952≤x.f1):(⟨(zal x.f0 x.f1 n).1,(zal x.f0 x.f1 n).2⟩:S38)=zab n x:=by
 have e0:wrap64 (-x.f0)=-x.f0:=zv (by omega) (by omega)
 have e1:wrap64 (-x.f1)=-x.f1:=zv (by omega) (by omega)
 have e2:wrap64 (- -x.f0)=x.f0:=by rw [Int.neg_neg];exact zv (by omega) (by omega)
 have e3:wrap64 (- -x.f1)=x.f1:=by rw [Int.neg_neg];exact zv (by omega) (by omega)
 have h:n=0∨n=1∨n=2∨n=3:=by omega
 rcases h with rfl | rfl | rfl | rfl <;> simp only [zal,zab,e0,e1,e2,e3]
theorem zkm {x:S38} {m:Int} (n:Nat) (h0:x.f0≤m) (h1:x.f1≤m) (h2:-m≤x.f0) (h3:-m≤x.f1):(zab n x).f0≤m∧(zab n x).f1≤m∧-m≤(zab n x).f0∧-m≤(zab n x).f1:=by
 unfold zab
 split <;> (try dsimp only) <;> omega
theorem zlu (a w:Nat→S38) (bits:Int) (b0:0≤bits) (b1:bits≤29) (ha:∀k,k < 4→inB 2147483648 (a k)=true) (hw:∀k,1≤k→k < 4→inB 536870912 (w k)=true):∀k,k < 4→(zaQ a w bits k).f0≤(if k=0 then 1152921504606846976 else 2305843009213693952)∧(zaQ a w bits k).f1≤(if k=0 then 1152921504606846976 else 2305843009213693952)∧-(if k=0 then 1152921504606846976 else 2305843009213693952)≤(zaQ a w bits k).f0∧-(if k=0 then 1152921504606846976 else 2305843009213693952)≤(zaQ a w bits k).f1
 | 0,_=>by
  obtain ⟨p0,p1⟩:=zef b0 b1
  obtain ⟨a1,a2,a3,a4⟩:=zaj (ha 0 (by decide))
  have n1:=zam (by decide) a1 a3 p1 (by omega) (by decide)
  have n2:=zam (by decide) a2 a4 p1 (by omega) (by decide)
  rw [if_pos rfl]
  show (upC bits (a 0)).f0≤_∧(upC bits (a 0)).f1≤_∧_≤(upC bits (a 0)).f0∧_≤(upC bits (a 0)).f1
  unfold upC
  dsimp only
  omega
 | k+1,hk=>by
  obtain ⟨a1,a2,a3,a4⟩:=zaj (ha (k+1) hk)
  obtain ⟨w1,w2,w3,w4⟩:=zaj (hw (k+1) (by omega) hk)
  have m1:=zam (by decide) a1 a3 w1 w3 (by decide)
  have m2:=zam (by decide) a2 a4 w2 w4 (by decide)
  have m3:=zam (by decide) a1 a3 w2 w4 (by decide)
  have m4:=zam (by decide) a2 a4 w1 w3 (by decide)
  rw [if_neg (by omega)]
  show (zS (a (k+1)) (w (k+1))).f0≤_∧(zS (a (k+1)) (w (k+1))).f1≤_∧_≤(zS (a (k+1)) (w (k+1))).f0∧_≤(zS (a (k+1)) (w (k+1))).f1
  unfold zS
  dsimp only
  omega
theorem zlv (a w_:Nat→S38) (bits s mode:Int) (inv:Bool) (b0:0≤bits) (b1:bits≤29) (s0:0≤s) (s1:s≤3) (m0:0≤mode) (m1:mode < 3) (ha:∀k,k < 4→inB 2147483648 (a k)=true) (hw:∀k,1≤k→k < 4→inB 536870912 (w_ k)=true) (w:World) :
  Calls Tryz.prog 107 #[.agg #[.int .i64 (a 0).f0,.int .i64 (a 0).f1,.int .i64 (a 1).f0,.int .i64 (a 1).f1,.int .i64 (a 2).f0,.int .i64 (a 2).f1,.int .i64 (a 3).f0,.int .i64 (a 3).f1],.agg #[.int .i64 (w_ 0).f0,.int .i64 (w_ 0).f1,.int .i64 (w_ 1).f0,.int .i64 (w_ 1).f1,.int .i64 (w_ 2).f0,.int .i64 (w_ 2).f1,.int .i64 (w_ 3).f0,.int .i64 (w_ 3).f1],.int .i64 bits,.int .i64 s,.int .i64 mode,.bool inv] w fun e w'=>e=.returned (.agg #[.int .i64 (zaT a w_ bits s mode inv 0).f0,.int .i64 (zaT a w_ bits s mode inv 0).f1,.int .i64 (zaT a w_ bits s mode inv 1).f0,.int .i64 (zaT a w_ bits s mode inv 1).f1,.int .i64 (zaT a w_ bits s mode inv 2).f0,.int .i64 (zaT a w_ bits s mode inv 2).f1,.int .i64 (zaT a w_ bits s mode inv 3).f0,.int .i64 (zaT a w_ bits s mode inv 3).f1])∧Below w.heap.size w w':=by
 have hT:=zlu a w_ bits b0 b1 ha hw
 have hPle:∀q k,k < 4→_:=fun q k hk=>zkm (q*byN inv k % 4) (hT k hk).1 (hT k hk).2.1 (hT k hk).2.2.1 (hT k hk).2.2.2
 have zbU:∀q,zan (zcu a w_ bits inv) q 4=ze6 a w_ bits inv q:=by
  intro q
  have h0:=hPle q 0 (by decide)
  have h1:=hPle q 1 (by decide)
  have h2:=hPle q 2 (by decide)
  have h3:=hPle q 3 (by decide)
  simp only [if_pos,if_neg (show ¬(1:Nat)=0 by decide),if_neg (show ¬(2:Nat)=0 by decide),if_neg (show ¬(3:Nat)=0 by decide)] at h0 h1 h2 h3
  simp only [zan,ze6]
  change (zab _ _).f0≤_∧_ at h0
  change (zab _ _).f0≤_∧_ at h1
  change (zab _ _).f0≤_∧_ at h2
  change (zab _ _).f0≤_∧_ at h3
  unfold zcu zao
  dsimp only
  generalize zab (q*byN inv 0 % 4) (zaQ a w_ bits 0)=r0 at *
  generalize zab (q*byN inv 1 % 4) (zaQ a w_ bits 1)=r1 at *
  generalize zab (q*byN inv 2 % 4) (zaQ a w_ bits 2)=r2 at *
  generalize zab (q*byN inv 3 % 4) (zaQ a w_ bits 3)=r3 at *
  rw [zv (x:=0+r0.f0) (by omega) (by omega),zv (x:=0+r0.f1) (by omega) (by omega),Int.zero_add,Int.zero_add,zv (x:=r0.f0+r1.f0) (by omega) (by omega),zv (x:=r0.f1+r1.f1) (by omega) (by omega),
   zv (x:=r0.f0+r1.f0+r2.f0) (by omega) (by omega),zv (x:=r0.f1+r1.f1+r2.f1) (by omega) (by omega),zv (x:=r0.f0+r1.f0+r2.f0+r3.f0) (by omega) (by omega),zv (x:=r0.f1+r1.f1+r2.f1+r3.f1) (by omega) (by omega)]
 obtain ⟨p0,p1⟩:=zef b0 b1
 have hmin:min bits.toNat 64=bits.toNat:=by omega
 have q1:wrap64 ((a 0).f0*2^min bits.toNat 64)=(zaQ a w_ bits 0).f0:=by
  have:=hT 0 (by decide)
  rw [if_pos rfl] at this
  rw [hmin]
  show wrap64 (zaQ a w_ bits 0).f0=_
  exact zv (by omega) (by omega)
 have q2:wrap64 ((a 0).f1*2^min bits.toNat 64)=(zaQ a w_ bits 0).f1:=by
  have:=hT 0 (by decide)
  rw [if_pos rfl] at this
  rw [hmin]
  show wrap64 (zaQ a w_ bits 0).f1=_
  exact zv (by omega) (by omega)
 refine zkk a w_ (zaQ a w_ bits) (zaT a w_ bits s mode inv) (zcu a w_ bits inv) bits s mode inv b0 q1 q2 ?_ ?_ ?_ w
 ·intro k h1 h4 W
  have hk1:=ha k h4
  have hk2:=hw k h1 h4
  have hk3:inB 1073741824 (w_ k)=true:=by obtain ⟨c0,c1,c2,c3⟩:=zaj hk2;exact za3 (by omega)
  have e:=zgf (a k) (w_ k) hk1 hk3
  have h:=zeD (a k) (w_ k) hk1 hk3 W
  rw [show zbx (a k) (w_ k)=(zS (a k) (w_ k)).f0 from congrArg S38.f0 e,show zby (a k) (w_ k)=(zS (a k) (w_ k)).f1 from congrArg S38.f1 e] at h
  obtain ⟨j,rfl⟩:∃j,k=j+1:=⟨k - 1,by omega⟩
  exact h
 ·intro q k hq hk W
  have h3:(zaQ a w_ bits k).f0≤2305843009213693952∧(zaQ a w_ bits k).f1≤2305843009213693952∧-2305843009213693952≤(zaQ a w_ bits k).f0∧-2305843009213693952≤(zaQ a w_ bits k).f1:=by
   have:=hT k hk
   split at this <;> omega
  have h:=zeb (zaQ a w_ bits k) (wrap64 (q*byV inv k)) (decide_eq_true h3) W
  rw [zkl inv q k hq hk] at h
  have e:=zfv (zaQ a w_ bits k) (q*byN inv k % 4) (Nat.mod_lt _ (by decide)) h3.1 h3.2.1 h3.2.2.1 h3.2.2.2
  rw [show (zal (zaQ a w_ bits k).f0 (zaQ a w_ bits k).f1 (q*byN inv k % 4)).1=_ from congrArg S38.f0 e,show (zal (zaQ a w_ bits k).f0 (zaQ a w_ bits k).f1 (q*byN inv k % 4)).2=_ from congrArg S38.f1 e] at h
  exact h
 ·intro q hq W
  have e:wrap64 (bits+s)=bits+s:=zv (by omega) (by omega)
  rw [e,zbU q]
  exact cx_Shift.calls _ _ _ _ _ _ _ W (zbf (ze6 a w_ bits inv q) (bits+s) mode (by omega) (by omega) m0 m1)
structure Own (g:Nat) (w0 w W:World):Prop where
 below:Below w0.heap.size w0 W
 size:w.heap.size≤W.heap.size
 block:∀k,k≠g→k < w.heap.size→W.heap[k]?=w.heap[k]?
theorem zhL {g:Nat} {w0 w:World} (h:Below w0.heap.size w0 w):Own g w0 w w:=⟨h,Nat.le_refl _,fun _ _ _=>rfl⟩
theorem zdz {g:Nat} {w0 w W:World} (h:Own g w0 w W):w.heap.size≤W.heap.size:=h.size
theorem zce {g:Nat} {w0 w W I:World} (h:Own g w0 w W) (hb:Below W.heap.size W I):Own g w0 w I :=
 ⟨zb h.below hb,Nat.le_trans h.size hb.size,fun k hk hl=>(hb.block k (Nat.lt_of_lt_of_le hl h.size)).trans (h.block k hk hl)⟩
theorem own_put {g b:Nat} {w0 w W W2:World} (h:Own g w0 w W) (h0:w0.heap.size≤w.heap.size) (L:w.heap.size≤b) (aA:∀k,k≠b→W2.heap[k]?=W.heap[k]?) (I:∀B w0,B≤b→Below B w0 W→Below B w0 W2):Own g w0 w W2 :=
 ⟨I _ _ (Nat.le_trans h0 L) h.below,Nat.le_trans h.size (I 0 W (Nat.zero_le _) (Below.refl _ _)).size,fun k hk hl=>(aA k (by omega)).trans (h.block k hk hl)⟩
section
variable {P:Program} {ops:Array Oper} {rest:List Oper} {o:Oper} {a:Act} {Q:Exit→Act→World→Prop}
theorem own_store {w0 w W:World} (hN:o.dst=none) (hgd:o.guard=none) (p x:Operand) (ho:o.op=.store 38 p x) {g n cap:Nat} (i off:Nat) (hoff:off=i*2) (xs:List S38) (y:S38) (ok:Nat→Prop)
  (haddr:a.eval p=.pointer (some ⟨g,off,none⟩)) (hx:a.eval x=.agg #[.int .i64 y.f0,.int .i64 y.f1]) (ht:(P.info? 38).map (·.size)=some 2)
  (HO:Kd.R k38 38 W w0.heap.size ok (.slice (some ⟨g,0,none⟩) n cap) xs) (hi:i < n) (HB:Own g w0 w W)
  (h:∀w1,Kd.R k38 38 w1 w0.heap.size ok (.slice (some ⟨g,0,none⟩) n cap) (xs.set i y)→Own g w0 w w1→(∀k,k≠g→w1.heap[k]?=W.heap[k]?)→wpList P ops Q rest a w1):wpList P ops Q (o :: rest) a W:=by
 subst hoff
 obtain ⟨c,hcl,hM,hcc,hfr⟩:=Kd.R_elem HO z38 (i:Int) (by omega) (by omega)
 obtain rfl:=zbk hM
 obtain ⟨hrow,hg⟩:=Kd.R_seg HO (i:Int) (by omega) (by omega) (seg:=[.int .i64 y.f0,.int .i64 y.f1]) (j:=0) hcl hcc (Nat.le_refl 2) (x':=y) (okp:=fun _=>False) (zaA W _ _ y) (fun _ hk=>hk.elim)
 have hbg:w0.heap.size≤g:=Kd.R_base HO g (by simp [Value.ownBlock])
 rw [Int.toNat_natCast] at hrow hg
 have hrun:(Instr.storeAt 38 (.pointer (some ⟨g,i*2,none⟩)) (.agg #[.int .i64 y.f0,.int .i64 y.f1])).run P W=.ok () (W.setCells g (i*2) [.int .i64 y.f0,.int .i64 y.f1]):=by
  obtain ⟨_,inner,hown,hr⟩:=HO
  rcases hown.2 with ⟨hv,_⟩ | ⟨g',cap',cur,hv,hb,hh,hnc,hcm,hcs,_⟩
  ·cases hv
  injection hv with ha _ hc
  injection ha with ha
  injection ha with hg'
  subst hg';subst hc
  refine za6 38 _ _ hh rfl ht ?_ (by simp [Value.oneCell'])
  have h2:k38.sz=2:=rfl
  rw [h2] at hcs
  rw [hcs]
  simp only [List.length_cons,List.length_nil]
  omega
 refine wpList_plain hgd fun K hK=>?_
 unfold Oper.wp execOp
 simp only [ho,haddr,hx,Sem.run_bind,Sem.run_pure,Result.andThen_ok,hrun]
 show K (a.put o.dst undef) _
 rw [hN]
 have hb:Below w0.heap.size w0 _:=HB.below.grown hg (Nat.le_of_lt (Nat.lt_of_le_of_lt hbg (Kd.R_lt HO g (by simp [Value.ownBlock])))) (fun k e=>by cases e;exact hbg)
 exact hK _ _ (h _ hrow ⟨hb,Nat.le_trans HB.size hg.size,fun k hk hl=>(zbr _ _ k hk).trans (HB.block k hk hl)⟩ (fun k hk=>zbr _ _ k hk))
end
end Go.Proofs.YteieahbadclppaaGreat.P

namespace Go.Proofs.YteieahbadclppaaGreat.P
open Go.RowKit Go.Shelf Go.Proofs.YteieahbadclppaaGreatW.PrintWords Go.Proofs.YteieahbadclppaaGreatW.PrintLast Go.Proofs.YteieahbadclppaaGreatW.PrintMore
set_option linter.unusedVariables false
set_option linter.unusedSimpArgs false
def wOf (wl:List S38) (u:Int) (inv:Bool) (j:Int) (k:Nat):S38:=zH inv (zk wl (k*j*u))
def aOf (Y:List S38) (fr h j:Nat):Nat→S38
 | 0=>zk Y ((fr+j:Nat):Int)
 | 1=>zk Y ((fr+(2*h+j):Nat):Int)
 | 2=>zk Y ((fr+(h+j):Nat):Int)
 | _=>zk Y ((fr+(3*h+j):Nat):Int)
def zda (Y:List S38) (fr h j:Nat) (O:Nat→S38):Nat→List S38
 | 0=>Y
 | q+1=>(zda Y fr h j O q).set (fr+(q*h+j)) (O q)
def za8 (Y wl:List S38) (fr h:Nat) (u bits s mode:Int) (inv:Bool):Nat→List S38
 | 0=>Y
 | j+1=>zda (za8 Y wl fr h u bits s mode inv j) fr h j (zaT (aOf (za8 Y wl fr h u bits s mode inv j) fr h j) (wOf wl u inv j) bits s mode inv) 4
theorem zfw (Y:List S38) (fr h j:Nat) (O:Nat→S38):∀q,(zda Y fr h j O q).length=Y.length
 | 0=>rfl
 | q+1=>by rw [zda,List.length_set,zfw Y fr h j O q]
theorem zgD (Y wl:List S38) (fr h:Nat) (u bits s mode:Int) (inv:Bool):∀j,(za8 Y wl fr h u bits s mode inv j).length=Y.length
 | 0=>rfl
 | j+1=>by rw [za8,zfw,zgD Y wl fr h u bits s mode inv j]
theorem zdo {a b:Nat} (h:b < a):a - (intOf (.int .i64 ((b:Int)+1))).toNat < a - (intOf (.int .i64 b)).toNat:=by
 simp [intOf];omega
theorem zdb {m:Int} {l:List S38} (h:∀x,x∈l→inB m x=true) {i:Int} (h0:0≤i) (h1:i < l.length):inB m (zk l i)=true:=by
 have:=zbl h i.toNat (by omega)
 rwa [Int.toNat_of_nonneg h0] at this
theorem zkn (V:Nat→S38) (q:Nat) (hq:q < 4) (w:World):(Instr.index 136 (.agg #[.int .i64 (V 0).f0,.int .i64 (V 0).f1,.int .i64 (V 1).f0,.int .i64 (V 1).f1,.int .i64 (V 2).f0,.int .i64 (V 2).f1,.int .i64 (V 3).f0,.int .i64 (V 3).f1]) (.int .i64 q)).run Tryz.prog w=.ok (.agg #[.int .i64 (V q).f0,.int .i64 (V q).f1]) w:=by
 have h:q=0∨q=1∨q=2∨q=3:=by omega
 rcases h with rfl | rfl | rfl | rfl
 ·exact zhH _ _ _ _ _ _ _ _ w
 ·exact zhI _ _ _ _ _ _ _ _ w
 ·exact zhJ _ _ _ _ _ _ _ _ w
 ·exact zhK _ _ _ _ _ _ _ _ w
def zgi (V:Nat→S38) (k:Nat) (x:S38):Array Value:=((zc9 V k).setIfInBounds (k*2) (.int .i64 x.f0)).setIfInBounds (k*2+1) (.int .i64 x.f1)
theorem zko (V:Nat→S38) (k:Nat) (x:S38):(zgi V k x).size=8:=by simp [zgi,zdK]
theorem zlw (V:Nat→S38) (k:Nat) (x:S38) (hk:k < 4):((zgi V k x).setIfInBounds (k*2) (.int .i64 (V k).f0)).setIfInBounds (k*2+1) (.int .i64 (V k).f1)=zc9 V (k+1):=by
 have h:k=0∨k=1∨k=2∨k=3:=by omega
 rcases h with rfl | rfl | rfl | rfl <;> rfl
theorem zhM (V:Nat→S38) (k:Nat) (x:S38) (hk:k < 4):(zgi V k x)[k*2]?=some (.int .i64 x.f0)∧(zgi V k x)[k*2+1]?=some (.int .i64 x.f1):=by
 have h:k=0∨k=1∨k=2∨k=3:=by omega
 rcases h with rfl | rfl | rfl | rfl <;> exact ⟨rfl,rfl⟩
set_option maxRecDepth 100000 in
set_option maxHeartbeats 4000000 in
theorem zkp (g n cap fr hN:Nat) (Y wl:List S38) (Aw:Option Addr) (cw m:Nat) (h u bits s mode:Int) (inv:Bool) (w0 w:World)
  (HB:Below w0.heap.size w0 w) (HS:Kd.C k38 w0 Aw wl.length wl) (HR:Kd.R k38 38 w w0.heap.size (fun _=>True) (.slice (some ⟨g,0,none⟩) n cap) Y) (hm:m=4*hN) (hh:h=hN) (hn:fr+4*hN≤n) (hn64:n≤64) (hu0:0≤u) (hu:4*h*u≤wl.length) (hwl:wl.length≤64) (hwl0:0 < wl.length)
  (b0:0≤bits) (b1:bits≤29) (s0:0≤s) (s1:s≤3) (m0:0≤mode) (m1:mode < 3)
  (hin:∀j,j < hN→∀k,k < 4→inB 2147483648 (aOf (za8 Y wl fr hN u bits s mode inv j) fr hN j k)=true) (hw:∀x,x∈wl→inB 536870912 x=true) :
  Calls Tryz.prog 86 #[.slice (some ⟨g,fr*2,none⟩) m m,.slice Aw wl.length cw,.int .i64 h,.int .i64 u,.int .i64 bits,.int .i64 s,.int .i64 mode,.bool inv] w fun e w'=>e=.returned (.tuple #[])∧Kd.R k38 38 w' w0.heap.size (fun _=>True) (.slice (some ⟨g,0,none⟩) n cap) (za8 Y wl fr hN u bits s mode inv hN)∧Own g w0 w w':=by
 have hmx:Tryz.prog.follows .mixedOrders=true:=by kernel_rfl
 have H00:=HB.size
 have HBW:=hhd (zhL (g:=g) HB)
 have HSS:=hhd HS
 have HRR:=hhd HR
 have HM:=hhd hm
 have HH:=hhd hh
 have HN:=hhd hn
 have HN64:=hhd hn64
 have HU0:=hhd hu0
 have HU:=hhd hu
 have HWL:=hhd hwl
 have HW0:=hhd hwl0
 have HIN:=hhd hin
 have HWI:=hhd hw
 have HSET:=hhd (And.intro b0 (And.intro b1 (And.intro s0 (And.intro s1 (And.intro m0 m1)))))
 clear HB HS HR hm hh hn hn64 hu0 hu hwl hwl0 hin hw b0 b1 s0 s1 m0 m1
 go_enter Tryz.func86,Tryz.ntmps86
 go_wp2
 go_loopw [23] (fun s23 wr=>∃j:Nat,j≤hN∧s23=.int .i64 j∧Kd.R k38 38 wr w0.heap.size (fun _=>True) (.slice (some ⟨g,0,none⟩) n cap) (za8 Y wl fr hN u bits s mode inv j)∧Own g w0 w wr) (fun i _=>hN - (intOf i).toNat)
 case atStart=>exact ⟨0,Nat.zero_le _,rfl,HRR.out,HBW.out⟩
 case round =>
  obtain ⟨j,hj,rfl,ro,hb⟩:=hrel
  have RO:=hhd ro
  have HBr:=hhd hb
  clear ro hb
  have hcmp:(↑j:Int) < h↔j < hN:=by rw [HH.out];omega
  by_cases hlt:j < hN
  ·have hjh:(↑j:Int) < h:=hcmp.2 hlt
   have HLJ:=hhd hlt
   have hwj:wrap64 (↑j+1)=(↑j:Int)+1:=zv (by omega) (by have:=HN.out;have:=HN64.out;omega)
   clear hcmp
   have HYL:=hhd (zgD Y wl fr hN u bits s mode inv j)
   have HA:=hhd (HIN.out j hlt)
   have HSTEP:=hhd (show za8 Y wl fr hN u bits s mode inv (j+1)=zda (za8 Y wl fr hN u bits s mode inv j) fr hN j (zaT (aOf (za8 Y wl fr hN u bits s mode inv j) fr hN j) (wOf wl u inv j) bits s mode inv) 4 from rfl)
   have hYn:(za8 Y wl fr hN u bits s mode inv j).length=n:=zl3 RO.out
   generalize za8 Y wl fr hN u bits s mode inv j=Yj at *
   have HIDX:=hhd (show ∀k:Nat,k < 4→0≤(k:Int)*j*u∧(k:Int)*j*u < wl.length from fun k hk=>by
    have e:=HH.out
    have e1:=HU.out
    have e2:=HU0.out
    have p1:(0:Int)≤(k:Int)*j:=Int.mul_nonneg (by omega) (by omega)
    have hu1:0≤u:=e2
    have p3:(k:Int)*j*u≤3*(h - 1)*u:=by
     refine Int.mul_le_mul_of_nonneg_right ?_ e2
     exact Int.mul_le_mul (by omega) (by omega) (by omega) (by omega)
    refine ⟨Int.mul_nonneg p1 e2,?_⟩
    by_cases hu2:u=0
    ·subst hu2;rw [Int.mul_zero];have:=HW0.out;omega
    ·have:3*(h - 1)*u < 4*h*u:=Int.mul_lt_mul_of_pos_right (by omega) (by omega)
     omega)
   have HWO:=hhd (show ∀k:Nat,wOf wl u inv j k=zH inv (zk wl (k*j*u)) from fun _=>rfl)
   generalize hwv:wOf wl u inv j=wv at *
   clear hwv
   go_wp2_with (first
    | ((with_reducible refine zf (N:=17) rfl ?_);refine ba_ 17 rfl #[.int .i64 0,.int .i64 0,.int .i64 0,.int .i64 0,.int .i64 0,.int .i64 0,.int .i64 0,.int .i64 0] 136 ?_;intro g17 hg W1 aH aE;have bA:w.heap.size≤g17:=(by rw [hg];exact zdz HBr.out);have aI:=hhd aH;have aJ:=hhd (zce HBr.out aE);have aG:=zr_ RO aE;obtain ⟨bH,bI,bJ,bK,bL,bM,bP,bQ⟩:=bk8 aI;have NR17:=hhd (show some g17≠_ from by rw [hg];exact Kd.R_ne_new RO.out 0);clear aH aE hg))
   clear HRR HBW
   go_loopw [26] (fun s26 wi=>∃k:Nat,k≤4∧s26=.int .i64 k∧wi.heap[g17]?=some (.cells (zc9 wv k) 136 (0,0))∧Kd.R k38 38 wi w0.heap.size (fun _=>True) (.slice (some ⟨g,0,none⟩) n cap) Yj∧Own g w0 w wi) (fun i _=>4 - (intOf i).toNat)
   case atStart=>exact ⟨0,by decide,rfl,aI.out,aG.out,aJ.out⟩
   case round =>
    obtain ⟨k,hk,rfl,a17,qo,hb⟩:=hrel
    have A17:=hhd a17
    have QO:=hhd qo
    have HBi:=hhd hb
    clear a17 qo hb RO HBr aI aG aJ
    by_cases hk4:k < 4
    ·obtain ⟨w0_,w1_⟩:=HIDX.out k hk4
     have HWV:=hhd (HWO.out k)
     have ek1:wrap64 (↑k*↑j)=(↑k:Int)*↑j:=by
      have:(k:Int)*j≤4*64:=Int.mul_le_mul (by omega) (by have:=HH.out;have:=HN.out;have:=HN64.out;omega) (by omega) (by omega)
      have:(0:Int)≤(k:Int)*j:=Int.mul_nonneg (by omega) (by omega)
      exact zv (by omega) (by omega)
     have ek3:wrap64 (↑k*↑j*u)=(↑k:Int)*↑j*u:=zv (by omega) (by have:=HWL.out;omega)
     generalize hiw:(↑k:Int)*↑j*u=iw at w0_ w1_ HWV
     have ek2:wrap64 (↑k*↑j*u)=iw:=ek3.trans hiw
     clear hiw ek3
     obtain ⟨ad,rfl,z0,z1⟩:=zag (Kd.C_below HSS.out HBi.out.below) iw w0_ w1_
     have HWD:=hhd (show zbX (zk wl iw)=true from by
      obtain ⟨c0,c1,c2,c3⟩:=zaj (zdb HWI.out w0_ w1_)
      exact decide_eq_true (by omega))
     cases inv with
     | true =>
      go_wp2_with (first
       | ((with_reducible refine zo (t:=38) (p:=38) rfl ?_);refine zdf rfl rfl 38 _ _ rfl g17 (k*2) (.int .i64 (zk wl iw).f0) (.int .i64 (zk wl iw).f1) rfl rfl 136 _ A17.out (by rw [zdK];omega) zbZ rfl rfl (zgi wv k (zk wl iw)) (rfl) ?_;intro W1 hq aA aC;have aI:=hhd hq;have aJ:=hhd (own_put HBi.out H00 bA aA aC);have aG:=hhd (zI QO.out aA NR17.out);have kk0:W1.cell? ⟨g17,k*2,none⟩=some (.int .i64 (zk wl iw).f0):=(za hq (k*2)).trans (by rw [(zhM wv k (zk wl iw) hk4).1]);have kk1:W1.cell? ⟨g17,k*2+1,none⟩=some (.int .i64 (zk wl iw).f1):=(za hq (k*2+1)).trans (by rw [(zhM wv k (zk wl iw) hk4).2]);clear hq aA aC)
       | (go_at_call 58;(with_reducible refine (zfk (zk wl iw) HWD.out _).mono ?_);rintro e W2 ⟨rfl,hb⟩;have aY:=hhd (zce aJ.out hb);have bE:=za_ aI hb;have aX:=zr_ aG hb;clear kk0 kk1;clear hb)
       | ((with_reducible refine zo (t:=38) (p:=48) rfl ?_);refine zdf rfl rfl 38 _ _ rfl g17 (k*2) (.int .i64 (zk wl iw).f0) (.int .i64 (wrap64 (-(zk wl iw).f1))) rfl rfl 136 _ bE.out (by rw [zko];omega) zbZ rfl rfl (zc9 wv (k+1)) (by have:=zlw wv k (zk wl iw) hk4;rw [HWV.out] at this;exact this) ?_;intro W3 hq aA aC;have bF:=hhd hq;have bG:=hhd (own_put aY.out H00 bA aA aC);have bB:=hhd (zI aX.out aA NR17.out);clear hq aA aC))
      go_roundw
      case rel=>exact ⟨k+1,by omega,by go_num,bF.out,bB.out,bG.out⟩
      case measure=>exact zdo hk4
     | false =>
      go_wp2_with (first
       | ((with_reducible refine zo (t:=38) (p:=38) rfl ?_);refine zdf rfl rfl 38 _ _ rfl g17 (k*2) (.int .i64 (zk wl iw).f0) (.int .i64 (zk wl iw).f1) rfl rfl 136 _ A17.out (by rw [zdK];omega) zbZ rfl rfl (zc9 wv (k+1)) (by have:=zhG wv k hk4;rw [HWV.out] at this;exact this) ?_;intro W1 hq aA aC;have aI:=hhd hq;have aJ:=hhd (own_put HBi.out H00 bA aA aC);have aG:=hhd (zI QO.out aA NR17.out);clear hq aA aC))
      go_roundw
      case rel=>exact ⟨k+1,by omega,by go_num,aI.out,aG.out,aJ.out⟩
      case measure=>exact zdo hk4
    ·obtain rfl:k=4:=by omega
     have HWQ:=hhd (show ∀k:Nat,1≤k→k < 4→inB 536870912 (wv k)=true from fun k _ hk=>by
      obtain ⟨c0,c1⟩:=HIDX.out k hk
      obtain ⟨d0,d1,d2,d3⟩:=zaj (zdb HWI.out c0 c1)
      rw [HWO.out k]
      unfold zH
      split
      ·have e:wrap64 (-(zk wl (↑k*↑j*u)).f1)=-(zk wl (↑k*↑j*u)).f1:=zv (by omega) (by omega)
       exact za3 (by dsimp only;rw [e];omega)
      ·exact za3 (by omega))
     skip
     have k17:=A17.out
     have kw00:wr.cell? ⟨g17,0,none⟩=some (.int .i64 (wv 0).f0):=(za A17 0).trans rfl
     have kw01:wr.cell? ⟨g17,1,none⟩=some (.int .i64 (wv 0).f1):=(za A17 1).trans rfl
     have kw10:wr.cell? ⟨g17,2,none⟩=some (.int .i64 (wv 1).f0):=(za A17 2).trans rfl
     have kw11:wr.cell? ⟨g17,3,none⟩=some (.int .i64 (wv 1).f1):=(za A17 3).trans rfl
     have kw20:wr.cell? ⟨g17,4,none⟩=some (.int .i64 (wv 2).f0):=(za A17 4).trans rfl
     have kw21:wr.cell? ⟨g17,5,none⟩=some (.int .i64 (wv 2).f1):=(za A17 5).trans rfl
     have kw30:wr.cell? ⟨g17,6,none⟩=some (.int .i64 (wv 3).f0):=(za A17 6).trans rfl
     have kw31:wr.cell? ⟨g17,7,none⟩=some (.int .i64 (wv 3).f1):=(za A17 7).trans rfl
     clear k17
     have e1:=HH.out
     have e2:=HN.out
     have e3:=HM.out
     have e4:=HN64.out
     have v1:wrap64 (2*h)=2*h:=zv (by omega) (by omega)
     have v2:wrap64 (3*h)=3*h:=zv (by omega) (by omega)
     have lo0:0≤(↑j:Int):=by omega
     have hi0:(↑j:Int) < ↑m:=by omega
     have nt0:((↑j:Int)).toNat=j:=by omega
     obtain ⟨x00,x01⟩:=zbc QO.out (fr+(j)) (by omega)
     change _=some (Value.int .i64 (aOf Yj fr hN j 0).f0) at x00
     change _=some (Value.int .i64 (aOf Yj fr hN j 0).f1) at x01
     rw [Nat.add_mul] at x00 x01
     have vx1:wrap64 (2*h+↑j)=2*h+↑j:=zv (by omega) (by omega)
     have lo1:0≤2*h+↑j:=by omega
     have hi1:2*h+↑j < ↑m:=by omega
     have nt1:(2*h+↑j).toNat=2*hN+j:=by omega
     obtain ⟨x10,x11⟩:=zbc QO.out (fr+(2*hN+j)) (by omega)
     change _=some (Value.int .i64 (aOf Yj fr hN j 1).f0) at x10
     change _=some (Value.int .i64 (aOf Yj fr hN j 1).f1) at x11
     rw [Nat.add_mul] at x10 x11
     rw [← nt1] at x10 x11
     have vx2:wrap64 (h+↑j)=h+↑j:=zv (by omega) (by omega)
     have lo2:0≤h+↑j:=by omega
     have hi2:h+↑j < ↑m:=by omega
     have nt2:(h+↑j).toNat=hN+j:=by omega
     obtain ⟨x20,x21⟩:=zbc QO.out (fr+(hN+j)) (by omega)
     change _=some (Value.int .i64 (aOf Yj fr hN j 2).f0) at x20
     change _=some (Value.int .i64 (aOf Yj fr hN j 2).f1) at x21
     rw [Nat.add_mul] at x20 x21
     rw [← nt2] at x20 x21
     have vx3:wrap64 (3*h+↑j)=3*h+↑j:=zv (by omega) (by omega)
     have lo3:0≤3*h+↑j:=by omega
     have hi3:3*h+↑j < ↑m:=by omega
     have nt3:(3*h+↑j).toNat=3*hN+j:=by omega
     obtain ⟨x30,x31⟩:=zbc QO.out (fr+(3*hN+j)) (by omega)
     change _=some (Value.int .i64 (aOf Yj fr hN j 3).f0) at x30
     change _=some (Value.int .i64 (aOf Yj fr hN j 3).f1) at x31
     rw [Nat.add_mul] at x30 x31
     rw [← nt3] at x30 x31
     generalize hi_1:2*h+↑j=i1 at lo1 hi1 x10 x11
     have vv1:wrap64 (2*h+↑j)=i1:=vx1.trans hi_1
     clear vx1
     generalize hi_2:h+↑j=i2 at lo2 hi2 x20 x21
     have vv2:wrap64 (h+↑j)=i2:=vx2.trans hi_2
     clear vx2
     generalize hi_3:3*h+↑j=i3 at lo3 hi3 x30 x31
     have vv3:wrap64 (3*h+↑j)=i3:=vx3.trans hi_3
     clear vx3
     have HI1:=hhd hi_1
     have HI2:=hhd hi_2
     have HI3:=hhd hi_3
     clear e1 e2 e3 e4 nt0 nt1 nt2 nt3 hi_1 hi_2 hi_3
     generalize hav:aOf Yj fr hN j=av at *
     clear hav
     go_wp2
     generalize hov:zaT av wv bits s mode inv=ov at *
     have HQC:=hhd (show ∀W:World,Calls Tryz.prog 107 #[.agg #[.int .i64 (av 0).f0,.int .i64 (av 0).f1,.int .i64 (av 1).f0,.int .i64 (av 1).f1,.int .i64 (av 2).f0,.int .i64 (av 2).f1,.int .i64 (av 3).f0,.int .i64 (av 3).f1],.agg #[.int .i64 (wv 0).f0,.int .i64 (wv 0).f1,.int .i64 (wv 1).f0,.int .i64 (wv 1).f1,.int .i64 (wv 2).f0,.int .i64 (wv 2).f1,.int .i64 (wv 3).f0,.int .i64 (wv 3).f1],.int .i64 bits,.int .i64 s,.int .i64 mode,.bool inv] W fun e w'=>e=.returned (.agg #[.int .i64 (ov 0).f0,.int .i64 (ov 0).f1,.int .i64 (ov 1).f0,.int .i64 (ov 1).f1,.int .i64 (ov 2).f0,.int .i64 (ov 2).f1,.int .i64 (ov 3).f0,.int .i64 (ov 3).f1])∧Below W.heap.size W w' from fun W=>by
      have hq:=zlv av wv bits s mode inv HSET.out.1 HSET.out.2.1 HSET.out.2.2.1 HSET.out.2.2.2.1 HSET.out.2.2.2.2.1 HSET.out.2.2.2.2.2 HA.out HWQ.out W
      rw [hov] at hq
      exact hq)
     clear hov
     refine z7 (S:=fun w'=>Below wr.heap.size wr w') (ds:=[32]) (fl 33 0) hmx rfl rfl (Below.refl _ _).drew (fun I=>?_)
     refine px_ 0 rfl ?_
     refine px_ 1 rfl ?_
     refine px_ 2 rfl ?_
     refine px_ 4 rfl ?_
     refine px_ 5 rfl ?_
     refine px_ 6 rfl ?_
     refine px_ 7 rfl ?_
     refine px_ 8 rfl ?_
     refine px_ 9 rfl ?_
     refine px_ 11 rfl ?_
     refine px_ 12 rfl ?_
     refine px_ 13 rfl ?_
     refine px_ 14 rfl ?_
     refine px_ 15 rfl ?_
     refine px_ 17 rfl ?_
     refine px_ 18 rfl ?_
     refine px_ 19 rfl ?_
     refine px_ 20 rfl ?_
     refine px_ 21 rfl ?_
     refine px_ 22 rfl ?_
     refine px_ 26 rfl ?_
     refine px_ 27 rfl ?_
     refine px_ 28 rfl ?_
     refine px_ 29 rfl ?_
     refine tx_ 3 rfl I (by rintro w' hs;obtain ⟨aK,aM,aN,aQ,aT,aU⟩:=bg6 hs kw00 kw01 kw10 kw11 kw20 kw21;obtain ⟨aV,aW,j_x00,j_x01,j_x10,j_x11⟩:=bg6 hs kw30 kw31 x00 x01 x10 x11;obtain ⟨j_x20,j_x21,j_x30,j_x31⟩:=bg4 hs x20 x21 x30 x31;go_simp;with_reducible rfl) ?_
     refine tx_ 10 rfl I (by rintro w' hs;obtain ⟨aK,aM,aN,aQ,aT,aU⟩:=bg6 hs kw00 kw01 kw10 kw11 kw20 kw21;obtain ⟨aV,aW,j_x00,j_x01,j_x10,j_x11⟩:=bg6 hs kw30 kw31 x00 x01 x10 x11;obtain ⟨j_x20,j_x21,j_x30,j_x31⟩:=bg4 hs x20 x21 x30 x31;go_simp;with_reducible rfl) ?_
     refine tx_ 16 rfl I (by rintro w' hs;obtain ⟨aK,aM,aN,aQ,aT,aU⟩:=bg6 hs kw00 kw01 kw10 kw11 kw20 kw21;obtain ⟨aV,aW,j_x00,j_x01,j_x10,j_x11⟩:=bg6 hs kw30 kw31 x00 x01 x10 x11;obtain ⟨j_x20,j_x21,j_x30,j_x31⟩:=bg4 hs x20 x21 x30 x31;go_simp;with_reducible rfl) ?_
     refine tx_ 23 rfl I (by rintro w' hs;obtain ⟨aK,aM,aN,aQ,aT,aU⟩:=bg6 hs kw00 kw01 kw10 kw11 kw20 kw21;obtain ⟨aV,aW,j_x00,j_x01,j_x10,j_x11⟩:=bg6 hs kw30 kw31 x00 x01 x10 x11;obtain ⟨j_x20,j_x21,j_x30,j_x31⟩:=bg4 hs x20 x21 x30 x31;go_simp;with_reducible rfl) ?_
     refine px_ 24 rfl ?_
     refine tx_ 25 rfl I (by rintro w' hs;obtain ⟨aK,aM,aN,aQ,aT,aU⟩:=bg6 hs kw00 kw01 kw10 kw11 kw20 kw21;obtain ⟨aV,aW,j_x00,j_x01,j_x10,j_x11⟩:=bg6 hs kw30 kw31 x00 x01 x10 x11;obtain ⟨j_x20,j_x21,j_x30,j_x31⟩:=bg4 hs x20 x21 x30 x31;go_simp;with_reducible rfl) ?_
     refine wx_ 30 31 (some 80) (some 19) rfl rfl rfl rfl (fun K hK=>?e1_30) fun K hK=>?e1_31
     case' e1_30 =>
      refine zJ Tryz.func107 (by kernel_rfl) rfl #[.agg #[.int .i64 (av 0).f0,.int .i64 (av 0).f1,.int .i64 (av 1).f0,.int .i64 (av 1).f1,.int .i64 (av 2).f0,.int .i64 (av 2).f1,.int .i64 (av 3).f0,.int .i64 (av 3).f1],.agg #[.int .i64 (wv 0).f0,.int .i64 (wv 0).f1,.int .i64 (wv 1).f0,.int .i64 (wv 1).f1,.int .i64 (wv 2).f0,.int .i64 (wv 2).f1,.int .i64 (wv 3).f0,.int .i64 (wv 3).f1],.int .i64 bits,.int .i64 s,.int .i64 mode,.bool inv] (by rfl) rfl rfl (by go_simp) ?_
      refine (HQC.out _).mono ?_
      rintro e Wc ⟨rfl,aE⟩
      refine ⟨_,rfl,?_⟩
      refine hK.out _ _ (zb I aE) (fun aD=>?_)
      clear hK K I aE
      have I:=aD
      clear aD
      refine nx_ ?_
      refine ox_ 31 (some 19) rfl rfl fun K hK=>?_
      refine box_step rfl rfl (cs:=#[.int .i64 0,.int .i64 0,.int .i64 0,.int .i64 0,.int .i64 0,.int .i64 0,.int .i64 0,.int .i64 0]) (t:=136) (by first | (go_simp;done) | (go_simp;rfl)) ?_
      intro g19 hg Wc aH aE
      refine hK.out _ _ (zb I aE) (fun aD=>?_)
      have bC:w.heap.size≤g19:=by rw [hg];exact Nat.le_trans (zdz HBi.out) I.size
      have B19:=hhd aH
      have NR19:=hhd (show some g19≠_ from by rw [hg];exact Kd.R_ne_new (Kd.R_below QO.out I) 0)
      clear hK K I aE aH hg
      have I:=aD
      clear aD
      refine nx_ ?_
      refine lx_ 32 none rfl rfl fun K hK=>?_
      refine zA rfl rfl 136 _ _ rfl g19 #[.int .i64 (ov 0).f0,.int .i64 (ov 0).f1,.int .i64 (ov 1).f0,.int .i64 (ov 1).f1,.int .i64 (ov 2).f0,.int .i64 (ov 2).f1,.int .i64 (ov 3).f0,.int .i64 (ov 3).f1] rfl rfl 136 #[.int .i64 0,.int .i64 0,.int .i64 0,.int .i64 0,.int .i64 0,.int .i64 0,.int .i64 0,.int .i64 0] B19.out (zcJ _ _ _ _ _ _ _ _) rfl (zeN _ _ _ _ _ _ _ _) ?_
      intro Wd hq aA aC
      refine hK.out _ _ ?_
      have bD:=hhd hq
      have HBd:=hhd (own_put (zce HBi.out I) H00 bC aA aC)
      have RD:=hhd (zI (Kd.R_below QO.out I) aA NR19.out)
      clear hK K I hq aA aC
      refine zE (by kernel_rfl) ?_
     case' e1_31 =>
      refine box_step rfl rfl (cs:=#[.int .i64 0,.int .i64 0,.int .i64 0,.int .i64 0,.int .i64 0,.int .i64 0,.int .i64 0,.int .i64 0]) (t:=136) (by first | (go_simp;done) | (go_simp;rfl)) ?_
      intro g19 hg Wc aH aE
      refine hK.out _ _ (zb I aE) (fun aD=>?_)
      have bC:w.heap.size≤g19:=by rw [hg];exact Nat.le_trans (zdz HBi.out) I.size
      have B19:=hhd aH
      have NR19:=hhd (show some g19≠_ from by rw [hg];exact Kd.R_ne_new (Kd.R_below QO.out I) 0)
      clear hK K I aE aH hg
      have I:=aD
      clear aD
      refine nx_ ?_
      refine ox_ 30 (some 80) rfl rfl fun K hK=>?_
      refine zJ Tryz.func107 (by kernel_rfl) rfl #[.agg #[.int .i64 (av 0).f0,.int .i64 (av 0).f1,.int .i64 (av 1).f0,.int .i64 (av 1).f1,.int .i64 (av 2).f0,.int .i64 (av 2).f1,.int .i64 (av 3).f0,.int .i64 (av 3).f1],.agg #[.int .i64 (wv 0).f0,.int .i64 (wv 0).f1,.int .i64 (wv 1).f0,.int .i64 (wv 1).f1,.int .i64 (wv 2).f0,.int .i64 (wv 2).f1,.int .i64 (wv 3).f0,.int .i64 (wv 3).f1],.int .i64 bits,.int .i64 s,.int .i64 mode,.bool inv] (by rfl) rfl rfl (by go_simp) ?_
      refine (HQC.out _).mono ?_
      rintro e Wc ⟨rfl,aE⟩
      refine ⟨_,rfl,?_⟩
      refine hK.out _ _ (zb I aE) (fun aD=>?_)
      replace B19:=za_ B19 aE
      clear hK K I aE
      have I:=aD
      clear aD
      refine nx_ ?_
      refine lx_ 32 none rfl rfl fun K hK=>?_
      refine zA rfl rfl 136 _ _ rfl g19 #[.int .i64 (ov 0).f0,.int .i64 (ov 0).f1,.int .i64 (ov 1).f0,.int .i64 (ov 1).f1,.int .i64 (ov 2).f0,.int .i64 (ov 2).f1,.int .i64 (ov 3).f0,.int .i64 (ov 3).f1] rfl rfl 136 #[.int .i64 0,.int .i64 0,.int .i64 0,.int .i64 0,.int .i64 0,.int .i64 0,.int .i64 0,.int .i64 0] B19.out (zcJ _ _ _ _ _ _ _ _) rfl (zeN _ _ _ _ _ _ _ _) ?_
      intro Wd hq aA aC
      refine hK.out _ _ ?_
      have bD:=hhd hq
      have HBd:=hhd (own_put (zce HBi.out I) H00 bC aA aC)
      have RD:=hhd (zI (Kd.R_below QO.out I) aA NR19.out)
      clear hK K I hq aA aC
      refine zE (by kernel_rfl) ?_
     all_goals
      clear B19 kw00 kw01 kw10 kw11 kw20 kw21 kw30 kw31 x00 x01 x10 x11 x20 x21 x30 x31
      go_wp2_with ((with_reducible refine zf (N:=81) rfl ?_);refine lr_ 81 rfl 136 bD Tryz.underlying136 ?_)
      go_loopw [82] (fun s82 wq=>∃q:Nat,q≤4∧s82=.int .i64 q∧Kd.R k38 38 wq w0.heap.size (fun _=>True) (.slice (some ⟨g,0,none⟩) n cap) (zda Yj fr hN j ov q)∧Own g w0 w wq) (fun i _=>4 - (intOf i).toNat)
      case atStart=>exact ⟨0,by decide,rfl,RD.out,HBd.out⟩
      case round =>
       obtain ⟨q,hq,rfl,ro,hb⟩:=hrel
       have RO:=hhd ro
       have HBr:=hhd hb
       clear ro hb RD HBd bD
       by_cases hq4:q < 4
       ·have hix:=zkn ov q hq4
        have e1:=HH.out
        have e2:=HN.out
        have e3:=HM.out
        have e4:=HN64.out
        have qh:q*hN≤3*hN:=Nat.mul_le_mul_right _ (by omega)
        have qe:(↑q:Int)*h=((q*hN:Nat):Int):=by rw [e1,Int.natCast_mul]
        have z1:wrap64 (↑q*h)=↑q*h:=zv (by omega) (by omega)
        have zx:wrap64 (↑q*h+↑j)=↑q*h+↑j:=zv (by omega) (by omega)
        have z3:0≤↑q*h+↑j:=by omega
        have z4:↑q*h+↑j < ↑m:=by omega
        have z5:(↑q*h+↑j:Int).toNat=q*hN+j:=by omega
        have HLT:=hhd (show fr+(q*hN+j) < n by omega)
        generalize hiq:↑q*h+↑j=iq at z3 z4 z5
        have z2:wrap64 (↑q*h+↑j)=iq:=zx.trans hiq
        clear zx hiq
        have HOFF:=hhd (show fr*2+iq.toNat*2=(fr+(q*hN+j))*2 by rw [z5];omega)
        clear e1 e2 e3 e4 qh qe z5
        go_wp2_with (first
         | ((with_reducible refine zf (N:=21) rfl ?_);refine ba_ 21 rfl #[.int .i64 0,.int .i64 0] 38 ?_;intro g21 hg W1 aH aE;have bT:w.heap.size≤g21:=(by rw [hg];exact zdz HBr.out);have aZ:=hhd aH;have aJ:=hhd (zce HBr.out aE);have aG:=zr_ RO aE;obtain ⟨a8,a9⟩:=bk2 aZ;have NR21:=hhd (show some g21≠_ from by rw [hg];exact Kd.R_ne_new RO.out 0);clear aH aE hg)
         | ((with_reducible refine zo (t:=38) (p:=21) rfl ?_);refine zN rfl 38 _ _ rfl g21 #[.int .i64 (ov q).f0,.int .i64 (ov q).f1] rfl rfl 38 #[.int .i64 0,.int .i64 0] aZ.out (zw _ _) rfl (zM _ _) ?_;intro W2 hq aA aC;have a7:=hhd hq;have aY:=hhd (own_put aJ.out H00 bT aA aC);have aX:=hhd (zI aG.out aA NR21.out);clear a8 a9;obtain ⟨bR,bS⟩:=bx2 (.int .i64 (ov q).f0) (.int .i64 (ov q).f1) a7;clear hq aA aC)
         | ((with_reducible refine zf (N:=92) rfl ?_);refine lr_ 92 rfl 38 a7 Tryz.underlying38 ?_)
         | ((with_reducible refine zo (t:=38) (p:=93) rfl ?_);refine own_store rfl rfl _ _ rfl (fr+(q*hN+j)) _ HOFF.out _ (ov q) (fun _=>True) rfl rfl zbZ aX.out HLT.out aY.out ?_;intro Wz hR hO aA;have RZ:=hhd hR;have HBz:=hhd hO;clear hR hO aA))
        go_roundw
        case rel=>exact ⟨q+1,by omega,by go_num,RZ.out,HBz.out⟩
        case measure=>exact zdo hq4
       ·obtain rfl:q=4:=by omega
        go_wp2
        go_roundw
        case rel=>exact ⟨j+1,HLJ.out,by go_num,by rw [HSTEP.out];exact RO.out,HBr.out⟩
        case measure=>rw [hwj];exact zdo HLJ.out
  ·obtain rfl:j=hN:=by omega
   have hjh:¬(↑j:Int) < h:=fun e=>hlt (hcmp.1 e)
   clear hcmp
   go_wp2
   go_end0
   exact ⟨rfl,RO.out,HBr.out⟩
end Go.Proofs.YteieahbadclppaaGreat.P

namespace Go.Proofs.YteieahbadclppaaGreat.P
open Go.RowKit Go.Proofs.YteieahbadclppaaGreatW.PrintWords Go.Proofs.YteieahbadclppaaGreatW.PrintLast Go.Proofs.YteieahbadclppaaGreatW.PrintMore
set_option linter.unusedVariables false
set_option linter.unusedSimpArgs false
theorem zfS {α:Type} (F:α→List (Nat×S38)):∀(ps:List α) (o:List S38),ps.foldl (fun o p=>zaS o (F p)) o=zaS o (ps.flatMap F)
 | [],_=>rfl
 | p :: ps,o=>by rw [List.foldl_cons,zfS F ps,List.flatMap_cons,zcs]
def zfT (bits:Nat) (w:S38) (a b:Nat):Row:=[(⟨2^bits,0⟩,2^bits,a),(w,2^bits+1,b)]
def zfU (bits:Nat) (w:S38) (a b:Nat):Row:=[(⟨2^bits,0⟩,2^bits,a),(⟨-w.f0,-w.f1⟩,2^bits+1,b)]
theorem znp (x:List S38) (bits:Nat) (w:S38) (a b:Nat):dot x (zfT bits w a b)=zao (upC bits (x.getD a z38)) (zS (x.getD b z38) w):=by
 unfold zfT dot dot dot zaz zaR zao upC zS z38
 rw [Int.toNat_natCast]
 apply zau <;> dsimp only <;> grind
theorem znq (x:List S38) (bits:Nat) (w:S38) (a b:Nat):dot x (zfU bits w a b)=zaE (upC bits (x.getD a z38)) (zS (x.getD b z38) w):=by
 unfold zfU dot dot dot zaz zaR zaE upC zS z38
 rw [Int.toNat_natCast]
 apply zau <;> dsimp only <;> grind
def zeO (wl:List S38) (bits:Nat) (inv:Bool) (h m:Int) (k:Nat):Row :=
 if Go.bits .and .i64 k h=0 then zfT bits (zH inv (zk wl (zcn h m k))) k (k+h.toNat) else zfU bits (zH inv (zk wl (zcn h m ((k:Int) - h)))) (k - h.toNat) k
def zdL (wl:List S38) (bits:Nat) (inv:Bool) (h m:Int) (n:Nat):List Row:=(List.range n).map (zeO wl bits inv h m)
def zeP (h m:Int) (n:Nat):Bool :=
 decide (((zT h m n).flatMap fun p=>[p.1.toNat,(p.1+h).toNat]).Nodup) &&
 ((List.range n).all fun i=>((zT h m n).flatMap fun p=>[p.1.toNat,(p.1+h).toNat]).contains i) &&
 (zT h m n).all fun p=>decide (0≤p.1) && (decide (p.1+h < n) && (decide (Go.bits .and .i64 p.1 h=0) && (decide (Go.bits .and .i64 (p.1+h) h≠0) && (decide (p.2=zcn h m p.1) && (decide (0≤p.2) && decide (p.2 < n))))))
set_option maxRecDepth 100000 in
theorem zlx:([2,3,4,5,6].all fun g=>(List.range g).all fun t=>zeP (2^t) (2^g / (2*2^t)) (2^g))=true:=by decide +kernel
theorem zkq (x wl:List S38) (h s mode m:Int) (bits n:Nat) (inv:Bool) (hx:x.length=n) (hh:0≤h) (hc:zeP h m n=true) (hB:∀z,z∈x→inB 2147483648 z=true) (hw:∀k:Int,0≤k→k < n→inB 1073741824 (zH inv (zk wl k))=true)
  (b1:bits≤29) (s0:0≤s) (s1:s≤3) (m0:0≤mode) (m1:mode < 3) (c:Nat) (hcs:(bits:Int)+s=c) :
  zdv x wl h bits s mode inv m n=zaf c mode (zdL wl bits inv h m n) x:=by
 unfold zeP at hc
 rw [Bool.and_eq_true,Bool.and_eq_true,decide_eq_true_eq,List.all_eq_true,List.all_eq_true] at hc
 obtain ⟨⟨hn,hall⟩,hp⟩:=hc
 have e:zdv x wl h bits s mode inv m n=zaS x ((zT h m n).flatMap fun p=>[(p.1.toNat,(zap (zk x p.1) (zk x (p.1+h)) (zH inv (zk wl p.2)) bits s mode).1),((p.1+h).toNat,(zap (zk x p.1) (zk x (p.1+h)) (zH inv (zk wl p.2)) bits s mode).2)]) :=
  zfS (fun p:Int×Int=>[(p.1.toNat,(zap (zk x p.1) (zk x (p.1+h)) (zH inv (zk wl p.2)) bits s mode).1),((p.1+h).toNat,(zap (zk x p.1) (zk x (p.1+h)) (zH inv (zk wl p.2)) bits s mode).2)]) (zT h m n) x
 rw [e]
 have hget:∀k,k < n→(zaf c mode (zdL wl bits inv h m n) x).getD k z38=shC c mode (dot x (zeO wl bits inv h m k)):=by
  intro k hk
  simp [zaf,zdL,List.getD_eq_getElem?_getD,hk]
 refine zfs ?_ ?_ ?_ ?_ ?_
 ·rw [List.map_flatMap]
  exact hn
 ·intro q hq
  obtain ⟨p,hp1,hq⟩:=List.mem_flatMap.1 hq
  have h1:=hp p hp1
  simp only [Bool.and_eq_true,decide_eq_true_eq] at h1
  simp only [List.mem_cons,List.not_mem_nil,or_false] at hq
  rcases hq with rfl | rfl <;> (dsimp only;omega)
 ·simp [zaf,zdL,hx]
 ·intro i hi
  have h1:=hall i (by rw [← hx];exact List.mem_range.2 hi)
  rw [List.contains_iff_mem] at h1
  obtain ⟨p,hp1,hq⟩:=List.mem_flatMap.1 h1
  simp only [List.mem_cons,List.not_mem_nil,or_false] at hq
  rcases hq with rfl | rfl
  ·exact ⟨_,List.mem_flatMap.2 ⟨p,hp1,List.mem_cons_self ..⟩,rfl⟩
  ·exact ⟨_,List.mem_flatMap.2 ⟨p,hp1,List.mem_cons_of_mem _ (List.mem_cons_self ..)⟩,rfl⟩
 ·intro q hq
  obtain ⟨p,hp1,hq⟩:=List.mem_flatMap.1 hq
  have h1:=hp p hp1
  simp only [Bool.and_eq_true,decide_eq_true_eq] at h1
  obtain ⟨q0,q1,q2,q3,q4,q5,q6⟩:=h1
  have k1:inB 2147483648 (zk x p.1)=true:=zdb hB q0 (by omega)
  have k2:inB 2147483648 (zk x (p.1+h))=true:=zdb hB (by omega) (by omega)
  have hpv:=zli (zk x p.1) (zk x (p.1+h)) (zH inv (zk wl p.2)) bits s mode k1 k2 (hw p.2 q5 q6) (by omega) (by omega) s0 s1 m0 m1
  rw [hpv] at hq
  have t1:((p.1.toNat:Nat):Int)=p.1:=Int.toNat_of_nonneg q0
  have t2:(((p.1+h).toNat:Nat):Int)=p.1+h:=Int.toNat_of_nonneg (by omega)
  simp only [List.mem_cons,List.not_mem_nil,or_false] at hq
  rcases hq with rfl | rfl
  ·rw [hget _ (by omega)]
   unfold zeO
   rw [t1,if_pos q2,znp,hcs,← q4,show p.1.toNat+h.toNat=(p.1+h).toNat by omega]
   rfl
  ·rw [hget _ (by omega)]
   unfold zeO
   rw [t2,if_neg q3,znq,hcs,show p.1+h - h=p.1 by omega,← q4,show (p.1+h).toNat - h.toNat=p.1.toNat by omega]
   rfl
end Go.Proofs.YteieahbadclppaaGreat.P

namespace Go.Proofs.YteieahbadclppaaGreat.P
open Go.RowKit Go.Shelf Go.Proofs.YteieahbadclppaaGreatW.PrintWords Go.Proofs.YteieahbadclppaaGreatW.PrintLast Go.Proofs.YteieahbadclppaaGreatW.PrintMore
set_option linter.unusedVariables false
set_option linter.unusedSimpArgs false
def zbH (Y wl:List S38) (hN:Nat) (u bits s mode:Int) (inv:Bool):Nat→List S38
 | 0=>Y
 | t+1=>za8 (zbH Y wl hN u bits s mode inv t) wl (t*(4*hN)) hN u bits s mode inv hN
theorem zmC {n a b:Nat} (h:a < b) (hb:b≤n):n - (intOf (.int .i64 (b:Int))).toNat < n - (intOf (.int .i64 (a:Int))).toNat:=by
 simp [intOf];omega
set_option maxRecDepth 100000 in
set_option maxHeartbeats 8000000 in
theorem zhN (A A2:Option Addr) (c c2:Nat) (l wl:List S38) (hN T:Nat) (h bits s mode u mm lg:Int) (inv:Bool) (w:World)
  (hr:Kd.C k38 w A l.length l) (hc:l.length≤c) (hs:Kd.C k38 w A2 wl.length wl) (hc2:wl.length≤c2) (hlen:wl.length=l.length) (hn0:0 < l.length) (hn:l.length≤64)
  (hlog:flip_Log.f 10 l.length=some (lg,0)) (hh:h=hN) (h1:1≤hN) (hT:T*(4*hN)=l.length) (h2:h≤(l.length:Int) / 4) (hu:(l.length:Int).tdiv (4*h)=u) (hu2:0≤u∧4*h*u≤l.length∧u≤64) (hpow:Go.bits .and .i64 h (h - 1)=0) (hset:four_settings.f bits s mode=some true) (b0:0≤bits) (b1:bits≤40) (hmm:mm=2^bits.toNat)
  (b2:bits≤29) (s0:0≤s) (s1:s≤3) (mo0:0≤mode) (mo1:mode < 3)
  (hx:∀x,x∈l→inB 2147483648 x=true) (hw:∀x,x∈wl→inB mm x=true)
  (hin:∀t,t < T→∀j,j < hN→∀k,k < 4→inB 2147483648 (aOf (za8 (zbH l wl hN u bits s mode inv t) wl (t*(4*hN)) hN u bits s mode inv j) (t*(4*hN)) hN j k)=true) :
  Calls Tryz.prog 50 #[.slice A l.length c,.slice A2 wl.length c2,.int .i64 h,.int .i64 bits,.int .i64 s,.int .i64 mode,.bool inv] w fun e w'=>∃v,e=.returned (.tuple #[v,.int .i64 0])∧Kd.R k38 38 w' w.heap.size (fun _=>True) v (zbH l wl hN u bits s mode inv T)∧Below w.heap.size w w':=by
 have hmx:Tryz.prog.follows .mixedOrders=true:=by kernel_rfl
 have HCL:=hhd (show api_Cx_79.f l=some l by unfold api_Cx_79.f api_Cx_79a.f;rw [Option.bind_some,if_pos (by simp;omega)];rfl)
 have HR:=hhd hr
 have HS:=hhd hs
 have HC:=hhd hc
 have HC2:=hhd hc2
 have HX:=hhd hx
 have HW:=hhd hw
 have HNE:=hhd hn0
 have HLOG:=hhd hlog
 have HSET:=hhd hset
 have HLN:=hhd hlen
 have HN:=hhd hn
 have HIN:=hhd hin
 have HH:=hhd hh
 have HTT:=hhd hT
 have HU2:=hhd hu2
 have H1:=hhd h1
 have HWI:=hhd (show ∀x,x∈wl→inB 536870912 x=true from fun x hx=>by
  obtain ⟨p0,p1⟩:=zef b0 b2
  obtain ⟨c0,c1,c2,c3⟩:=zaj (hw x hx)
  exact za3 (by rw [hmm] at c0 c1 c2 c3;omega))
 have HQ:=hhd (And.intro b0 (And.intro b2 (And.intro s0 (And.intro s1 (And.intro mo0 mo1)))))
 have hle4:4*hN≤l.length:=by
  rcases Nat.eq_zero_or_pos T with e | e
  ·rw [e] at hT;omega
  ·have:=Nat.mul_le_mul_right (4*hN) e;omega
 have q1:(h < 1)=False:=eq_false (by omega)
 have q2:((l.length:Int) / 4 < h)=False:=eq_false (by omega)
 have q3:wrap64 (h - 1)=h - 1:=by unfold wrap64;omega
 have q4:(wl.length:Int)=(l.length:Int):=by omega
 have q5:wrap64 (4*h)=4*h:=by unfold wrap64;omega
 have q6:(4*h=0)=False:=eq_false (by omega)
 have q7:wrap64 u=u:=by unfold wrap64;omega
 have q1':decide (h < 1)=false:=decide_eq_false (by omega)
 have q2':decide ((l.length:Int) / 4 < h)=false:=decide_eq_false (by omega)
 have q8:wrap64 ((l.length:Int) / 4)=(l.length:Int) / 4:=by unfold wrap64;omega
 have HLE:=hhd hle4
 have bB:=hhd (Below.refl w.heap.size w)
 clear hr hs hc hc2 hx hw hlog hset hlen hn hn0 hin hh hT hu2 h1 hle4
 go_enter Tryz.func50,Tryz.ntmps50
 go_wp2_with (first
  | ((with_reducible refine zf (N:=10) rfl ?_);refine bb_ 10 rfl bB #[.int .i64 bits] 3 ?_;intro g10 W1 hg bC bP aN aI;have bD:=zc_ HR aI;have bE:=zc_ HS aI;have aU:=bk1 aN;clear bC hg)
  | (go_at_call 40;(with_reducible refine (flip_Log.calls 10 _ _ _ _ HLOG.out).mono ?_);rintro e W2 ⟨rfl,hd⟩;have hb:=hd.below;clear hd;have aJ:=zs_ aI hb;have aQ:=za_ aN hb;have bF:=zc_ HR aJ;have bG:=zc_ HS aJ;have aV:=bk1 aQ;clear aU;clear hb)
  | (go_at_call 85;(with_reducible refine (four_settings.calls bits s mode true _ HSET.out).mono ?_);rintro e W3 ⟨rfl,hb⟩;have aK:=zs_ aJ hb;have aT:=za_ aQ hb;have a8:=zc_ HR aK;have bH:=zc_ HS aK;have aW:=bk1 aT;clear aV;clear hb)
  | (go_at_call 43;(with_reducible refine (zhe A c l _ a8.out HC.out HX.out).mono ?_);rintro e W4 ⟨rfl,hb⟩;have aM:=zs_ aK hb;have aA:=za_ aT hb;have bI:=zc_ HR aM;have a9:=zc_ HS aM;have aX:=bk1 aA;clear aW;clear hb)
  | (go_at_call 43;(with_reducible refine (zhg A2 c2 wl g10 bits mm b0 b1 hmm _ a9.out HC2.out aA.out HW.out).mono ?_);rintro e W5 ⟨rfl,hb⟩;have aC:=zs_ aM hb;have aD:=za_ aA hb;have bA:=zc_ HR aC;have bJ:=zc_ HS aC;have aY:=bk1 aD;clear aX;clear hb)
  | (go_at_call 79;(refine (api_Cx_79.calls A c l l _ bA.out HC.out HCL.out).mono ?_);rintro e W6 ⟨v20,rfl,ho,hb⟩;obtain ⟨g,cap,hv,hg1,hg2,_⟩:=Kd.R_form ho HNE.out;subst hv;have aH:=hhd (Kd.R_lower ho (zi aC));have NG:=hhd (show g10≠g from fun e=>by have:=zj aD;omega);have aE:=zs_ aC hb;have aG:=za_ aD hb;have bK:=zc_ HR aE;have bL:=zc_ HS aE;have aZ:=bk1 aG;clear aY;clear hb ho hg1 hg2))
 clear aZ
 go_loopw [21] (fun s21 wr=>∃t:Nat,t≤T∧s21=.int .i64 ((t*(4*hN):Nat):Int)∧Kd.R k38 38 wr w.heap.size (fun _=>True) (.slice (some ⟨g,0,none⟩) l.length cap) (zbH l wl hN u bits s mode inv t)∧wr.heap[g10]?=some (.cells #[.int .i64 bits] 3 (0,0))∧Below w.heap.size w wr) (fun i _=>l.length - (intOf i).toNat)
 case atStart=>exact ⟨0,Nat.zero_le _,by simp,aH.out,aG.out,aE.out⟩
 case round =>
  obtain ⟨t,ht,rfl,ro,e10,hb⟩:=hrel
  have RO:=hhd ro
  have a7:=hhd e10
  have HBr:=hhd hb
  clear ro hb aG aE aH
  by_cases hlt:t < T
  ·have HLT:=hhd hlt
   have HSTEP:=hhd (show zbH l wl hN u bits s mode inv (t+1)=za8 (zbH l wl hN u bits s mode inv t) wl (t*(4*hN)) hN u bits s mode inv hN from rfl)
   have HA:=hhd (HIN.out t hlt)
   have e1:=HH.out
   have e2:=HTT.out
   have e3:=HN.out
   have HFR:=hhd (show t*(4*hN)+4*hN≤l.length from by rw [← e2,← Nat.succ_mul];exact Nat.mul_le_mul_right _ hlt)
   have e4:=HFR.out
   have kb:wr.cell? ⟨g10,0,none⟩=some (.int .i64 bits):=(za e10 0).trans rfl
   generalize hfr:t*(4*hN)=fr at *
   have HFE:=hhd hfr
   clear hfr
   have c1:(↑fr:Int) < ↑l.length:=by have:=H1.out;omega
   have hx1:wrap64 (↑fr+4*h)=((fr+4*hN:Nat):Int):=by rw [zv (by omega) (by omega)];omega
   have HDR:=hhd (show Below wr.heap.size wr wr.drew from (Below.refl _ _).drew)
   generalize zbH l wl hN u bits s mode inv t=Yt at *
   clear e1 e2 e3 e4 e10
   have HCAP:=hhd (show l.length≤cap from by have:=(R_C RO.out).1;have h2:=zl3 RO.out;omega)
   have c2_:((fr+4*hN:Nat):Int)≤↑cap:=by have:=HCAP.out;have:=HFR.out;omega
   have c3_:(↑fr:Int)≤((fr+4*hN:Nat):Int):=by omega
   generalize hto:fr+4*hN=fto at *
   have hne_:(fto=fr)=False:=eq_false (by have:=H1.out;omega)
   have HTO:=hhd hto
   have HFL:=hhd (show fr < fto from by have:=H1.out;omega)
   clear hto
   go_wp2
   refine z7 (S:=fun w'=>Below wr.heap.size wr w') (ds:=[22]) (fl 23 0) hmx rfl rfl (Below.refl _ _).drew (fun I=>?_)
   refine px_ 0 rfl ?_
   refine px_ 1 rfl ?_
   refine px_ 2 rfl ?_
   refine px_ 3 rfl ?_
   refine px_ 4 rfl ?_
   refine px_ 5 rfl ?_
   refine px_ 6 rfl ?_
   refine px_ 7 rfl ?_
   refine px_ 8 rfl ?_
   refine px_ 9 rfl ?_
   refine px_ 10 rfl ?_
   refine px_ 11 rfl ?_
   refine px_ 12 rfl ?_
   refine px_ 13 rfl ?_
   refine px_ 14 rfl ?_
   refine px_ 15 rfl ?_
   refine px_ 16 rfl ?_
   refine px_ 17 rfl ?_
   refine px_ 19 rfl ?_
   refine px_ 20 rfl ?_
   refine px_ 21 rfl ?_
   refine tx_ 18 rfl I (by rintro w' hs;have bM:=bg hs kb;go_simp;with_reducible rfl) ?_
   refine lx_ 22 (some 104) rfl rfl fun K hK=>?_
   refine zJ Tryz.func86 (by kernel_rfl) rfl #[.slice (some ⟨g,fr*2,none⟩) (fto - fr) (fto - fr),.slice A2 wl.length c2,.int .i64 h,.int .i64 u,.int .i64 bits,.int .i64 s,.int .i64 mode,.bool inv] (by rfl) rfl rfl (by go_simp) ?_
   refine (zkp g l.length cap fr hN Yt wl A2 c2 (fto - fr) h u bits s mode inv w _ (zb HBr I) HS.out (Kd.R_below RO.out I) (by have:=HTO.out;omega) HH.out (by have:=HTO.out;have:=HFR.out;omega) HN.out HU2.out.1 (by rw [HLN.out];exact HU2.out.2.1) (by rw [HLN.out];exact HN.out) (by rw [HLN.out];exact HNE.out) HQ.out.1 HQ.out.2.1 HQ.out.2.2.1 HQ.out.2.2.2.1 HQ.out.2.2.2.2.1 HQ.out.2.2.2.2.2 HA.out HWI.out).mono ?_
   rintro e Wc ⟨rfl,hR,hO⟩
   refine ⟨_,rfl,?_⟩
   refine hK.out _ _ ?_
   have RZ:=hhd hR
   have HBz:=hhd hO.below
   have EZ:=hhd ((hO.block g10 NG.out (zj (zd a7 I))).trans (zd a7 I))
   clear hK K I hR hO kb
   refine nx_ ?_
   refine zE (by kernel_rfl) ?_
   go_wp2
   go_roundw
   case rel=>exact ⟨t+1,HLT.out,by rw [hx1,show (t+1)*(4*hN)=fto from by rw [Nat.succ_mul,HFE.out,HTO.out]],by rw [HSTEP.out];exact RZ.out,EZ.out,HBz.out⟩
   case measure=>rw [hx1];exact zmC HFL.out HFR.out
  ·obtain rfl:t=T:=Nat.le_antisymm ht (Nat.le_of_not_lt hlt)
   have c1:¬(((t*(4*hN):Nat):Int) < ↑l.length):=by have:=HTT.out;omega
   go_wp2
   refine bodyPost_ret (zdU rfl _ _ _) rfl ?_
   exact ⟨_,rfl,RO.out,HBr.out⟩
end Go.Proofs.YteieahbadclppaaGreat.P

namespace Go.Proofs.YteieahbadclppaaGreat.P
open Go.RowKit Go.Proofs.YteieahbadclppaaGreatW.PrintWords Go.Proofs.YteieahbadclppaaGreatW.PrintLast Go.Proofs.YteieahbadclppaaGreatW.PrintMore
set_option linter.unusedVariables false
set_option linter.unusedSimpArgs false
def zbA (r:List S38):Nat→S38
 | 0=>r.getD 0 z38
 | 1=>r.getD 2 z38
 | 2=>r.getD 1 z38
 | _=>r.getD 3 z38
def zdW (wl:List S38) (h:Nat) (u bits s mode:Int) (inv:Bool) (fr j:Nat):Grp :=
 ⟨[fr+(0*h+j),fr+(1*h+j),fr+(2*h+j),fr+(3*h+j)],fun r=>[zaT (zbA r) (wOf wl u inv j) bits s mode inv 0,zaT (zbA r) (wOf wl u inv j) bits s mode inv 1,zaT (zbA r) (wOf wl u inv j) bits s mode inv 2,zaT (zbA r) (wOf wl u inv j) bits s mode inv 3]⟩
theorem zbV (Y:List S38) (k:Nat):zk Y (k:Int)=Y.getD k z38:=by unfold zk;rw [Int.toNat_natCast]
theorem zhO (Y:List S38) (fr h j:Nat):aOf Y fr h j=zbA [Y.getD (fr+(0*h+j)) z38,Y.getD (fr+(1*h+j)) z38,Y.getD (fr+(2*h+j)) z38,Y.getD (fr+(3*h+j)) z38]:=by
 funext k
 match k with
 | 0=>show zk Y ((fr+j:Nat):Int)=_;rw [zbV,show fr+j=fr+(0*h+j) by omega];rfl
 | 1=>show zk Y ((fr+(2*h+j):Nat):Int)=_;rw [zbV];rfl
 | 2=>show zk Y ((fr+(h+j):Nat):Int)=_;rw [zbV,show fr+(h+j)=fr+(1*h+j) by omega];rfl
 | k+3=>show zk Y ((fr+(3*h+j):Nat):Int)=_;rw [zbV];rfl
theorem zly (Y wl:List S38) (h:Nat) (u bits s mode:Int) (inv:Bool) (fr j:Nat):zda Y fr h j (zaT (aOf Y fr h j) (wOf wl u inv j) bits s mode inv) 4=zaS Y ((zdW wl h u bits s mode inv fr j).asg Y):=by
 rw [zhO]
 rfl
theorem zel (Y wl:List S38) (h:Nat) (u bits s mode:Int) (inv:Bool) (fr:Nat):∀j,za8 Y wl fr h u bits s mode inv j=zdI Y ((List.range j).map (zdW wl h u bits s mode inv fr))
 | 0=>rfl
 | j+1=>by
  rw [za8,zly,zel Y wl h u bits s mode inv fr j,List.range_succ,List.map_append]
  unfold zdI
  rw [List.foldl_append]
  rfl
def zem (wl:List S38) (h:Nat) (u bits s mode:Int) (inv:Bool) (T:Nat):List Grp:=(List.range T).flatMap fun t=>(List.range h).map (zdW wl h u bits s mode inv (t*(4*h)))
theorem zdX (Y wl:List S38) (h:Nat) (u bits s mode:Int) (inv:Bool):∀t,zbH Y wl h u bits s mode inv t=zdI Y (zem wl h u bits s mode inv t)
 | 0=>rfl
 | t+1=>by
  rw [zbH,zel,zdX Y wl h u bits s mode inv t]
  unfold zem zdI
  rw [List.range_succ,List.flatMap_append,List.foldl_append,List.flatMap_cons,List.flatMap_nil,List.append_nil]
def zjj (wl:List S38) (h:Nat) (u:Int) (bits:Nat) (inv:Bool) (fr j q:Nat):Row :=
 [(⟨2^bits,0⟩,2^bits,fr+(0*h+j)),(zab (q*byN inv 1 % 4) (wOf wl u inv j 1),2^bits+1,fr+(2*h+j)),(zab (q*byN inv 2 % 4) (wOf wl u inv j 2),2^bits+1,fr+(1*h+j)),(zab (q*byN inv 3 % 4) (wOf wl u inv j 3),2^bits+1,fr+(3*h+j))]
theorem zcK (n:Nat) (a w:S38):zab n (zS a w)=zaR (zab n w) a:=by
 unfold zab
 split <;> (unfold zS zaR;apply zau <;> dsimp only <;> grind)
theorem zlz (x wl:List S38) (h:Nat) (u:Int) (bits:Nat) (inv:Bool) (fr j q:Nat):dot x (zjj wl h u bits inv fr j q)=ze6 (zbA [x.getD (fr+(0*h+j)) z38,x.getD (fr+(1*h+j)) z38,x.getD (fr+(2*h+j)) z38,x.getD (fr+(3*h+j)) z38]) (wOf wl u inv j) bits inv q:=by
 have e0:zcu (zbA [x.getD (fr+(0*h+j)) z38,x.getD (fr+(1*h+j)) z38,x.getD (fr+(2*h+j)) z38,x.getD (fr+(3*h+j)) z38]) (wOf wl u inv j) bits inv q 0=zaR ⟨2^bits,0⟩ (x.getD (fr+(0*h+j)) z38):=by
  show zab (q*0 % 4) (upC bits (x.getD (fr+(0*h+j)) z38))=_
  rw [Nat.mul_zero]
  show upC bits (x.getD (fr+(0*h+j)) z38)=_
  unfold upC zaR
  rw [Int.toNat_natCast]
  apply zau <;> dsimp only <;> grind
 have e1:zcu (zbA [x.getD (fr+(0*h+j)) z38,x.getD (fr+(1*h+j)) z38,x.getD (fr+(2*h+j)) z38,x.getD (fr+(3*h+j)) z38]) (wOf wl u inv j) bits inv q 1=zaR (zab (q*byN inv 1 % 4) (wOf wl u inv j 1)) (x.getD (fr+(2*h+j)) z38):=zcK _ _ _
 have e2:zcu (zbA [x.getD (fr+(0*h+j)) z38,x.getD (fr+(1*h+j)) z38,x.getD (fr+(2*h+j)) z38,x.getD (fr+(3*h+j)) z38]) (wOf wl u inv j) bits inv q 2=zaR (zab (q*byN inv 2 % 4) (wOf wl u inv j 2)) (x.getD (fr+(1*h+j)) z38):=zcK _ _ _
 have e3:zcu (zbA [x.getD (fr+(0*h+j)) z38,x.getD (fr+(1*h+j)) z38,x.getD (fr+(2*h+j)) z38,x.getD (fr+(3*h+j)) z38]) (wOf wl u inv j) bits inv q 3=zaR (zab (q*byN inv 3 % 4) (wOf wl u inv j 3)) (x.getD (fr+(3*h+j)) z38):=zcK _ _ _
 unfold ze6
 rw [e0,e1,e2,e3]
 unfold zjj dot dot dot dot dot zaz zao z38
 apply zau <;> dsimp only <;> omega
def zjk (wl:List S38) (h:Nat) (u:Int) (bits:Nat) (inv:Bool) (k:Nat):Row:=zjj wl h u bits inv (k / (4*h)*(4*h)) (k % (4*h) % h) (k % (4*h) / h)
def zcY (wl:List S38) (h:Nat) (u:Int) (bits:Nat) (inv:Bool) (n:Nat):List Row:=(List.range n).map (zjk wl h u bits inv)
def zd4 (h T:Nat):List Nat:=(List.range T).flatMap fun t=>(List.range h).flatMap fun j=>[t*(4*h)+(0*h+j),t*(4*h)+(1*h+j),t*(4*h)+(2*h+j),t*(4*h)+(3*h+j)]
def zeQ (h T n:Nat):Bool :=
 decide ((zd4 h T).Nodup) && ((List.range n).all fun i=>(zd4 h T).contains i) &&
 (List.range T).all fun t=>(List.range h).all fun j=>(List.range 4).all fun q=>(decide ((t*(4*h)+(q*h+j)) / (4*h)=t) && (decide ((t*(4*h)+(q*h+j)) % (4*h) % h=j) && (decide ((t*(4*h)+(q*h+j)) % (4*h) / h=q) && decide (t*(4*h)+(q*h+j) < n))))
set_option maxRecDepth 100000 in
theorem zlA:([2,3,4,5,6].all fun g=>(List.range (g - 1)).all fun t=>zeQ (2^t) (2^g / (4*2^t)) (2^g))=true:=by decide +kernel
theorem zio (x wl:List S38) (h T n:Nat) (u s mode:Int) (bits c:Nat) (inv:Bool) (hx:x.length=n) (hc:zeQ h T n=true) (hcs:(bits:Int)+s=c) :
  zbH x wl h u bits s mode inv T=zaf c mode (zcY wl h u bits inv n) x:=by
 unfold zeQ at hc
 rw [Bool.and_eq_true,Bool.and_eq_true,decide_eq_true_eq,List.all_eq_true,List.all_eq_true] at hc
 obtain ⟨⟨hn,hall⟩,hp⟩:=hc
 have hfl:((zem wl h u bits s mode inv T).flatMap (·.pl))=zd4 h T:=by
  unfold zem zd4
  rw [List.flatMap_assoc]
  congr 1
  funext t
  rw [List.flatMap_map]
  rfl
 have hq:∀t,t < T→∀j,j < h→∀q,q < 4→(t*(4*h)+(q*h+j)) / (4*h)=t∧(t*(4*h)+(q*h+j)) % (4*h) % h=j∧(t*(4*h)+(q*h+j)) % (4*h) / h=q∧t*(4*h)+(q*h+j) < n:=by
  intro t ht j hj q hq
  have h1:=hp t (List.mem_range.2 ht)
  rw [List.all_eq_true] at h1
  have h2:=h1 j (List.mem_range.2 hj)
  rw [List.all_eq_true] at h2
  have h3:=h2 q (List.mem_range.2 hq)
  simpa only [Bool.and_eq_true,decide_eq_true_eq] using h3
 have hget:∀k,k < n→(zaf c mode (zcY wl h u bits inv n) x).getD k z38=shC c mode (dot x (zjk wl h u bits inv k)):=by
  intro k hk
  simp [zaf,zcY,List.getD_eq_getElem?_getD,hk]
 rw [zdX,zhC _ _ (by rw [hfl];exact hn)]
 have hmap:∀g:Grp,g∈zem wl h u bits s mode inv T→(g.asg x).map (·.1)=g.pl:=by
  intro g hg
  obtain ⟨t,ht,hg⟩:=List.mem_flatMap.1 hg
  obtain ⟨j,hj,rfl⟩:=List.mem_map.1 hg
  rfl
 have hms:((zem wl h u bits s mode inv T).flatMap fun g=>g.asg x).map (·.1)=zd4 h T:=by
  rw [← hfl,List.map_flatMap]
  rw [List.flatMap_def,List.flatMap_def]
  congr 1
  exact List.map_congr_left hmap
 have hval:∀p,p∈((zem wl h u bits s mode inv T).flatMap fun g=>g.asg x)→p.1 < n∧(zaf c mode (zcY wl h u bits inv n) x).getD p.1 z38=p.2:=by
  intro p hp
  obtain ⟨g,hg,hp⟩:=List.mem_flatMap.1 hp
  obtain ⟨t,ht,hg⟩:=List.mem_flatMap.1 hg
  obtain ⟨j,hj,rfl⟩:=List.mem_map.1 hg
  have ht:=List.mem_range.1 ht
  have hj:=List.mem_range.1 hj
  have key:∀q,q < 4→t*(4*h)+(q*h+j) < n∧(zaf c mode (zcY wl h u bits inv n) x).getD (t*(4*h)+(q*h+j)) z38=zaT (zbA ((zdW wl h u bits s mode inv (t*(4*h)) j).pl.map fun p=>x.getD p z38)) (wOf wl u inv j) bits s mode inv q:=by
   intro q hq4
   obtain ⟨a1,a2,a3,a4⟩:=hq t ht j hj q hq4
   refine ⟨a4,?_⟩
   rw [hget _ a4]
   unfold zjk
   rw [a1,a2,a3,zlz]
   unfold zaT
   rw [hcs]
   rfl
  have hp4:p∈[(t*(4*h)+(0*h+j),zaT (zbA ((zdW wl h u bits s mode inv (t*(4*h)) j).pl.map fun p=>x.getD p z38)) (wOf wl u inv j) bits s mode inv 0),(t*(4*h)+(1*h+j),zaT (zbA ((zdW wl h u bits s mode inv (t*(4*h)) j).pl.map fun p=>x.getD p z38)) (wOf wl u inv j) bits s mode inv 1),(t*(4*h)+(2*h+j),zaT (zbA ((zdW wl h u bits s mode inv (t*(4*h)) j).pl.map fun p=>x.getD p z38)) (wOf wl u inv j) bits s mode inv 2),(t*(4*h)+(3*h+j),zaT (zbA ((zdW wl h u bits s mode inv (t*(4*h)) j).pl.map fun p=>x.getD p z38)) (wOf wl u inv j) bits s mode inv 3)]:=hp
  simp only [List.mem_cons,List.not_mem_nil,or_false] at hp4
  rcases hp4 with rfl | rfl | rfl | rfl
  ·exact key 0 (by decide)
  ·exact key 1 (by decide)
  ·exact key 2 (by decide)
  ·exact key 3 (by decide)
 refine zfs (by rw [hms];exact hn) (fun p hp=>by rw [hx];exact (hval p hp).1) (by simp [zaf,zcY,hx]) (fun i hi=>?_) (fun p hp=>(hval p hp).2)
 have h1:=hall i (by rw [← hx];exact List.mem_range.2 hi)
 rw [List.contains_iff_mem,← hms] at h1
 obtain ⟨p,hp1,rfl⟩:=List.mem_map.1 h1
 exact ⟨p,hp1,rfl⟩
end Go.Proofs.YteieahbadclppaaGreat.P

