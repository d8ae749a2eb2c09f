/- Part 6 of 10 of the proof: the texts that it reaches, one behind the other. No condition. -/
import Derived.Test.YteieahbadclppaaGreatKs5
import Derived.Deep.RegionLawGrows
namespace Go.Proofs.YteieahbadclppaaGreat.P
open Go.RowKit Go.Proofs.YteieahbadclppaaGreatW.PrintWords Go.Proofs.YteieahbadclppaaGreatW.PrintLast Go.Proofs.YteieahbadclppaaGreatW.PrintMore
attribute [local go_sem] max2_int min2_int max_two min_two
set_option linter.unusedVariables false
set_option linter.unusedSimpArgs false
set_option maxRecDepth 100000 in
set_option maxHeartbeats 4000000 in
theorem Clip_any (A : Option Addr) (n c : Nat) (hn : n ≤ c) (hc : n ≤ 1000) (w : World) : Calls Tryz.prog 51 #[.slice A n c] w fun e w' => e = .returned (.slice A n n) ∧ w' = w := by
 have hr : ∀ w, (Instr.slice 26 (.slice A n c) none (some (.int .i64 n)) (some (.int .i64 n))).run Tryz.prog w = .ok (.slice A n n) w := by
  intro w
  have e1 : (Instr.sliceBound (.int .i64 n) c .slice3Acap).run Tryz.prog w = .ok n w := by
   simp [Instr.sliceBound, asIntOf]
   omega
  have e2 : (Instr.sliceBound (.int .i64 n) n .slice3B).run Tryz.prog w = .ok n w := by
   simp [Instr.sliceBound, asIntOf]
  have e3 : (sizeOf 3).run Tryz.prog w = .ok 1 w := by rfl
  simp [Instr.slice, run_underlying Tryz.underlying26, Instr.sliceBounds, e1, e2, e3]
  intro _
  cases A <;> simp [Addr.add]
 go_enter Tryz.func51, Tryz.ntmps51
 go_wp2
 go_ret
 exact ⟨rfl, rfl⟩
theorem sizeOf22' : (Tryz.prog.info? 22).map (·.size) = some 1 := by kernel_rfl
theorem sizeOf4 : (Tryz.prog.info? 4).map (·.size) = some 1 := by kernel_rfl
theorem R_othG {α : Type} {d : Kd α} (hE : d.E = []) {e base g t : Nat} {ok : Nat → Prop} {W w1 : World} {v : Value} {xs : List α} {cells : Array Value} (h : d.R e W base ok v xs) (hb : W.heap[g]? = some (.cells cells t (0, 0))) (ht : e ≠ t) (hw : ∀ k, k ≠ g → w1.heap[k]? = W.heap[k]?) : d.R e w1 base ok v xs :=
 Kd.R_mono (Kd.R_step (Kd.R_tight hE h) (fun k hk _ => hw k (fun e_ => Kd.R_ne h hb ht (by rw [← e_]; exact hk)))) (fun k hk => h.1 k hk.symm)
section
variable {P : Program} {ops : Array Oper} {rest : List Oper} {o : Oper} {a : Act} {Q : Exit → Act → World → Prop}
theorem cellj_event {W : World} (hgd : o.guard = none) (hN : o.dst = none) (ty : TypeId) (x y : Operand) (ho : o.op = .store ty x y) (g j : Nat) (v : Value) (hx : a.eval x = .pointer (some ⟨g, j, none⟩)) (hy : a.eval y = v)
  (t : TypeId) (old : Array Value) (hg : W.heap[g]? = some (.cells old t (0, 0))) (hj : j < old.size) (hi : (P.info? ty).map (·.size) = some 1) (hv : v.cells.toList = [v]) (h1 : v.oneCell' = true) (new : Array Value) (hnew : new = old.setIfInBounds j v)
  (h : ∀ w1, w1.heap[g]? = some (.cells new t (0, 0)) → (∀ k, k ≠ g → w1.heap[k]? = W.heap[k]?) → (∀ B w0, B ≤ g → Below B w0 W → Below B w0 w1) → wpList P ops Q rest a w1) : wpList P ops Q (o :: rest) a W := by
 have hr : (Instr.storeAt ty (.pointer (some ⟨g, j, none⟩)) v).run P W = .ok () (W.setCells g j [v]) := run_store_run ty v [v] hg hv hi (by simp; omega) (by simpa using h1)
 have e : W.setCells g j [v] = W.setCell ⟨g, j, none⟩ v := rfl
 rw [e] at hr
 subst hnew
 refine wpList_plain hgd fun K hK => ?_
 unfold Oper.wp execOp
 simp only [ho, hx, hy, Sem.run_bind, Sem.run_pure, Result.andThen_ok, hr]
 show K (a.put o.dst undef) _
 rw [hN]
 refine hK _ _ (h _ (blk_put hg j v rfl) (fun k hk => Below.heap_setCell W ⟨g, j, none⟩ v k hk) (fun B w0 hB hb => hb.setCell (p := ⟨g, j, none⟩) hB v))
end
section
variable {P : Program} {ops : Array Oper} {o : Oper} {a : Act} {Q : Exit → Act → World → Prop} {K : Act → World → Prop}
theorem lit1_step {W : World} {N : Option Tmp} (hw : Region.wanted o (yielded ops a.tmps) = true) (hN : o.dst = N) (v : Int)
  (hrun : (execOp a.eval o).run P W = .ok (.value (.slice (some ⟨W.heap.size, 0, none⟩) 1 1)) (W.alloc (.cells #[.int .i64 v] 3 (0, 0))))
  (h : ∀ g, g = W.heap.size → ∀ w1, w1.heap[g]? = some (.cells #[.int .i64 v] 3 (0, 0)) → Below W.heap.size W w1 → K (a.put N (.slice (some ⟨g, 0, none⟩) 1 1)) w1) :
  if Region.wanted o (yielded ops a.tmps) = true then Oper.wp P o a W K Q else K (a.put N undef) W :=
 value_ hw hN hrun (h _ rfl _ (blk_new W _) (below_alloc (Below.refl _ _) _))

theorem app1_step {W : World} {N : Option Tmp} (hw : Region.wanted o (yielded ops a.tmps) = true) (hgd : o.guard = none) (hN : o.dst = N) (s x : Operand) (ho : o.op = .call { callee := .builtin .append, args := #[s, x], argTypes := #[26, 26] })
  (A : Option Addr) (l : List Int) (g : Nat) (v : Int) (hs : a.eval s = .slice A l.length l.length) (hx : a.eval x = .slice (some ⟨g, 0, none⟩) 1 1) (hC : Kd.C (Kd.int .i64) W A l.length l) (hg : W.heap[g]? = some (.cells #[.int .i64 v] 3 (0, 0))) (hl : l.length ≤ 1000)
  (h : ∀ v1 w1, Kd.R (Kd.int .i64) 3 w1 W.heap.size (fun _ => True) v1 (l ++ [v]) → Below W.heap.size W w1 → K (a.put N v1) w1) :
  if Region.wanted o (yielded ops a.tmps) = true then Oper.wp Tryz.prog o a W K Q else K (a.put N undef) W := by
 obtain ⟨i, hi, hz⟩ := Option.map_eq_some_iff.1 info3
 simp only [Prod.mk.injEq] at hz
 obtain ⟨z0, z1, z2⟩ := hz
 subst hN
 have hnone : A = none → l.length = 0 := fun e => by
  subst e
  rcases Nat.eq_zero_or_pos l.length with h0 | h0
  ·exact h0
  ·obtain ⟨ad, had, _⟩ := Kd.at_int hC 0 (by omega) (by omega)
   cases had
 refine step_append_grows hgd s x 26 ho 3 i (.int .i64 0) 1 8 Tryz.underlying26 hi z0 z1 z2 rfl (by decide) A l.length l.length (l.map (.int .i64 ·)) hs (fun e => ⟨hnone e, hnone e⟩) (by simp) ?_ ⟨g, 0, none⟩ 1 1 [.int .i64 v] hx rfl ?_ (by simp [Value.oneCell']) (by omega) (by unfold maxLen; omega) (by omega) ?_
 ·intro b hb j u hj
  subst hb
  rw [List.getElem?_map] at hj
  obtain ⟨y, hy, hu⟩ := Option.map_eq_some_iff.1 hj
  obtain ⟨hlt, hy2⟩ := List.getElem?_eq_some_iff.1 hy
  obtain ⟨ad, had, h0⟩ := Kd.at_int hC (j : Int) (by omega) (by omega)
  cases had
  rw [Int.toNat_natCast] at h0
  rw [h0, ← hu]
  unfold rd
  rw [Int.toNat_natCast, List.getD_eq_getElem?_getD, hy]
  rfl
 ·intro j u hj
  cases j with
  | zero =>
   simp at hj
   subst hj
   exact (blk_cell hg 0).trans rfl
  | succ j => simp at hj
 ·intro v1 w1 hown hgr
  refine h v1 w1 (Kd.R_of_own (by simpa [encs] using hown) (fun _ _ => trivial)) ?_
  exact (Below.refl _ _).grown hgr (Nat.le_refl _) (fun k hk => by cases hk)
end
end Go.Proofs.YteieahbadclppaaGreat.P

namespace Go.Proofs.YteieahbadclppaaGreat.P
open Go.RowKit
theorem bg {W w' : World} (hs : Below W.heap.size W w') {p : Addr} {v : Value} (h : W.cell? p = some v) : w'.cell? p = some v := (hs.cell (World.block_lt_of_cell? _ _ h)).trans h
end Go.Proofs.YteieahbadclppaaGreat.P
namespace Go.Proofs.YteieahbadclppaaGreat.P
open Go.RowKit Go.Shelf Go.Proofs.YteieahbadclppaaGreatW.PrintWords Go.Proofs.YteieahbadclppaaGreatW.PrintLast Go.Proofs.YteieahbadclppaaGreatW.PrintMore
set_option linter.unusedVariables false
set_option linter.unusedSimpArgs false
section
variable {P : Program} {ops : Array Oper} {o : Oper} {a : Act} {Q : Exit → Act → World → Prop} {K : Act → World → Prop}
theorem cellj_step {W : World} (hw : Region.wanted o (yielded ops a.tmps) = true) (hN : o.dst = none) (ty : TypeId) (x y : Operand) (ho : o.op = .store ty x y) (g j : Nat) (v : Value) (hx : a.eval x = .pointer (some ⟨g, j, none⟩)) (hy : a.eval y = v)
  (t : TypeId) (old : Array Value) (hg : W.heap[g]? = some (.cells old t (0, 0))) (hj : j < old.size) (hi : (P.info? ty).map (·.size) = some 1) (hv : v.cells.toList = [v]) (h1 : v.oneCell' = true) (new : Array Value) (hnew : new = old.setIfInBounds j v)
  (h : ∀ w1, w1.heap[g]? = some (.cells new t (0, 0)) → (∀ k, k ≠ g → w1.heap[k]? = W.heap[k]?) → (∀ B w0, B ≤ g → Below B w0 W → Below B w0 w1) → K a w1) :
  if Region.wanted o (yielded ops a.tmps) = true then Oper.wp P o a W K Q else K (a.put none undef) W := by
 rw [if_pos hw]
 have hr : (Instr.storeAt ty (.pointer (some ⟨g, j, none⟩)) v).run P W = .ok () (W.setCells g j [v]) := run_store_run ty v [v] hg hv hi (by simp; omega) (by simpa using h1)
 have e : W.setCells g j [v] = W.setCell ⟨g, j, none⟩ v := rfl
 rw [e] at hr
 subst hnew
 unfold Oper.wp execOp
 simp only [ho, hx, hy, Sem.run_bind, Sem.run_pure, Result.andThen_ok, hr]
 show K (a.put o.dst undef) _
 rw [hN]
 exact h _ (blk_put hg j v rfl) (fun k hk => Below.heap_setCell W ⟨g, j, none⟩ v k hk) (fun B w0 hB hb => hb.setCell (p := ⟨g, j, none⟩) hB v)
end
set_option maxRecDepth 100000 in
set_option maxHeartbeats 4000000 in
theorem add_any (g : Nat) (a b x y : Int) (w : World) (hg : w.heap[g]? = some (.cells #[.int .i64 a, .int .i64 b] 112 (0, 0))) :
  Calls Tryz.prog 59 #[.pointer (some ⟨g, 0, none⟩), .int .i64 x, .int .i64 y] w fun e w' => e = .returned (.tuple #[]) ∧ w'.heap[g]? = some (.cells #[.int .i64 (wrap64 (a + wrap64 (x / 65536 * y))), .int .i64 (wrap64 (b + wrap64 (Go.bits .and .i64 x 65535 * y)))] 112 (0, 0)) ∧ (∀ k, k ≠ g → k < w.heap.size → w'.heap[k]? = w.heap[k]?) ∧ (∀ B w0, B ≤ g → Below B w0 w → Below B w0 w') := by
 have hmx : Tryz.prog.follows .mixedOrders = true := by kernel_rfl
 have HG := Lib.hid hg
 have k0 := (blk_cell hg 0).trans rfl
 have k1 := (blk_cell hg 1).trans rfl
 clear hg
 go_enter Tryz.func59, Tryz.ntmps59
 try go_wp2
 refine start_ (S := fun w' => Below w.heap.size w w') (ds := [11]) (fl 12 0) hmx rfl rfl (Below.refl _ _).drew (fun hHeld => ?_)
 refine pure_ (i := 0) (N := some 6) (v := ?_) (a' := ?_) (fl 12 1) rfl rfl (by kernel_rfl) (fun _ _ _ h => h) (Or.inl ⟨by rfl, ?_⟩) ?_ ?_
 rotate_left
 ·intro w'
  go_simp
  with_reducible rfl
 rotate_left
 ·simp only [Act.put, List.setIfInBounds_toArray, List.set_cons_zero, List.set_cons_succ, i64_w, i32_w]
  rfl
 refine pure_ (i := 1) (N := some 7) (v := ?_) (a' := ?_) (fl 12 3) rfl rfl (by kernel_rfl) (fun _ _ _ h => h) (Or.inl ⟨by rfl, ?_⟩) ?_ ?_
 rotate_left
 ·intro w'
  go_simp
  with_reducible rfl
 rotate_left
 ·simp only [Act.put, List.setIfInBounds_toArray, List.set_cons_zero, List.set_cons_succ, i64_w, i32_w]
  rfl
 refine pure_ (i := 2) (N := some 8) (v := ?_) (a' := ?_) (fl 12 7) rfl rfl (by kernel_rfl) (fun _ _ _ h => h) (Or.inl ⟨by rfl, ?_⟩) ?_ ?_
 rotate_left
 ·intro w'
  go_simp
  with_reducible rfl
 rotate_left
 ·simp only [Act.put, List.setIfInBounds_toArray, List.set_cons_zero, List.set_cons_succ, i64_w, i32_w]
  rfl
 refine pure_ (i := 4) (N := some 10) (v := ?_) (a' := ?_) (fl 12 23) rfl rfl (by kernel_rfl) (fun _ _ _ h => h) (Or.inl ⟨by rfl, ?_⟩) ?_ ?_
 rotate_left
 ·intro w'
  go_simp
  with_reducible rfl
 rotate_left
 ·simp only [Act.put, List.setIfInBounds_toArray, List.set_cons_zero, List.set_cons_succ, i64_w, i32_w]
  rfl
 refine pure_ (i := 5) (N := some 11) (v := ?_) (a' := ?_) (fl 12 55) rfl rfl (by kernel_rfl) (fun _ _ _ h => h) (Or.inl ⟨by rfl, ?_⟩) ?_ ?_
 rotate_left
 ·intro w'
  go_simp
  with_reducible rfl
 rotate_left
 ·simp only [Act.put, List.setIfInBounds_toArray, List.set_cons_zero, List.set_cons_succ, i64_w, i32_w]
  rfl
 refine pure_ (i := 6) (N := some 12) (v := ?_) (a' := ?_) (fl 12 119) rfl rfl (by kernel_rfl) (fun _ _ _ h => h) (Or.inl ⟨by rfl, ?_⟩) ?_ ?_
 rotate_left
 ·intro w'
  go_simp
  with_reducible rfl
 rotate_left
 ·simp only [Act.put, List.setIfInBounds_toArray, List.set_cons_zero, List.set_cons_succ, i64_w, i32_w]
  rfl
 refine pure_ (i := 7) (N := some 13) (v := ?_) (a' := ?_) (fl 12 247) rfl rfl (by kernel_rfl) (fun _ _ _ h => h) (Or.inl ⟨by rfl, ?_⟩) ?_ ?_
 rotate_left
 ·intro w'
  go_simp
  with_reducible rfl
 rotate_left
 ·simp only [Act.put, List.setIfInBounds_toArray, List.set_cons_zero, List.set_cons_succ, i64_w, i32_w]
  rfl
 refine pure_ (i := 9) (N := some 15) (v := ?_) (a' := ?_) (fl 12 759) rfl rfl (by kernel_rfl) (fun _ _ _ h => h) (Or.inl ⟨by rfl, ?_⟩) ?_ ?_
 rotate_left
 ·intro w'
  go_simp
  with_reducible rfl
 rotate_left
 ·simp only [Act.put, List.setIfInBounds_toArray, List.set_cons_zero, List.set_cons_succ, i64_w, i32_w]
  rfl
 refine take_ (i := 3) (N := some 9) (v := ?_) (a' := ?_) (fl 12 767) rfl rfl (by kernel_rfl) (fun _ _ _ h => h) (Or.inl ⟨by rfl, ?_⟩) hHeld ?_ ?_
 rotate_left
 ·rintro w' hs
  have j_k0 := bg hs k0
  have j_k1 := bg hs k1
  go_simp
  with_reducible rfl
 rotate_left
 ·simp only [Act.put, List.setIfInBounds_toArray, List.set_cons_zero, List.set_cons_succ, i64_w, i32_w]
  rfl
 refine pure_ (i := 8) (N := some 14) (v := ?_) (a' := ?_) (fl 12 1023) rfl rfl (by kernel_rfl) (fun _ _ _ h => h) (Or.inl ⟨by rfl, ?_⟩) ?_ ?_
 rotate_left
 ·intro w'
  go_simp
  with_reducible rfl
 rotate_left
 ·simp only [Act.put, List.setIfInBounds_toArray, List.set_cons_zero, List.set_cons_succ, i64_w, i32_w]
  rfl
 refine pure_ (i := 10) (N := some 16) (v := ?_) (a' := ?_) (fl 12 2047) rfl rfl (by kernel_rfl) (fun _ _ _ h => h) (Or.inl ⟨by rfl, ?_⟩) ?_ ?_
 rotate_left
 ·intro w'
  go_simp
  with_reducible rfl
 rotate_left
 ·simp only [Act.put, List.setIfInBounds_toArray, List.set_cons_zero, List.set_cons_succ, i64_w, i32_w]
  rfl
 refine last_ (i := 11) (N := none) (fl 12 4095) rfl rfl (by kernel_rfl) (by decide) (fun K hK => ?_)
 refine cellj_step rfl rfl 3 _ _ rfl g 0 (.int .i64 (wrap64 (a + wrap64 (x / 65536 * y)))) rfl rfl 112 _ (blk_below HG.out hHeld) (show (0 : Nat) < 2 from by decide) size3 rfl rfl #[.int .i64 (wrap64 (a + wrap64 (x / 65536 * y))), .int .i64 b] rfl ?_
 intro W1 hq hoth hbel
 refine hK.out _ _ ?_
 have BW1 := Lib.hid hq
 have OW1 := Lib.hid (fun k (hk : k ≠ g) (hb : k < w.heap.size) => (hoth k hk).trans (hHeld.block k hb))
 have PW1 := Lib.hid (fun B v0 (hB : B ≤ g) (hb : Below B v0 w) => hbel B v0 hB (hb.trans (hHeld.mono (by have := blk_lt HG.out; omega))))
 clear hK K hHeld hq hoth hbel
 refine done_ (by kernel_rfl) ?_
 go_wp2
 clear k0 k1
 have k0 := (blk_cell BW1.out 0).trans rfl
 have k1 := (blk_cell BW1.out 1).trans rfl
 refine start_ (S := fun w' => Below W1.heap.size W1 w') (ds := [11]) (fl 12 0) hmx rfl rfl (Below.refl _ _).drew (fun hHeld => ?_)
 refine pure_ (i := 0) (N := some 17) (v := ?_) (a' := ?_) (fl 12 1) rfl rfl (by kernel_rfl) (fun _ _ _ h => h) (Or.inl ⟨by rfl, ?_⟩) ?_ ?_
 rotate_left
 ·intro w'
  go_simp
  with_reducible rfl
 rotate_left
 ·simp only [Act.put, List.setIfInBounds_toArray, List.set_cons_zero, List.set_cons_succ, i64_w, i32_w]
  rfl
 refine pure_ (i := 1) (N := some 18) (v := ?_) (a' := ?_) (fl 12 3) rfl rfl (by kernel_rfl) (fun _ _ _ h => h) (Or.inl ⟨by rfl, ?_⟩) ?_ ?_
 rotate_left
 ·intro w'
  go_simp
  with_reducible rfl
 rotate_left
 ·simp only [Act.put, List.setIfInBounds_toArray, List.set_cons_zero, List.set_cons_succ, i64_w, i32_w]
  rfl
 refine pure_ (i := 2) (N := some 19) (v := ?_) (a' := ?_) (fl 12 7) rfl rfl (by kernel_rfl) (fun _ _ _ h => h) (Or.inl ⟨by rfl, ?_⟩) ?_ ?_
 rotate_left
 ·intro w'
  go_simp
  with_reducible rfl
 rotate_left
 ·simp only [Act.put, List.setIfInBounds_toArray, List.set_cons_zero, List.set_cons_succ, i64_w, i32_w]
  rfl
 refine pure_ (i := 4) (N := some 21) (v := ?_) (a' := ?_) (fl 12 23) rfl rfl (by kernel_rfl) (fun _ _ _ h => h) (Or.inl ⟨by rfl, ?_⟩) ?_ ?_
 rotate_left
 ·intro w'
  go_simp
  with_reducible rfl
 rotate_left
 ·simp only [Act.put, List.setIfInBounds_toArray, List.set_cons_zero, List.set_cons_succ, i64_w, i32_w]
  rfl
 refine pure_ (i := 5) (N := some 22) (v := ?_) (a' := ?_) (fl 12 55) rfl rfl (by kernel_rfl) (fun _ _ _ h => h) (Or.inl ⟨by rfl, ?_⟩) ?_ ?_
 rotate_left
 ·intro w'
  go_simp
  with_reducible rfl
 rotate_left
 ·simp only [Act.put, List.setIfInBounds_toArray, List.set_cons_zero, List.set_cons_succ, i64_w, i32_w]
  rfl
 refine pure_ (i := 6) (N := some 23) (v := ?_) (a' := ?_) (fl 12 119) rfl rfl (by kernel_rfl) (fun _ _ _ h => h) (Or.inl ⟨by rfl, ?_⟩) ?_ ?_
 rotate_left
 ·intro w'
  go_simp
  with_reducible rfl
 rotate_left
 ·simp only [Act.put, List.setIfInBounds_toArray, List.set_cons_zero, List.set_cons_succ, i64_w, i32_w]
  rfl
 refine pure_ (i := 7) (N := some 24) (v := ?_) (a' := ?_) (fl 12 247) rfl rfl (by kernel_rfl) (fun _ _ _ h => h) (Or.inl ⟨by rfl, ?_⟩) ?_ ?_
 rotate_left
 ·intro w'
  go_simp
  with_reducible rfl
 rotate_left
 ·simp only [Act.put, List.setIfInBounds_toArray, List.set_cons_zero, List.set_cons_succ, i64_w, i32_w]
  rfl
 refine pure_ (i := 9) (N := some 26) (v := ?_) (a' := ?_) (fl 12 759) rfl rfl (by kernel_rfl) (fun _ _ _ h => h) (Or.inl ⟨by rfl, ?_⟩) ?_ ?_
 rotate_left
 ·intro w'
  go_simp
  with_reducible rfl
 rotate_left
 ·simp only [Act.put, List.setIfInBounds_toArray, List.set_cons_zero, List.set_cons_succ, i64_w, i32_w]
  rfl
 refine take_ (i := 3) (N := some 20) (v := ?_) (a' := ?_) (fl 12 767) rfl rfl (by kernel_rfl) (fun _ _ _ h => h) (Or.inl ⟨by rfl, ?_⟩) hHeld ?_ ?_
 rotate_left
 ·rintro w' hs
  have j_k0 := bg hs k0
  have j_k1 := bg hs k1
  go_simp
  with_reducible rfl
 rotate_left
 ·simp only [Act.put, List.setIfInBounds_toArray, List.set_cons_zero, List.set_cons_succ, i64_w, i32_w]
  rfl
 refine pure_ (i := 8) (N := some 25) (v := ?_) (a' := ?_) (fl 12 1023) rfl rfl (by kernel_rfl) (fun _ _ _ h => h) (Or.inl ⟨by rfl, ?_⟩) ?_ ?_
 rotate_left
 ·intro w'
  go_simp
  with_reducible rfl
 rotate_left
 ·simp only [Act.put, List.setIfInBounds_toArray, List.set_cons_zero, List.set_cons_succ, i64_w, i32_w]
  rfl
 refine pure_ (i := 10) (N := some 27) (v := ?_) (a' := ?_) (fl 12 2047) rfl rfl (by kernel_rfl) (fun _ _ _ h => h) (Or.inl ⟨by rfl, ?_⟩) ?_ ?_
 rotate_left
 ·intro w'
  go_simp
  with_reducible rfl
 rotate_left
 ·simp only [Act.put, List.setIfInBounds_toArray, List.set_cons_zero, List.set_cons_succ, i64_w, i32_w]
  rfl
 refine last_ (i := 11) (N := none) (fl 12 4095) rfl rfl (by kernel_rfl) (by decide) (fun K hK => ?_)
 refine cellj_step rfl rfl 3 _ _ rfl g 1 (.int .i64 (wrap64 (b + wrap64 (Go.bits .and .i64 x 65535 * y)))) rfl rfl 112 _ (blk_below BW1.out hHeld) (show (1 : Nat) < 2 from by decide) size3 rfl rfl #[.int .i64 (wrap64 (a + wrap64 (x / 65536 * y))), .int .i64 (wrap64 (b + wrap64 (Go.bits .and .i64 x 65535 * y)))] rfl ?_
 intro W2 hq hoth hbel
 refine hK.out _ _ ?_
 have BW2 := Lib.hid hq
 have OW2 := Lib.hid (fun k (hk : k ≠ g) (hb : k < W1.heap.size) => (hoth k hk).trans (hHeld.block k hb))
 have PW2 := Lib.hid (fun B v0 (hB : B ≤ g) (hb : Below B v0 W1) => hbel B v0 hB (hb.trans (hHeld.mono (by have := blk_lt BW1.out; omega))))
 clear hK K hHeld hq hoth hbel
 refine done_ (by kernel_rfl) ?_
 go_end0
 exact ⟨rfl, BW2.out, fun k hk hb => (OW2.out k hk (Nat.lt_of_lt_of_le hb (PW1.out 0 w (Nat.zero_le _) (Below.refl _ _)).size)).trans (OW1.out k hk hb), fun B w0 hB hb => PW2.out B w0 hB (PW1.out B w0 hB hb)⟩
set_option maxRecDepth 100000 in
set_option maxHeartbeats 4000000 in
def downV (a b : Int) : Int := shV (wrap64 (a + shV b 16 0)) 16 0
theorem shift0_f (x : Int) : round_Shift.f x 16 0 = some (shV x 16 0, 0) := by
 unfold round_Shift.f
 rw [if_neg (by omega)]
theorem down_any (a b : Int) (w : World) : Calls Tryz.prog 60 #[.agg #[.int .i64 a, .int .i64 b]] w fun e w' => e = .returned (.int .i64 (downV a b)) ∧ Below w.heap.size w w' := by
 have HB0 := Lib.hid (Below.refl w.heap.size w)
 go_enter Tryz.func60, Tryz.ntmps60
 go_wp2_with (first
  | ((with_reducible refine gate_dst (N := 1) rfl ?_); refine box_event ?hg (N := 1) ?hd (cs := #[.int .i64 a, .int .i64 b]) (t := 112) ?hr ?_; (case hd => rfl); (case hg => rfl); (case hr => first | (go_simp; done) | (go_simp; rfl)); intro g1 hg W1 hbox hbl; have L1 : w.heap.size ≤ g1 := (by rw [hg]; exact below_size HB0.out); have B1_1 := Lib.hid hbox; have HB_1 := Lib.hid (below_step HB0.out hbl); have k1_0_1 : W1.cell? ⟨g1, 0, none⟩ = some (.int .i64 a) := (blk_cell B1_1.out 0).trans rfl; have k1_1_1 : W1.cell? ⟨g1, 1, none⟩ = some (.int .i64 b) := (blk_cell B1_1.out 1).trans rfl; clear hbox hbl hg)
  | (go_at_call 42; (with_reducible refine (round_Shift.calls b 16 0 (shV b 16 0) 0 _ (shift0_f b)).mono ?_); rintro e W2 ⟨rfl, hb⟩; have B1_2 := Lib.hid (blk_below B1_1.out hb); have HB_2 := Lib.hid (below_step HB_1.out hb); have k1_0_2 : W2.cell? ⟨g1, 0, none⟩ = some (.int .i64 a) := (blk_cell B1_2.out 0).trans rfl; clear k1_0_1 k1_1_1 hb)
  | (go_at_call 42; (with_reducible refine (round_Shift.calls (wrap64 (a + shV b 16 0)) 16 0 (shV (wrap64 (a + shV b 16 0)) 16 0) 0 _ (shift0_f _)).mono ?_); rintro e W3 ⟨rfl, hb⟩; have HB_3 := Lib.hid (below_step HB_2.out hb); clear hb))
 go_ret
 exact ⟨rfl, HB_3.out⟩
def addS (s : Int × Int) (x y : Int) : Int × Int := (wrap64 (s.1 + wrap64 (x / 65536 * y)), wrap64 (s.2 + wrap64 (Go.bits .and .i64 x 65535 * y)))
def binStep (t : (Int × Int) × (Int × Int)) (a r : S38) : (Int × Int) × (Int × Int) := (addS (addS t.1 a.f0 r.f0) (wrap64 (-a.f1)) r.f1, addS (addS t.2 a.f0 r.f1) a.f1 r.f0)
def binIdx (n : Nat) (k : Int) (j : Nat) : Int := Go.bits .and .i64 (wrap64 (j * k)) (n - 1)
def binAt (x wl : List S38) (k : Int) : Nat → (Int × Int) × (Int × Int)
 | 0 => ((0, 0), (0, 0))
 | j + 1 => binStep (binAt x wl k j) (rd_T38 x j) (rd_T38 wl (binIdx x.length k j))
theorem bits_and_le (x m : Int) (h0 : 0 ≤ m) (h1 : m ≤ 1000000) : 0 ≤ Go.bits .and .i64 x m ∧ Go.bits .and .i64 x m ≤ m := by
 have e : Go.bits .and .i64 x m = IntKind.i64.wrap (((BitVec.ofInt 64 x).toNat &&& (BitVec.ofInt 64 m).toNat : Nat) : Int) := rfl
 have hm : (BitVec.ofInt 64 m).toNat = m.toNat := by rw [BitVec.toNat_ofInt]; omega
 have h := Nat.and_le_right (n := (BitVec.ofInt 64 x).toNat) (m := m.toNat)
 rw [e, hm, i64_w]
 generalize (BitVec.ofInt 64 x).toNat &&& m.toNat = q at *
 unfold wrap64
 omega
set_option maxRecDepth 100000 in
set_option maxHeartbeats 4000000 in
theorem bin_any (Ax : Option Addr) (cx : Nat) (l : List S38) (Aw : Option Addr) (cw : Nat) (wl : List S38) (k : Int) (hn : wl.length = l.length) (h0 : 0 < l.length) (h1 : l.length ≤ 64) (w : World) (hx : Kd.C k38 w Ax l.length l) (hw : Kd.C k38 w Aw wl.length wl) :
  Calls Tryz.prog 30 #[.slice Ax l.length cx, .slice Aw wl.length cw, .int .i64 k, .bool false] w fun e w' => e = .returned (.agg #[.int .i64 (downV (binAt l wl k l.length).1.1 (binAt l wl k l.length).1.2), .int .i64 (downV (binAt l wl k l.length).2.1 (binAt l wl k l.length).2.2)]) ∧ Below w.heap.size w w' := by
 have hmx : Tryz.prog.follows .mixedOrders = true := by kernel_rfl
 have HR := Lib.hid hx
 have HS := Lib.hid hw
 have HN := Lib.hid hn
 have HN0 := Lib.hid h0
 have HB0 := Lib.hid (Below.refl w.heap.size w)
 clear hx hw hn h0
 go_enter Tryz.func30, Tryz.ntmps30
 go_wp2_with (first
  | ((with_reducible refine gate_dst (N := 8) rfl ?_); refine box_event ?hg (N := 8) ?hd (cs := #[.int .i64 0, .int .i64 0]) (t := 38) ?hr ?_; (case hd => rfl); (case hg => rfl); (case hr => first | (go_simp; done) | (go_simp; rfl)); intro g8 hg W1 hbox hbl; have L8 : w.heap.size ≤ g8 := (by rw [hg]; exact below_size HB0.out); have B8_1 := Lib.hid hbox; have HB_1 := Lib.hid (below_step HB0.out hbl); have Cx_1 := Lib.hid (Kd.C_below HR.out HB_1.out); have Cw_1 := Lib.hid (Kd.C_below HS.out HB_1.out); have k8_0_1 : W1.cell? ⟨g8, 0, none⟩ = some (.int .i64 0) := (blk_cell B8_1.out 0).trans rfl; have k8_1_1 : W1.cell? ⟨g8, 1, none⟩ = some (.int .i64 0) := (blk_cell B8_1.out 1).trans rfl; clear hbox hbl hg)
  | ((with_reducible refine gate_dst (N := 9) rfl ?_); refine box_event ?hg (N := 9) ?hd (cs := #[.int .i64 0, .int .i64 0]) (t := 112) ?hr ?_; (case hd => rfl); (case hg => rfl); (case hr => first | (go_simp; done) | (go_simp; rfl)); intro g9 hg W2 hbox hbl; have L9 : w.heap.size ≤ g9 := (by rw [hg]; exact below_size HB_1.out); have B9_2 := Lib.hid hbox; have HB_2 := Lib.hid (below_step HB_1.out hbl); have B8_2 := Lib.hid (blk_below B8_1.out hbl); have Cx_2 := Lib.hid (Kd.C_below HR.out HB_2.out); have Cw_2 := Lib.hid (Kd.C_below HS.out HB_2.out); have k8_0_2 : W2.cell? ⟨g8, 0, none⟩ = some (.int .i64 0) := (blk_cell B8_2.out 0).trans rfl; have k8_1_2 : W2.cell? ⟨g8, 1, none⟩ = some (.int .i64 0) := (blk_cell B8_2.out 1).trans rfl; clear k8_0_1 k8_1_1; have k9_0_2 : W2.cell? ⟨g9, 0, none⟩ = some (.int .i64 0) := (blk_cell B9_2.out 0).trans rfl; have k9_1_2 : W2.cell? ⟨g9, 1, none⟩ = some (.int .i64 0) := (blk_cell B9_2.out 1).trans rfl; have NE8_9 := Lib.hid (show g8 ≠ g9 from fun e => by have := blk_lt B8_1.out; omega); have NF9_8 := Lib.hid (show g9 ≠ g8 from fun e => NE8_9.out e.symm); clear hbox hbl hg)
  | ((with_reducible refine gate_dst (N := 10) rfl ?_); refine box_event ?hg (N := 10) ?hd (cs := #[.int .i64 0, .int .i64 0]) (t := 112) ?hr ?_; (case hd => rfl); (case hg => rfl); (case hr => first | (go_simp; done) | (go_simp; rfl)); intro g10 hg W3 hbox hbl; have L10 : w.heap.size ≤ g10 := (by rw [hg]; exact below_size HB_2.out); have B10_3 := Lib.hid hbox; have HB_3 := Lib.hid (below_step HB_2.out hbl); have B8_3 := Lib.hid (blk_below B8_2.out hbl); have B9_3 := Lib.hid (blk_below B9_2.out hbl); have Cx_3 := Lib.hid (Kd.C_below HR.out HB_3.out); have Cw_3 := Lib.hid (Kd.C_below HS.out HB_3.out); have k8_0_3 : W3.cell? ⟨g8, 0, none⟩ = some (.int .i64 0) := (blk_cell B8_3.out 0).trans rfl; have k8_1_3 : W3.cell? ⟨g8, 1, none⟩ = some (.int .i64 0) := (blk_cell B8_3.out 1).trans rfl; have k9_0_3 : W3.cell? ⟨g9, 0, none⟩ = some (.int .i64 0) := (blk_cell B9_3.out 0).trans rfl; have k9_1_3 : W3.cell? ⟨g9, 1, none⟩ = some (.int .i64 0) := (blk_cell B9_3.out 1).trans rfl; clear k8_0_2 k8_1_2 k9_0_2 k9_1_2; have k10_0_3 : W3.cell? ⟨g10, 0, none⟩ = some (.int .i64 0) := (blk_cell B10_3.out 0).trans rfl; have k10_1_3 : W3.cell? ⟨g10, 1, none⟩ = some (.int .i64 0) := (blk_cell B10_3.out 1).trans rfl; have NE8_10 := Lib.hid (show g8 ≠ g10 from fun e => by have := blk_lt B8_2.out; omega); have NF10_8 := Lib.hid (show g10 ≠ g8 from fun e => NE8_10.out e.symm); have NE9_10 := Lib.hid (show g9 ≠ g10 from fun e => by have := blk_lt B9_2.out; omega); have NF10_9 := Lib.hid (show g10 ≠ g9 from fun e => NE9_10.out e.symm); clear hbox hbl hg))
 go_loopw [16] (fun s16 wr => ∃ j : Nat, j ≤ l.length ∧ s16 = .int .i64 j ∧ wr.heap[g8]? = some (.cells #[.int .i64 0, .int .i64 0] 38 (0, 0)) ∧ wr.heap[g9]? = some (.cells #[.int .i64 (binAt l wl k j).1.1, .int .i64 (binAt l wl k j).1.2] 112 (0, 0)) ∧ wr.heap[g10]? = some (.cells #[.int .i64 (binAt l wl k j).2.1, .int .i64 (binAt l wl k j).2.2] 112 (0, 0)) ∧ Below w.heap.size w wr) (fun i _ => l.length - (intOf i).toNat)
 case atStart => exact ⟨0, by omega, rfl, B8_3.out, B9_3.out, B10_3.out, HB_3.out⟩
 case round =>
  obtain ⟨j, hj, rfl, q8, q9, q10, qb⟩ := hrel
  have B8_0 := Lib.hid q8
  have B9_0 := Lib.hid q9
  have B10_0 := Lib.hid q10
  have HBr := Lib.hid qb
  clear q8 q9 q10 qb B8_3 B9_3 B10_3 HB_3 k8_0_3 k8_1_3 k9_0_3 k9_1_3 k10_0_3 k10_1_3
  by_cases hlt : j < l.length
  ·have HST := Lib.hid (show binAt l wl k (j + 1) = binStep (binAt l wl k j) (rd_T38 l j) (rd_T38 wl (binIdx l.length k j)) from rfl)
   have HI := bits_and_le (wrap64 (j * k)) (l.length - 1) (by omega) (by omega)
   have i0 : 0 ≤ Go.bits .and .i64 (wrap64 (j * k)) (l.length - 1) := HI.1
   have i1 : Go.bits .and .i64 (wrap64 (j * k)) (l.length - 1) < (wl.length : Int) := by have h2 := HI.2; have h3 := HN.out; omega
   obtain ⟨ad, rfl, x0, x1⟩ := at_T38 HR.out (j : Int) (by omega) (by omega)
   obtain ⟨ad2, rfl, y0, y1⟩ := at_T38 HS.out (Go.bits .and .i64 (wrap64 (j * k)) (l.length - 1)) i0 i1
   rw [Int.toNat_natCast] at x0 x1
   clear HI
   have X0 := Lib.hid x0
   have X1 := Lib.hid x1
   have Y0 := Lib.hid y0
   have Y1 := Lib.hid y1
   clear x0 x1 y0 y1
   have HST2 : binAt l wl k (j + 1) = binStep (binAt l wl k j) (rd_T38 l j) (rd_T38 wl (Go.bits .and .i64 (wrap64 (j * k)) (l.length - 1))) := HST.out
   have HS2 := Lib.hid HST2
   clear HST2 HST
   generalize rd_T38 l j = a at *
   generalize rd_T38 wl (Go.bits .and .i64 (wrap64 (j * k)) (l.length - 1)) = r at *
   generalize hs : binAt l wl k j = s at *
   clear hs
   obtain ⟨⟨s0, s1⟩, s2, s3⟩ := s
   have x0 := (HBr.out.cell (World.block_lt_of_cell? _ _ X0.out)).trans X0.out
   have x1 := (HBr.out.cell (World.block_lt_of_cell? _ _ X1.out)).trans X1.out
   go_wp2_with (first
    | ((with_reducible refine gate_dst (N := 12) rfl ?_); refine box_event ?hg (N := 12) ?hd (cs := #[.int .i64 0, .int .i64 0]) (t := 38) ?hr ?_; (case hd => rfl); (case hg => rfl); (case hr => first | (go_simp; done) | (go_simp; rfl)); intro g12 hg W1 hbox hbl; have L12 : w.heap.size ≤ g12 := (by rw [hg]; exact below_size HBr.out); have B12_1 := Lib.hid hbox; have HB_1 := Lib.hid (below_step HBr.out hbl); have B8_1 := Lib.hid (blk_below B8_0.out hbl); have B9_1 := Lib.hid (blk_below B9_0.out hbl); have B10_1 := Lib.hid (blk_below B10_0.out hbl); have k8_0_1 : W1.cell? ⟨g8, 0, none⟩ = some (.int .i64 0) := (blk_cell B8_1.out 0).trans rfl; have k8_1_1 : W1.cell? ⟨g8, 1, none⟩ = some (.int .i64 0) := (blk_cell B8_1.out 1).trans rfl; have k9_0_1 : W1.cell? ⟨g9, 0, none⟩ = some (.int .i64 s0) := (blk_cell B9_1.out 0).trans rfl; have k9_1_1 : W1.cell? ⟨g9, 1, none⟩ = some (.int .i64 s1) := (blk_cell B9_1.out 1).trans rfl; have k10_0_1 : W1.cell? ⟨g10, 0, none⟩ = some (.int .i64 s2) := (blk_cell B10_1.out 0).trans rfl; have k10_1_1 : W1.cell? ⟨g10, 1, none⟩ = some (.int .i64 s3) := (blk_cell B10_1.out 1).trans rfl; have k12_0_1 : W1.cell? ⟨g12, 0, none⟩ = some (.int .i64 0) := (blk_cell B12_1.out 0).trans rfl; have k12_1_1 : W1.cell? ⟨g12, 1, none⟩ = some (.int .i64 0) := (blk_cell B12_1.out 1).trans rfl; have NE8_12 := Lib.hid (show g8 ≠ g12 from fun e => by have := blk_lt B8_0.out; omega); have NF12_8 := Lib.hid (show g12 ≠ g8 from fun e => NE8_12.out e.symm); have NE9_12 := Lib.hid (show g9 ≠ g12 from fun e => by have := blk_lt B9_0.out; omega); have NF12_9 := Lib.hid (show g12 ≠ g9 from fun e => NE9_12.out e.symm); have NE10_12 := Lib.hid (show g10 ≠ g12 from fun e => by have := blk_lt B10_0.out; omega); have NF12_10 := Lib.hid (show g12 ≠ g10 from fun e => NE10_12.out e.symm); clear hbox hbl hg)
    | ((with_reducible refine gate_store (t := 38) (p := 12) rfl ?_); refine row_event rfl 38 _ _ rfl g12 #[.int .i64 a.f0, .int .i64 a.f1] rfl rfl 38 #[.int .i64 0, .int .i64 0] B12_1.out (size38 _ _) rfl (one38 _ _) ?_; intro W2 hq hoth hbel; have B12_2 := Lib.hid hq; have HB_2 := Lib.hid (hbel _ _ L12 HB_1.out); have B8_2 := Lib.hid ((hoth _ NE8_12.out).trans B8_1.out); have B9_2 := Lib.hid ((hoth _ NE9_12.out).trans B9_1.out); have B10_2 := Lib.hid ((hoth _ NE10_12.out).trans B10_1.out); have k8_0_2 : W2.cell? ⟨g8, 0, none⟩ = some (.int .i64 0) := (blk_cell B8_2.out 0).trans rfl; have k8_1_2 : W2.cell? ⟨g8, 1, none⟩ = some (.int .i64 0) := (blk_cell B8_2.out 1).trans rfl; have k9_0_2 : W2.cell? ⟨g9, 0, none⟩ = some (.int .i64 s0) := (blk_cell B9_2.out 0).trans rfl; have k9_1_2 : W2.cell? ⟨g9, 1, none⟩ = some (.int .i64 s1) := (blk_cell B9_2.out 1).trans rfl; have k10_0_2 : W2.cell? ⟨g10, 0, none⟩ = some (.int .i64 s2) := (blk_cell B10_2.out 0).trans rfl; have k10_1_2 : W2.cell? ⟨g10, 1, none⟩ = some (.int .i64 s3) := (blk_cell B10_2.out 1).trans rfl; clear k8_0_1 k8_1_1 k9_0_1 k9_1_1 k10_0_1 k10_1_1 k12_0_1 k12_1_1; have k12_0_2 : W2.cell? ⟨g12, 0, none⟩ = some (.int .i64 a.f0) := (blk_cell B12_2.out 0).trans rfl; have k12_1_2 : W2.cell? ⟨g12, 1, none⟩ = some (.int .i64 a.f1) := (blk_cell B12_2.out 1).trans rfl; clear hq hoth hbel; have y0 := (HB_2.out.cell (World.block_lt_of_cell? _ _ Y0.out)).trans Y0.out; have y1 := (HB_2.out.cell (World.block_lt_of_cell? _ _ Y1.out)).trans Y1.out; clear x0 x1)
    | ((with_reducible refine gate_dst (N := 13) rfl ?_); refine box_event ?hg (N := 13) ?hd (cs := #[.int .i64 0, .int .i64 0]) (t := 38) ?hr ?_; (case hd => rfl); (case hg => rfl); (case hr => first | (go_simp; done) | (go_simp; rfl)); intro g13 hg W3 hbox hbl; have L13 : w.heap.size ≤ g13 := (by rw [hg]; exact below_size HB_2.out); have B13_3 := Lib.hid hbox; have HB_3 := Lib.hid (below_step HB_2.out hbl); have B8_3 := Lib.hid (blk_below B8_2.out hbl); have B9_3 := Lib.hid (blk_below B9_2.out hbl); have B10_3 := Lib.hid (blk_below B10_2.out hbl); have B12_3 := Lib.hid (blk_below B12_2.out hbl); have k8_0_3 : W3.cell? ⟨g8, 0, none⟩ = some (.int .i64 0) := (blk_cell B8_3.out 0).trans rfl; have k8_1_3 : W3.cell? ⟨g8, 1, none⟩ = some (.int .i64 0) := (blk_cell B8_3.out 1).trans rfl; have k9_0_3 : W3.cell? ⟨g9, 0, none⟩ = some (.int .i64 s0) := (blk_cell B9_3.out 0).trans rfl; have k9_1_3 : W3.cell? ⟨g9, 1, none⟩ = some (.int .i64 s1) := (blk_cell B9_3.out 1).trans rfl; have k10_0_3 : W3.cell? ⟨g10, 0, none⟩ = some (.int .i64 s2) := (blk_cell B10_3.out 0).trans rfl; have k10_1_3 : W3.cell? ⟨g10, 1, none⟩ = some (.int .i64 s3) := (blk_cell B10_3.out 1).trans rfl; have k12_0_3 : W3.cell? ⟨g12, 0, none⟩ = some (.int .i64 a.f0) := (blk_cell B12_3.out 0).trans rfl; have k12_1_3 : W3.cell? ⟨g12, 1, none⟩ = some (.int .i64 a.f1) := (blk_cell B12_3.out 1).trans rfl; clear k8_0_2 k8_1_2 k9_0_2 k9_1_2 k10_0_2 k10_1_2 k12_0_2 k12_1_2; have k13_0_3 : W3.cell? ⟨g13, 0, none⟩ = some (.int .i64 0) := (blk_cell B13_3.out 0).trans rfl; have k13_1_3 : W3.cell? ⟨g13, 1, none⟩ = some (.int .i64 0) := (blk_cell B13_3.out 1).trans rfl; have NE8_13 := Lib.hid (show g8 ≠ g13 from fun e => by have := blk_lt B8_2.out; omega); have NF13_8 := Lib.hid (show g13 ≠ g8 from fun e => NE8_13.out e.symm); have NE9_13 := Lib.hid (show g9 ≠ g13 from fun e => by have := blk_lt B9_2.out; omega); have NF13_9 := Lib.hid (show g13 ≠ g9 from fun e => NE9_13.out e.symm); have NE10_13 := Lib.hid (show g10 ≠ g13 from fun e => by have := blk_lt B10_2.out; omega); have NF13_10 := Lib.hid (show g13 ≠ g10 from fun e => NE10_13.out e.symm); have NE12_13 := Lib.hid (show g12 ≠ g13 from fun e => by have := blk_lt B12_2.out; omega); have NF13_12 := Lib.hid (show g13 ≠ g12 from fun e => NE12_13.out e.symm); clear hbox hbl hg)
    | ((with_reducible refine gate_store (t := 38) (p := 13) rfl ?_); refine row_event rfl 38 _ _ rfl g13 #[.int .i64 r.f0, .int .i64 r.f1] rfl rfl 38 #[.int .i64 0, .int .i64 0] B13_3.out (size38 _ _) rfl (one38 _ _) ?_; intro W4 hq hoth hbel; have B13_4 := Lib.hid hq; have HB_4 := Lib.hid (hbel _ _ L13 HB_3.out); have B8_4 := Lib.hid ((hoth _ NE8_13.out).trans B8_3.out); have B9_4 := Lib.hid ((hoth _ NE9_13.out).trans B9_3.out); have B10_4 := Lib.hid ((hoth _ NE10_13.out).trans B10_3.out); have B12_4 := Lib.hid ((hoth _ NE12_13.out).trans B12_3.out); have k8_0_4 : W4.cell? ⟨g8, 0, none⟩ = some (.int .i64 0) := (blk_cell B8_4.out 0).trans rfl; have k8_1_4 : W4.cell? ⟨g8, 1, none⟩ = some (.int .i64 0) := (blk_cell B8_4.out 1).trans rfl; have k9_0_4 : W4.cell? ⟨g9, 0, none⟩ = some (.int .i64 s0) := (blk_cell B9_4.out 0).trans rfl; have k9_1_4 : W4.cell? ⟨g9, 1, none⟩ = some (.int .i64 s1) := (blk_cell B9_4.out 1).trans rfl; have k10_0_4 : W4.cell? ⟨g10, 0, none⟩ = some (.int .i64 s2) := (blk_cell B10_4.out 0).trans rfl; have k10_1_4 : W4.cell? ⟨g10, 1, none⟩ = some (.int .i64 s3) := (blk_cell B10_4.out 1).trans rfl; have k12_0_4 : W4.cell? ⟨g12, 0, none⟩ = some (.int .i64 a.f0) := (blk_cell B12_4.out 0).trans rfl; have k12_1_4 : W4.cell? ⟨g12, 1, none⟩ = some (.int .i64 a.f1) := (blk_cell B12_4.out 1).trans rfl; clear k8_0_3 k8_1_3 k9_0_3 k9_1_3 k10_0_3 k10_1_3 k12_0_3 k12_1_3 k13_0_3 k13_1_3; have k13_0_4 : W4.cell? ⟨g13, 0, none⟩ = some (.int .i64 r.f0) := (blk_cell B13_4.out 0).trans rfl; have k13_1_4 : W4.cell? ⟨g13, 1, none⟩ = some (.int .i64 r.f1) := (blk_cell B13_4.out 1).trans rfl; clear hq hoth hbel)
    | (go_at_call 59; ((with_reducible refine (add_any g9 ( s0) ( s1) (a.f0) (r.f0) _ B9_4.out).mono ?_)); rintro e W5 ⟨rfl, hq, hoth, hbel⟩; have B9_5 := Lib.hid hq; have HB_5 := Lib.hid (hbel _ _ L9 HB_4.out); have B8_5 := Lib.hid ((hoth _ (NE8_9.out) (blk_lt B8_4.out)).trans B8_4.out); have B10_5 := Lib.hid ((hoth _ (NF10_9.out) (blk_lt B10_4.out)).trans B10_4.out); have B12_5 := Lib.hid ((hoth _ (NF12_9.out) (blk_lt B12_4.out)).trans B12_4.out); have B13_5 := Lib.hid ((hoth _ (NF13_9.out) (blk_lt B13_4.out)).trans B13_4.out); have k8_0_5 : W5.cell? ⟨g8, 0, none⟩ = some (.int .i64 0) := (blk_cell B8_5.out 0).trans rfl; have k8_1_5 : W5.cell? ⟨g8, 1, none⟩ = some (.int .i64 0) := (blk_cell B8_5.out 1).trans rfl; have k10_0_5 : W5.cell? ⟨g10, 0, none⟩ = some (.int .i64 s2) := (blk_cell B10_5.out 0).trans rfl; have k10_1_5 : W5.cell? ⟨g10, 1, none⟩ = some (.int .i64 s3) := (blk_cell B10_5.out 1).trans rfl; have k12_0_5 : W5.cell? ⟨g12, 0, none⟩ = some (.int .i64 a.f0) := (blk_cell B12_5.out 0).trans rfl; have k12_1_5 : W5.cell? ⟨g12, 1, none⟩ = some (.int .i64 a.f1) := (blk_cell B12_5.out 1).trans rfl; have k13_0_5 : W5.cell? ⟨g13, 0, none⟩ = some (.int .i64 r.f0) := (blk_cell B13_5.out 0).trans rfl; have k13_1_5 : W5.cell? ⟨g13, 1, none⟩ = some (.int .i64 r.f1) := (blk_cell B13_5.out 1).trans rfl; clear k8_0_4 k8_1_4 k9_0_4 k9_1_4 k10_0_4 k10_1_4 k12_0_4 k12_1_4 k13_0_4 k13_1_4; have k9_0_5 : W5.cell? ⟨g9, 0, none⟩ = some (.int .i64 (wrap64 ( s0 + wrap64 (a.f0 / 65536 * r.f0)))) := (blk_cell B9_5.out 0).trans rfl; have k9_1_5 : W5.cell? ⟨g9, 1, none⟩ = some (.int .i64 (wrap64 ( s1 + wrap64 (Go.bits .and .i64 a.f0 65535 * r.f0)))) := (blk_cell B9_5.out 1).trans rfl; clear hq hoth hbel)
    | (go_at_call 59; ((with_reducible refine (add_any g9 ( (wrap64 ( s0 + wrap64 (a.f0 / 65536 * r.f0)))) ( (wrap64 ( s1 + wrap64 (Go.bits .and .i64 a.f0 65535 * r.f0)))) (wrap64 (-a.f1)) (r.f1) _ B9_5.out).mono ?_)); rintro e W6 ⟨rfl, hq, hoth, hbel⟩; have B9_6 := Lib.hid hq; have HB_6 := Lib.hid (hbel _ _ L9 HB_5.out); have B8_6 := Lib.hid ((hoth _ (NE8_9.out) (blk_lt B8_5.out)).trans B8_5.out); have B10_6 := Lib.hid ((hoth _ (NF10_9.out) (blk_lt B10_5.out)).trans B10_5.out); have B12_6 := Lib.hid ((hoth _ (NF12_9.out) (blk_lt B12_5.out)).trans B12_5.out); have B13_6 := Lib.hid ((hoth _ (NF13_9.out) (blk_lt B13_5.out)).trans B13_5.out); have k8_0_6 : W6.cell? ⟨g8, 0, none⟩ = some (.int .i64 0) := (blk_cell B8_6.out 0).trans rfl; have k8_1_6 : W6.cell? ⟨g8, 1, none⟩ = some (.int .i64 0) := (blk_cell B8_6.out 1).trans rfl; have k10_0_6 : W6.cell? ⟨g10, 0, none⟩ = some (.int .i64 s2) := (blk_cell B10_6.out 0).trans rfl; have k10_1_6 : W6.cell? ⟨g10, 1, none⟩ = some (.int .i64 s3) := (blk_cell B10_6.out 1).trans rfl; have k12_0_6 : W6.cell? ⟨g12, 0, none⟩ = some (.int .i64 a.f0) := (blk_cell B12_6.out 0).trans rfl; have k12_1_6 : W6.cell? ⟨g12, 1, none⟩ = some (.int .i64 a.f1) := (blk_cell B12_6.out 1).trans rfl; have k13_0_6 : W6.cell? ⟨g13, 0, none⟩ = some (.int .i64 r.f0) := (blk_cell B13_6.out 0).trans rfl; have k13_1_6 : W6.cell? ⟨g13, 1, none⟩ = some (.int .i64 r.f1) := (blk_cell B13_6.out 1).trans rfl; clear k8_0_5 k8_1_5 k10_0_5 k10_1_5 k12_0_5 k12_1_5 k13_0_5 k13_1_5 k9_0_5 k9_1_5; have k9_0_6 : W6.cell? ⟨g9, 0, none⟩ = some (.int .i64 (wrap64 ( (wrap64 ( s0 + wrap64 (a.f0 / 65536 * r.f0))) + wrap64 ((wrap64 (-a.f1)) / 65536 * r.f1)))) := (blk_cell B9_6.out 0).trans rfl; have k9_1_6 : W6.cell? ⟨g9, 1, none⟩ = some (.int .i64 (wrap64 ( (wrap64 ( s1 + wrap64 (Go.bits .and .i64 a.f0 65535 * r.f0))) + wrap64 (Go.bits .and .i64 (wrap64 (-a.f1)) 65535 * r.f1)))) := (blk_cell B9_6.out 1).trans rfl; clear hq hoth hbel)
    | (go_at_call 59; ((with_reducible refine (add_any g10 ( s2) ( s3) (a.f0) (r.f1) _ B10_6.out).mono ?_)); rintro e W7 ⟨rfl, hq, hoth, hbel⟩; have B10_7 := Lib.hid hq; have HB_7 := Lib.hid (hbel _ _ L10 HB_6.out); have B8_7 := Lib.hid ((hoth _ (NE8_10.out) (blk_lt B8_6.out)).trans B8_6.out); have B9_7 := Lib.hid ((hoth _ (NE9_10.out) (blk_lt B9_6.out)).trans B9_6.out); have B12_7 := Lib.hid ((hoth _ (NF12_10.out) (blk_lt B12_6.out)).trans B12_6.out); have B13_7 := Lib.hid ((hoth _ (NF13_10.out) (blk_lt B13_6.out)).trans B13_6.out); have k8_0_7 : W7.cell? ⟨g8, 0, none⟩ = some (.int .i64 0) := (blk_cell B8_7.out 0).trans rfl; have k8_1_7 : W7.cell? ⟨g8, 1, none⟩ = some (.int .i64 0) := (blk_cell B8_7.out 1).trans rfl; have k9_0_7 : W7.cell? ⟨g9, 0, none⟩ = some (.int .i64 (wrap64 ( (wrap64 ( s0 + wrap64 (a.f0 / 65536 * r.f0))) + wrap64 ((wrap64 (-a.f1)) / 65536 * r.f1)))) := (blk_cell B9_7.out 0).trans rfl; have k9_1_7 : W7.cell? ⟨g9, 1, none⟩ = some (.int .i64 (wrap64 ( (wrap64 ( s1 + wrap64 (Go.bits .and .i64 a.f0 65535 * r.f0))) + wrap64 (Go.bits .and .i64 (wrap64 (-a.f1)) 65535 * r.f1)))) := (blk_cell B9_7.out 1).trans rfl; have k12_0_7 : W7.cell? ⟨g12, 0, none⟩ = some (.int .i64 a.f0) := (blk_cell B12_7.out 0).trans rfl; have k12_1_7 : W7.cell? ⟨g12, 1, none⟩ = some (.int .i64 a.f1) := (blk_cell B12_7.out 1).trans rfl; have k13_0_7 : W7.cell? ⟨g13, 0, none⟩ = some (.int .i64 r.f0) := (blk_cell B13_7.out 0).trans rfl; have k13_1_7 : W7.cell? ⟨g13, 1, none⟩ = some (.int .i64 r.f1) := (blk_cell B13_7.out 1).trans rfl; clear k8_0_6 k8_1_6 k10_0_6 k10_1_6 k12_0_6 k12_1_6 k13_0_6 k13_1_6 k9_0_6 k9_1_6; have k10_0_7 : W7.cell? ⟨g10, 0, none⟩ = some (.int .i64 (wrap64 ( s2 + wrap64 (a.f0 / 65536 * r.f1)))) := (blk_cell B10_7.out 0).trans rfl; have k10_1_7 : W7.cell? ⟨g10, 1, none⟩ = some (.int .i64 (wrap64 ( s3 + wrap64 (Go.bits .and .i64 a.f0 65535 * r.f1)))) := (blk_cell B10_7.out 1).trans rfl; clear hq hoth hbel)
    | (go_at_call 59; ((with_reducible refine (add_any g10 ( (wrap64 ( s2 + wrap64 (a.f0 / 65536 * r.f1)))) ( (wrap64 ( s3 + wrap64 (Go.bits .and .i64 a.f0 65535 * r.f1)))) (a.f1) (r.f0) _ B10_7.out).mono ?_)); rintro e W8 ⟨rfl, hq, hoth, hbel⟩; have B10_8 := Lib.hid hq; have HB_8 := Lib.hid (hbel _ _ L10 HB_7.out); have B8_8 := Lib.hid ((hoth _ (NE8_10.out) (blk_lt B8_7.out)).trans B8_7.out); have B9_8 := Lib.hid ((hoth _ (NE9_10.out) (blk_lt B9_7.out)).trans B9_7.out); have B12_8 := Lib.hid ((hoth _ (NF12_10.out) (blk_lt B12_7.out)).trans B12_7.out); have B13_8 := Lib.hid ((hoth _ (NF13_10.out) (blk_lt B13_7.out)).trans B13_7.out); have k8_0_8 : W8.cell? ⟨g8, 0, none⟩ = some (.int .i64 0) := (blk_cell B8_8.out 0).trans rfl; have k8_1_8 : W8.cell? ⟨g8, 1, none⟩ = some (.int .i64 0) := (blk_cell B8_8.out 1).trans rfl; have k9_0_8 : W8.cell? ⟨g9, 0, none⟩ = some (.int .i64 (wrap64 ( (wrap64 ( s0 + wrap64 (a.f0 / 65536 * r.f0))) + wrap64 ((wrap64 (-a.f1)) / 65536 * r.f1)))) := (blk_cell B9_8.out 0).trans rfl; have k9_1_8 : W8.cell? ⟨g9, 1, none⟩ = some (.int .i64 (wrap64 ( (wrap64 ( s1 + wrap64 (Go.bits .and .i64 a.f0 65535 * r.f0))) + wrap64 (Go.bits .and .i64 (wrap64 (-a.f1)) 65535 * r.f1)))) := (blk_cell B9_8.out 1).trans rfl; have k12_0_8 : W8.cell? ⟨g12, 0, none⟩ = some (.int .i64 a.f0) := (blk_cell B12_8.out 0).trans rfl; have k12_1_8 : W8.cell? ⟨g12, 1, none⟩ = some (.int .i64 a.f1) := (blk_cell B12_8.out 1).trans rfl; have k13_0_8 : W8.cell? ⟨g13, 0, none⟩ = some (.int .i64 r.f0) := (blk_cell B13_8.out 0).trans rfl; have k13_1_8 : W8.cell? ⟨g13, 1, none⟩ = some (.int .i64 r.f1) := (blk_cell B13_8.out 1).trans rfl; clear k8_0_7 k8_1_7 k9_0_7 k9_1_7 k12_0_7 k12_1_7 k13_0_7 k13_1_7 k10_0_7 k10_1_7; have k10_0_8 : W8.cell? ⟨g10, 0, none⟩ = some (.int .i64 (wrap64 ( (wrap64 ( s2 + wrap64 (a.f0 / 65536 * r.f1))) + wrap64 (a.f1 / 65536 * r.f0)))) := (blk_cell B10_8.out 0).trans rfl; have k10_1_8 : W8.cell? ⟨g10, 1, none⟩ = some (.int .i64 (wrap64 ( (wrap64 ( s3 + wrap64 (Go.bits .and .i64 a.f0 65535 * r.f1))) + wrap64 (Go.bits .and .i64 a.f1 65535 * r.f0)))) := (blk_cell B10_8.out 1).trans rfl; clear hq hoth hbel))
   go_roundw
   case rel => exact ⟨j + 1, by omega, by go_num, B8_8.out, by rw [HS2.out]; exact B9_8.out, by rw [HS2.out]; exact B10_8.out, HB_8.out⟩
   case measure => simp [intOf]; omega
  ·obtain rfl : j = l.length := by omega
   generalize hs : binAt l wl k l.length = s at *
   have HSS := Lib.hid hs
   clear hs
   obtain ⟨⟨s0, s1⟩, s2, s3⟩ := s
   have k90 := (blk_cell B9_0.out 0).trans rfl
   have k91 := (blk_cell B9_0.out 1).trans rfl
   have ka0 := (blk_cell B10_0.out 0).trans rfl
   have ka1 := (blk_cell B10_0.out 1).trans rfl
   go_wp2
   refine start_ (S := fun w' => Below wr.heap.size wr w') (ds := [5]) (fl 6 0) hmx rfl rfl (Below.refl _ _).drew (fun hHeld => ?_)
   refine take_ (i := 0) (N := some 59) (v := ?_) (a' := ?_) (fl 6 1) rfl rfl (by kernel_rfl) (fun _ _ _ h => h) (Or.inl ⟨by rfl, ?_⟩) hHeld ?_ ?_
   rotate_left
   ·rintro w' hs
    have j_k90 := bg hs k90
    have j_k91 := bg hs k91
    have j_ka0 := bg hs ka0
    have j_ka1 := bg hs ka1
    go_simp
    with_reducible rfl
   rotate_left
   ·simp only [Act.put, List.setIfInBounds_toArray, List.set_cons_zero, List.set_cons_succ, i64_w, i32_w]
    rfl
   refine take_ (i := 2) (N := some 61) (v := ?_) (a' := ?_) (fl 6 5) rfl rfl (by kernel_rfl) (fun _ _ _ h => h) (Or.inl ⟨by rfl, ?_⟩) hHeld ?_ ?_
   rotate_left
   ·rintro w' hs
    have j_k90 := bg hs k90
    have j_k91 := bg hs k91
    have j_ka0 := bg hs ka0
    have j_ka1 := bg hs ka1
    go_simp
    with_reducible rfl
   rotate_left
   ·simp only [Act.put, List.setIfInBounds_toArray, List.set_cons_zero, List.set_cons_succ, i64_w, i32_w]
    rfl
   refine one_ (i := 1) (N := some 60) (fl 6 7) rfl rfl (by kernel_rfl) (by decide) (fun K hK => ?_)
   refine goes_ Tryz.func60 (by kernel_rfl) rfl #[.agg #[.int .i64 s0, .int .i64 s1]] (by rfl) rfl rfl (by go_simp) ?_
   refine (down_any s0 s1 _).mono ?_
   rintro e Wc ⟨rfl, hbl⟩
   refine ⟨_, rfl, ?_⟩
   refine hK.out _ _ (below_step hHeld hbl) (fun hHeld2 => ?_)
   clear hK K hHeld hbl
   have hHeld := hHeld2
   clear hHeld2
   refine norm_ (a' := ?_) ?_ ?_
   rotate_left
   ·show Act.put _ (some 60) _ = _
    simp only [Act.put, List.setIfInBounds_toArray, List.set_cons_zero, List.set_cons_succ, i64_w, i32_w]
    rfl
   refine one_ (i := 3) (N := some 62) (fl 6 15) rfl rfl (by kernel_rfl) (by decide) (fun K hK => ?_)
   refine goes_ Tryz.func60 (by kernel_rfl) rfl #[.agg #[.int .i64 s2, .int .i64 s3]] (by rfl) rfl rfl (by go_simp) ?_
   refine (down_any s2 s3 _).mono ?_
   rintro e Wc ⟨rfl, hbl⟩
   refine ⟨_, rfl, ?_⟩
   refine hK.out _ _ (below_step hHeld hbl) (fun hHeld2 => ?_)
   clear hK K hHeld hbl
   have hHeld := hHeld2
   clear hHeld2
   refine norm_ (a' := ?_) ?_ ?_
   rotate_left
   ·show Act.put _ (some 62) _ = _
    simp only [Act.put, List.setIfInBounds_toArray, List.set_cons_zero, List.set_cons_succ, i64_w, i32_w]
    rfl
   refine pure_ (i := 4) (N := some 63) (v := ?_) (a' := ?_) (fl 6 31) rfl rfl (by kernel_rfl) (fun _ _ _ h => h) (Or.inl ⟨by rfl, ?_⟩) ?_ ?_
   rotate_left
   ·intro w'
    go_simp
    with_reducible rfl
   rotate_left
   ·simp only [Act.put, List.setIfInBounds_toArray, List.set_cons_zero, List.set_cons_succ, i64_w, i32_w]
    rfl
   refine last_ (i := 5) (N := none) (fl 6 63) rfl rfl (by kernel_rfl) (by decide) (fun K hK => ?_)
   refine row_step rfl rfl 38 _ _ rfl g8 #[.int .i64 (downV s0 s1), .int .i64 (downV s2 s3)] rfl rfl 38 #[.int .i64 0, .int .i64 0] (blk_below B8_0.out hHeld) (size38 _ _) rfl (one38 _ _) ?_
   intro Wd hq hoth hbel
   refine hK.out _ _ ?_
   have E8d := Lib.hid hq
   have HBd := Lib.hid (hbel _ _ L8 (below_step HBr.out hHeld))
   clear hK K hHeld hq hoth hbel
   refine done_ (by kernel_rfl) ?_
   go_wp2
   refine bodyPost_ret (results_cell_row rfl _ _ g8 38 #[.int .i64 (downV s0 s1), .int .i64 (downV s2 s3)] (0, 0) _ rfl E8d.out Tryz.underlying38 rfl (size38 _ _)) rfl ?_
   exact ⟨by rw [HSS.out], HBd.out⟩
end Go.Proofs.YteieahbadclppaaGreat.P

namespace Go.Proofs.YteieahbadclppaaGreat.P
open Go.RowKit Go.Shelf Go.Proofs.YteieahbadclppaaGreatW.PrintWords Go.Proofs.YteieahbadclppaaGreatW.PrintLast Go.Proofs.YteieahbadclppaaGreatW.PrintMore
attribute [local go_sem] max2_int min2_int max_two min_two
set_option linter.unusedVariables false
set_option linter.unusedSimpArgs false
set_option maxRecDepth 100000 in
set_option maxHeartbeats 4000000 in
theorem look_yes (A : Option Addr) (c : Nat) (l : List Int) (k lg r1 r2 : Int) (kl : Nat) (hlog : flip_Log.f kl l.length = some (lg, 0)) (hf : l.any farInt = false) (hrt : roots_Root.f lg k 13 = some (r1, r2, 0)) (w : World) (hr : Kd.C (Kd.int .i64) w A l.length l) (hc : l.length ≤ c) :
  Calls Tryz.prog 25 #[.slice A l.length c, .int .i64 k] w fun e w' => e = .returned (.tuple #[.agg #[.int .i64 r1, .int .i64 r2], .int .i64 0]) ∧ Below w.heap.size w w' := by
 have HR := Lib.hid hr
 have HC := Lib.hid hc
 have HLOG := Lib.hid hlog
 have HF := Lib.hid hf
 have HRT := Lib.hid hrt
 have HB0 := Lib.hid (Below.refl w.heap.size w)
 clear hr hc hlog hf hrt
 go_enter Tryz.func25, Tryz.ntmps25
 go_wp2_with (first
  | ((with_reducible refine gate_dst (N := 4) rfl ?_); refine box_event ?hg (N := 4) ?hd (cs := #[.int .i64 0, .int .i64 0]) (t := 38) ?hr ?_; (case hd => rfl); (case hg => rfl); (case hr => first | (go_simp; done) | (go_simp; rfl)); intro g4 hg W1 hbox hbl; have L4 : w.heap.size ≤ g4 := (by rw [hg]; exact below_size HB0.out); have B4_1 := Lib.hid hbox; have HB_1 := Lib.hid (below_step HB0.out hbl); have Cx_1 := Lib.hid (Kd.C_below HR.out HB_1.out); have k4_0_1 : W1.cell? ⟨g4, 0, none⟩ = some (.int .i64 0) := (blk_cell B4_1.out 0).trans rfl; have k4_1_1 : W1.cell? ⟨g4, 1, none⟩ = some (.int .i64 0) := (blk_cell B4_1.out 1).trans rfl; clear hbox hbl hg)
  | (go_at_call 40; (with_reducible refine (flip_Log.calls kl l.length lg 0 _ HLOG.out).mono ?_); rintro e W2 ⟨rfl, hd⟩; have hb := hd.below; clear hd; have HB_2 := Lib.hid (below_step HB_1.out hb); have B4_2 := Lib.hid (blk_below B4_1.out hb); have Cx_2 := Lib.hid (Kd.C_below HR.out HB_2.out); have k4_0_2 : W2.cell? ⟨g4, 0, none⟩ = some (.int .i64 0) := (blk_cell B4_2.out 0).trans rfl; have k4_1_2 : W2.cell? ⟨g4, 1, none⟩ = some (.int .i64 0) := (blk_cell B4_2.out 1).trans rfl; clear k4_0_1 k4_1_1; clear hb)
  | (go_at_call 53; ( refine (ContainsInts A c l _ Cx_2.out HC.out).mono ?_); rw [HF.out]; rintro e W3 ⟨rfl, hb⟩; have HB_3 := Lib.hid (below_step HB_2.out hb); have B4_3 := Lib.hid (blk_below B4_2.out hb); have Cx_3 := Lib.hid (Kd.C_below HR.out HB_3.out); have k4_0_3 : W3.cell? ⟨g4, 0, none⟩ = some (.int .i64 0) := (blk_cell B4_3.out 0).trans rfl; have k4_1_3 : W3.cell? ⟨g4, 1, none⟩ = some (.int .i64 0) := (blk_cell B4_3.out 1).trans rfl; clear k4_0_2 k4_1_2; clear hb)
  | (go_at_call 55; (with_reducible refine (roots_Root.calls lg k 13 r1 r2 0 _ HRT.out).mono ?_); rintro e W4 ⟨rfl, hb⟩; have HB_4 := Lib.hid (below_step HB_3.out hb); have B4_4 := Lib.hid (blk_below B4_3.out hb); have Cx_4 := Lib.hid (Kd.C_below HR.out HB_4.out); have k4_0_4 : W4.cell? ⟨g4, 0, none⟩ = some (.int .i64 0) := (blk_cell B4_4.out 0).trans rfl; have k4_1_4 : W4.cell? ⟨g4, 1, none⟩ = some (.int .i64 0) := (blk_cell B4_4.out 1).trans rfl; clear k4_0_3 k4_1_3; clear hb)
  | ((with_reducible refine gate_store (t := 38) (p := 4) rfl ?_); refine row_event rfl 38 _ _ rfl g4 #[.int .i64 r1, .int .i64 r2] rfl rfl 38 #[.int .i64 0, .int .i64 0] B4_4.out (size38 _ _) rfl (one38 _ _) ?_; intro W5 hq hoth hbel; have B4_5 := Lib.hid hq; have HB_5 := Lib.hid (hbel _ _ L4 HB_4.out); clear k4_0_4 k4_1_4; have k4_0_5 : W5.cell? ⟨g4, 0, none⟩ = some (.int .i64 r1) := (blk_cell B4_5.out 0).trans rfl; have k4_1_5 : W5.cell? ⟨g4, 1, none⟩ = some (.int .i64 r2) := (blk_cell B4_5.out 1).trans rfl; have Cx_5 := Lib.hid (Kd.C_below HR.out HB_5.out); clear hq hoth hbel))
 refine bodyPost_ret (results_ct rfl _ _ g4 38 #[.int .i64 r1, .int .i64 r2] (0, 0) _ rfl B4_5.out Tryz.underlying38 rfl (size38 _ _)) rfl ?_
 exact ⟨rfl, HB_5.out⟩
set_option maxRecDepth 100000 in
set_option maxHeartbeats 4000000 in
theorem look_size (A : Option Addr) (c : Nat) (l : List Int) (k lg r1 r2 : Int) (kl : Nat) (hlog : flip_Log.f kl l.length = some (lg, r1)) (hne : (r1 != 0) = true) (w : World) (hr : Kd.C (Kd.int .i64) w A l.length l) (hc : l.length ≤ c) :
  Calls Tryz.prog 25 #[.slice A l.length c, .int .i64 k] w fun e w' => e = .returned (.tuple #[.agg #[.int .i64 0, .int .i64 0], .int .i64 r1]) ∧ Below w.heap.size w w' := by
 have HR := Lib.hid hr
 have HC := Lib.hid hc
 have HLOG := Lib.hid hlog
 have HB0 := Lib.hid (Below.refl w.heap.size w)
 clear hr hc hlog
 go_enter Tryz.func25, Tryz.ntmps25
 go_wp2_with (first
  | ((with_reducible refine gate_dst (N := 4) rfl ?_); refine box_event ?hg (N := 4) ?hd (cs := #[.int .i64 0, .int .i64 0]) (t := 38) ?hr ?_; (case hd => rfl); (case hg => rfl); (case hr => first | (go_simp; done) | (go_simp; rfl)); intro g4 hg W1 hbox hbl; have L4 : w.heap.size ≤ g4 := (by rw [hg]; exact below_size HB0.out); have B4_1 := Lib.hid hbox; have HB_1 := Lib.hid (below_step HB0.out hbl); have Cx_1 := Lib.hid (Kd.C_below HR.out HB_1.out); have k4_0_1 : W1.cell? ⟨g4, 0, none⟩ = some (.int .i64 0) := (blk_cell B4_1.out 0).trans rfl; have k4_1_1 : W1.cell? ⟨g4, 1, none⟩ = some (.int .i64 0) := (blk_cell B4_1.out 1).trans rfl; clear hbox hbl hg)
  | (go_at_call 40; (with_reducible refine (flip_Log.calls kl l.length lg r1 _ HLOG.out).mono ?_); rintro e W2 ⟨rfl, hd⟩; have hb := hd.below; clear hd; have HB_2 := Lib.hid (below_step HB_1.out hb); have B4_2 := Lib.hid (blk_below B4_1.out hb); have Cx_2 := Lib.hid (Kd.C_below HR.out HB_2.out); have k4_0_2 : W2.cell? ⟨g4, 0, none⟩ = some (.int .i64 0) := (blk_cell B4_2.out 0).trans rfl; have k4_1_2 : W2.cell? ⟨g4, 1, none⟩ = some (.int .i64 0) := (blk_cell B4_2.out 1).trans rfl; clear k4_0_1 k4_1_1; clear hb)
  | ((with_reducible refine gate_store (t := 38) (p := 4) rfl ?_); refine row_event rfl 38 _ _ rfl g4 #[.int .i64 0, .int .i64 0] rfl rfl 38 #[.int .i64 0, .int .i64 0] B4_2.out (size38 _ _) rfl (one38 _ _) ?_; intro W3 hq hoth hbel; have B4_3 := Lib.hid hq; have HB_3 := Lib.hid (hbel _ _ L4 HB_2.out); clear k4_0_2 k4_1_2; have k4_0_3 : W3.cell? ⟨g4, 0, none⟩ = some (.int .i64 0) := (blk_cell B4_3.out 0).trans rfl; have k4_1_3 : W3.cell? ⟨g4, 1, none⟩ = some (.int .i64 0) := (blk_cell B4_3.out 1).trans rfl; have Cx_3 := Lib.hid (Kd.C_below HR.out HB_3.out); clear hq hoth hbel))
 refine bodyPost_ret (results_ct rfl _ _ g4 38 #[.int .i64 0, .int .i64 0] (0, 0) _ rfl B4_3.out Tryz.underlying38 rfl (size38 _ _)) rfl ?_
 exact ⟨rfl, HB_3.out⟩
set_option maxRecDepth 100000 in
set_option maxHeartbeats 4000000 in
theorem look_far (A : Option Addr) (c : Nat) (l : List Int) (k lg r1 r2 : Int) (kl : Nat) (hlog : flip_Log.f kl l.length = some (lg, 0)) (hf : l.any farInt = true) (w : World) (hr : Kd.C (Kd.int .i64) w A l.length l) (hc : l.length ≤ c) :
  Calls Tryz.prog 25 #[.slice A l.length c, .int .i64 k] w fun e w' => e = .returned (.tuple #[.agg #[.int .i64 0, .int .i64 0], .int .i64 2]) ∧ Below w.heap.size w w' := by
 have HR := Lib.hid hr
 have HC := Lib.hid hc
 have HLOG := Lib.hid hlog
 have HF := Lib.hid hf
 have HB0 := Lib.hid (Below.refl w.heap.size w)
 clear hr hc hlog hf
 go_enter Tryz.func25, Tryz.ntmps25
 go_wp2_with (first
  | ((with_reducible refine gate_dst (N := 4) rfl ?_); refine box_event ?hg (N := 4) ?hd (cs := #[.int .i64 0, .int .i64 0]) (t := 38) ?hr ?_; (case hd => rfl); (case hg => rfl); (case hr => first | (go_simp; done) | (go_simp; rfl)); intro g4 hg W1 hbox hbl; have L4 : w.heap.size ≤ g4 := (by rw [hg]; exact below_size HB0.out); have B4_1 := Lib.hid hbox; have HB_1 := Lib.hid (below_step HB0.out hbl); have Cx_1 := Lib.hid (Kd.C_below HR.out HB_1.out); have k4_0_1 : W1.cell? ⟨g4, 0, none⟩ = some (.int .i64 0) := (blk_cell B4_1.out 0).trans rfl; have k4_1_1 : W1.cell? ⟨g4, 1, none⟩ = some (.int .i64 0) := (blk_cell B4_1.out 1).trans rfl; clear hbox hbl hg)
  | (go_at_call 40; (with_reducible refine (flip_Log.calls kl l.length lg 0 _ HLOG.out).mono ?_); rintro e W2 ⟨rfl, hd⟩; have hb := hd.below; clear hd; have HB_2 := Lib.hid (below_step HB_1.out hb); have B4_2 := Lib.hid (blk_below B4_1.out hb); have Cx_2 := Lib.hid (Kd.C_below HR.out HB_2.out); have k4_0_2 : W2.cell? ⟨g4, 0, none⟩ = some (.int .i64 0) := (blk_cell B4_2.out 0).trans rfl; have k4_1_2 : W2.cell? ⟨g4, 1, none⟩ = some (.int .i64 0) := (blk_cell B4_2.out 1).trans rfl; clear k4_0_1 k4_1_1; clear hb)
  | (go_at_call 53; ( refine (ContainsInts A c l _ Cx_2.out HC.out).mono ?_); rw [HF.out]; rintro e W3 ⟨rfl, hb⟩; have HB_3 := Lib.hid (below_step HB_2.out hb); have B4_3 := Lib.hid (blk_below B4_2.out hb); have Cx_3 := Lib.hid (Kd.C_below HR.out HB_3.out); have k4_0_3 : W3.cell? ⟨g4, 0, none⟩ = some (.int .i64 0) := (blk_cell B4_3.out 0).trans rfl; have k4_1_3 : W3.cell? ⟨g4, 1, none⟩ = some (.int .i64 0) := (blk_cell B4_3.out 1).trans rfl; clear k4_0_2 k4_1_2; clear hb)
  | ((with_reducible refine gate_store (t := 38) (p := 4) rfl ?_); refine row_event rfl 38 _ _ rfl g4 #[.int .i64 0, .int .i64 0] rfl rfl 38 #[.int .i64 0, .int .i64 0] B4_3.out (size38 _ _) rfl (one38 _ _) ?_; intro W4 hq hoth hbel; have B4_4 := Lib.hid hq; have HB_4 := Lib.hid (hbel _ _ L4 HB_3.out); clear k4_0_3 k4_1_3; have k4_0_4 : W4.cell? ⟨g4, 0, none⟩ = some (.int .i64 0) := (blk_cell B4_4.out 0).trans rfl; have k4_1_4 : W4.cell? ⟨g4, 1, none⟩ = some (.int .i64 0) := (blk_cell B4_4.out 1).trans rfl; have Cx_4 := Lib.hid (Kd.C_below HR.out HB_4.out); clear hq hoth hbel))
 refine bodyPost_ret (results_ct rfl _ _ g4 38 #[.int .i64 0, .int .i64 0] (0, 0) _ rfl B4_4.out Tryz.underlying38 rfl (size38 _ _)) rfl ?_
 exact ⟨rfl, HB_4.out⟩
set_option maxRecDepth 100000 in
set_option maxHeartbeats 4000000 in
theorem states_any (A : Option Addr) (n c : Nat) (a : Int) (w : World) :
  Calls Tryz.prog 26 #[.slice A n c, .int .i64 a] w fun e w' => ∃ g1 g2, e = .returned (.func (.func 56) #[] #[.pointer (some ⟨g1, 0, none⟩), .pointer (some ⟨g2, 0, none⟩)]) ∧ w'.heap[g1]? = some (.cells #[.slice A n c] 26 (0, 0)) ∧ w'.heap[g2]? = some (.cells #[.int .i64 a] 3 (0, 0)) ∧ w.heap.size ≤ g1 ∧ w.heap.size ≤ g2 ∧ Below w.heap.size w w' := by
 go_enter Tryz.func26, Tryz.ntmps26
 go_wp2_with (first
  | ((with_reducible refine gate_dst (N := 2) rfl ?_); refine box_event ?hg (N := 2) ?hd (cs := #[.slice A n c]) (t := 26) ?hr ?_; (case hd => rfl); (case hg => rfl); (case hr => first | (go_simp; done) | (go_simp; rfl)); intro g2 hg W2 hbox hbl; have L2 : w.heap.size ≤ g2 := (by rw [hg]; exact Nat.le_refl _); have B2 := Lib.hid hbox; have HB2 := Lib.hid hbl; clear hbox hbl hg)
  | ((with_reducible refine gate_dst (N := 3) rfl ?_); refine box_event ?hg (N := 3) ?hd (cs := #[.int .i64 a]) (t := 3) ?hr ?_; (case hd => rfl); (case hg => rfl); (case hr => first | (go_simp; done) | (go_simp; rfl)); intro g3 hg W3 hbox hbl; have L3 : w.heap.size ≤ g3 := (by rw [hg]; exact below_size HB2.out); have B3 := Lib.hid hbox; have B23 := Lib.hid (blk_below B2.out hbl); have HB3 := Lib.hid (below_step HB2.out hbl); clear hbox hbl hg))
 go_ret
 exact ⟨g2, g3, rfl, B23.out, B3.out, L2, L3, HB3.out⟩
end Go.Proofs.YteieahbadclppaaGreat.P

namespace Go.Proofs.YteieahbadclppaaGreat.P
open Go.RowKit Go.Shelf Go.Proofs.YteieahbadclppaaGreatW.PrintWords Go.Proofs.YteieahbadclppaaGreatW.PrintLast Go.Proofs.YteieahbadclppaaGreatW.PrintMore
set_option linter.unusedVariables false
set_option linter.unusedSimpArgs false
attribute [local go_sem] Oper.semAt_some
set_option maxRecDepth 100000 in
set_option maxHeartbeats 4000000 in
theorem push_any (g : Nat) (a b n : Int) (w : World) (hg : w.heap[g]? = some (.cells #[.int .i64 a, .int .i64 b] 70 (0, 0))) :
  Calls Tryz.prog 27 #[.pointer (some ⟨g, 0, none⟩), .int .i64 n] w fun e w' => e = .returned (.tuple #[]) ∧ w'.heap[g]? = some (.cells #[.int .i64 n, .int .i64 a] 70 (0, 0)) ∧ (∀ k, k ≠ g → w'.heap[k]? = w.heap[k]?) ∧ (∀ B w0, B ≤ g → Below B w0 w → Below B w0 w') := by
 have HG := Lib.hid hg
 have k0 := (blk_cell hg 0).trans rfl
 have k1 := (blk_cell hg 1).trans rfl
 clear hg
 go_enter Tryz.func27, Tryz.ntmps27
 go_wp2_with (first
  | ((with_reducible refine gate_store (t := 3) (p := 12) rfl ?_); refine cellj_event rfl rfl 3 _ _ rfl g 0 (.int .i64 n) rfl rfl 70 _ HG.out (show (0 : Nat) < 2 from by decide) size3 rfl rfl #[.int .i64 n, .int .i64 b] rfl ?_; intro W1 hq hoth hbel; have B1 := Lib.hid hq; have O1 := Lib.hid hoth; have P1 := Lib.hid hbel; clear hq hoth hbel)
  | ((with_reducible refine gate_store (t := 3) (p := 14) rfl ?_); refine cellj_event rfl rfl 3 _ _ rfl g 1 (.int .i64 a) rfl rfl 70 _ B1.out (show (1 : Nat) < 2 from by decide) size3 rfl rfl #[.int .i64 n, .int .i64 a] rfl ?_; intro W2 hq hoth hbel; have B2 := Lib.hid hq; have O2 := Lib.hid hoth; have P2 := Lib.hid hbel; clear hq hoth hbel))
 go_end0
 exact ⟨rfl, B2.out, fun k hk => (O2.out k hk).trans (O1.out k hk), fun B w0 hB hb => P2.out B w0 hB (P1.out B w0 hB hb)⟩
def partV (x : Int) : Int := shV x 13 1
theorem part_f (x : Int) : single_part.f x = some (partV x) := by
 unfold single_part.f round_Shift.f
 rw [if_neg (by omega)]
 rfl
def stS (c : Int) (t : Int × Int) (n : Int) : Int × Int := (wrap64 (wrap64 (n + partV (wrap64 (wrap64 (2 * c) * t.1))) - t.2), t.1)
def stAt (c : Int) (l : List Int) : Nat → Int × Int
 | 0 => (0, 0)
 | k + 1 => stS c (stAt c l k) (l.getD k 0)
def statesTo (c : Int) (l : List Int) : Nat → List Int
 | 0 => []
 | k + 1 => statesTo c l k ++ [(stAt c l (k + 1)).1]
theorem statesTo_len (c : Int) (l : List Int) : ∀ k, (statesTo c l k).length = k
 | 0 => rfl
 | k + 1 => by simp [statesTo, statesTo_len c l k]
def KeepG (G : Nat) (W W' : World) : Prop := W.heap.size ≤ W'.heap.size ∧ ∀ (k : Nat) (o : Obj), W.heap[k]? = some o → o.isCells = true → k ≠ G → W'.heap[k]? = some o
theorem keepG_t {G : Nat} {X Y Z : World} (h : KeepG G X Y) (k : KeepG G Y Z) : KeepG G X Z := ⟨Nat.le_trans h.1 k.1, fun q o h1 h2 h3 => k.2 q o (h.2 q o h1 h2 h3) h2 h3⟩
theorem keepG_blk {G g t : Nat} {cs : Array Value} {W W' : World} (h : KeepG G W W') (hb : W.heap[g]? = some (.cells cs t (0, 0))) (hne : g ≠ G) : W'.heap[g]? = some (.cells cs t (0, 0)) := h.2 g _ hb rfl hne
theorem cell_blk {W : World} {p : Addr} {v : Value} (h : W.cell? p = some v) : ∃ o, W.heap[p.block]? = some o ∧ o.isCells = true := by
 unfold World.cell? at h
 split at h
 ·exact ⟨_, by assumption, rfl⟩
 ·cases h
def RowAt (W : World) (ad : Addr) (o : Obj) (l : List Int) : Prop := W.heap[ad.block]? = some o ∧ o.isCells = true ∧ ∀ j : Nat, j < l.length → W.cell? (ad.add j) = some (.int .i64 (l.getD j 0))
theorem rowAt_of {W : World} {A : Option Addr} {l : List Int} (h : Kd.C (Kd.int .i64) W A l.length l) (h0 : 0 < l.length) : ∃ ad o, A = some ad ∧ RowAt W ad o l := by
 obtain ⟨ad, rfl, q0⟩ := Kd.at_int h 0 (by omega) (by omega)
 obtain ⟨o, ho, hc⟩ := cell_blk q0
 rw [show (ad.add (Int.toNat 0)).block = ad.block from add_block _ _] at ho
 refine ⟨ad, o, rfl, ho, hc, fun j hj => ?_⟩
 obtain ⟨ad', e, q⟩ := Kd.at_int h (j : Int) (by omega) (by omega)
 cases e
 rw [Int.toNat_natCast] at q
 rw [q]
 unfold rd
 rw [Int.toNat_natCast]
theorem rowAt_keep {G : Nat} {W W' : World} {ad : Addr} {o : Obj} {l : List Int} (h : RowAt W ad o l) (hk : KeepG G W W') (hne : ad.block ≠ G) : RowAt W' ad o l := by
 have e := hk.2 _ _ h.1 h.2.1 hne
 refine ⟨e, h.2.1, fun j hj => ?_⟩
 rw [← h.2.2 j hj]
 exact World.cell?_of_block (by rw [add_block, e, h.1])
theorem rowAt_below {W W' : World} {ad : Addr} {o : Obj} {l : List Int} (h : RowAt W ad o l) (hb : Below W.heap.size W W') : RowAt W' ad o l := by
 have e := (hb.block _ (blk_lt h.1)).trans h.1
 refine ⟨e, h.2.1, fun j hj => ?_⟩
 rw [← h.2.2 j hj]
 exact World.cell?_of_block (by rw [add_block, e, h.1])
theorem rowAt_oth {W W' : World} {g : Nat} {ad : Addr} {o : Obj} {l : List Int} (h : RowAt W ad o l) (hw : ∀ k, k ≠ g → W'.heap[k]? = W.heap[k]?) (hne : ad.block ≠ g) : RowAt W' ad o l := by
 have e := (hw _ hne).trans h.1
 refine ⟨e, h.2.1, fun j hj => ?_⟩
 rw [← h.2.2 j hj]
 exact World.cell?_of_block (by rw [add_block, e, h.1])

def AbidesC {β : Type} (B : Nat) (J : β → World → Prop) : Prop := ∀ s W W' row, J s W → W.grownBy W' row → (∀ r, row = some r → B ≤ r ∧ ∃ o : Obj, W.heap[r]? = some o ∧ o.isCells = true) → J s W'
def SeqC {α : Type} (F : Fence) (n : Nat) (P : Program) (g : Nat) (lb : Array Value) (encs : α → Array Value) (Kp : World → World → Prop) (xs : List α) (w : World) : Prop :=
 ∀ (l : Nat) (J : List α → World → Prop) (W : World), Below w.heap.size w W → AbidesC W.heap.size J →
  (∀ pre x W1, J pre W1 → pre.length < xs.length → YieldAt F (n - 1) P l (encs x) W1 fun e W' => e = .returned (.bool true) ∧ J (pre ++ [x]) W' ∧ Kp W1 W') →
  J [] W → CallsIn F n P g (#[.func (.yield l) #[] #[]] ++ lb) W fun e W' => (∃ v, e = .returned v) ∧ J xs W'
theorem rangeFunc_cells {α : Type} {F : Fence} {n : Nat} {P : Program} {g : Operand} {ps : Array Tmp} {assign body : Code} {Q : Exit → Act → World → Prop} {a : Act} {w w0 : World}
  (hro : F.round = none) (h1 : 1 ≤ n) {gf : Nat} {lb : Array Value} (hg : a.eval g = .func (.func gf) #[] lb) (hFg : F.fn gf) (eg : ∀ args w, (callFunc gf args).run P w = .ok (.enter gf args) w)
  {encs : α → Array Value} {Kp : World → World → Prop} {xs : List α} (hseq : SeqC F (n - 1) P gf lb encs Kp xs w0) (hb0 : Below w0.heap.size w0 w)
  (hKt : ∀ {A B C : World}, Kp A B → Kp B C → Kp A C) (hKb : ∀ (W : World) (l : Nat) (o o' : Obj), W.heap[l]? = some o → o.isCells = false → Kp W (W.putObj l o')) (hps : ∀ x, (encs x).size = ps.size)
  (I : List α → World → Prop) (hI : ∀ s W W' row, I s W → W.grownBy W' row → (∀ r, row = some r → w.heap.size ≤ r) → I s W') (h0 : I [] w) (a1 : α → Act)
  (hassign : ∀ (l : Nat) (x : α) (W : World) (K : Act → World → Prop), K (a1 x) W → assign.wpIn (F.inRound l) (n - 1 - 1) P (Exit.then K (fun _ _ _ => False)) { tmps := (ps.zip (encs x)).foldl (fun t (p, v) => t.setIfInBounds p v) a.tmps, defers := [] } W)
  (hbody : ∀ (l : Nat) (pre : List α) (x : α) (W : World), I pre W → body.wpIn (F.inRound l) (n - 1 - 1) P (fun e _ W' => e = .normal ∧ KeepsOthers W W' ∧ Kp W W' ∧ I (pre ++ [x]) W') (a1 x) W)
  (hdone : ∀ (D : Nat) (W : World), w.heap.size ≤ D → I xs W → W.heap[D]? = some (.deferred (some [])) → Q .normal { a with defers := { target := .collected D, args := #[] } :: a.defers } W) :
  (Code.rangeFunc g ps assign body).wpIn F n P Q a w := by
 refine wpIn_rangeFunc fun fn hfn => ?_
 rw [hro]
 let rec_ : LoopState → Loop := fun st => { state := st, pending := none, fn, tmps := a.tmps, params := ps, assign, body, defers := w.heap.size }
 have hnew : ∀ (W : World) (o : Obj), (W.alloc o).heap[W.heap.size]? = some o := fun W o => World.alloc_heap_new W o
 generalize hV : (w.alloc (.deferred (some []))).alloc (.loop (rec_ .ready)) = V
 have hsz : (w.alloc (.deferred (some []))).heap.size = w.heap.size + 1 := World.size_alloc _ _
 have hD : V.heap[w.heap.size]? = some (.deferred (some [])) := by
  rw [← hV]; exact (Below.heap_alloc _ _ _ (by omega)).trans (hnew _ _)
 have hL : V.heap[w.heap.size + 1]? = some (.loop (rec_ .ready)) := by
  rw [← hV, ← hsz]; exact hnew _ _
 have hVs : V.heap.size = w.heap.size + 2 := by rw [← hV, World.size_alloc, hsz]
 have hIV : I [] V := by
  rw [← hV]
  exact hI _ _ _ none (hI _ _ _ none h0 (World.grownBy_alloc w _ none) (fun r e => by cases e)) (World.grownBy_alloc _ _ none) (fun r e => by cases e)
 have hbV : Below w0.heap.size w0 V := by
  rw [← hV]
  exact (hb0.alloc hb0.size _).alloc (Nat.le_trans hb0.size (by omega)) _
 refine ⟨w.heap.size + 1, [{ target := .collected w.heap.size, args := #[] }], V, { target := .fn (.func gf) lb, args := #[.func (.yield (w.heap.size + 1)) #[] #[]] }, V, gf, #[.func (.yield (w.heap.size + 1)) #[] #[]] ++ lb, V, ?_, ?_, ?_, ?_, fun _ => h1, ?_⟩
 ·rw [← hV]; exact run_enterLoop_outer _ _ _ _ _
 ·simp only [resolve, hg]
  simp [go_sem]
 ·intro f' hf'
  simp [Target.leads] at hf'
  subst hf'
  exact hFg
 ·simp [invoke, go_sem, eg]
 have keep : ∀ {A B : World} {row : Option Nat} {k : Nat} {o : Obj}, A.heap[k]? = some o → o.isCells = false → A.grownBy B row → (∀ r, row = some r → V.heap.size ≤ r ∧ ∃ o : Obj, A.heap[r]? = some o ∧ o.isCells = true) → B.heap[k]? = some o := by
  intro A B row k o hk hc hgr hr
  refine (hgr.block k (blk_lt hk) (fun e => ?_)).trans hk
  obtain ⟨_, q, hq, hqc⟩ := hr k e.symm
  rw [hk] at hq; cases hq; rw [hc] at hqc; cases hqc
 have put : ∀ (pre : List α) (W : World) (st : LoopState) (o : Obj), I pre W → W.heap[w.heap.size + 1]? = some o → I pre (W.putObj (w.heap.size + 1) (.loop (rec_ st))) := fun pre W st o hi ho =>
  hI _ _ _ _ hi (grownBy_putObj' W (w.heap.size + 1) _) (fun r e => by cases e; omega)
 refine (hseq (w.heap.size + 1) (fun pre W => I pre W ∧ W.heap[w.heap.size + 1]? = some (.loop (rec_ .ready)) ∧ W.heap[w.heap.size]? = some (.deferred (some []))) V hbV ?_ ?_ ⟨hIV, hL, hD⟩).mono ?_
 ·rintro s A B row ⟨q1, q2, q3⟩ hgr hr
  exact ⟨hI _ _ _ _ q1 hgr (fun r e => by have := (hr r e).1; omega), keep q2 rfl hgr hr, keep q3 rfl hgr hr⟩
 ·rintro pre x W ⟨q1, q2, q3⟩ _
  have hlt := blk_lt q2
  refine ⟨fn, _, assign, body, run_yield (P := P) (args := encs x) q2 (hps x), roundIn_of_wpIn hfn (hassign _ x W _ ⟨_, run_beginRound q2 rfl, ?_⟩)⟩
  have b2 : (W.putObj (w.heap.size + 1) (.loop (rec_ .busy))).heap[w.heap.size + 1]? = some (.loop (rec_ .busy)) := World.putObj_heap_same hlt
  have b3 : (W.putObj (w.heap.size + 1) (.loop (rec_ .busy))).heap[w.heap.size]? = some (.deferred (some [])) := (World.putObj_heap_other (by omega)).trans q3
  refine wpIn_mono (hbody _ pre x _ (put pre W .busy _ q1 q2)) ?_
  rintro e a3 W3 ⟨rfl, k3, kp3, i3⟩
  have c2 := k3.same _ _ b2 rfl
  have c3 := k3.same _ _ b3 rfl
  have hlt3 := blk_lt c2
  refine ⟨_, _, run_endRound (P := P) none c2, rfl, ⟨put _ W3 .ready _ i3 c2, World.putObj_heap_same hlt3, (World.putObj_heap_other (by omega)).trans c3⟩, ?_⟩
  exact hKt (hKt (hKb W _ _ _ q2 rfl) kp3) (hKb W3 _ _ _ c2 rfl)
 ·rintro e W2 ⟨⟨v, rfl⟩, q1, q2, q3⟩
  exact ⟨none, _, run_endLoop (P := P) q2 (by simp [rec_]), hdone _ _ (Nat.le_refl _) (hI _ _ _ _ q1 (grownBy_putObj' W2 (w.heap.size + 1) _) (fun r e => by cases e; omega)) ((World.putObj_heap_other (by omega)).trans q3)⟩
end Go.Proofs.YteieahbadclppaaGreat.P

namespace Go.Proofs.YteieahbadclppaaGreat.P
open Go.RowKit Go.Shelf Go.Proofs.YteieahbadclppaaGreatW.PrintWords Go.Proofs.YteieahbadclppaaGreatW.PrintLast Go.Proofs.YteieahbadclppaaGreatW.PrintMore
set_option linter.unusedVariables false
set_option linter.unusedSimpArgs false
attribute [local go_sem] Oper.semAt_some
theorem grown_of_oth {W W' : World} {g : Nat} (hg : g < W.heap.size) (hoth : ∀ k, k ≠ g → W'.heap[k]? = W.heap[k]?) (hbel : ∀ B w0, B ≤ g → Below B w0 W → Below B w0 W') : W.grownBy W' (some g) := by
 have h := hbel 0 W (Nat.zero_le _) (Below.refl _ _)
 exact ⟨h.os, h.tape, h.output, h.size, fun k hk hne => hoth k (fun e => hne (by rw [e]))⟩
set_option maxRecDepth 100000 in
set_option maxHeartbeats 4000000 in
theorem states1_in (n : Nat) (hn : 1 ≤ n) (lY B1 B2 G : Nat) (ad : Addr) (o : Obj) (cc : Nat) (l : List Int) (c : Int) (hl : l.length ≤ 1000) (J : List Int → World → Prop)
  (W : World) (hJ : AbidesC W.heap.size J)
  (hY : ∀ pre x W1, J pre W1 → pre.length < l.length → YieldAt Fence.wide (n - 1) Tryz.prog lY #[.int .i64 x] W1 fun e W' => e = .returned (.bool true) ∧ J (pre ++ [x]) W' ∧ KeepG G W1 W')
  (hG : G < W.heap.size) (hne1 : B1 ≠ G) (hne2 : B2 ≠ G) (hne3 : ad.block ≠ G) (hb1 : W.heap[B1]? = some (.cells #[.slice (some ad) l.length cc] 26 (0, 0))) (hb2 : W.heap[B2]? = some (.cells #[.int .i64 c] 3 (0, 0))) (hR : RowAt W ad o l) (h0 : J [] W) :
  CallsIn Fence.wide n Tryz.prog 56 #[.func (.yield lY) #[] #[], .pointer (some ⟨B1, 0, none⟩), .pointer (some ⟨B2, 0, none⟩)] W fun e W' => (∃ v, e = .returned v) ∧ J (statesTo c l l.length) W' := by
 have hmx : Tryz.prog.follows .mixedOrders = true := by kernel_rfl
 have HJa := Lib.hid hJ
 have HNEG := Lib.hid hG
 have hW0 := blk_new W (.cells #[.int .i64 0, .int .i64 0] 70 (0, 0))
 have hbW : Below W.heap.size W (W.alloc (.cells #[.int .i64 0, .int .i64 0] 70 (0, 0))) := (Below.refl _ _).alloc (Nat.le_refl _) _
 have hJ1 : J [] (W.alloc (.cells #[.int .i64 0, .int .i64 0] 70 (0, 0))) := hJ _ _ _ none h0 (World.grownBy_alloc W _ none) (fun r e => by cases e)
 refine callsIn_of_wp Tryz.func56 rfl trivial ?_ rfl
 simp only [Tryz.ntmps56, List.size_toArray, List.length_cons, List.length_nil, Nat.reduceAdd, Nat.reduceSub, Array.replicate_succ, Array.replicate_zero, List.push_toArray, List.append_toArray, List.nil_append, List.cons_append]
 have q1 : W.cell? ⟨B1, 0, none⟩ = some (.slice (some ad) l.length cc) := (blk_cell hb1 0).trans rfl
 have q1' : (W.alloc (.cells #[.int .i64 0, .int .i64 0] 70 (0, 0))).cell? ⟨B1, 0, none⟩ = some (.slice (some ad) l.length cc) := (blk_cell (blk_below hb1 hbW) 0).trans rfl
 have A4 := Lib.hid hW0
 have A1 := Lib.hid (blk_below hb1 hbW)
 have A2 := Lib.hid (blk_below hb2 hbW)
 have AR := Lib.hid (rowAt_below hR hbW)
 have AJ := Lib.hid hJ1
 have HY := Lib.hid hY
 have HAD := Lib.hid (blk_lt hR.1)
 have AS : W.heap.size ≤ (W.alloc (.cells #[.int .i64 0, .int .i64 0] 70 (0, 0))).heap.size := by simp
 clear hW0 hJ1 hbW hJ hY h0 q1 hb1 hb2 hR
 gi_wp2
 generalize hW1 : W.alloc (.cells #[.int .i64 0, .int .i64 0] 70 (0, 0)) = V at *
 clear hW1 q1'
 generalize W.heap.size = g4 at *
 gi_loopw [9] (fun v9 wr => ∃ k : Nat, k ≤ l.length ∧ v9 = .int .i64 k ∧ wr.heap[g4]? = some (.cells #[.int .i64 (stAt c l k).1, .int .i64 (stAt c l k).2] 70 (0, 0)) ∧ wr.heap[B1]? = some (.cells #[.slice (some ad) l.length cc] 26 (0, 0)) ∧ wr.heap[B2]? = some (.cells #[.int .i64 c] 3 (0, 0)) ∧ RowAt wr ad o l ∧ J (statesTo c l k) wr) (fun v9 _ => l.length - (intOf v9).toNat)
 case atStart => exact ⟨0, by omega, rfl, A4.out, A1.out, A2.out, AR.out, AJ.out⟩
 case round =>
  obtain ⟨k, hk, rfl, e4, e1, e2, er, ej⟩ := hrel
  have E4 := Lib.hid e4
  have E1 := Lib.hid e1
  have E2 := Lib.hid e2
  have ER := Lib.hid er
  have EJ := Lib.hid ej
  clear e4 e1 e2 er ej A4 A1 A2 AR AJ
  by_cases hlt : k < l.length
  ·have hx := ER.out.2.2 k hlt
   have k2 := (blk_cell E2.out 0).trans rfl
   have k40 := (blk_cell E4.out 0).trans rfl
   have k41 := (blk_cell E4.out 1).trans rfl
   have hst : (stAt c l (k + 1)) = stS c (stAt c l k) (l.getD k 0) := rfl
   have HS := Lib.hid hst
   have HT := Lib.hid (show statesTo c l (k + 1) = statesTo c l k ++ [(stAt c l (k + 1)).1] from rfl)
   have HLT := Lib.hid (show (statesTo c l k).length < l.length by rw [statesTo_len]; exact hlt)
   have HN14 := Lib.hid (show B1 ≠ g4 from fun e => by have h1 := E1.out; rw [e, E4.out] at h1; simp at h1)
   have HN24 := Lib.hid (show B2 ≠ g4 from fun e => by have h1 := E2.out; rw [e, E4.out] at h1; simp at h1)
   have HNG := Lib.hid (show g4 ≠ G from fun e => by have := HNEG.out; omega)
   clear hst
   generalize l.getD k 0 = x at *
   generalize hq0 : (stAt c l k).1 = t0 at *
   generalize hq1 : (stAt c l k).2 = t1 at *
   have HQ0 := Lib.hid hq0
   have HQ1 := Lib.hid hq1
   clear hq0 hq1
   gi_wp2
   refine wpIn_wide.2 ?_
   refine start_ (S := fun w' => Below wr.heap.size wr w') (ds := [11]) (fl 12 0) hmx rfl rfl (Below.refl _ _).drew (fun hHeld => ?_)
   refine pure_ (i := 0) (N := some 13) (v := ?_) (a' := ?_) (fl 12 1) rfl rfl (by kernel_rfl) (fun _ _ _ h => h) (Or.inl ⟨by rfl, ?_⟩) ?_ ?_
   rotate_left
   ·intro w'
    go_simp
    with_reducible rfl
   rotate_left
   ·simp only [Act.put, List.setIfInBounds_toArray, List.set_cons_zero, List.set_cons_succ, i64_w, i32_w]
    rfl
   refine pure_ (i := 3) (N := some 16) (v := ?_) (a' := ?_) (fl 12 9) rfl rfl (by kernel_rfl) (fun _ _ _ h => h) (Or.inl ⟨by rfl, ?_⟩) ?_ ?_
   rotate_left
   ·intro w'
    go_simp
    with_reducible rfl
   rotate_left
   ·simp only [Act.put, List.setIfInBounds_toArray, List.set_cons_zero, List.set_cons_succ, i64_w, i32_w]
    rfl
   refine pure_ (i := 8) (N := some 21) (v := ?_) (a' := ?_) (fl 12 265) rfl rfl (by kernel_rfl) (fun _ _ _ h => h) (Or.inl ⟨by rfl, ?_⟩) ?_ ?_
   rotate_left
   ·intro w'
    go_simp
    with_reducible rfl
   rotate_left
   ·simp only [Act.put, List.setIfInBounds_toArray, List.set_cons_zero, List.set_cons_succ, i64_w, i32_w]
    rfl
   refine take_ (i := 1) (N := some 14) (v := ?_) (a' := ?_) (fl 12 267) rfl rfl (by kernel_rfl) (fun _ _ _ h => h) (Or.inl ⟨by rfl, ?_⟩) hHeld ?_ ?_
   rotate_left
   ·rintro w' hs
    have j_k2 := bg hs k2
    have j_k40 := bg hs k40
    have j_k41 := bg hs k41
    go_simp
    with_reducible rfl
   rotate_left
   ·simp only [Act.put, List.setIfInBounds_toArray, List.set_cons_zero, List.set_cons_succ, i64_w, i32_w]
    rfl
   refine pure_ (i := 2) (N := some 15) (v := ?_) (a' := ?_) (fl 12 271) rfl rfl (by kernel_rfl) (fun _ _ _ h => h) (Or.inl ⟨by rfl, ?_⟩) ?_ ?_
   rotate_left
   ·intro w'
    go_simp
    with_reducible rfl
   rotate_left
   ·simp only [Act.put, List.setIfInBounds_toArray, List.set_cons_zero, List.set_cons_succ, i64_w, i32_w]
    rfl
   refine take_ (i := 4) (N := some 17) (v := ?_) (a' := ?_) (fl 12 287) rfl rfl (by kernel_rfl) (fun _ _ _ h => h) (Or.inl ⟨by rfl, ?_⟩) hHeld ?_ ?_
   rotate_left
   ·rintro w' hs
    have j_k2 := bg hs k2
    have j_k40 := bg hs k40
    have j_k41 := bg hs k41
    go_simp
    with_reducible rfl
   rotate_left
   ·simp only [Act.put, List.setIfInBounds_toArray, List.set_cons_zero, List.set_cons_succ, i64_w, i32_w]
    rfl
   refine pure_ (i := 5) (N := some 18) (v := ?_) (a' := ?_) (fl 12 319) rfl rfl (by kernel_rfl) (fun _ _ _ h => h) (Or.inl ⟨by rfl, ?_⟩) ?_ ?_
   rotate_left
   ·intro w'
    go_simp
    with_reducible rfl
   rotate_left
   ·simp only [Act.put, List.setIfInBounds_toArray, List.set_cons_zero, List.set_cons_succ, i64_w, i32_w]
    rfl
   refine take_ (i := 9) (N := some 22) (v := ?_) (a' := ?_) (fl 12 831) rfl rfl (by kernel_rfl) (fun _ _ _ h => h) (Or.inl ⟨by rfl, ?_⟩) hHeld ?_ ?_
   rotate_left
   ·rintro w' hs
    have j_k2 := bg hs k2
    have j_k40 := bg hs k40
    have j_k41 := bg hs k41
    go_simp
    with_reducible rfl
   rotate_left
   ·simp only [Act.put, List.setIfInBounds_toArray, List.set_cons_zero, List.set_cons_succ, i64_w, i32_w]
    rfl
   refine one_ (i := 6) (N := some 19) (fl 12 895) rfl rfl (by kernel_rfl) (by decide) (fun K hK => ?_)
   refine goes_ Tryz.func28 (by kernel_rfl) rfl #[.int .i64 (wrap64 (wrap64 (2 * c) * t0))] (by rfl) rfl rfl (by go_simp) ?_
   refine (single_part.calls _ _ _ (part_f _)).mono ?_
   rintro e Wc ⟨rfl, hbl⟩
   refine ⟨_, rfl, ?_⟩
   refine hK.out _ _ (below_step hHeld hbl) (fun hHeld2 => ?_)
   clear hK K hHeld hbl
   have hHeld := hHeld2
   clear hHeld2
   refine norm_ (a' := ?_) ?_ ?_
   rotate_left
   ·show Act.put _ (some 19) _ = _
    simp only [Act.put, List.setIfInBounds_toArray, List.set_cons_zero, List.set_cons_succ, i64_w, i32_w]
    rfl
   refine pure_ (i := 7) (N := some 20) (v := ?_) (a' := ?_) (fl 12 1023) rfl rfl (by kernel_rfl) (fun _ _ _ h => h) (Or.inl ⟨by rfl, ?_⟩) ?_ ?_
   rotate_left
   ·intro w'
    go_simp
    with_reducible rfl
   rotate_left
   ·simp only [Act.put, List.setIfInBounds_toArray, List.set_cons_zero, List.set_cons_succ, i64_w, i32_w]
    rfl
   refine pure_ (i := 10) (N := some 23) (v := ?_) (a' := ?_) (fl 12 2047) rfl rfl (by kernel_rfl) (fun _ _ _ h => h) (Or.inl ⟨by rfl, ?_⟩) ?_ ?_
   rotate_left
   ·intro w'
    go_simp
    with_reducible rfl
   rotate_left
   ·simp only [Act.put, List.setIfInBounds_toArray, List.set_cons_zero, List.set_cons_succ, i64_w, i32_w]
    rfl
   refine last_ (i := 11) (N := some 24) (fl 12 4095) rfl rfl (by kernel_rfl) (by decide) (fun K hK => ?_)
   refine goes_ Tryz.func27 (by kernel_rfl) rfl #[.pointer (some ⟨g4, 0, none⟩), .int .i64 (wrap64 (wrap64 (x + partV (wrap64 (wrap64 (2 * c) * t0))) - t1))] (by rfl) rfl rfl (by go_simp) ?_
   refine (push_any g4 t0 t1 _ _ (blk_below E4.out hHeld)).mono ?_
   rintro e Wd ⟨rfl, hq, hoth, hbel⟩
   refine ⟨_, rfl, ?_⟩
   refine hK.out _ _ ?_
   have HX := Lib.hid hHeld
   have GR := Lib.hid (grown_of_oth (Nat.lt_of_lt_of_le (blk_lt E4.out) hHeld.size) hoth hbel)
   have E4d := Lib.hid hq
   have OT := Lib.hid hoth
   clear hK K hHeld hq hoth hbel
   refine norm_ (a' := ?_) ?_ ?_
   rotate_left
   ·show Act.put _ (some 24) _ = _
    simp only [Act.put, List.setIfInBounds_toArray, List.set_cons_zero, List.set_cons_succ, i64_w, i32_w]
    rfl
   refine done_ (by kernel_rfl) ?_
   show Exit.then _ _ _ _ _
   have F1 := Lib.hid ((OT.out B1 HN14.out).trans (blk_below E1.out HX.out))
   have F2 := Lib.hid ((OT.out B2 HN24.out).trans (blk_below E2.out HX.out))
   have FR := Lib.hid (rowAt_oth (rowAt_below ER.out HX.out) OT.out (fun e => by have := HAD.out; omega))
   have FJ := HJa.out _ _ _ (some g4) (HJa.out _ _ _ none EJ.out (grown_of_below HX.out none) (fun r e => by cases e)) GR.out (fun r e => by cases e; exact ⟨Nat.le_refl _, _, blk_below E4.out HX.out, rfl⟩)
   obtain ⟨s, hs⟩ : ∃ s, s = wrap64 (wrap64 (x + partV (wrap64 (wrap64 (2 * c) * t0))) - t1) := ⟨_, rfl⟩
   have hs1 : (stAt c l (k + 1)).1 = s := by rw [HS.out, hs]; unfold stS; rw [HQ0.out, HQ1.out]
   have hs2 : (stAt c l (k + 1)).2 = t0 := by rw [HS.out]; unfold stS; exact HQ0.out
   have HS1 := Lib.hid hs1
   have HS2 := Lib.hid hs2
   rw [← hs] at E4d ⊢
   have k44 := (blk_cell E4d.out 0).trans rfl
   obtain ⟨fn, tmps, assign, body, hy, hR⟩ := HY.out (statesTo c l k) s Wd FJ HLT.out
   clear hs hs1 hs2 FJ k2 k40 k41 hx
   gi_wp2
   refine hR.mono ?_
   rintro e W3 ⟨rfl, hJ3, hk3⟩
   have G4 := Lib.hid (keepG_blk hk3 E4d.out HNG.out)
   have G1 := Lib.hid (keepG_blk hk3 F1.out hne1)
   have G2 := Lib.hid (keepG_blk hk3 F2.out hne2)
   have GRW := Lib.hid (rowAt_keep FR.out hk3 hne3)
   have GJ := Lib.hid hJ3
   clear hR hy hJ3 hk3 k44
   gi_wp2
   go_roundw
   case rel => exact ⟨k + 1, by omega, by go_num, by rw [HS1.out, HS2.out]; exact G4.out, G1.out, G2.out, GRW.out, by rw [HT.out, HS1.out]; exact GJ.out⟩
   case measure => simp [intOf]; omega
  ·obtain rfl : k = l.length := by omega
   gi_wp2
   go_end0
   exact ⟨⟨_, rfl⟩, EJ.out⟩
end Go.Proofs.YteieahbadclppaaGreat.P

