-- Written for this claim by drive.py (a program of this session's) through the kit's print program; not trusted: Lean checks it.
import Derived.Test.YtajgpilcbaoneaaP0
import Derived.Laws.CopyRow
namespace Go.Proofs.Ytajgpilcbaoneaa.P
open Go.RowKit Go.Proofs.YtajgpilcbaoneaaW.PrintWords Go.Proofs.YtajgpilcbaoneaaW.PrintLast Go.Proofs.YtajgpilcbaoneaaW.PrintMore
set_option linter.unusedVariables false
set_option linter.unusedSimpArgs false
section
variable {P : Program} {ops : Array Oper} {rest : List Oper} {o : Oper} {a : Act} {Q : Exit → Act → World → Prop} {α : Type}
theorem run_copy_rows (w : World) (dT sT ty elem : TypeId) (size g dLen dCap : Nat) (ad : Addr) (sLen sCap : Nat) (cur : Array Value) (t : TypeId) (cs : List Value)
    (hu : P.underlying dT = some (.slice elem)) (hs : (P.info? elem).map (·.size) = some size)
    (hg : w.heap[g]? = some (.cells cur t (0, 0))) (hn : cs.length = Nat.min sLen dLen * size)
    (hsrc : ∀ j v, cs[j]? = some v → w.cell? (ad.add j) = some v) (hfit : cs.length ≤ cur.size) (h1 : ∀ v ∈ cs, v.oneCell' = true) :
    (Builtin.copy_ #[dT, sT] ty #[.slice (some ⟨g, 0, none⟩) dLen dCap, .slice (some ad) sLen sCap]).run P w =
      .ok (goInt (Nat.min sLen dLen)) (w.setRow g (cur.toList.take 0 ++ cs ++ cur.toList.drop (0 + cs.length)).toArray) := by
  have hl := run_loadCells_list (P := P) w ad cs hsrc
  have hst := run_storeCells_at P g 0 t cs 0 cur w hg (by simpa using hfit) h1
  cases hq : P.info? elem with
  | none => simp [hq] at hs
  | some i =>
    have hi : i.size = size := by simpa [hq] using hs
    rw [hn] at hl
    have hst' : (storeCells ⟨g, 0, none⟩ cs).run P w = .ok () (w.setRow g (cs ++ cur.toList.drop cs.length).toArray) := by simpa using hst
    simp [Builtin.copy_, run_underlying hu, Builtin.lenOf, Builtin.firstCells, sizeOf, typeInfo, hq, hi, hl, hst']
/-- copy(v, ys), v a row of one's own, ys as long: it holds ys then. -/
theorem copy_rows (d : Kd α) {Rr : α → List Value → Prop} {w0 W : World} (base : Nat) (hgd : o.guard = none) (s x : Operand) (t e : TypeId) (z : Value) (bytes : Nat)
    (ho : o.op = .call { callee := .builtin .copy, args := #[s, x], argTypes := #[t, t] })
    (ht : P.underlying t = some (.slice e)) (hinfo : (P.info? e).map (fun i => (i.zero, i.size, i.bytes)) = some (some z, d.sz, bytes)) (hz : z.cells.size = d.sz) (hs0 : 0 < d.sz) (hb0 : 0 < bytes)
    (v : Value) (xs ys : List α) (A : Option Addr) (m c : Nat) (ok okp : Nat → Prop) (hs : a.eval s = v) (hx : a.eval x = .slice A m c)
    (HO : d.R e W base ok v xs) (HR : ReadsRow Rr d.sz W A m ys) (hKM : ∀ x cs, Rr x cs → d.M W base okp x cs) (hokp : ∀ k, okp k → ok k ∧ some k ≠ v.ownBlock) (hfresh : ∀ k, W.heap.size ≤ k → ok k)
    (HB : Below base w0 W) (hbase : base ≤ W.heap.size) (hl : xs.length = m)
    (h : ∀ w1, d.R e w1 base ok v ys → Below base w0 w1 → W.grownBy w1 v.ownBlock → (v.ownBlock = v.ownBlock ∨ ∃ b, v.ownBlock = some b ∧ W.heap.size ≤ b) → wpList P ops Q rest (a.put o.dst (.int .i64 ((m : Nat) : Int))) w1) :
    wpList P ops Q (o :: rest) a W := by
  obtain ⟨i0, hi, hzz⟩ := Option.map_eq_some_iff.1 hinfo
  simp only [Prod.mk.injEq] at hzz
  obtain ⟨hz0, hz1, hz2⟩ := hzz
  have hm : ys.length = m := HR.1
  obtain ⟨hok, inner, hown, hr⟩ := HO
  have hsz : (P.info? e).map (·.size) = some d.sz := by rw [hi]; simp [hz1]
  have fin : ∀ w1, (Builtin.copy_ #[t, t] o.type #[v, .slice A m c]).run P W = .ok (goInt ((m : Nat) : Int)) w1 → d.R e w1 base ok v ys → W.grownBy w1 v.ownBlock → wpList P ops Q (o :: rest) a W := by
    intro w1 hr hrow hg
    refine wpList_plain hgd fun K hK => ?_
    unfold Oper.wp execOp
    simp only [ho, resolve, invoke, builtin, Sem.run_bind, Sem.run_pure, Result.andThen_ok, List.map_toArray, List.map_cons, List.map_nil, hs, hx, hr]
    exact hK _ _ (h w1 hrow (HB.grown hg hbase (own_base hown)) hg (.inl rfl))
  rcases Nat.eq_zero_or_pos m with h0 | hp
  · subst h0
    obtain rfl : ys = [] := List.eq_nil_of_length_eq_zero hm
    obtain rfl : xs = [] := List.eq_nil_of_length_eq_zero hl
    refine fin W ?_ ⟨hok, inner, hown, hr⟩ (World.grownBy.refl W _)
    have hl0 : ∀ (x : Addr), (loadCells x 0).run P W = .ok #[] W := fun x => by simpa using run_loadCells_list (P := P) W x [] (by simp)
    obtain ⟨A', c', rfl⟩ := own_slice hown
    cases A' <;> cases A <;> simp [Builtin.copy_, run_underlying ht, sizeOf, typeInfo, hi, Builtin.lenOf, Builtin.firstCells, storeCells, hl0]
  · obtain ⟨ad, hA, _⟩ := HR.2.2 hp
    subst hA
    obtain ⟨news, hnr, hnc⟩ := ReadsRow.inner_ HR
    have hnM : Reps (d.M W base okp) d.sz ys news := hnr.imp_ (fun p c hp => hKM p c hp)
    have hone : ∀ u ∈ news, u.oneCell' = true := by
      intro u hu
      obtain ⟨q, hq, rfl⟩ := List.mem_iff_getElem.1 hu
      have hql : q / d.sz < ys.length := by
        rw [Nat.div_lt_iff_lt_mul hs0]
        rw [← hnM.1]
        exact hq
      have hc := hnM.2 (q / d.sz) _ (List.getElem?_eq_getElem hql)
      refine d.K_one (d.K_of_M hc) _ ?_
      rw [List.mem_iff_getElem?]
      refine ⟨q % d.sz, ?_⟩
      rw [List.getElem?_take, if_pos (Nat.mod_lt _ hs0), List.getElem?_drop, Nat.mul_comm, Nat.div_add_mod, List.getElem?_eq_getElem hq]
    have hnl : news.length = m * d.sz := by rw [hnM.1, hm]
    rcases hown.2 with ⟨_, hx0⟩ | ⟨g, cap, cur, rfl, hb, hh, hnc2, hcm, hcs, htake⟩
    · omega
    have hmin : Nat.min m xs.length = m := by rw [hl]; exact Nat.min_self m
    have hle : m * d.sz ≤ cap * d.sz := Nat.mul_le_mul_right _ (by omega)
    have hrun := run_copy_rows (P := P) W t t o.type e d.sz g xs.length cap ad m c cur e news ht hsz hh (by rw [hmin, hnl]) hnc (by rw [hcs, hnl]; exact hle) hone
    rw [hmin] at hrun
    refine fin _ hrun ⟨hok, news, ⟨by rw [hnl, hm], .inr ⟨g, cap, _, by rw [hm, hl], hb, setRow_heap W g cur _ e (0, 0) hh, by omega, hcm, ?_, ?_⟩⟩, hnM.imp_ (fun p c hp => d.M_mono (fun k hk => hokp k hk) (d.M_move (fun k hk => setRow_other W g k _ ?_) hp))⟩ ⟨rfl, rfl, rfl, by simp, fun k _ hk => setRow_other W g k _ ?_⟩
    · simp
      omega
    · simp [hm, hnl]
    · intro he
      have := (hokp k hk).2
      rw [he] at this
      exact this rfl
    · intro he
      subst he
      exact hk rfl
end
end Go.Proofs.Ytajgpilcbaoneaa.P
