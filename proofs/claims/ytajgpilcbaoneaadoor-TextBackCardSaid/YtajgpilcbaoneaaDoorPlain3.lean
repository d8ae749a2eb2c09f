/- The reference reads as the program does; what is read is of the table's words. -/
import Derived.Test.YtajgpilcbaoneaaDoorPlain2
namespace Go.Proofs.YtajgpilcbaoneaaDoor.P
open Go.RowKit Go.Proofs.YtajgpilcbaoneaaDoorW.PrintWords Go.Proofs.YtajgpilcbaoneaaDoorW.PrintLast Go.Proofs.YtajgpilcbaoneaaDoorW.PrintMore
set_option linter.unusedVariables false
set_option linter.unusedSimpArgs false
theorem pad_set (p : List Int) (i : Nat) (x : Int) (hp : p.length = i) (hi : i < 6) : (p ++ List.replicate (6 - i) 0).set i x = (p ++ [x]) ++ List.replicate (6 - (i + 1)) 0 := by
  subst hp
  rw [List.set_append_right _ _ (Nat.le_refl _), Nat.sub_self, show 6 - p.length = (6 - (p.length + 1)) + 1 by omega, List.replicate_succ, List.set_cons_zero, List.append_assoc]
  rfl
theorem ref_go (s : ByteArray) (ws : List ByteArray) (ats : List Int) (hn : ws.length ≤ 301) (hal : ats.length = ws.length) : ∀ (m i k : Nat) (p : List Int), i + m = ws.length → m + 10 ≤ k → i ≤ 6 → p.length = i →
    headroomref24_Parse.l0 k s p ws ws.length i ws ats = some (pl s.size (ws.drop i) (ats.drop i) i (p ++ List.replicate (6 - i) 0))
  | 0, i, k + 1, p, hm, hk, hi, hp => by
    rw [headroomref24_Parse.l0, if_neg (by omega), List.drop_of_length_le (by omega), pl]
    by_cases h6 : i < 6
    · rw [if_pos (by omega), if_pos h6]
      rfl
    · obtain rfl : i = 6 := by omega
      rw [if_neg (by omega), if_pos (by omega), if_pos (by omega), if_pos (by omega), if_pos (by omega), if_pos (by omega), if_pos (by omega), if_neg (by omega)]
      obtain ⟨k', rfl⟩ : ∃ k', k = k' + 1 := ⟨k - 1, by omega⟩
      rw [refcheck_ok, Option.bind_some, List.replicate_zero, List.append_nil]
      have hv := chk_val p
      have e : ∀ j : Nat, rd p (j : Int) = p.getD j 0 := fun j => by unfold rd; rw [Int.toNat_natCast]
      have e0 : rd p 0 = p.getD 0 0 := e 0
      have e1 : rd p 1 = p.getD 1 0 := e 1
      have e2 : rd p 2 = p.getD 2 0 := e 2
      have e3 : rd p 3 = p.getD 3 0 := e 3
      have e4 : rd p 4 = p.getD 4 0 := e 4
      have e5 : rd p 5 = p.getD 5 0 := e 5
      rw [e0, e1, e2, e3, e4, e5]
      unfold fin
      by_cases ho : okB (p.getD 0 0) (wrap64 (p.getD 1 0 + 2)) (p.getD 2 0) (p.getD 3 0) (p.getD 4 0) = true
      · rw [if_pos ho] at hv
        rw [ho, if_pos rfl, hv, if_pos rfl]
      · rw [if_neg ho] at hv
        rw [if_neg ho, hv, if_neg (by decide)]
        rfl
  | m + 1, i, k + 1, p, hm, hk, hi, hp => by
    rw [headroomref24_Parse.l0, if_pos (by omega), if_pos (by omega), if_pos (by omega), rdOf_drop ws i (by omega), rd_drop ats i (by omega), pl]
    by_cases h6 : i = 6
    · have hm6 : headroomref24_May.f i = some [] := by subst h6; rfl
      have hf : headroomref24_find.f k [] (rdOf ByteArray.empty ws i) = some (-1) := by
        obtain ⟨k', rfl⟩ : ∃ k', k = k' + 1 := ⟨k - 1, by omega⟩
        unfold headroomref24_find.f
        rw [headroomref24_find.l0]
        rfl
      rw [hm6, Option.bind_some, hf, Option.bind_some, if_pos (by decide), if_pos (by omega), if_pos h6]
      rfl
    · rw [may_ok i (by omega), Option.bind_some, find_ok i _ k (by omega) (by omega), Option.bind_some, if_neg h6]
      by_cases hneg : idx (row i) (rdOf ByteArray.empty ws i) < 0
      · rw [if_pos hneg, if_pos (by omega), if_pos hneg]
        rfl
      · rw [if_neg hneg, if_pos (by omega), if_neg hneg, w64 _ (by omega) (by omega), List.tail_cons, pad_set p i _ hp (by omega)]
        exact ref_go s ws ats hn hal m (i + 1) k (p ++ [idx (row i) (rdOf ByteArray.empty ws i)]) (by omega) (by omega) (by omega) (by simp; omega)
theorem ref_ok (s : ByteArray) (ws : List ByteArray) (ats : List Int) (hn : ws.length ≤ 301) (hal : ats.length = ws.length) (hV : headroomref24_Words.f 1000 s = some (ws, ats)) : headroomref24_Parse.f 1000 s = some (pl s.size ws ats 0 [0, 0, 0, 0, 0, 0]) := by
  unfold headroomref24_Parse.f
  rw [hV, Option.bind_some]
  exact ref_go s ws ats hn hal ws.length 0 1000 [] (by omega) (by omega) (by omega) rfl
/-- A place among words that tells the word. -/
theorem idxFrom_spec : ∀ (l : List ByteArray) (x : ByteArray) (i : Int), 0 ≤ i → idxFrom l x i < 0 ∨ (i ≤ idxFrom l x i ∧ idxFrom l x i < i + l.length ∧ l.getD (idxFrom l x i - i).toNat ByteArray.empty = x)
  | [], x, i, hi => Or.inl (by rw [idxFrom]; decide)
  | y :: l, x, i, hi => by
    rw [idxFrom]
    by_cases h : x.toList = y.toList
    · rw [if_pos h]
      refine Or.inr ⟨Int.le_refl _, by simp; omega, ?_⟩
      rw [Int.sub_self]
      show y = x
      have h' : x.data.toList = y.data.toList := by rw [← Lib.toList_data, ← Lib.toList_data]; exact h
      exact (WideShapes.bytes_inj h').symm
    · rw [if_neg h]
      rcases idxFrom_spec l x (i + 1) (by omega) with e | ⟨e1, e2, e3⟩
      · exact Or.inl e
      · refine Or.inr ⟨by omega, by rw [List.length_cons]; omega, ?_⟩
        rw [show (idxFrom l x (i + 1) - i).toNat = (idxFrom l x (i + 1) - (i + 1)).toNat + 1 by omega, List.getD_cons_succ]
        exact e3
theorem idx_spec (l : List ByteArray) (x : ByteArray) (h : ¬ idx l x < 0) : 0 ≤ idx l x ∧ idx l x < l.length ∧ l.getD (idx l x).toNat ByteArray.empty = x := by
  rcases idxFrom_spec l x 0 (by omega) with e | ⟨e1, e2, e3⟩
  · exact absurd e h
  · rw [Int.sub_zero, ← idx] at e3
    rw [← idx] at e1 e2
    exact ⟨e1, by omega, e3⟩
/-- What may come of a text: an error, at a place of it; or a plan, whose words are the table's. -/
theorem pl_spec (sz : Int) (hsz : 0 ≤ sz) (ws0 : List ByteArray) : ∀ (ws : List ByteArray) (ats : List Int) (k : Nat) (n : List Int), ats.length = ws.length → (∀ a ∈ ats, 0 ≤ a ∧ a ≤ sz) → k ≤ 6 → n.length = 6 → (∀ j, j < k → 0 ≤ n.getD j 0 ∧ n.getD j 0 < ((row j).length : Int)) → wordsTo n k ++ ws = ws0 →
    (∃ at_ e : Int, pl sz ws ats k n = noP at_ e ∧ e ≠ 0 ∧ 0 ≤ at_ ∧ at_ ≤ sz) ∨ (∃ n', n'.length = 6 ∧ pl sz ws ats k n = fin n' ∧ chk n' = 0 ∧ (∀ j, j < 6 → 0 ≤ n'.getD j 0 ∧ n'.getD j 0 < ((row j).length : Int)) ∧ wordsTo n' 6 = ws0)
  | [], ats, k, n, hal, hin, hk, hn, hr, hw => by
    rw [pl]
    by_cases h6 : k < 6
    · rw [if_pos h6]
      exact Or.inl ⟨sz, 7, rfl, by decide, hsz, Int.le_refl _⟩
    · rw [if_neg h6]
      obtain rfl : k = 6 := by omega
      by_cases hc : chk n = 0
      · exact Or.inr ⟨n, hn, rfl, hc, hr, by rw [List.append_nil] at hw; exact hw⟩
      · refine Or.inl ⟨0, chk n, ?_, hc, Int.le_refl _, hsz⟩
        unfold fin
        rw [if_neg hc]
  | x :: ws, [], k, n, hal, hin, hk, hn, hr, hw => by simp at hal
  | x :: ws, a :: ats, k, n, hal, hin, hk, hn, hr, hw => by
    rw [pl]
    have ha := hin a (by simp)
    by_cases h6 : k = 6
    · rw [if_pos h6]
      exact Or.inl ⟨a, 7, rfl, by decide, ha.1, ha.2⟩
    · rw [if_neg h6]
      by_cases hneg : idx (row k) x < 0
      · rw [if_pos hneg]
        exact Or.inl ⟨a, 7, rfl, by decide, ha.1, ha.2⟩
      · rw [if_neg hneg]
        obtain ⟨s1, s2, s3⟩ := idx_spec _ _ hneg
        have hget : ∀ j, (n.set k (idx (row k) x)).getD j 0 = if j = k then idx (row k) x else n.getD j 0 := by
          intro j
          rw [List.getD_eq_getElem?_getD, List.getD_eq_getElem?_getD, List.getElem?_set]
          by_cases e : j = k
          · subst e
            rw [if_pos rfl, if_pos rfl, if_pos (by omega)]
            rfl
          · rw [if_neg e, if_neg (fun e' => e e'.symm)]
        have hw1 : wordsTo (n.set k (idx (row k) x)) k = wordsTo n k := by
          unfold wordsTo
          refine List.map_congr_left fun j hj => ?_
          have := List.mem_range.1 hj
          rw [hget, if_neg (by omega)]
        refine pl_spec sz hsz ws0 ws ats (k + 1) _ (by simpa using hal) (fun b hb => hin b (List.mem_cons_of_mem _ hb)) (by omega) (by rw [List.length_set]; exact hn) (fun j hj => ?_) ?_
        · rw [hget]
          by_cases e : j = k
          · subst e
            rw [if_pos rfl]
            exact ⟨s1, s2⟩
          · rw [if_neg e]
            exact hr j (by omega)
        · have : wordsTo (n.set k (idx (row k) x)) (k + 1) = wordsTo n k ++ [x] := by
            have e : wordsTo (n.set k (idx (row k) x)) (k + 1) = wordsTo (n.set k (idx (row k) x)) k ++ [(tab.getD k []).getD ((n.set k (idx (row k) x)).getD k 0).toNat ByteArray.empty] := by
              unfold wordsTo
              rw [List.range_succ, List.map_append]
              rfl
            rw [e, hw1, hget, if_pos rfl]
            show wordsTo n k ++ [(row k).getD (idx (row k) x).toNat ByteArray.empty] = _
            rw [s3]
          rw [this, List.append_assoc]
          exact hw
end Go.Proofs.YtajgpilcbaoneaaDoor.P
