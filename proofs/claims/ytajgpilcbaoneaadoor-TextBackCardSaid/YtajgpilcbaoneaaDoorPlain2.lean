/- What the reading and the printing of plans compute, in plain words. -/
import Derived.Test.YtajgpilcbaoneaaDoorPlain
namespace Go.Proofs.YtajgpilcbaoneaaDoor.P
open Go.RowKit Go.Proofs.YtajgpilcbaoneaaDoorW.PrintWords Go.Proofs.YtajgpilcbaoneaaDoorW.PrintLast Go.Proofs.YtajgpilcbaoneaaDoorW.PrintMore
set_option linter.unusedVariables false
set_option linter.unusedSimpArgs false
theorem rdOf_drop (l : List ByteArray) (i : Nat) (hi : i < l.length) : l.drop i = rdOf ByteArray.empty l i :: l.drop (i + 1) := by
  rw [List.drop_eq_getElem_cons hi]
  unfold rdOf
  rw [Int.toNat_natCast, List.getD_eq_getElem?_getD, List.getElem?_eq_getElem hi]
  rfl
theorem rd_drop (l : List Int) (i : Nat) (hi : i < l.length) : l.drop i = rd l i :: l.drop (i + 1) := by
  rw [List.drop_eq_getElem_cons hi]
  unfold rd
  rw [Int.toNat_natCast, List.getD_eq_getElem?_getD, List.getElem?_eq_getElem hi]
  rfl
theorem index_go (l : List ByteArray) (x : ByteArray) (hl : l.length ≤ 100) : ∀ (m i k : Nat), i + m = l.length → m < k → slices_Index_string_string.l0 k l x l.length i = some (idxFrom (l.drop i) x i)
  | 0, i, k + 1, hm, hk => by
    rw [slices_Index_string_string.l0, if_neg (by omega), List.drop_of_length_le (by omega), idxFrom]
  | m + 1, i, k + 1, hm, hk => by
    rw [slices_Index_string_string.l0, if_pos (by omega), if_pos (by omega), if_pos (by omega), rdOf_drop l i (by omega), idxFrom]
    split
    · rfl
    · rw [w64 _ (by omega) (by omega)]
      exact index_go l x hl m (i + 1) k (by omega) (by omega)
theorem find_go (l : List ByteArray) (x : ByteArray) (hl : l.length ≤ 100) : ∀ (m i k : Nat), i + m = l.length → m < k → headroomref24_find.l0 k x l l.length i = some (idxFrom (l.drop i) x i)
  | 0, i, k + 1, hm, hk => by
    rw [headroomref24_find.l0, if_neg (by omega), List.drop_of_length_le (by omega), idxFrom]
  | m + 1, i, k + 1, hm, hk => by
    rw [headroomref24_find.l0, if_pos (by omega), if_pos (by omega), if_pos (by omega), rdOf_drop l i (by omega), idxFrom]
    by_cases h : x.toList = (rdOf ByteArray.empty l i).toList
    · rw [if_pos h, if_pos h.symm]
    · rw [if_neg h, if_neg (fun e => h e.symm), w64 _ (by omega) (by omega)]
      exact find_go l x hl m (i + 1) k (by omega) (by omega)
theorem row_len (k : Nat) (hk : k < 6) : (row k).length ≤ 5 ∧ 2 ≤ (row k).length := by
  match k, hk with
  | 0, _ => decide
  | 1, _ => decide
  | 2, _ => decide
  | 3, _ => decide
  | 4, _ => decide
  | 5, _ => decide
theorem index_ok (k : Nat) (x : ByteArray) (hk : k < 6) : slices_Index_string_string.f 7 (row k) x = some (idx (row k) x) := by
  have h := row_len k hk
  unfold slices_Index_string_string.f
  exact index_go (row k) x (by omega) (row k).length 0 7 (by omega) (by omega)
theorem find_ok (k : Nat) (x : ByteArray) (K : Nat) (hK : 7 ≤ K) (hk : k < 6) : headroomref24_find.f K (row k) x = some (idx (row k) x) := by
  have h := row_len k hk
  unfold headroomref24_find.f
  exact find_go (row k) x (by omega) (row k).length 0 K (by omega) (by omega)
theorem may_ok (k : Nat) (hk : k < 6) : headroomref24_May.f k = some (row k) := by
  match k, hk with
  | 0, _ => rfl
  | 1, _ => rfl
  | 2, _ => rfl
  | 3, _ => rfl
  | 4, _ => rfl
  | 5, _ => rfl
/-- May a plan of these fields be? -/
def okB (a b c d e : Int) : Bool := decide (0 ≤ a ∧ a ≤ 1 ∧ 2 ≤ b ∧ b ≤ 6 ∧ 0 ≤ c ∧ c ≤ 2 ∧ 0 ≤ d ∧ d ≤ 2 ∧ 0 ≤ e ∧ e ≤ 2 ∧ (c = 2 → d = 0))
theorem in_ok (x a b : Int) : plan_in.f x a b = some (decide (a ≤ x ∧ x ≤ b)) := by
  unfold plan_in.f
  by_cases h : x ≥ a
  · rw [if_pos h]; congr 1; exact decide_eq_decide.2 (by omega)
  · rw [if_neg h]; congr 1; exact (decide_eq_false (by omega)).symm
theorem one_ok (x b : Int) : headroomref13_one.f x b = some (decide (0 ≤ x ∧ x ≤ b)) := by
  unfold headroomref13_one.f
  by_cases h : x ≥ 0
  · rw [if_pos h]; congr 1; exact decide_eq_decide.2 (by omega)
  · rw [if_neg h]; congr 1; exact (decide_eq_false (by omega)).symm
theorem check_ok (a b c d e : Int) (f : Bool) : plan_Check.f a b c d e f = some (if okB a b c d e = true then 0 else 4) := by
  unfold plan_Check.f okB
  simp only [in_ok, Option.bind_some, decide_eq_true_eq]
  repeat' split
  all_goals first | rfl | (exfalso; omega)
theorem refcheck_ok (k : Nat) (a b c d e : Int) (f : Bool) : headroomref13_Check.f (k + 1) a b c d e f = some (okB a b c d e) := by
  unfold headroomref13_Check.f okB
  simp only [headroomref13_Check.j0, one_ok, Option.bind_some, decide_eq_true_eq, bne_iff_ne, Bool.false_eq_true, if_false]
  repeat' split
  all_goals first | (congr 1; symm; exact decide_eq_false (by omega)) | (congr 1; exact decide_eq_decide.2 (by omega)) | (exfalso; omega)
theorem chk_ok (n : List Int) : plan_Check.f (n.getD 0 0) (wrap64 (n.getD 1 0 + 2)) (n.getD 2 0) (n.getD 3 0) (n.getD 4 0) (n.getD 5 0 == 1) = some (chk n) := by
  unfold chk
  rw [check_ok]
  rfl
theorem chk_val (n : List Int) : chk n = if okB (n.getD 0 0) (wrap64 (n.getD 1 0 + 2)) (n.getD 2 0) (n.getD 3 0) (n.getD 4 0) = true then 0 else 4 := by
  unfold chk
  rw [check_ok]
  rfl
theorem texts_go (l : List ByteArray) (hl : l.length ≤ 400) : ∀ (m i k : Nat), i + m = l.length → m < k → headroomref24_Texts.l0 k l l l.length i = some true
  | 0, i, k + 1, hm, hk => by rw [headroomref24_Texts.l0, if_neg (by omega)]
  | m + 1, i, k + 1, hm, hk => by
    rw [headroomref24_Texts.l0, if_pos (by omega), if_pos (by omega), if_pos (by omega), if_pos (by omega), if_pos rfl, w64 _ (by omega) (by omega)]
    exact texts_go l hl m (i + 1) k (by omega) (by omega)
theorem same_go (l : List Int) (hl : l.length ≤ 400) : ∀ (m i k : Nat), i + m = l.length → m < k → headroomref04_Same.l0 k l l l.length i = some true
  | 0, i, k + 1, hm, hk => by rw [headroomref04_Same.l0, if_neg (by omega)]
  | m + 1, i, k + 1, hm, hk => by
    rw [headroomref04_Same.l0, if_pos (by omega), if_pos (by omega), if_pos (by omega), if_pos (by omega), if_pos rfl, w64 _ (by omega) (by omega)]
    exact same_go l hl m (i + 1) k (by omega) (by omega)
theorem texts_ok (l : List ByteArray) (hl : l.length ≤ 400) : headroomref24_Texts.f 1000 l l = some true := by
  unfold headroomref24_Texts.f
  rw [if_pos rfl]
  exact texts_go l hl l.length 0 1000 (by omega) (by omega)
theorem same_ok (l : List Int) (hl : l.length ≤ 400) : headroomref04_Same.f 1000 l l = some true := by
  unfold headroomref04_Same.f
  rw [if_pos rfl]
  exact same_go l hl l.length 0 1000 (by omega) (by omega)
end Go.Proofs.YtajgpilcbaoneaaDoor.P
