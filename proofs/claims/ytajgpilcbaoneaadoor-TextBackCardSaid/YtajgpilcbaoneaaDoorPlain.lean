/- The words of a text: the program's and the reference's are the same, for every text of 300 bytes at most. -/
import Derived.Test.YtajgpilcbaoneaaDoorT8
namespace Go.Proofs.YtajgpilcbaoneaaDoor.P
open Go.RowKit Go.Proofs.YtajgpilcbaoneaaDoorW.PrintWords Go.Proofs.YtajgpilcbaoneaaDoorW.PrintLast Go.Proofs.YtajgpilcbaoneaaDoorW.PrintMore
set_option linter.unusedVariables false
set_option linter.unusedSimpArgs false
theorem w64 (x : Int) (h0 : -9223372036854775808 ≤ x) (h1 : x ≤ 9223372036854775807) : wrap64 x = x := by unfold wrap64; omega
theorem t_end (s : ByteArray) (k i : Nat) (f : Int) (out : List ByteArray) (at_ : List Int) (hi : s.size < i) : text_Words.l0 (k + 1) s out at_ f i = some (out, at_) := by
  rw [text_Words.l0, if_neg (by omega)]
theorem r_end (s : ByteArray) (k i : Nat) (out : List ByteArray) (at_ : List Int) (hi : s.size ≤ i) : headroomref24_Words.l0 (k + 1) s i out at_ = some (out, at_) := by
  rw [headroomref24_Words.l0, if_neg (by omega)]
theorem last_set (out : List ByteArray) (x y : ByteArray) : (out ++ [x]).set out.length y = out ++ [y] := by simp
theorem last_rd (out : List ByteArray) (x : ByteArray) : rdOf ByteArray.empty (out ++ [x]) out.length = x := by simp [rdOf]
theorem t_in (s : ByteArray) (hs : s.size ≤ 300) (k i from_ : Nat) (out : List ByteArray) (at_ : List Int) (hi : i < s.size) (hb : bt s i ≠ 32) :
    text_Words.l0 (k + 2) s out at_ from_ i = text_Words.l0 k s out at_ from_ ((i + 1 : Nat) : Int) := by
  rw [text_Words.l0, if_pos (by omega), if_pos (by omega), if_pos (by omega), bne_iff_ne.mpr hb, text_Words.j1, if_pos rfl, w64 _ (by omega) (by omega)]
  rfl
theorem t_word (s : ByteArray) (hs : s.size ≤ 300) (k i from_ : Nat) (out : List ByteArray) (at_ : List Int) (hi : i ≤ s.size) (hb : i < s.size → bt s i = 32) (hf : from_ < i) (hl : out.length ≤ 400) (hl' : at_.length ≤ 400) :
    text_Words.l0 (k + 2) s out at_ from_ i = text_Words.l0 k s (out ++ [s.extract from_ i]) (at_ ++ [(from_ : Int)]) ((i + 1 : Nat) : Int) ((i + 1 : Nat) : Int) := by
  have e : text_Words.l0 (k + 2) s out at_ from_ i = text_Words.j1 (k + 1) s out at_ from_ i false := by
    rw [text_Words.l0, if_pos (by omega)]
    by_cases h : i < s.size
    · rw [if_pos (by omega), if_pos (by omega), hb h]
      rfl
    · rw [if_neg (by omega)]
  rw [e, text_Words.j1, if_neg (by decide), if_pos (by omega), if_pos (by omega), if_pos (by omega), if_pos (by omega), if_pos (by omega), if_pos (by omega), w64 _ (by omega) (by omega)]
  rfl
theorem t_gap (s : ByteArray) (hs : s.size ≤ 300) (k i : Nat) (out : List ByteArray) (at_ : List Int) (hi : i ≤ s.size) (hb : i < s.size → bt s i = 32) :
    text_Words.l0 (k + 2) s out at_ i i = text_Words.l0 k s out at_ ((i + 1 : Nat) : Int) ((i + 1 : Nat) : Int) := by
  have e : text_Words.l0 (k + 2) s out at_ i i = text_Words.j1 (k + 1) s out at_ i i false := by
    rw [text_Words.l0, if_pos (by omega)]
    by_cases h : i < s.size
    · rw [if_pos (by omega), if_pos (by omega), hb h]
      rfl
    · rw [if_neg (by omega)]
  rw [e, text_Words.j1, if_neg (by decide), if_neg (by omega), w64 _ (by omega) (by omega)]
  rfl
theorem r_gap (s : ByteArray) (hs : s.size ≤ 300) (k i : Nat) (out : List ByteArray) (at_ : List Int) (hi : i < s.size) (hb : bt s i = 32) : headroomref24_Words.l0 (k + 1) s i out at_ = headroomref24_Words.l0 k s ((i + 1 : Nat) : Int) out at_ := by
  rw [headroomref24_Words.l0, if_pos (by omega), if_pos (by omega), if_pos hb, w64 _ (by omega) (by omega)]
  rfl
theorem r_first (s : ByteArray) (hs : s.size ≤ 300) (k i : Nat) (out : List ByteArray) (at_ : List Int) (hi : i < s.size) (hb : bt s i ≠ 32) (h0 : i = 0 ∨ bt s ((i : Int) - 1) = 32) (hl : out.length ≤ 400) (hl' : at_.length ≤ 400) :
    headroomref24_Words.l0 (k + 1) s i out at_ = headroomref24_Words.l0 k s ((i + 1 : Nat) : Int) (out ++ [s.extract i (i + 1)]) (at_ ++ [(i : Int)]) := by
  have el : wrap64 (((out ++ [(⟨#[]⟩ : ByteArray)]).length : Int) - 1) = (out.length : Int) := by rw [List.length_append, w64 _ (by simp) (by simp; omega)]; simp
  have e1 : wrap64 ((i : Int) + 1) = ((i + 1 : Nat) : Int) := by rw [w64 _ (by omega) (by omega)]; rfl
  have hsz : (s.extract i (i + 1)).size ≤ 1 := by rw [ByteArray.size_extract]; omega
  have ee : (⟨#[]⟩ : ByteArray) ++ s.extract i (i + 1) = s.extract i (i + 1) := by
    apply ByteArray.ext
    simp [ByteArray.data_append]
  have hz : (⟨#[]⟩ : ByteArray).size = 0 := rfl
  have hL : (out ++ [(⟨#[]⟩ : ByteArray)]).length = out.length + 1 := by simp
  rw [headroomref24_Words.l0, if_pos (by omega), if_pos (by omega), if_neg hb]
  rcases Nat.eq_zero_or_pos i with hi0 | hi0
  · rw [if_pos (by omega), if_pos (by omega), Option.bind_some, if_pos (by omega), el, if_pos (by omega), if_pos (by rw [hL]; omega), e1, if_pos (by omega), if_pos (by omega), last_rd out, Int.toNat_natCast, Int.toNat_natCast, if_pos (by rw [hz]; omega), Int.toNat_natCast, last_set, ee]
  · have e2 : wrap64 ((i : Int) - 1) = (i : Int) - 1 := w64 _ (by omega) (by omega)
    have hb0 : bt s ((i : Int) - 1) = 32 := by rcases h0 with h | h; · omega
                                               · exact h
    rw [if_neg (by omega), e2, if_pos (by omega), if_pos (by omega), if_pos hb0, if_pos (by omega), Option.bind_some, if_pos (by omega), el, if_pos (by omega), if_pos (by rw [hL]; omega), e1, if_pos (by omega), if_pos (by omega), last_rd out, Int.toNat_natCast, Int.toNat_natCast, if_pos (by rw [hz]; omega), Int.toNat_natCast, last_set, ee]
theorem r_more (s : ByteArray) (hs : s.size ≤ 300) (k i from_ : Nat) (out : List ByteArray) (at_ : List Int) (hi : i < s.size) (hb : bt s i ≠ 32) (hf : from_ < i) (h0 : bt s ((i : Int) - 1) ≠ 32) (hl : out.length ≤ 400) :
    headroomref24_Words.l0 (k + 1) s i (out ++ [s.extract from_ i]) at_ = headroomref24_Words.l0 k s ((i + 1 : Nat) : Int) (out ++ [s.extract from_ (i + 1)]) at_ := by
  have el : wrap64 (((out ++ [s.extract from_ i]).length : Int) - 1) = (out.length : Int) := by rw [List.length_append, w64 _ (by simp) (by simp; omega)]; simp
  have e1 : wrap64 ((i : Int) + 1) = ((i + 1 : Nat) : Int) := by rw [w64 _ (by omega) (by omega)]; rfl
  have e2 : wrap64 ((i : Int) - 1) = (i : Int) - 1 := w64 _ (by omega) (by omega)
  have hsz : (s.extract i (i + 1)).size ≤ 1 := by rw [ByteArray.size_extract]; omega
  have hsz' : (s.extract from_ i).size ≤ 300 := by rw [ByteArray.size_extract]; omega
  have ee : s.extract from_ i ++ s.extract i (i + 1) = s.extract from_ (i + 1) := by
    rw [ByteArray.extract_append_extract, Nat.min_eq_left (by omega), Nat.max_eq_right (by omega)]
  have hL : (out ++ [s.extract from_ i]).length = out.length + 1 := by simp
  rw [headroomref24_Words.l0, if_pos (by omega), if_pos (by omega), if_neg hb, if_neg (by omega), e2, if_pos (by omega), if_pos (by omega), if_neg h0, el, if_pos (by omega), if_pos (by rw [hL]; omega), e1, if_pos (by omega), if_pos (by omega), last_rd out, Int.toNat_natCast, Int.toNat_natCast, if_pos (by omega), Int.toNat_natCast, last_set, ee]
theorem both (s : ByteArray) (hs : s.size ≤ 300) : ∀ (m i from_ : Nat) (out : List ByteArray) (at_ : List Int), i + m = s.size → from_ ≤ i → (from_ = 0 ∨ bt s ((from_ : Int) - 1) = 32) → (∀ j : Nat, from_ ≤ j → j < i → bt s j ≠ 32) → out.length ≤ i → at_.length = out.length → (∀ a ∈ at_, 0 ≤ a ∧ a ≤ s.size) →
    ∃ ws ats, text_Words.l0 (2 * m + 3) s out at_ from_ i = some (ws, ats) ∧ headroomref24_Words.l0 (m + 1) s i (if from_ < i then out ++ [s.extract from_ i] else out) (if from_ < i then at_ ++ [(from_ : Int)] else at_) = some (ws, ats) ∧ ats.length = ws.length ∧ ws.length ≤ 301 ∧ ∀ a ∈ ats, 0 ≤ a ∧ a ≤ s.size
  | 0, i, from_, out, at_, hm, hf, h0, hno, hl, hal, hin => by
    by_cases hlt : from_ < i
    · refine ⟨out ++ [s.extract from_ i], at_ ++ [(from_ : Int)], ?_, ?_, by simp [hal], by simp; omega, ?_⟩
      · rw [t_word s hs 1 i from_ out at_ (by omega) (fun h => by omega) hlt (by omega) (by omega), t_end s 0 (i + 1) _ _ _ (by omega)]
      · rw [if_pos hlt, if_pos hlt, r_end s 0 i _ _ (by omega)]
      · intro a ha
        rcases List.mem_append.1 ha with h | h
        · exact hin a h
        · obtain rfl := List.mem_singleton.1 h
          omega
    · obtain rfl : from_ = i := by omega
      refine ⟨out, at_, ?_, ?_, hal, by omega, hin⟩
      · rw [t_gap s hs 1 from_ out at_ (by omega) (fun h => by omega), t_end s 0 (from_ + 1) _ _ _ (by omega)]
      · rw [if_neg hlt, if_neg hlt, r_end s 0 from_ _ _ (by omega)]
  | m + 1, i, from_, out, at_, hm, hf, h0, hno, hl, hal, hin => by
    have hi : i < s.size := by omega
    by_cases hb : bt s i = 32
    · by_cases hlt : from_ < i
      · obtain ⟨ws, ats, q1, q2, q3, q4, q5⟩ := both s hs m (i + 1) (i + 1) (out ++ [s.extract from_ i]) (at_ ++ [(from_ : Int)]) (by omega) (by omega) (Or.inr (by rw [show ((i + 1 : Nat) : Int) - 1 = (i : Int) by omega]; exact hb)) (fun j a b => by omega) (by simp; omega) (by simp [hal]) (by
          intro a ha
          rcases List.mem_append.1 ha with h | h
          · exact hin a h
          · obtain rfl := List.mem_singleton.1 h
            omega)
        refine ⟨ws, ats, ?_, ?_, q3, q4, q5⟩
        · rw [show 2 * (m + 1) + 3 = (2 * m + 3) + 2 by omega, t_word s hs (2 * m + 3) i from_ out at_ (by omega) (fun _ => hb) hlt (by omega) (by omega)]
          exact q1
        · rw [if_pos hlt, if_pos hlt, r_gap s hs (m + 1) i _ _ hi hb]
          rw [if_neg (by omega), if_neg (by omega)] at q2
          exact q2
      · obtain rfl : from_ = i := by omega
        obtain ⟨ws, ats, q1, q2, q3, q4, q5⟩ := both s hs m (from_ + 1) (from_ + 1) out at_ (by omega) (by omega) (Or.inr (by rw [show ((from_ + 1 : Nat) : Int) - 1 = (from_ : Int) by omega]; exact hb)) (fun j a b => by omega) (by omega) hal hin
        refine ⟨ws, ats, ?_, ?_, q3, q4, q5⟩
        · rw [show 2 * (m + 1) + 3 = (2 * m + 3) + 2 by omega, t_gap s hs (2 * m + 3) from_ out at_ (by omega) (fun _ => hb)]
          exact q1
        · rw [if_neg hlt, if_neg hlt, r_gap s hs (m + 1) from_ _ _ hi hb]
          rw [if_neg (by omega), if_neg (by omega)] at q2
          exact q2
    · obtain ⟨ws, ats, q1, q2, q3, q4, q5⟩ := both s hs m (i + 1) from_ out at_ (by omega) (by omega) h0 (fun j a b => by
        by_cases e : j = i
        · subst e; exact hb
        · exact hno j a (by omega)) (by omega) hal hin
      refine ⟨ws, ats, ?_, ?_, q3, q4, q5⟩
      · rw [show 2 * (m + 1) + 3 = (2 * m + 3) + 2 by omega, t_in s hs (2 * m + 3) i from_ out at_ hi hb]
        exact q1
      · rw [if_pos (by omega), if_pos (by omega)] at q2
        by_cases hlt : from_ < i
        · rw [if_pos hlt, if_pos hlt, r_more s hs (m + 1) i from_ out _ hi hb hlt (by have := hno (i - 1) (by omega) (by omega); rwa [show (((i - 1 : Nat)) : Int) = (i : Int) - 1 by omega] at this) (by omega)]
          exact q2
        · obtain rfl : from_ = i := by omega
          rw [if_neg hlt, if_neg hlt, r_first s hs (m + 1) from_ out _ hi hb (by rcases h0 with h | h; exact Or.inl h; exact Or.inr h) (by omega) (by omega)]
          exact q2
/-- Any text's words, by both. -/
theorem words_ok (s : ByteArray) (hs : s.size ≤ 300) : ∃ ws ats, text_Words.f 1000 s = some (ws, ats) ∧ headroomref24_Words.f 1000 s = some (ws, ats) ∧ ats.length = ws.length ∧ ws.length ≤ 301 ∧ ∀ a ∈ ats, 0 ≤ a ∧ a ≤ s.size := by
  obtain ⟨ws, ats, q1, q2, q3, q4, q5⟩ := both s hs s.size 0 0 [] [] (by omega) (by omega) (Or.inl rfl) (fun j a b => by omega) (by simp) rfl (by simp)
  refine ⟨ws, ats, ?_, ?_, q3, q4, q5⟩
  · exact at_rounds (g := fun k => text_Words.f k s) (text_Words.mono s) (k := 2 * s.size + 3) (by omega) q1
  · exact at_rounds (g := fun k => headroomref24_Words.f k s) (headroomref24_Words.mono s) (k := s.size + 1) (by omega) q2
end Go.Proofs.YtajgpilcbaoneaaDoor.P
