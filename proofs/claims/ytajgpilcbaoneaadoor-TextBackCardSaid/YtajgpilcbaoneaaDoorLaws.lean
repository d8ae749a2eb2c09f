/- The three laws of the text's layer, wherever the table lies as it is laid. -/
import Derived.Test.YtajgpilcbaoneaaDoorPlain3
import Derived.Test.YtajgpilcbaoneaaDoorGood
namespace Go.Proofs.YtajgpilcbaoneaaDoor.P
open Go.RowKit Go.Proofs.YtajgpilcbaoneaaDoorW.PrintWords Go.Proofs.YtajgpilcbaoneaaDoorW.PrintLast Go.Proofs.YtajgpilcbaoneaaDoorW.PrintMore
set_option linter.unusedVariables false
set_option linter.unusedSimpArgs false
theorem cutS_size (s : ByteArray) : (cutS s).size ≤ 300 := by
  unfold cutS
  rw [ByteArray.size_extract]
  split <;> omega
theorem reads_any (s : ByteArray) (A : Nat → Addr) (c : Nat → Nat) (w : World) (hsz : s.size ≤ 9223372036854775807) (hp : Places A c w) :
    Calls Tryd.prog 3 #[.string s] w fun e w' => e = .returned (.bool true) ∧ Below w.heap.size w w' := by
  obtain ⟨ws, ats, q1, q2, q3, q4, q5⟩ := words_ok (cutS s) (cutS_size s)
  have hr := ref_ok (cutS s) ws ats q4 q3 q2
  generalize hz : pl (cutS s).size ws ats 0 [0, 0, 0, 0, 0, 0] = Z at hr
  obtain ⟨r1, r2, r3, r4, r5, r6, r7, r8⟩ := Z
  exact reads_law 1000 s ws ats A c w hsz hp q1 q3 index_ok chk_ok r1 r2 r3 r4 r5 r6 r7 r8 hz hr
theorem good_spec {a b c d e f : Nat} (h : good a b c d e f = true) : ∃ ats, text_Words.f 1000 (txt [a, b, c, d, e, f]) = some (wordsTo [a, b, c, d, e, f] 6, ats) ∧ ats.length = 6 ∧ pl (txt [a, b, c, d, e, f]).size (wordsTo [a, b, c, d, e, f] 6) ats 0 [0, 0, 0, 0, 0, 0] = ((a : Int), (b : Int) + 2, (c : Int), (d : Int), (e : Int), (f : Int) == 1, 0, 0) ∧ headroomref24_Print.f a ((b : Int) + 2) c d e ((f : Int) == 1) = some (txt [a, b, c, d, e, f]) ∧ (Lib.join ((wordsTo [a, b, c, d, e, f] 6).map (·.data.toList)) [32]).length ≤ 1000 := by
  unfold good at h
  generalize hw : text_Words.f 1000 (txt [(a : Int), b, c, d, e, f]) = W at h
  match W, h with
  | some (ws, ats), h =>
    simp only [Bool.and_eq_true, beq_iff_eq, decide_eq_true_eq] at h
    obtain ⟨⟨⟨⟨h1, h2⟩, h3⟩, h4⟩, h5⟩ := h
    subst h1
    refine ⟨ats, rfl, h2, ?_, h4, h5⟩
    generalize pl (txt [(a : Int), b, c, d, e, f]).size (wordsTo [(a : Int), b, c, d, e, f] 6) ats 0 [0, 0, 0, 0, 0, 0] = r at h3
    obtain ⟨r1, r2, r3, r4, r5, r6, r7, r8⟩ := r
    unfold same at h3
    simp only [Bool.and_eq_true, beq_iff_eq] at h3
    obtain ⟨⟨⟨⟨⟨⟨⟨rfl, rfl⟩, rfl⟩, rfl⟩, rfl⟩, rfl⟩, rfl⟩, rfl⟩ := h3
    rfl
theorem len_wordsTo (D : List Int) (k : Nat) : (wordsTo D k).length = k := by simp [wordsTo]
theorem ok_nat {x0 x1 x2 x3 x4 : Int} (h : okB x0 x1 x2 x3 x4 = true) : ∃ a b c d e : Nat, x0 = a ∧ x1 = (b : Int) + 2 ∧ x2 = c ∧ x3 = d ∧ x4 = e ∧ a < 2 ∧ b < 5 ∧ c < 3 ∧ d < 3 ∧ e < 3 ∧ (c = 2 → d = 0) := by
  unfold okB at h
  have h := of_decide_eq_true h
  exact ⟨x0.toNat, (x1 - 2).toNat, x2.toNat, x3.toNat, x4.toNat, by omega, by omega, by omega, by omega, by omega, by omega, by omega, by omega, by omega, by omega, by omega⟩
theorem in_table {a b c d e f : Nat} (ha : a < 2) (hb : b < 5) (hc : c < 3) (hd : d < 3) (he : e < 3) (hf : f < 2) : ∀ k, k < 6 → 0 ≤ [(a : Int), b, c, d, e, f].getD k 0 ∧ [(a : Int), b, c, d, e, f].getD k 0 < ((row k).length : Int) := by
  intro k hk
  match k, hk with
  | 0, _ => exact ⟨by simp, by simp [row, tab]; omega⟩
  | 1, _ => exact ⟨by simp, by simp [row, tab]; omega⟩
  | 2, _ => exact ⟨by simp, by simp [row, tab]; omega⟩
  | 3, _ => exact ⟨by simp, by simp [row, tab]; omega⟩
  | 4, _ => exact ⟨by simp, by simp [row, tab]; omega⟩
  | 5, _ => exact ⟨by simp, by simp [row, tab]; omega⟩
theorem Print_ok (a b c d e f : Nat) (ha : a < 2) (hb : b < 5) (hc : c < 3) (hd : d < 3) (he : e < 3) (hf : f < 2) (h : c = 2 → d = 0) (A : Nat → Addr) (C : Nat → Nat) (w : World) (hp : Places A C w) :
    Calls Tryd.prog 9 #[.agg #[.int .i64 a, .int .i64 ((b : Int) + 2), .int .i64 c, .int .i64 d, .int .i64 e, .bool ((f : Int) == 1)]] w fun e_ w' => e_ = .returned (.tuple #[.string (txt [a, b, c, d, e, f]), .int .i64 0]) ∧ Below w.heap.size w w' := by
  obtain ⟨ats, g1, g2, g3, g4, g5⟩ := good_spec (good_all a b c d e f ha hb hc hd he hf h)
  have hb2 : wrap64 ((b : Int) + 2 - 2) = b := by rw [w64 _ (by omega) (by omega)]; omega
  have hck : ∀ v, plan_Check.f a ((b : Int) + 2) c d e v = some 0 := by
    intro v
    rw [check_ok, if_pos]
    unfold okB
    exact decide_eq_true (by omega)
  have hi := in_table ha hb hc hd he hf
  have hf' : f = 0 ∨ f = 1 := by omega
  rcases hf' with rfl | rfl
  · have := Print_yes0 a ((b : Int) + 2) c d e A C w (hck _) hp (by rw [hb2]; exact hi) (by rw [hb2]; exact Nat.le_trans g5 (by decide))
    rw [hb2] at this
    exact this
  · have := Print_yes1 a ((b : Int) + 2) c d e A C w (hck _) hp (by rw [hb2]; exact hi) (by rw [hb2]; exact Nat.le_trans g5 (by decide))
    rw [hb2] at this
    exact this
theorem Print_bad (x0 x1 x2 x3 x4 : Int) (x5 : Bool) (h : ¬ okB x0 x1 x2 x3 x4 = true) (w : World) :
    Calls Tryd.prog 9 #[.agg #[.int .i64 x0, .int .i64 x1, .int .i64 x2, .int .i64 x3, .int .i64 x4, .bool x5]] w fun e w' => e = .returned (.tuple #[.string ⟨#[]⟩, .int .i64 4]) ∧ Below w.heap.size w w' :=
  Print_no x0 x1 x2 x3 x4 4 x5 w (by rw [check_ok, if_neg h]) (by decide)
theorem alive_ok (A : Nat → Addr) (C : Nat → Nat) : ∀ w1, Places A C w1 → Calls Tryd.prog 8 #[] w1 fun e w' => e = .returned (.bool true) ∧ Below w1.heap.size w1 w' := fun w1 h => alive_any A C w1 h index_ok chk_ok
theorem bool_nat (x : Bool) : ∃ f : Nat, f < 2 ∧ x = ((f : Int) == 1) := by
  cases x
  · exact ⟨0, by decide, rfl⟩
  · exact ⟨1, by decide, rfl⟩
theorem prints_any (x0 x1 x2 x3 x4 : Int) (x5 : Bool) (s : ByteArray) (A : Nat → Addr) (c : Nat → Nat) (w : World) (hsz : s.size ≤ 9223372036854775807) (hp : Places A c w) :
    Calls Tryd.prog 4 #[.agg #[.int .i64 x0, .int .i64 x1, .int .i64 x2, .int .i64 x3, .int .i64 x4, .bool x5], .string s] w fun e w' => e = .returned (.bool true) ∧ Below w.heap.size w w' := by
  obtain ⟨ws, ats, q1, q2, q3, q4, q5⟩ := words_ok (cutS s) (cutS_size s)
  by_cases h : okB x0 x1 x2 x3 x4 = true
  · obtain ⟨a, b, c', d, e, rfl, rfl, rfl, rfl, rfl, ha, hb, hc, hd, he, hcd⟩ := ok_nat h
    obtain ⟨f, hf, rfl⟩ := bool_nat x5
    obtain ⟨ats', g1, g2, g3, g4, g5⟩ := good_spec (good_all a b c' d e f ha hb hc hd he hf hcd)
    exact prints_yes 1000 _ _ _ _ _ _ s (txt [(a : Int), b, c', d, e, f]) ws ats A c w hsz hp q1 q2 (alive_ok A c) (fun w1 h1 => Print_ok a b c' d e f ha hb hc hd he hf hcd A c w1 h1) (texts_ok ws (by omega)) (same_ok ats (by omega)) (by rw [refcheck_ok, h]) g4
  · exact prints_no 1000 _ _ _ _ _ _ s ws ats A c w hsz hp q1 q2 (alive_ok A c) (fun w1 _ => Print_bad _ _ _ _ _ _ h w1) (texts_ok ws (by omega)) (same_ok ats (by omega)) (by rw [refcheck_ok]; congr 1; exact Bool.eq_false_iff.2 h)
/-- What text.Parse answers, at any text's words. -/
theorem Parse_ok (s : ByteArray) (ws : List ByteArray) (ats : List Int) (A : Nat → Addr) (c : Nat → Nat) (hW : text_Words.f 1000 s = some (ws, ats)) (hl : ats.length = ws.length) (r1 r2 r3 r4 r5 : Int) (r6 : Bool) (r7 r8 : Int) (hZ : pl s.size ws ats 0 [0, 0, 0, 0, 0, 0] = (r1, r2, r3, r4, r5, r6, r7, r8)) :
    ∀ w1, Places A c w1 → Calls Tryd.prog 6 #[.string s] w1 fun e w' => e = .returned (.tuple #[.agg #[.int .i64 r1, .int .i64 r2, .int .i64 r3, .int .i64 r4, .int .i64 r5, .bool r6], .int .i64 r7, .int .i64 r8]) ∧ Below w1.heap.size w1 w' :=
  fun w1 h1 => (Parse_any 1000 s ws ats A c w1 hW hl h1 index_ok chk_ok).mono fun e w' h => by rw [hZ] at h; exact h
theorem back_any (x0 x1 x2 x3 x4 : Int) (x5 : Bool) (s : ByteArray) (A : Nat → Addr) (c : Nat → Nat) (w : World) (hsz : s.size ≤ 9223372036854775807) (hp : Places A c w) :
    Calls Tryd.prog 5 #[.agg #[.int .i64 x0, .int .i64 x1, .int .i64 x2, .int .i64 x3, .int .i64 x4, .bool x5], .string s] w fun e w' => e = .returned (.bool true) ∧ Below w.heap.size w w' := by
  obtain ⟨ws, ats, q1, q2, q3, q4, q5⟩ := words_ok (cutS s) (cutS_size s)
  have hsp := pl_spec (cutS s).size (by omega) ws ws ats 0 [0, 0, 0, 0, 0, 0] q3 q5 (by omega) rfl (fun j hj => by omega) rfl
  have hbad : ¬ okB x0 x1 x2 x3 x4 = true → ∀ w1, Places A c w1 → Calls Tryd.prog 9 #[.agg #[.int .i64 x0, .int .i64 x1, .int .i64 x2, .int .i64 x3, .int .i64 x4, .bool x5]] w1 fun e w' => e = .returned (.tuple #[.string ⟨#[]⟩, .int .i64 4]) ∧ Below w1.heap.size w1 w' := fun h w1 _ => Print_bad _ _ _ _ _ _ h w1
  have hgood : okB x0 x1 x2 x3 x4 = true → ∃ t : ByteArray, (∀ w1, Places A c w1 → Calls Tryd.prog 9 #[.agg #[.int .i64 x0, .int .i64 x1, .int .i64 x2, .int .i64 x3, .int .i64 x4, .bool x5]] w1 fun e w' => e = .returned (.tuple #[.string t, .int .i64 0]) ∧ Below w1.heap.size w1 w') ∧
      (∀ w1, Places A c w1 → Calls Tryd.prog 6 #[.string t] w1 fun e w' => e = .returned (.tuple #[.agg #[.int .i64 x0, .int .i64 x1, .int .i64 x2, .int .i64 x3, .int .i64 x4, .bool x5], .int .i64 0, .int .i64 0]) ∧ Below w1.heap.size w1 w') := by
    intro h
    obtain ⟨a, b, c', d, e, rfl, rfl, rfl, rfl, rfl, ha, hb, hc, hd, he, hcd⟩ := ok_nat h
    obtain ⟨f, hf, rfl⟩ := bool_nat x5
    obtain ⟨ats', g1, g2, g3, g4, g5⟩ := good_spec (good_all a b c' d e f ha hb hc hd he hf hcd)
    exact ⟨_, fun w1 h1 => Print_ok a b c' d e f ha hb hc hd he hf hcd A c w1 h1, Parse_ok _ _ ats' A c g1 (by rw [g2, len_wordsTo]) _ _ _ _ _ _ _ _ g3⟩
  rcases hsp with ⟨at_, er, hz, her, hat0, hat1⟩ | ⟨n, hn, hz, hck, hin, hws⟩
  · have hPs := Parse_ok (cutS s) ws ats A c q1 q3 0 0 0 0 0 false at_ er hz
    by_cases h : okB x0 x1 x2 x3 x4 = true
    · obtain ⟨t, t1, t2⟩ := hgood h
      exact back_pe 1000 _ _ _ _ _ _ s A c w hsz hp (alive_ok A c) t t1 t2 at_ er hPs hat0 hat1 her
    · exact back_ne 1000 _ _ _ _ _ _ s A c w hsz hp (alive_ok A c) (hbad h) at_ er hPs hat0 hat1 her
  · obtain ⟨n0, n1, n2, n3, n4, n5, rfl⟩ : ∃ n0 n1 n2 n3 n4 n5, n = [n0, n1, n2, n3, n4, n5] := by
      match n, hn with
      | [n0, n1, n2, n3, n4, n5], _ => exact ⟨n0, n1, n2, n3, n4, n5, rfl⟩
    have i0 := hin 0 (by decide)
    have i1 := hin 1 (by decide)
    have i2 := hin 2 (by decide)
    have i3 := hin 3 (by decide)
    have i4 := hin 4 (by decide)
    have i5 := hin 5 (by decide)
    simp [row, tab] at i0 i1 i2 i3 i4 i5
    have hcv : chk [n0, n1, n2, n3, n4, n5] = if okB n0 (wrap64 (n1 + 2)) n2 n3 n4 = true then 0 else 4 := chk_val [n0, n1, n2, n3, n4, n5]
    rw [hck] at hcv
    have hok : okB n0 (wrap64 (n1 + 2)) n2 n3 n4 = true := by
      by_cases h : okB n0 (wrap64 (n1 + 2)) n2 n3 n4 = true
      · exact h
      · rw [if_neg h] at hcv
        exact absurd hcv (by decide)
    have hcd : n2 = 2 → n3 = 0 := by
      unfold okB at hok
      exact (of_decide_eq_true hok).2.2.2.2.2.2.2.2.2.2
    obtain ⟨a, rfl⟩ : ∃ a : Nat, n0 = a := ⟨n0.toNat, by omega⟩
    obtain ⟨b, rfl⟩ : ∃ a : Nat, n1 = a := ⟨n1.toNat, by omega⟩
    obtain ⟨c', rfl⟩ : ∃ a : Nat, n2 = a := ⟨n2.toNat, by omega⟩
    obtain ⟨d, rfl⟩ : ∃ a : Nat, n3 = a := ⟨n3.toNat, by omega⟩
    obtain ⟨e, rfl⟩ : ∃ a : Nat, n4 = a := ⟨n4.toNat, by omega⟩
    obtain ⟨f, rfl⟩ : ∃ a : Nat, n5 = a := ⟨n5.toNat, by omega⟩
    have hpq := fun w1 h1 => Print_ok a b c' d e f (by omega) (by omega) (by omega) (by omega) (by omega) (by omega) (by omega) A c w1 h1
    obtain ⟨ats', g1, g2, g3, g4, g5⟩ := good_spec (good_all a b c' d e f (by omega) (by omega) (by omega) (by omega) (by omega) (by omega) (by omega))
    have hw2 : wrap64 ((b : Int) + 2) = (b : Int) + 2 := w64 _ (by omega) (by omega)
    have hz' : pl (cutS s).size ws ats 0 [0, 0, 0, 0, 0, 0] = ((a : Int), (b : Int) + 2, (c' : Int), (d : Int), (e : Int), (f : Int) == 1, 0, 0) := by
      rw [hz]
      unfold fin
      rw [if_pos hck]
      show ((a : Int), wrap64 ((b : Int) + 2), (c' : Int), (d : Int), (e : Int), (f : Int) == 1, (0 : Int), (0 : Int)) = _
      rw [hw2]
    have hPs := Parse_ok (cutS s) ws ats A c q1 q3 _ _ _ _ _ _ _ _ hz'
    have hJ := Join_J (txt [(a : Int), b, c', d, e, f]) ws (by rw [← hws]; rfl) (by rw [← hws]; exact Nat.le_trans g5 (by decide)) (by omega)
    have hpos : 0 < ws.length := by rw [← hws, len_wordsTo]; decide
    by_cases h : okB x0 x1 x2 x3 x4 = true
    · obtain ⟨t, t1, t2⟩ := hgood h
      exact back_pr 1000 _ _ _ _ _ _ s A c w hsz hp (alive_ok A c) t t1 t2 _ _ _ _ _ _ (txt [(a : Int), b, c', d, e, f]) ws ats hPs hpq q1 hpos hJ
    · exact back_nr 1000 _ _ _ _ _ _ s A c w hsz hp (alive_ok A c) (hbad h) _ _ _ _ _ _ (txt [(a : Int), b, c', d, e, f]) ws ats hPs hpq q1 hpos hJ
end Go.Proofs.YtajgpilcbaoneaaDoor.P
