/- Plain facts on places, told from behind, as both the program and the reference tell them. -/
import Derived.Test.YtajgpilcbaoneaaPg2
import Derived.Test.YtajgpilcbaoneaaPg3
import Derived.Test.YtajgpilcbaoneaaPg1
import Derived.Test.YtajgpilcbaoneaaPg4
import Derived.Test.YtajgpilcbaoneaaPg5
set_option linter.unusedSimpArgs false
set_option linter.unusedVariables false
namespace Go.Proofs.Ytajgpilcbaoneaa.Flip
open Go.RowKit Go.Proofs.Ytajgpilcbaoneaa.P Go.Proofs.YtajgpilcbaoneaaW.PrintWords Go.Proofs.YtajgpilcbaoneaaW.PrintLast Go.Proofs.YtajgpilcbaoneaaW.PrintMore

def logs : List Int := [2, 3, 4, 5, 6]
theorem mem_logs {l : Int} (h : 2 ≤ l ∧ l ≤ 6) : l ∈ logs := by
  have : l = 2 ∨ l = 3 ∨ l = 4 ∨ l = 5 ∨ l = 6 := by omega
  rcases this with rfl | rfl | rfl | rfl | rfl <;> decide

theorem alive80 : headroomlaw08_alive.f 80 = some true := by decide +kernel

def same2 (o : Option (Int × Int)) (p : Option Int) : Bool := match o, p with
  | some (b, e), some c => decide (b = c) && decide (e = 0) && decide (0 ≤ b)
  | _, _ => false
theorem bits80 : ∀ l ∈ logs, ∀ i ∈ List.range 64, (i : Int) < 2 ^ l.toNat → same2 (flip_Bits.f 80 i l) (headroomref08_Bits.f 80 i l) = true ∧ headroomref08_May.f 80 i l = some true := by decide +kernel
theorem small80 : ∀ l ∈ logs, (2 : Int) ^ l.toNat ≤ 64 ∧ headroomref01_Pow.f 80 l = some (2 ^ l.toNat) ∧ shl .i64 1 l = 2 ^ l.toNat := by decide +kernel
def sameRow (o : Option (List Int × Int)) (p : Option (List Int)) : Bool := match o, p with
  | some (l, e), some c => decide (e = 0) && decide (headroomref04_Same.f 80 l c = some true)
  | _, _ => false
theorem row80 : ∀ l ∈ logs, sameRow (flip_Row.f 80 l) (headroomref08_Row.f 80 l) = true := by decide +kernel

theorem may_eq (a : Int) : flip_may.f a = some (decide (2 ≤ a ∧ a ≤ 6)) := by
  unfold flip_may.f
  by_cases h : a ≥ 2
  · rw [if_pos h]; simp [show 2 ≤ a from h]
  · rw [if_neg h]; simp [show ¬ 2 ≤ a from h]
theorem log_eq (a : Int) : headroomref07_Log.f a = some (decide (2 ≤ a ∧ a ≤ 6)) := by
  unfold headroomref07_Log.f
  by_cases h : a ≥ 2
  · rw [if_pos h]; simp [show 2 ≤ a from h]
  · rw [if_neg h]; simp [show ¬ 2 ≤ a from h]

/-- A place that may be. -/
def Ok (i l : Int) : Prop := (2 ≤ l ∧ l ≤ 6) ∧ 0 ≤ i ∧ i < 2 ^ l.toNat
instance (i l : Int) : Decidable (Ok i l) := by unfold Ok; infer_instance

theorem front_ok {i l : Int} (h : Ok i l) : (∃ b, 0 ≤ b ∧ (∀ k, 80 ≤ k → flip_Bits.f k i l = some (b, 0)) ∧ ∀ k, 80 ≤ k → headroomref08_Bits.f k i l = some b) ∧ ∀ k, 80 ≤ k → headroomref08_May.f k i l = some true := by
  obtain ⟨hl, h0, h1⟩ := h
  have hm := mem_logs hl
  obtain ⟨hs, _, _⟩ := small80 l hm
  obtain ⟨n, rfl⟩ := Int.eq_ofNat_of_zero_le h0
  obtain ⟨hb, hy⟩ := bits80 l hm n (List.mem_range.2 (by omega)) h1
  refine ⟨?_, fun k hk => at_rounds (fun k => headroomref08_May.mono _ _ k) hk hy⟩
  unfold same2 at hb
  split at hb
  · rename_i b e c e1 e2
    simp only [Bool.and_eq_true, decide_eq_true_eq] at hb
    obtain ⟨⟨rfl, rfl⟩, hp⟩ := hb
    exact ⟨b, hp, fun k hk => at_rounds (fun k => flip_Bits.mono _ _ k) hk e1, fun k hk => at_rounds (fun k => headroomref08_Bits.mono _ _ k) hk e2⟩
  · cases hb

theorem front_no {i l : Int} (h : ¬ Ok i l) : (∀ k, 80 ≤ k → flip_Bits.f k i l = some (0, 1)) ∧ ∀ k, 80 ≤ k → headroomref08_May.f k i l = some false := by
  refine ⟨fun k hk => ?_, fun k hk => ?_⟩
  · obtain ⟨m, rfl⟩ : ∃ m, k = m + 1 := ⟨k - 1, by omega⟩
    unfold flip_Bits.f
    rw [may_eq]
    simp only [Option.bind_some, decide_eq_true_eq]
    by_cases hl : 2 ≤ l ∧ l ≤ 6
    · rw [if_pos hl]
      by_cases h0 : i < 0
      · rw [if_pos h0]; rfl
      · rw [if_neg h0, if_pos (by omega), (small80 l (mem_logs hl)).2.2]
        have : decide (i ≥ 2 ^ l.toNat) = true := decide_eq_true (by unfold Ok at h; omega)
        rw [this]; rfl
    · rw [if_neg hl]; rfl
  · unfold headroomref08_May.f
    rw [log_eq]
    simp only [Option.bind_some, decide_eq_true_eq]
    by_cases hl : 2 ≤ l ∧ l ≤ 6
    · rw [if_pos hl]
      by_cases h0 : i ≥ 0
      · rw [if_pos h0, at_rounds (fun k => headroomref01_Pow.mono _ k) hk (small80 l (mem_logs hl)).2.1]
        have : decide (i < 2 ^ l.toNat) = false := decide_eq_false (by unfold Ok at h; omega)
        simp only [Option.bind_some, this]
      · rw [if_neg h0]
    · rw [if_neg hl]

theorem row_ok {l : Int} (h : 2 ≤ l ∧ l ≤ 6) : ∃ a b, (∀ k, 80 ≤ k → flip_Row.f k l = some (a, 0)) ∧ (∀ k, 80 ≤ k → headroomref08_Row.f k l = some b) ∧ ∀ k, 80 ≤ k → headroomref04_Same.f k a b = some true := by
  have hb := row80 l (mem_logs h)
  unfold sameRow at hb
  split at hb
  · rename_i a e c e1 e2
    simp only [Bool.and_eq_true, decide_eq_true_eq] at hb
    obtain ⟨rfl, hp⟩ := hb
    exact ⟨a, c, fun k hk => at_rounds (fun k => flip_Row.mono _ k) hk e1, fun k hk => at_rounds (fun k => headroomref08_Row.mono _ k) hk e2, fun k hk => at_rounds (fun k => headroomref04_Same.mono _ _ k) hk hp⟩
  · cases hb

theorem row_no {l : Int} (h : ¬ (2 ≤ l ∧ l ≤ 6)) (k : Nat) : flip_Row.f k l = some ([], 1) := by
  unfold flip_Row.f
  rw [may_eq]
  simp [h]

theorem wrap_small {x : Int} (h : 0 ≤ x ∧ x ≤ 100) : wrap64 x = x := by unfold wrap64; omega

/-- A length's log: of those that may be, and of no other. -/
theorem len_ok : ∀ l ∈ logs, flip_Log.f 80 (2 ^ l.toNat) = some (l, 0) ∧ headroomref08_Log.f 80 (2 ^ l.toNat) = some l := by decide +kernel
theorem pows : headroomref01_Pow.f 70 2 = some 4 ∧ headroomref01_Pow.f 70 3 = some 8 ∧ headroomref01_Pow.f 70 4 = some 16 ∧ headroomref01_Pow.f 70 5 = some 32 ∧ headroomref01_Pow.f 70 6 = some 64 := by decide +kernel
theorem len_no {n : Int} (h : n ≠ 4 ∧ n ≠ 8 ∧ n ≠ 16 ∧ n ≠ 32 ∧ n ≠ 64) : flip_Log.f 80 n = some (0, 3) ∧ headroomref08_Log.f 80 n = some (-1) := by
  obtain ⟨h4, h8, h16, h32, h64⟩ := h
  have w3 : wrap64 3 = 3 := by decide +kernel
  have w4 : wrap64 4 = 4 := by decide +kernel
  have w5 : wrap64 5 = 5 := by decide +kernel
  have w6 : wrap64 6 = 6 := by decide +kernel
  have w7 : wrap64 7 = 7 := by decide +kernel
  have s2 : shl .i64 1 2 = 4 := by decide +kernel
  have s3 : shl .i64 1 3 = 8 := by decide +kernel
  have s4 : shl .i64 1 4 = 16 := by decide +kernel
  have s5 : shl .i64 1 5 = 32 := by decide +kernel
  have s6 : shl .i64 1 6 = 64 := by decide +kernel
  obtain ⟨p2, p3, p4, p5, p6⟩ := pows
  have P : ∀ {x y : Int} (j : Nat), 70 ≤ j → headroomref01_Pow.f 70 x = some y → headroomref01_Pow.f j x = some y := fun j hj hy => at_rounds (fun k => headroomref01_Pow.mono _ k) hj hy
  constructor
  · unfold flip_Log.f
    simp [flip_Log.l0, w3, w4, w5, w6, w7, s2, s3, s4, s5, s6, h4, h8, h16, h32, h64]
  · unfold headroomref08_Log.f
    simp [headroomref08_Log.l0, w3, w4, w5, w6, w7, P 79 (by omega) p2, P 78 (by omega) p3, P 77 (by omega) p4, P 76 (by omega) p5, P 75 (by omega) p6, Ne.symm h4, Ne.symm h8, Ne.symm h16, Ne.symm h32, Ne.symm h64]

theorem len_is {n : Int} (h : ¬ (n ≠ 4 ∧ n ≠ 8 ∧ n ≠ 16 ∧ n ≠ 32 ∧ n ≠ 64)) : ∃ l, (2 ≤ l ∧ l ≤ 6) ∧ n = 2 ^ l.toNat ∧ (∀ k, 80 ≤ k → flip_Log.f k n = some (l, 0)) ∧ ∀ k, 80 ≤ k → headroomref08_Log.f k n = some l := by
  have key : ∀ l, l ∈ logs → (2 ≤ l ∧ l ≤ 6) → n = 2 ^ l.toNat → ∃ l, (2 ≤ l ∧ l ≤ 6) ∧ n = 2 ^ l.toNat ∧ (∀ k, 80 ≤ k → flip_Log.f k n = some (l, 0)) ∧ ∀ k, 80 ≤ k → headroomref08_Log.f k n = some l := fun l hm hl hn => by
    obtain ⟨a, b⟩ := len_ok l hm
    rw [← hn] at a b
    exact ⟨l, hl, hn, fun k hk => at_rounds (fun k => flip_Log.mono _ k) hk a, fun k hk => at_rounds (fun k => headroomref08_Log.mono _ k) hk b⟩
  have : n = 4 ∨ n = 8 ∨ n = 16 ∨ n = 32 ∨ n = 64 := by omega
  rcases this with e | e | e | e | e
  · exact key 2 (by decide) (by decide) e
  · exact key 3 (by decide) (by decide) e
  · exact key 4 (by decide) (by decide) e
  · exact key 5 (by decide) (by decide) e
  · exact key 6 (by decide) (by decide) e

end Go.Proofs.Ytajgpilcbaoneaa.Flip
