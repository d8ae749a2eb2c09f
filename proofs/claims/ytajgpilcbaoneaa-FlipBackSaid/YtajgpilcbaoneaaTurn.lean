/- Plain facts on numbers flipped: which place each number comes from. -/
import Derived.Test.YtajgpilcbaoneaaFlip
import Derived.Test.YtajgpilcbaoneaaPf19
import Derived.Test.YtajgpilcbaoneaaPg2
import Derived.Test.YtajgpilcbaoneaaPg5
set_option linter.unusedSimpArgs false
set_option linter.unusedVariables false
namespace Go.Proofs.Ytajgpilcbaoneaa.Flip
open Go.RowKit Go.Proofs.Ytajgpilcbaoneaa.P Go.Proofs.YtajgpilcbaoneaaW.PrintWords Go.Proofs.YtajgpilcbaoneaaW.PrintLast Go.Proofs.YtajgpilcbaoneaaW.PrintMore

/-- The loop that swaps, on places alone. -/
def swapI (R : List Int) : Nat → Int → List Int → List Int
  | 0, _, s => s
  | d + 1, i, s => if i < rd R i then swapI R d (i + 1) ((s.set i.toNat (rd s (rd R i))).set (rd R i).toNat (rd s i)) else swapI R d (i + 1) s
def iota (n : Nat) : List Int := (List.range n).map Int.ofNat
/-- Every number of a row is a place in it. -/
def In (R : List Int) : Prop := ∀ i : Int, 0 ≤ i → i < R.length → 0 ≤ rd R i ∧ rd R i < R.length
theorem rd_map (g : Int → S45) (s : List Int) (j : Int) (h0 : 0 ≤ j) (h1 : j < s.length) : rd_T45 (s.map g) j = g (rd s j) := by
  unfold rd_T45 rd
  have h : j.toNat < s.length := by omega
  rw [List.getD_eq_getElem?_getD, List.getD_eq_getElem?_getD, List.getElem?_map, List.getElem?_eq_getElem h]
  rfl
theorem map_rd (X : List S45) : (iota X.length).map (rd_T45 X) = X := by
  apply List.ext_getElem?
  intro j
  unfold iota
  by_cases h : j < X.length
  · rw [List.getElem?_map, List.getElem?_map, List.getElem?_range h, List.getElem?_eq_getElem h]
    simp [rd_T45, List.getD_eq_getElem?_getD, h]
  · rw [List.getElem?_eq_none (by simp; omega), List.getElem?_eq_none (by omega)]
theorem eta45 (x : S45) : (⟨x.f0, x.f1⟩ : S45) = x := rfl
theorem flip_l0 (g : Int → S45) (R : List Int) (hn : R.length ≤ 1000) (hR : In R) : ∀ (d k : Nat) (i : Int) (s : List Int), 0 ≤ i → i + d = R.length → d < k → s.length = R.length →
    flip_Flip.l0 k (s.map g) R (R.length : Int) i = some ((swapI R d i s).map g, 0) := by
  intro d
  induction d with
  | zero =>
    intro k i s h0 hi hk hs
    obtain ⟨k, rfl⟩ : ∃ m, k = m + 1 := ⟨k - 1, by omega⟩
    simp only [flip_Flip.l0, swapI]
    rw [if_neg (by omega)]
  | succ d ih =>
    intro k i s h0 hi hk hs
    obtain ⟨k, rfl⟩ : ∃ m, k = m + 1 := ⟨k - 1, by omega⟩
    have hlt : i < (R.length : Int) := by omega
    have hr := hR i h0 hlt
    have hw : wrap64 (i + 1) = i + 1 := by unfold wrap64; omega
    simp only [flip_Flip.l0, swapI]
    rw [if_pos hlt, if_pos h0, if_pos hlt, hw]
    by_cases c : i < rd R i
    · rw [if_pos c, if_pos c, if_pos hr.1, if_pos (by simp; omega), if_pos (by simp; omega), rd_map g s _ hr.1 (by omega), rd_map g s _ h0 (by omega), eta45, eta45, ← List.map_set, ← List.map_set]
      exact ih k (i + 1) _ (by omega) (by omega) (by omega) (by simp [hs])
    · rw [if_neg c, if_neg c]
      exact ih k (i + 1) s (by omega) (by omega) (by omega) hs

/-- A log's row: each place in it, each once, its own inverse; so the loop makes it, and so tells the reference. -/
def rowB (l : Int) : Bool := match flip_Row.f 80 l with
  | some (R, e) => decide (e = 0) && decide (R.length = (2 : Nat) ^ l.toNat) && decide (R.length ≤ 64) && R.all (fun x => decide (0 ≤ x) && decide (x < (R.length : Int))) && decide (swapI R R.length 0 (iota R.length) = R) && (List.range R.length).all (fun i => (headroomref08_Bits.f 80 i l == some (rd R i)) && decide (rd R (rd R i) = i))
  | none => false
set_option maxRecDepth 100000 in
theorem rowB_all : ∀ l ∈ logs, rowB l = true := by decide +kernel
theorem row_is {l : Int} (h : 2 ≤ l ∧ l ≤ 6) : ∃ R, (∀ k, 80 ≤ k → flip_Row.f k l = some (R, 0)) ∧ (R.length : Int) = 2 ^ l.toNat ∧ R.length ≤ 64 ∧ In R ∧ swapI R R.length 0 (iota R.length) = R ∧
    (∀ i : Int, 0 ≤ i → i < R.length → (∀ k, 80 ≤ k → headroomref08_Bits.f k i l = some (rd R i)) ∧ rd R (rd R i) = i) := by
  have hb := rowB_all l (mem_logs h)
  unfold rowB at hb
  split at hb
  · rename_i R e e1
    simp only [Bool.and_eq_true, decide_eq_true_eq] at hb
    obtain ⟨⟨⟨⟨⟨rfl, h2⟩, h3⟩, h4⟩, h5⟩, h6⟩ := hb
    refine ⟨R, fun k hk => at_rounds (fun k => flip_Row.mono _ k) hk e1, by rw [h2]; norm_cast, h3, fun i h0 hi => ?_, h5, fun i h0 hi => ?_⟩
    · have hn : i.toNat < R.length := by omega
      have := List.all_eq_true.1 h4 (R[i.toNat]) (List.getElem_mem hn)
      simp only [Bool.and_eq_true, decide_eq_true_eq] at this
      unfold rd
      rw [List.getD_eq_getElem?_getD, List.getElem?_eq_getElem hn]
      exact this
    · have := List.all_eq_true.1 h6 i.toNat (List.mem_range.2 (by omega))
      simp only [Bool.and_eq_true, decide_eq_true_eq, beq_iff_eq] at this
      rw [show ((i.toNat : Nat) : Int) = i from by omega] at this
      exact ⟨fun k hk => at_rounds (fun k => headroomref08_Bits.mono _ _ k) hk this.1, this.2⟩
  · cases hb

theorem refFlip_l0 (X : List S45) (l : Int) (hl : ∀ k, 80 ≤ k → headroomref08_Log.f k (X.length : Int) = some l) (R : List Int) (hRX : R.length = X.length) (hn : X.length ≤ 64) (hR : In R)
    (hb : ∀ i : Int, 0 ≤ i → i < R.length → ∀ k, 80 ≤ k → headroomref08_Bits.f k i l = some (rd R i)) : ∀ (d k : Nat) (i : Int), 0 ≤ i → i + d = X.length → d + 80 < k →
    headroomref08_Flip.l0 k X ((R.take i.toNat).map (rd_T45 X)) (X.length : Int) i = some (R.map (rd_T45 X)) := by
  intro d
  induction d with
  | zero =>
    intro k i h0 hi hk
    obtain ⟨k, rfl⟩ : ∃ m, k = m + 1 := ⟨k - 1, by omega⟩
    simp only [headroomref08_Flip.l0]
    rw [if_neg (by omega), List.take_of_length_le (by omega)]
  | succ d ih =>
    intro k i h0 hi hk
    obtain ⟨k, rfl⟩ : ∃ m, k = m + 1 := ⟨k - 1, by omega⟩
    have hlt : i < (X.length : Int) := by omega
    have hr := hR i h0 (by omega)
    have hw : wrap64 (i + 1) = i + 1 := by unfold wrap64; omega
    simp only [headroomref08_Flip.l0]
    rw [if_pos hlt, hl k (by omega)]
    simp only [Option.bind_some]
    rw [hb i h0 (by omega) k (by omega)]
    simp only [Option.bind_some]
    rw [if_pos hr.1, if_pos (by omega), if_pos (by simp; omega), hw, eta45]
    have ht : (R.take i.toNat).map (rd_T45 X) ++ [rd_T45 X (rd R i)] = (R.take (i + 1).toNat).map (rd_T45 X) := by
      rw [show (i + 1).toNat = i.toNat + 1 from by omega, List.take_add_one, List.map_append, List.getElem?_eq_getElem (show i.toNat < R.length from by omega)]
      simp [rd, List.getD_eq_getElem?_getD, show i.toNat < R.length from by omega]
    rw [ht]
    exact ih k (i + 1) (by omega) (by omega) (by omega)
theorem same_l0 (X : List S45) (hn : X.length ≤ 64) : ∀ (d k : Nat) (i : Int), 0 ≤ i → i + d = X.length → d < k → headroomref03_Same.l0 k X X (X.length : Int) i = some true := by
  intro d
  induction d with
  | zero =>
    intro k i h0 hi hk
    obtain ⟨k, rfl⟩ : ∃ m, k = m + 1 := ⟨k - 1, by omega⟩
    simp only [headroomref03_Same.l0]
    rw [if_neg (by omega)]
  | succ d ih =>
    intro k i h0 hi hk
    obtain ⟨k, rfl⟩ : ∃ m, k = m + 1 := ⟨k - 1, by omega⟩
    have hlt : i < (X.length : Int) := by omega
    have hw : wrap64 (i + 1) = i + 1 := by unfold wrap64; omega
    simp only [headroomref03_Same.l0]
    rw [if_pos hlt, if_pos h0, if_pos hlt, if_pos hlt, if_neg (by simp), hw]
    exact ih k (i + 1) (by omega) (by omega) (by omega)
theorem same_refl (X : List S45) (hn : X.length ≤ 64) (k : Nat) (hk : 80 ≤ k) : headroomref03_Same.f k X X = some true := by
  unfold headroomref03_Same.f
  rw [if_pos rfl]
  exact same_l0 X hn X.length k 0 (by omega) (by omega) (by omega)

theorem flip_no {X : List S45} (h : (X.length : Int) ≠ 4 ∧ (X.length : Int) ≠ 8 ∧ (X.length : Int) ≠ 16 ∧ (X.length : Int) ≠ 32 ∧ (X.length : Int) ≠ 64) {k : Nat} (hk : 80 ≤ k) : flip_Flip.f k X = some ([], 3) := by
  unfold flip_Flip.f
  rw [at_rounds (fun k => flip_Log.mono _ k) hk (len_no h).1]
  simp
theorem flip_yes {X : List S45} {l : Int} {R : List Int} (hlog : ∀ k, 80 ≤ k → flip_Log.f k (X.length : Int) = some (l, 0)) (hrow : ∀ k, 80 ≤ k → flip_Row.f k l = some (R, 0)) (hRX : R.length = X.length) (hn : R.length ≤ 64) (hR : In R) (hs : swapI R R.length 0 (iota R.length) = R) {k : Nat} (hk : 80 ≤ k) :
    flip_Flip.f k X = some (R.map (rd_T45 X), 0) := by
  unfold flip_Flip.f
  rw [hlog k hk]
  simp only [Option.bind_some]
  rw [if_pos trivial, hrow k hk]
  simp only [Option.bind_some]
  rw [if_pos (by omega), if_pos (by omega), if_pos (by simp)]
  have := flip_l0 (rd_T45 X) R (by omega) hR R.length k 0 (iota R.length) (by omega) (by omega) (by omega) (by simp [iota])
  rw [hs, hRX, map_rd] at this
  rw [hRX]
  exact this
end Go.Proofs.Ytajgpilcbaoneaa.Flip
