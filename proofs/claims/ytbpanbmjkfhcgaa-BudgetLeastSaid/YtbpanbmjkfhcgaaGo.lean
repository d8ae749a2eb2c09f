/- Plain facts on what a whole plan loses: pass by pass, by the program and by the reference. -/
import Derived.Test.YtbpanbmjkfhcgaaBudget
import Derived.Test.YtbpanbmjkfhcgaaPf28
set_option linter.unusedSimpArgs false
set_option linter.unusedVariables false
namespace Go.Proofs.Ytbpanbmjkfhcgaa.Goes
open Go.RowKit Go.Proofs.Ytbpanbmjkfhcgaa.P Go.Proofs.YtbpanbmjkfhcgaaW.PrintWords Go.Proofs.YtbpanbmjkfhcgaaW.PrintLast Go.Proofs.YtbpanbmjkfhcgaaW.PrintMore
open Go.Proofs.Ytbpanbmjkfhcgaa.Plan Go.Proofs.Ytbpanbmjkfhcgaa.Num Go.Proofs.Ytbpanbmjkfhcgaa.Budget

/-- How far a pass may shift. -/
def top (s k : Int) : Int := if s = 0 then k / 2 else if s = 2 then 0 else 1 + k / 2
/-- May a pass shift so far? -/
def Good (s k x : Int) : Prop := 0 ≤ x ∧ x ≤ top s k ∧ (s = 1 ∨ x = top s k)
instance (s k x : Int) : Decidable (Good s k x) := by unfold Good; infer_instance
/-- What is lost behind the passes, from one on. -/
def go (s : Int) (L : List S34) (X : List Int) : Nat → Int → Int → Option Int
  | 0, _, e => some e
  | d + 1, i, e => if Good s (rd_T34 L i).f0 (rd X i) then go s L X d (i + 1) (stepV e (rd_T34 L i).f0 s (rd X i)) else none

theorem greatest_eq (f l k m : Int) (v : Bool) {s a : Int} (hs : 0 ≤ s ∧ s ≤ 2) (ha : a = 2 ∨ a = 4) : budget_greatest.f f l k s m v a = some (top s a, decide (s ≠ 1)) := by
  have h2 : s = 0 ∨ s = 1 ∨ s = 2 := by omega
  have w1 : wrap64 (Int.tdiv 2 2) = 1 := by decide +kernel
  have w2 : wrap64 (Int.tdiv 4 2) = 2 := by decide +kernel
  have w3 : wrap64 (1 + 1) = 2 := by decide +kernel
  have w4 : wrap64 (1 + 2) = 3 := by decide +kernel
  unfold budget_greatest.f
  rcases h2 with rfl | rfl | rfl <;> rcases ha with rfl | rfl <;> simp only [w1, w2, w3, w4] <;> rfl
theorem top_bounds {s a : Int} (hs : 0 ≤ s ∧ s ≤ 2) (ha : a = 2 ∨ a = 4) : 0 ≤ top s a ∧ top s a ≤ 3 := by
  have h2 : s = 0 ∨ s = 1 ∨ s = 2 := by omega
  rcases h2 with rfl | rfl | rfl <;> rcases ha with rfl | rfl <;> decide
theorem stepV_bounds {e a s x : Int} (he : 0 ≤ e) (ha : a = 2 ∨ a = 4) (hx : 0 ≤ x ∧ x ≤ 3) : 0 ≤ stepV e a s x ∧ stepV e a s x ≤ 4 * e + 1640 := by
  unfold stepV
  have h' : x = 0 ∨ x = 1 ∨ x = 2 ∨ x = 3 := by omega
  rcases ha with rfl | rfl <;> rcases h' with rfl | rfl | rfl | rfl <;> simp <;> split <;> omega

/-- Passes' kernels are 2 or 4. -/
def Kern (L : List S34) : Prop := ∀ i : Int, 0 ≤ i → i < L.length → (rd_T34 L i).f0 = 2 ∨ (rd_T34 L i).f0 = 4
/-- How much may be lost ahead of a pass. -/
def cap (i : Int) : Int := 1000000 * 8 ^ i.toNat
theorem cap_succ {i : Int} (h : 0 ≤ i) : cap (i + 1) = 8 * cap i := by
  unfold cap
  rw [show (i + 1).toNat = i.toNat + 1 from by omega, Int.pow_succ]
  omega
theorem cap_ge {i : Int} (h : 0 ≤ i) : 1000000 ≤ cap i := by
  unfold cap
  have : (0 : Int) < 8 ^ i.toNat := Int.pow_pos (by decide)
  omega
theorem cap_le {i : Int} (h : 0 ≤ i) (h6 : i ≤ 6) : cap i ≤ 262144000000 := by
  have h' : i = 0 ∨ i = 1 ∨ i = 2 ∨ i = 3 ∨ i = 4 ∨ i = 5 ∨ i = 6 := by omega
  rcases h' with rfl | rfl | rfl | rfl | rfl | rfl | rfl <;> decide
theorem cap_step {e a s x i : Int} (hi : 0 ≤ i) (he : 0 ≤ e ∧ e ≤ cap i) (ha : a = 2 ∨ a = 4) (hx : 0 ≤ x ∧ x ≤ 3) : 0 ≤ stepV e a s x ∧ stepV e a s x ≤ cap (i + 1) := by
  have h1 := stepV_bounds (s := s) he.1 ha hx
  have h2 := cap_ge hi
  rw [cap_succ hi]
  omega

def out : Option Int → Int × Int
  | some e => (e, 0)
  | none => (0, 1)

theorem of0_l0 (L : List S34) (X : List Int) (hL : L.length ≤ 6) (hX : X.length = L.length) (hK : Kern L) (f l kk m : Int) (v : Bool) {s : Int} (hs : 0 ≤ s ∧ s ≤ 2) :
    ∀ (d k : Nat) (i e : Int), 0 ≤ i → i + d = L.length → d < k → 0 ≤ e ∧ e ≤ cap i → budget_Of0.l0 k X e L (L.length : Int) i f l kk s m v = some (out (go s L X d i e)) := by
  intro d
  induction d with
  | zero =>
    intro k i e h0 hi hk he
    obtain ⟨k, rfl⟩ : ∃ m, k = m + 1 := ⟨k - 1, by omega⟩
    simp only [budget_Of0.l0]
    rw [if_neg (by omega)]
    rfl
  | succ d ih =>
    intro k i e h0 hi hk he
    obtain ⟨k, rfl⟩ : ∃ m, k = m + 1 := ⟨k - 1, by omega⟩
    have hlt : i < (L.length : Int) := by omega
    have ha := hK i h0 hlt
    have hcap := cap_le h0 (by omega)
    have hb := top_bounds hs ha
    have hw : wrap64 (i + 1) = i + 1 := wrap_id (by unfold I64; omega)
    simp only [budget_Of0.l0, go]
    rw [if_pos hlt, if_pos h0, if_pos hlt, if_pos (by omega), greatest_eq _ _ _ _ _ hs ha, hw]
    simp only [Option.bind_some]
    generalize rd X i = x
    generalize (rd_T34 L i).f0 = a at *
    by_cases hg : Good s a x
    · obtain ⟨g0, g1, g2⟩ := id hg
      have hst := ih k (i + 1) (stepV e a s x) (by omega) (by omega) (by omega) (cap_step h0 he ha (by omega))
      rw [if_neg (by omega), if_neg (by omega), step_eq (by omega) ha (by omega), if_pos hg]
      simp only [Option.bind_some]
      rw [hst]
      by_cases h1 : s = 1
      · simp [h1]
      · rw [if_pos (by simp [h1]), if_pos (by omega)]
    · rw [if_neg hg]
      unfold Good at hg
      by_cases c0 : x < 0
      · rw [if_pos c0]; rfl
      · rw [if_neg c0]
        by_cases c1 : x > top s a
        · rw [if_pos c1]; rfl
        · rw [if_neg c1]
          rw [if_pos (by simp; omega), if_neg (by omega)]
          rfl

/-- The passes of a plan that may be, by both. -/
def kernB (L : List S34) : Bool := L.all fun x => decide (x.f0 = 2 ∨ x.f0 = 4)
def sameB (a b : List S34) : Bool := a.map (fun x => (x.f0, x.f1)) == b.map (fun x => (x.f0, x.f1))
def passesB (f l k s m : Int) (i : Bool) : Bool := match plan_Passes.f 61 f l k s m i with
  | some (a, e) => decide (e = 0) && kernB a && decide (a.length ≤ 6) && (decide (k ≠ 2) || decide (a.length = 0))
  | _ => false
set_option maxRecDepth 100000 in
theorem passes_all : ∀ f ∈ ([0, 1] : List Int), ∀ l ∈ logs, ∀ k ∈ threes, ∀ s ∈ threes, ∀ m ∈ threes, (k = 2 → s = 0) → ∀ i : Bool, passesB f l k s m i = true := by decide +kernel
theorem sameB_eq {a b : List S34} (h : sameB a b = true) : a = b := by
  unfold sameB at h
  have h1 := eq_of_beq h
  have hi : Function.Injective (fun x : S34 => (x.f0, x.f1)) := by
    rintro ⟨p, q⟩ ⟨p', q'⟩ e
    simp at e
    obtain ⟨rfl, rfl⟩ := e
    rfl
  exact List.map_inj_right (fun x y e => hi e) |>.1 h1
theorem kernB_kern {L : List S34} (h : kernB L = true) : Kern L := by
  intro i h0 hlt
  unfold rd_T34
  have hn : i.toNat < L.length := by omega
  rw [List.getD_eq_getElem?_getD, List.getElem?_eq_getElem hn, Option.getD_some]
  have := List.all_eq_true.1 h _ (List.getElem_mem hn)
  simpa using this

theorem passes_ok {f l k s m : Int} {i : Bool} (ok : Ok f l k s m) : ∃ L, plan_Passes.f 61 f l k s m i = some (L, 0) ∧ Kern L ∧ L.length ≤ 6 ∧ (k = 2 → L.length = 0) := by
  have h := each (Q := fun f l k s m i => passesB f l k s m i = true) passes_all i ok
  unfold passesB at h
  split at h
  · rename_i a e e1
    simp only [Bool.and_eq_true, Bool.or_eq_true, decide_eq_true_eq] at h
    obtain ⟨⟨⟨rfl, h2⟩, h3⟩, h4⟩ := h
    exact ⟨a, e1, kernB_kern h2, h3, fun hk => by rcases h4 with h | h; exact absurd hk h; exact h⟩
  · cases h
theorem of_no {f l k s m : Int} {i : Bool} (h : ¬ Ok f l k s m) (n : Nat) (X : List Int) : budget_Of.f n f l k s m i X = some (0, 4) := by
  unfold budget_Of.f budget_Of0.f
  rw [passes_no i h]
  by_cases h2 : k = 2
  · rw [if_pos h2]; rfl
  · rw [if_neg h2]; rfl
/-- What a plan that may be loses. -/
def ofV (f l k s m : Int) (i : Bool) (L : List S34) (X : List Int) : Int × Int :=
  if X.length = L.length then (if k = 2 then (91 + 224 * l, 0) else out (go s L X L.length 0 (if s = 0 then 91 else 0))) else (0, 1)
theorem of_ok {n : Nat} (hn : 10 ≤ n) {f l k s m : Int} {i : Bool} (ok : Ok f l k s m) {L : List S34} (hp : plan_Passes.f n f l k s m i = some (L, 0)) (hK : Kern L) (hL : L.length ≤ 6) (X : List Int) :
    budget_Of.f n f l k s m i X = some (ofV f l k s m i L X) := by
  obtain ⟨o1, o2, o3, o4, o5, o6⟩ := id ok
  unfold budget_Of.f budget_Of0.f ofV
  rw [hp]
  simp only [Option.bind_some]
  rw [Budget.start_eq, if_pos ok]
  simp only [Option.bind_some]
  by_cases h2 : k = 2
  · obtain rfl := o6 h2
    rw [if_pos h2, if_pos h2, if_pos trivial]
    simp only [if_true]
    by_cases hX : X.length = L.length
    · rw [if_pos (by omega), if_pos hX, wrap_id (x := 224 * l) (by unfold I64; omega), wrap_id (by unfold I64; omega)]
    · rw [if_neg (by omega), if_neg hX]
  · rw [if_neg h2, if_neg h2, if_pos trivial]
    by_cases hX : X.length = L.length
    · rw [if_pos (by omega), if_pos hX, if_neg h2]
      have c0 := cap_ge (i := 0) (by decide)
      exact of0_l0 L X hL hX hK f l k m i o4 L.length n 0 _ (by omega) (by omega) (by omega) (by split <;> omega)
    · rw [if_neg (by omega), if_neg hX]
end Go.Proofs.Ytbpanbmjkfhcgaa.Goes
