/- The statement ChooseMeets over numbers and lists alone. -/
import Derived.Test.YtbpanbmjkfhcgaaPf12
import Derived.Test.YtbpanbmjkfhcgaaPlan
set_option linter.unusedVariables false
set_option linter.unusedSimpArgs false
namespace Go.Proofs.Ytbpanbmjkfhcgaa.Pure
open Go.RowKit Go.Proofs.Ytbpanbmjkfhcgaa.P Go.Proofs.YtbpanbmjkfhcgaaW.PrintWords Go.Proofs.YtbpanbmjkfhcgaaW.PrintLast Go.Proofs.YtbpanbmjkfhcgaaW.PrintMore
open Go.Proofs.Ytbpanbmjkfhcgaa.Plan

theorem loss_up (a b c d e : Int) (g : Bool) (v : Int) (h : choose_loss.f 60 a b c d e g = some v) : ∀ n, choose_loss.f (n + 60) a b c d e g = some v := by
  intro n
  induction n with
  | zero => simpa using h
  | succ n ih =>
    rw [show n + 1 + 60 = (n + 60) + 1 from by omega]
    exact choose_loss.mono _ _ _ _ _ _ _ v ih
theorem meets_alive : headroomlaw22_alive.f 60 = some true := by decide +kernel
theorem meets_alive' : headroomlaw22_alive.f 481 = some true := by decide +kernel
theorem meets_length : (okL plansL).length = 420 := by decide +kernel
theorem meets_ok : ∀ x ∈ okL plansL, Ok x.f0 x.f1 x.f2 x.f3 x.f4 := by
  intro x hx
  have h1 := (List.mem_filter.1 hx).2
  unfold okB at h1
  rw [check_eq] at h1
  by_cases h : Ok x.f0 x.f1 x.f2 x.f3 x.f4
  · exact h
  · rw [if_neg h] at h1
    cases h1

/-- The plan that loses least, and its loss. -/
def planM (f l m : Int) (i : Bool) : Option ((Int × Int × Int × Int × Int × Bool) × Int) :=
  (choose_three.f 481 f l 0 0 m i).bind fun t => (api_Plan_int.f 481 t).bind fun b => (choose_loss.f 481 b.1 b.2.1 b.2.2.1 b.2.2.2.1 b.2.2.2.2.1 b.2.2.2.2.2).bind fun v => some (b, v)
/-- No plan of a log that halves loses less than so much. -/
def leastB (l v : Int) : Bool := (okL plansL).all fun x => if x.f1 = l ∧ x.f3 = 0 then (match choose_loss.f 60 x.f0 x.f1 x.f2 x.f3 x.f4 x.f5 with | some w => decide (v ≤ w) | none => false) else true
def lossL (l : Int) : Int := match planM 0 l 0 false with | some (_, v) => v | none => 0
def coreM (f l m : Int) (i : Bool) : Bool := match planM f l m i with
  | some (b, v) => decide (Ok b.1 b.2.1 b.2.2.1 b.2.2.2.1 b.2.2.2.2.1) && decide (v = lossL l)
  | none => false
set_option maxRecDepth 100000 in
theorem coreM_all : ∀ f ∈ ([0, 1] : List Int), ∀ l ∈ logs, ∀ m ∈ threes, ∀ i : Bool, coreM f l m i = true := by decide +kernel
set_option maxRecDepth 100000 in
theorem leastB_all : ∀ l ∈ logs, leastB l (lossL l) = true := by decide +kernel
def someB : Bool := (okL plansL).all fun x => (choose_loss.f 60 x.f0 x.f1 x.f2 x.f3 x.f4 x.f5).isSome
set_option maxRecDepth 100000 in
theorem some_all : someB = true := by decide +kernel

theorem meets_l0 (X : List S23) (l most : Int) (hX : ∀ x ∈ X, Ok x.f0 x.f1 x.f2 x.f3 x.f4 ∧ ∃ v, choose_loss.f 60 x.f0 x.f1 x.f2 x.f3 x.f4 x.f5 = some v ∧ (x.f1 = l → x.f3 = 0 → ¬ v ≤ most)) (hn : X.length ≤ 1000) :
    ∀ (rest : List S23) (i : Int), 0 ≤ i → X.drop i.toNat = rest → i + rest.length = X.length → headroomlaw22_ChooseMeets.l0 (rest.length + 61) l most X (X.length : Int) i = some true := by
  intro rest
  induction rest with
  | nil =>
    intro i h0 hd hi
    rw [show ([] : List S23).length + 61 = 60 + 1 from rfl, headroomlaw22_ChooseMeets.l0, if_neg (by simp at hi; omega), meets_alive]
    rfl
  | cons x rest ih =>
    intro i h0 hd hi
    simp only [List.length_cons] at hi
    have hlt : i < (X.length : Int) := by omega
    have hx : rd_T23 X i = x := by
      unfold rd_T23
      have : X[i.toNat]? = some x := by
        have := congrArg (fun l => l[0]?) hd
        simpa using this
      rw [List.getD_eq_getElem?_getD, this]
      rfl
    have hxm : x ∈ X := List.mem_of_mem_drop (i := i.toNat) (by rw [hd]; exact List.mem_cons_self)
    have hd' : X.drop (i + 1).toNat = rest := by
      rw [show (i + 1).toNat = i.toNat + 1 from by omega, ← List.drop_drop, hd]
      rfl
    have hw : wrap64 (i + 1) = i + 1 := by unfold wrap64; omega
    obtain ⟨hok, v, hv, hno⟩ := hX x hxm
    have hv' := loss_up _ _ _ _ _ _ v hv (rest.length + 1)
    have hm : choose_Meets.f (rest.length + 61) x.f0 x.f1 x.f2 x.f3 x.f4 x.f5 most = some (decide (v ≤ most), 0) := by
      unfold choose_Meets.f
      rw [check_eq, if_pos hok, show rest.length + 61 = rest.length + 1 + 60 from by omega, hv']
      simp
    have ih' := ih (i + 1) (by omega) hd' (by omega)
    rw [List.length_cons, show rest.length + 1 + 61 = rest.length + 61 + 1 from by omega, headroomlaw22_ChooseMeets.l0, if_pos hlt, if_pos h0, if_pos hlt, hx, hm, hw]
    simp only [Option.bind_some]
    rw [if_pos trivial]
    by_cases c : v ≤ most
    · rw [if_pos (by simpa using c)]
      by_cases c1 : x.f1 = l
      · rw [if_pos c1, if_neg (fun c3 => hno c1 c3 c)]
        exact ih'
      · rw [if_neg c1]
        exact ih'
    · rw [if_neg (by simpa using c)]
      exact ih'

theorem ChooseMeets : ∀ (a0 : Int) (a1 : Int) (a2 : Int) (a3 : Int) (a4 : Int) (a5 : Bool), (Lit.int .i64 a0).wf = true → (Lit.int .i64 a1).wf = true → (Lit.int .i64 a2).wf = true → (Lit.int .i64 a3).wf = true → (Lit.int .i64 a4).wf = true → ∃ k, headroomlaw22_ChooseMeets.f k a0 a1 a2 a3 a4 a5 = some true := by
  intro f l m most more i _ _ _ _ _
  refine ⟨481, ?_⟩
  unfold headroomlaw22_ChooseMeets.f choose_Plan.f
  rw [check_eq, meets_alive']
  by_cases h : Ok f l 0 0 m
  · obtain ⟨h1, h2, _, _, h5, _⟩ := id h
    have hl : l ∈ logs := by
      have : l = 2 ∨ l = 3 ∨ l = 4 ∨ l = 5 ∨ l = 6 := by omega
      rcases this with rfl | rfl | rfl | rfl | rfl <;> decide
    have hf : f ∈ ([0, 1] : List Int) := by
      have : f = 0 ∨ f = 1 := by omega
      rcases this with rfl | rfl <;> decide
    have hm : m ∈ threes := by
      have : m = 0 ∨ m = 1 ∨ m = 2 := by omega
      rcases this with rfl | rfl | rfl <;> decide
    have hc := coreM_all f hf l hl m hm i
    have hleast := leastB_all l hl
    unfold coreM at hc
    split at hc
    · rename_i b v e1
      simp only [Bool.and_eq_true, decide_eq_true_eq] at hc
      obtain ⟨hbok, hv⟩ := hc
      unfold planM at e1
      obtain ⟨t, ht, e1⟩ := Option.bind_eq_some_iff.1 e1
      obtain ⟨b', hb, e1⟩ := Option.bind_eq_some_iff.1 e1
      obtain ⟨v', hv', e1⟩ := Option.bind_eq_some_iff.1 e1
      simp only [Option.some.injEq, Prod.mk.injEq] at e1
      obtain ⟨rfl, rfl⟩ := e1
      simp only [Option.bind_some]
      rw [if_pos h, if_pos rfl, ht]
      simp only [Option.bind_some]
      rw [hb]
      simp only [Option.bind_some]
      rw [hv']
      simp only [Option.bind_some]
      by_cases hgt : v' > most
      · rw [if_pos hgt]
        simp only [Option.bind_some, plan_Every.f, if_true]
        have hlen := meets_length
        have := meets_l0 (okL plansL) l most (fun x hx => ⟨meets_ok x hx, by
          have hs := List.all_eq_true.1 some_all x hx
          obtain ⟨w, hw⟩ := Option.isSome_iff_exists.1 hs
          refine ⟨w, hw, fun c1 c3 => ?_⟩
          have hb := List.all_eq_true.1 hleast x hx
          simp only [c1, c3, and_self, if_true] at hb
          rw [c1, c3] at hw
          rw [hw] at hb
          simp only [decide_eq_true_eq] at hb
          omega⟩) (by omega) (okL plansL) 0 (by omega) rfl (by omega)
        rw [hlen] at this ⊢
        exact this
      · rw [if_neg hgt]
        have hM : choose_Meets.f 481 b'.1 b'.2.1 b'.2.2.1 b'.2.2.2.1 b'.2.2.2.2.1 b'.2.2.2.2.2 most = some (true, 0) := by
          unfold choose_Meets.f
          rw [check_eq, if_pos hbok]
          simp only [Option.bind_some]
          rw [if_pos trivial, hv']
          simp
          omega
        have hmx : ¬ v' > mx most more := by
          unfold mx
          split <;> omega
        simp only [Option.bind_some]
        rw [if_neg (by decide), if_pos trivial, hM]
        simp only [Option.bind_some]
        rw [if_neg hmx]
        rw [check_eq, if_pos hbok]
        simp
    · cases hc
  · rw [if_neg h]
    simp

end Go.Proofs.Ytbpanbmjkfhcgaa.Pure
