/- The statement PlanEvery over numbers and lists alone. -/
import Derived.Test.YtbpanbmjkfhcgaaPf5
import Derived.Test.YtbpanbmjkfhcgaaPlan
set_option linter.unusedVariables false
set_option linter.unusedSimpArgs false
namespace Go.Proofs.Ytbpanbmjkfhcgaa.Pure
open Go.RowKit Go.Proofs.Ytbpanbmjkfhcgaa.P Go.Proofs.YtbpanbmjkfhcgaaW.PrintWords Go.Proofs.YtbpanbmjkfhcgaaW.PrintLast
open Go.Proofs.Ytbpanbmjkfhcgaa.Plan

def tup (x : S23) : Int × Int × Int × Int × Int × Bool := (x.f0, x.f1, x.f2, x.f3, x.f4, x.f5)
theorem tup_inj {x y : S23} (h : tup x = tup y) : x = y := by
  obtain ⟨a, b, c, d, e, f⟩ := x
  obtain ⟨a', b', c', d', e', f'⟩ := y
  simp only [tup, Prod.mk.injEq] at h
  obtain ⟨rfl, rfl, rfl, rfl, rfl, rfl⟩ := h
  rfl
def everyB : Bool := match headroomref13_Every.f 1500 with
  | some l => l.map tup == (okL plansL).map tup
  | none => false
set_option maxRecDepth 100000 in
theorem every_all : everyB = true := by decide +kernel
theorem ref_every : headroomref13_Every.f 1500 = some (okL plansL) := by
  have h := every_all
  unfold everyB at h
  split at h
  · rename_i l e
    rw [e]
    have h1 := eq_of_beq h
    rw [List.map_inj_right (fun x y e => tup_inj e) |>.1 h1]
  · cases h
theorem every_alive : headroomlaw13_alive.f 1500 = some true := by decide +kernel
theorem every_length : (okL plansL).length = 420 := by decide +kernel
theorem ok_each : ∀ x ∈ okL plansL, Ok x.f0 x.f1 x.f2 x.f3 x.f4 := by
  intro x hx
  have h1 := (List.mem_filter.1 hx).2
  unfold okB at h1
  rw [check_eq] at h1
  by_cases h : Ok x.f0 x.f1 x.f2 x.f3 x.f4
  · exact h
  · rw [if_neg h] at h1
    cases h1

def matchB (f l k s m : Int) (v : Bool) (x : S23) : Bool := x.f0 == f && (x.f1 == l && (x.f2 == k && (x.f3 == s && (x.f4 == m && (x.f5 == v)))))
def cnt (f l k s m : Int) (v : Bool) (L : List S23) : Int := ((L.filter (matchB f l k s m v)).length : Int)
def onceB (f l k s m : Int) (v : Bool) : Bool := (okL plansL).filter (matchB f l k s m v) |>.length |> (· == 1)
set_option maxRecDepth 100000 in
theorem once_all : ∀ f ∈ ([0, 1] : List Int), ∀ l ∈ logs, ∀ k ∈ threes, ∀ s ∈ threes, ∀ m ∈ threes, (k = 2 → s = 0) → ∀ i : Bool, onceB f l k s m i = true := by decide +kernel
theorem cnt_ok {f l k s m : Int} (v : Bool) (h : Ok f l k s m) : cnt f l k s m v (okL plansL) = 1 := by
  have h1 := each (Q := fun f l k s m i => onceB f l k s m i = true) once_all v h
  unfold onceB at h1
  have := eq_of_beq h1
  unfold cnt
  rw [this]
  rfl
theorem cnt_no {f l k s m : Int} (v : Bool) (h : ¬ Ok f l k s m) : cnt f l k s m v (okL plansL) = 0 := by
  unfold cnt
  rw [List.filter_eq_nil_iff.2]
  · rfl
  · intro x hx hm
    simp only [matchB, Bool.and_eq_true, beq_iff_eq] at hm
    obtain ⟨rfl, rfl, rfl, rfl, rfl, rfl⟩ := hm
    exact h (ok_each x hx)

theorem every_l0 (X : List S23) (hX : ∀ x ∈ X, Ok x.f0 x.f1 x.f2 x.f3 x.f4) (hn : X.length ≤ 1000) (f l k s m : Int) (v : Bool) :
    ∀ (rest : List S23) (n : Nat) (i c : Int), 0 ≤ i → X.drop i.toNat = rest → i + rest.length = X.length → 2 * rest.length < n → 0 ≤ c ∧ c ≤ i →
      ((Ok f l k s m ∧ c + cnt f l k s m v rest = 1) ∨ (¬ Ok f l k s m ∧ c + cnt f l k s m v rest = 0)) →
      headroomlaw13_PlanEvery.l0 n X c X (X.length : Int) i f l k s m v = some true := by
  intro rest
  induction rest with
  | nil =>
    intro n i c h0 hd hi hk hc hf
    obtain ⟨n, rfl⟩ : ∃ m, n = m + 1 := ⟨n - 1, by omega⟩
    simp only [headroomlaw13_PlanEvery.l0, check_eq]
    rw [if_neg (by simp at hi; omega)]
    simp only [cnt, List.filter_nil, List.length_nil] at hf
    rcases hf with ⟨h, hf⟩ | ⟨h, hf⟩
    · have hc1 : c = 1 := by omega
      subst hc1
      simp [h]
    · have hc1 : c = 0 := by omega
      subst hc1
      simp [h]
  | cons x rest ih =>
    intro n i c h0 hd hi hk hc hf
    obtain ⟨n, rfl⟩ : ∃ m, n = m + 2 := ⟨n - 2, by simp at hk; omega⟩
    simp only [List.length_cons] at hi hk
    have hlt : i < (X.length : Int) := by omega
    have hx : rd_T23 X i = x := by
      unfold rd_T23
      have : X[i.toNat]? = some x := by
        have := congrArg (fun l => l[0]?) hd
        simpa using this
      rw [List.getD_eq_getElem?_getD, this]
      rfl
    have hxm : x ∈ X := List.mem_of_mem_drop (i := i.toNat) (by rw [hd]; exact List.mem_cons_self)
    have hd' : X.drop (i + 1).toNat = rest := by
      rw [show (i + 1).toNat = i.toNat + 1 from by omega, ← List.drop_drop, hd]
      rfl
    have hw : wrap64 (i + 1) = i + 1 := by unfold wrap64; omega
    have hwc : wrap64 (c + 1) = c + 1 := by unfold wrap64; omega
    have hcnt : cnt f l k s m v (x :: rest) = (if matchB f l k s m v x = true then 1 else 0) + cnt f l k s m v rest := by
      unfold cnt
      rw [List.filter_cons]
      by_cases h : matchB f l k s m v x = true
      · rw [if_pos h, if_pos h]; simp; omega
      · rw [if_neg h, if_neg h]; simp
    rw [headroomlaw13_PlanEvery.l0, if_pos hlt, if_pos h0, if_pos hlt, if_pos hlt, hx, if_neg (by simp), check_eq, if_pos (hX x hxm)]
    simp only [Option.bind_some, headroomlaw13_PlanEvery.j2]
    rw [if_neg (by simp), hw, hwc]
    rw [hcnt] at hf
    show (if matchB f l k s m v x = true then _ else _) = _
    by_cases hm : matchB f l k s m v x = true
    · rw [if_pos hm] at hf ⊢
      exact ih n (i + 1) (c + 1) (by omega) hd' (by omega) (by omega) (by omega) (by rcases hf with ⟨h, e⟩ | ⟨h, e⟩; exact .inl ⟨h, by omega⟩; exact .inr ⟨h, by omega⟩)
    · rw [if_neg hm] at hf ⊢
      exact ih n (i + 1) c (by omega) hd' (by omega) (by omega) (by omega) (by rcases hf with ⟨h, e⟩ | ⟨h, e⟩; exact .inl ⟨h, by omega⟩; exact .inr ⟨h, by omega⟩)

theorem every_main (X : List S23) (hE : ∀ n, plan_Every.f = some X ∧ (n = 0 → headroomref13_Every.f 1500 = some X)) (hl : X.length = 420) (hok : ∀ x ∈ X, Ok x.f0 x.f1 x.f2 x.f3 x.f4) (f l k s m : Int) (v : Bool)
    (h1 : Ok f l k s m → cnt f l k s m v X = 1) (h0 : ¬ Ok f l k s m → cnt f l k s m v X = 0) (ha : headroomlaw13_alive.f 1500 = some true) (n : Nat) (hn : n = 1499) :
    headroomlaw13_PlanEvery.f (n + 1) f l k s m v = some true := by
  unfold headroomlaw13_PlanEvery.f
  rw [(hE 0).1]
  have e2 := (hE 0).2 rfl
  rw [show 1500 = n + 1 from by omega] at e2 ha
  rw [e2, ha]
  simp only [Option.bind_some, if_true]
  have hj : headroomlaw13_PlanEvery.j0 (n + 1) X X (!true) f l k s m v = headroomlaw13_PlanEvery.l0 n X 0 X (X.length : Int) 0 f l k s m v := by
    simp [headroomlaw13_PlanEvery.j0]
  rw [hj]
  refine every_l0 X hok (by omega) f l k s m v X n 0 0 (by omega) List.drop_zero (by omega) (by omega) (by omega) ?_
  by_cases h : Ok f l k s m
  · exact .inl ⟨h, by rw [h1 h]; rfl⟩
  · exact .inr ⟨h, by rw [h0 h]; rfl⟩

theorem PlanEvery : ∀ (a0_0 : Int) (a0_1 : Int) (a0_2 : Int) (a0_3 : Int) (a0_4 : Int) (a0_5 : Bool), (Lit.int .i64 a0_0).wf = true → (Lit.int .i64 a0_1).wf = true → (Lit.int .i64 a0_2).wf = true → (Lit.int .i64 a0_3).wf = true → (Lit.int .i64 a0_4).wf = true → ∃ k, headroomlaw13_PlanEvery.f k a0_0 a0_1 a0_2 a0_3 a0_4 a0_5 = some true := by
  intro f l k s m v _ _ _ _ _
  exact ⟨1499 + 1, every_main (okL plansL) (fun _ => ⟨rfl, fun _ => ref_every⟩) every_length ok_each f l k s m v (cnt_ok v) (cnt_no v) every_alive 1499 rfl⟩

end Go.Proofs.Ytbpanbmjkfhcgaa.Pure
