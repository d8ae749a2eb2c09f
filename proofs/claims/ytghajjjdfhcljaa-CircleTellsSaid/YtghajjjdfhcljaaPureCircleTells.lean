import Derived.Test.YtghajjjdfhcljaaPf8
import Derived.Test.YtghajjjdfhcljaaOk
import Derived.Test.YtghajjjdfhcljaaTurns
namespace Go.Proofs.Ytghajjjdfhcljaa.Pure
open Go.RowKit Go.Proofs.Ytghajjjdfhcljaa.P Go.Proofs.Ytghajjjdfhcljaa.Arc Go.Proofs.YtghajjjdfhcljaaW.PrintWords Go.Proofs.YtghajjjdfhcljaaW.PrintLast Go.Proofs.YtghajjjdfhcljaaW.PrintMore
theorem wf_range {a : Int} (h : (Lit.int .i64 a).wf = true) : -9223372036854775808 ≤ a ∧ a ≤ 9223372036854775807 := by
  simp only [Lit.wf, Bool.and_eq_true, decide_eq_true_eq] at h
  exact h
theorem pow56 : headroomref01_Pow.f 60 56 = some 72057594037927936 ∧ headroomref01_Pow.f 60 44 = some 17592186044416 := by decide +kernel
theorem alive06 : headroomlaw06_alive.f = some true := by decide +kernel
theorem ref_All : headroomref05_All.f 500 = some (angsL, 43757185469210200) := by decide +kernel
/-- May an angle be? -/
def okZ (z : Int) : Prop := -72057594037927936 ≤ z ∧ z ≤ 72057594037927936
theorem ref_Angle_yes (z : Int) (h : okZ z) : headroomref06_Angle.f 500 z = some true := by
  unfold headroomref06_Angle.f
  rw [at_rounds (fun k => headroomref01_Pow.mono _ k) (show 60 ≤ 500 by decide) pow56.1]
  simp only [Option.bind_some]
  rw [if_pos h.2, wrap_id (x := -72057594037927936) (by unfold I64; decide)]
  exact congrArg some (decide_eq_true h.1)
theorem ref_Angle_no (z : Int) (h : ¬ okZ z) : headroomref06_Angle.f 500 z = some false := by
  unfold headroomref06_Angle.f
  rw [at_rounds (fun k => headroomref01_Pow.mono _ k) (show 60 ≤ 500 by decide) pow56.1]
  simp only [Option.bind_some]
  rw [wrap_id (x := -72057594037927936) (by unfold I64; decide)]
  by_cases h1 : z ≤ 72057594037927936
  · rw [if_pos h1]
    exact congrArg some (decide_eq_false fun h2 => h ⟨h2, h1⟩)
  · rw [if_neg h1]
theorem ref_Point (z : Int) (h : okZ z) : headroomref06_Point.f 500 z = some ((runTo 43757185469210200 z 45).1, (runTo 43757185469210200 z 45).2.1) := by
  obtain ⟨h0, h1⟩ := h
  unfold headroomref06_Point.f
  rw [ref_All]
  simp only [Option.bind_some]
  rw [runOf_f _ z (by unfold I64; decide) (by unfold I64; omega) 500 (by decide)]
  generalize runTo 43757185469210200 z 45 = s
  rfl
theorem prog_Point_yes (z : Int) (h : okZ z) : circle_Point.f z = some ((runTo 43757185469210200 z 45).1, (runTo 43757185469210200 z 45).2.1, 0) := by
  unfold circle_Point.f
  rw [run_ok ⟨by decide, by decide, h.1, h.2⟩]
  generalize runTo 43757185469210200 z 45 = s
  rfl
theorem prog_Point_no (z : Int) (h : ¬ okZ z) : circle_Point.f z = some (0, 0, 2) := by
  unfold circle_Point.f
  rw [run_no (fun q => h ⟨q.2.2.1, q.2.2.2⟩)]
  rfl
/-- May a part be? -/
def okP (k log : Int) : Prop := 0 ≤ log ∧ log ≤ 6 ∧ 0 ≤ k ∧ k ≤ 2 ^ log.toNat
theorem pow_log (log : Int) (h0 : 0 ≤ log) (h1 : log ≤ 6) : headroomref01_Pow.f 499 log = some (2 ^ log.toNat) ∧ (2 : Int) ^ log.toNat ≤ 64 ∧ 1 ≤ (2 : Int) ^ log.toNat := by
  have : log = 0 ∨ log = 1 ∨ log = 2 ∨ log = 3 ∨ log = 4 ∨ log = 5 ∨ log = 6 := by omega
  rcases this with rfl | rfl | rfl | rfl | rfl | rfl | rfl <;> decide +kernel
theorem ref_Part_yes (k log : Int) (h : okP k log) : headroomref06_Part.f 499 k log = some true := by
  obtain ⟨h0, h1, h2, h3⟩ := h
  unfold headroomref06_Part.f
  rw [if_pos h0, if_pos h1, if_pos h2, (pow_log log h0 h1).1]
  exact congrArg some (decide_eq_true h3)
theorem ref_Part_no (k log : Int) (h : ¬ okP k log) : headroomref06_Part.f 499 k log = some false := by
  unfold headroomref06_Part.f
  by_cases h0 : log ≥ 0
  · rw [if_pos h0]
    by_cases h1 : log ≤ 6
    · rw [if_pos h1]
      by_cases h2 : k ≥ 0
      · rw [if_pos h2, (pow_log log h0 h1).1]
        exact congrArg some (decide_eq_false fun h3 => h ⟨h0, h1, h2, h3⟩)
      · rw [if_neg h2]
    · rw [if_neg h1]
  · rw [if_neg h0]
/-- The angle of a part. -/
def partZ (k log : Int) : Int := wrap64 (56593902016227522 * k) / 2 ^ log.toNat
theorem partZ_ok (k log : Int) (h : okP k log) : okZ (partZ k log) := by
  obtain ⟨h0, h1, h2, h3⟩ := h
  have hp := pow_log log h0 h1
  unfold partZ okZ
  generalize (2 : Int) ^ log.toNat = p at *
  obtain ⟨_, p1, p2⟩ := hp
  rw [wrap_id (by unfold I64; omega)]
  have a0 : 0 ≤ 56593902016227522 * k / p := Int.ediv_nonneg (by omega) (by omega)
  have a1 : 56593902016227522 * k / p ≤ 72057594037927936 := by
    refine Int.le_of_lt_add_one ((Int.ediv_lt_iff_lt_mul (by omega)).2 ?_)
    omega
  omega
theorem ref_Eighth (k log : Int) (h : okP k log) : headroomref06_Eighth.f 499 k log = some ((runTo 43757185469210200 (partZ k log) 45).1, (runTo 43757185469210200 (partZ k log) 45).2.1) := by
  have hz := partZ_ok k log h
  obtain ⟨h0, h1, h2, h3⟩ := h
  obtain ⟨z0, z1⟩ := hz
  have hp := pow_log log h0 h1
  have eA : headroomref05_All.f 499 = some (angsL, 43757185469210200) := by decide +kernel
  have eq : headroomref01_Floor.f 499 (wrap64 (56593902016227522 * k)) log = some (partZ k log) := by
    have := floor_f (wrap_range (56593902016227522 * k)) log.toNat 499 (by omega) (by decide)
    rw [show ((log.toNat : Nat) : Int) = log from by omega] at this
    exact this
  unfold headroomref06_Eighth.f
  rw [eA]
  simp only [Option.bind_some]
  unfold headroomref06_EighthOf.f
  rw [if_pos (by decide), show rd angsL 0 = 56593902016227522 from rfl, eq]
  simp only [Option.bind_some]
  rw [runOf_f _ (partZ k log) (by unfold I64; decide) (by unfold I64; omega) 499 (by decide)]
  generalize runTo 43757185469210200 (partZ k log) 45 = s
  rfl
theorem prog_Eighth_yes (k log : Int) (h : okP k log) : circle_Eighth.f k log = some ((runTo 43757185469210200 (partZ k log) 45).1, (runTo 43757185469210200 (partZ k log) 45).2.1, 0) := by
  have hz := partZ_ok k log h
  obtain ⟨h0, h1, h2, h3⟩ := h
  unfold circle_Eighth.f
  have hn : ¬ (log < 0 ∨ log > 6 ∨ k < 0 ∨ k > 2 ^ log.toNat) := by
    intro q
    rcases q with q | q | q | q
    · omega
    · omega
    · omega
    · exact absurd h3 (Int.not_le.2 q)
  rw [if_neg hn]
  rw [show wrap64 (56593902016227522 * k) / 2 ^ log.toNat = partZ k log from rfl, run_ok ⟨by decide, by decide, hz.1, hz.2⟩]
  generalize runTo 43757185469210200 (partZ k log) 45 = s
  rfl
theorem prog_Eighth_no (k log : Int) (h : ¬ okP k log) : circle_Eighth.f k log = some (0, 0, 1) := by
  unfold circle_Eighth.f
  rw [if_pos]
  by_cases h0 : log < 0
  · exact .inl h0
  by_cases h1 : log > 6
  · exact .inr (.inl h1)
  by_cases h2 : k < 0
  · exact .inr (.inr (.inl h2))
  · exact .inr (.inr (.inr (Int.not_le.1 fun h3 => h ⟨by omega, by omega, by omega, h3⟩)))
theorem j0_ok (k log : Int) : ∃ c d f, circle_Eighth.f k log = some (c, d, f) ∧ headroomlaw06_CircleTells.j0 500 k log f false c d = some true := by
  by_cases h : okP k log
  · refine ⟨_, _, _, prog_Eighth_yes k log h, ?_⟩
    rw [headroomlaw06_CircleTells.j0, if_neg (by decide), ref_Part_yes k log h]
    simp only [Option.bind_some, if_true]
    rw [ref_Eighth k log h]
    generalize runTo 43757185469210200 (partZ k log) 45 = s
    simp
  · refine ⟨_, _, _, prog_Eighth_no k log h, ?_⟩
    rw [headroomlaw06_CircleTells.j0, if_neg (by decide), ref_Part_no k log h]
    simp
theorem CircleTells : ∀ (a0 : Int) (a1 : Int) (a2 : Int), (Lit.int .i64 a0).wf = true → (Lit.int .i64 a1).wf = true → (Lit.int .i64 a2).wf = true → ∃ k, headroomlaw06_CircleTells.f k a0 a1 a2 = some true := by
  intro a0 a1 a2 _ _ _
  refine ⟨500, ?_⟩
  obtain ⟨c, d, f, he, hj⟩ := j0_ok a1 a2
  unfold headroomlaw06_CircleTells.f
  rw [he]
  by_cases h : okZ a0
  · rw [prog_Point_yes a0 h, ref_Angle_yes a0 h, ref_Point a0 h, alive06]
    generalize runTo 43757185469210200 a0 45 = s
    simp only [Option.bind_some, if_true, beq_self_eq_true, Bool.not_true, Bool.or_false]
    exact hj
  · rw [prog_Point_no a0 h, ref_Angle_no a0 h, alive06]
    simp only [Option.bind_some]
    exact hj
end Go.Proofs.Ytghajjjdfhcljaa.Pure
