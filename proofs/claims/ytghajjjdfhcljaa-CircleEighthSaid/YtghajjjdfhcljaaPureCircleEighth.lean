import Derived.Test.YtghajjjdfhcljaaPf12
import Derived.Test.YtghajjjdfhcljaaBase
namespace Go.Proofs.Ytghajjjdfhcljaa.Pure
open Go.RowKit Go.Proofs.Ytghajjjdfhcljaa.P Go.Proofs.Ytghajjjdfhcljaa.Arc Go.Proofs.YtghajjjdfhcljaaW.PrintWords Go.Proofs.YtghajjjdfhcljaaW.PrintLast Go.Proofs.YtghajjjdfhcljaaW.PrintMore
/-- The law behind its arguments' folding: a part k of an eighth of log, p its whole. -/
def body (k log p : Int) : Option Bool :=
  (circle_Eighth.f p log).bind fun bt356 => ((circle_Eighth.f k (wrap64 (log + 1))).bind fun bt360 => ((circle_Eighth.f (wrap64 (2 * k)) (wrap64 (log + 1))).bind fun bt364 => ((headroomlaw06_mul.f bt360.1 bt360.1).bind fun t368 => ((headroomlaw06_mul.f bt360.2.1 bt360.2.1).bind fun t369 => ((headroomlaw06_mul.f bt360.1 bt360.2.1).bind fun t370 => ((headroomlaw06_alive.f).bind fun t371 => (if t371 = true then (if bt356.2.2 = 0 then (if bt360.2.2 = 0 then (if bt364.2.2 = 0 then ((headroomlaw06_near.f bt356.1 bt356.2.1 32768).bind fun t372 => (if t372 = true then ((headroomlaw06_near.f bt364.1 (wrap64 (t368 - t369)) 131072).bind fun t373 => (if t373 = true then ((headroomlaw06_near.f bt364.2.1 (wrap64 (2 * t370)) 131072).bind fun t374 => (some t374)) else (some false))) else (some false))) else (some false)) else (some false)) else (some false)) else (some false))))))))
theorem fold_range (a p : Int) (hp : 0 < p) (hp1 : p ≤ 64) : 0 ≤ Int.tmod (wrap64 (Int.tmod a p + p)) p ∧ Int.tmod (wrap64 (Int.tmod a p + p)) p < p := by
  have h1 : -p < Int.tmod a p := Int.lt_tmod_of_pos a hp
  have h2 : Int.tmod a p < p := Int.tmod_lt_of_pos _ hp
  rw [wrap_id (by unfold I64; omega), Int.tmod_eq_emod_of_nonneg (by omega)]
  exact ⟨Int.emod_nonneg _ (by omega), Int.emod_lt_of_pos _ hp⟩
def bodies (log : Int) (p : Nat) : Bool := allB (fun k => decide (body k log p = some true)) p
theorem all_bodies : (bodies 0 1 && bodies 1 2 && bodies 2 4 && bodies 3 8 && bodies 4 16 && bodies 5 32) = true := by decide +kernel
theorem body_true (k log : Int) (p : Nat) (h : bodies log p = true) (h0 : 0 ≤ k) (h1 : k < p) : body k log p = some true := by
  have := allB_at h (k := k.toNat) (by omega)
  rw [show ((k.toNat : Nat) : Int) = k from by omega] at this
  exact of_decide_eq_true this
theorem CircleEighth : ∀ (a0 : Int) (a1 : Int), (Lit.int .i64 a0).wf = true → (Lit.int .i64 a1).wf = true → headroomlaw06_CircleEighth.f a0 a1 = some true := by
  intro a0 a1 _ _
  have hall := all_bodies
  simp only [Bool.and_eq_true] at hall
  obtain ⟨⟨⟨⟨⟨b0, b1⟩, b2⟩, b3⟩, b4⟩, b5⟩ := hall
  unfold headroomlaw06_CircleEighth.f
  obtain ⟨l0, l1⟩ := fold_range a1 6 (by decide) (by decide)
  generalize Int.tmod (wrap64 (Int.tmod a1 6 + 6)) 6 = L at *
  rw [if_pos l0]
  have key : ∀ p : Nat, shl .i64 1 L = (p : Int) → 0 < p → p ≤ 64 → bodies L p = true → (if shl .i64 1 L = 0 then none else body (Int.tmod (wrap64 (Int.tmod a0 (shl .i64 1 L) + shl .i64 1 L)) (shl .i64 1 L)) L (shl .i64 1 L)) = some true := by
    intro p hp hp0 hp1 hb
    rw [hp, if_neg (by omega)]
    obtain ⟨k0, k1⟩ := fold_range a0 p (by omega) (by omega)
    exact body_true _ L p hb k0 k1
  have cases : L = 0 ∨ L = 1 ∨ L = 2 ∨ L = 3 ∨ L = 4 ∨ L = 5 := by omega
  show (if shl .i64 1 L = 0 then none else body (Int.tmod (wrap64 (Int.tmod a0 (shl .i64 1 L) + shl .i64 1 L)) (shl .i64 1 L)) L (shl .i64 1 L)) = some true
  rcases cases with rfl | rfl | rfl | rfl | rfl | rfl
  · exact key 1 (by decide +kernel) (by decide) (by decide) b0
  · exact key 2 (by decide +kernel) (by decide) (by decide) b1
  · exact key 4 (by decide +kernel) (by decide) (by decide) b2
  · exact key 8 (by decide +kernel) (by decide) (by decide) b3
  · exact key 16 (by decide +kernel) (by decide) (by decide) b4
  · exact key 32 (by decide +kernel) (by decide) (by decide) b5
end Go.Proofs.Ytghajjjdfhcljaa.Pure
