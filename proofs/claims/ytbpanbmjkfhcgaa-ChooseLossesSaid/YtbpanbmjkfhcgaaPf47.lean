-- Printed for this claim by drive.py (a program of this session's) through the kit's print program; not trusted: Lean checks it.
import Derived.Test.YtbpanbmjkfhcgaaP0
import Derived.BigRegion
import Derived.RegionTactic
import Derived.WideKeyRuns
namespace Go.Proofs.Ytbpanbmjkfhcgaa.P
open Go.RowKit Go.Proofs.YtbpanbmjkfhcgaaW.PrintWords Go.Proofs.YtbpanbmjkfhcgaaW.PrintLast Go.Proofs.YtbpanbmjkfhcgaaW.PrintMore
attribute [local go_sem] max2_int min2_int max_two min_two max_three min_three max_four min_four   -- for this text's walks alone
set_option linter.unusedVariables false
set_option linter.unusedSimpArgs false

/-! ### budget_loses: function 47 -/
-- IMPORT Derived.WideKeyRuns
-- IMPORT Derived.RegionTactic
-- IMPORT Derived.BigRegion
/-- A rule, as a value. -/
@[reducible] def ruleV (a : Int) (p : Bool) : Value := .agg #[.int .i64 a, .bool p]
theorem rule_eq (w : World) (a b : Int) (p q : Bool) : (Op.equal 77 (ruleV a p) (ruleV b q)).run Try.prog w = .ok (a == b && (p == q)) w := by
  show (Op.equalIn (9998 + 2) 77 _ _).run Try.prog w = _
  refine eqA_of Try.underlying77 (by kernel_rfl) ?_
  refine eqf_cons (by rfl) (by go_simp; rfl) (by go_simp; rfl) (by go_simp) ?_
  exact eqf_last (by rfl) (by go_simp; rfl) (by go_simp; rfl) (by go_simp)
theorem rule_key (e : Bool) (w : World) (a : Int) (p : Bool) : (Instr.checkKey e 10000 77 (ruleV a p)).run Try.prog w = .ok () w := by
  rfl
/-- Entries: a rule, and what is lost; born one behind the other. -/
def entries : List (Int × Bool × Int) → Nat → List MapEntry
  | [], _ => []
  | (a, p, v) :: l, n => ⟨ruleV a p, .int .i64 v, n⟩ :: entries l (n + 1)
def has (l : List (Int × Bool × Int)) (a : Int) (p : Bool) : Option Int := (l.find? fun x => x.1 == a && (x.2.1 == p)).map fun x => x.2.2
theorem find_entries (w : World) (a : Int) (p : Bool) : ∀ (l : List (Int × Bool × Int)) (n i : Nat),
    ∃ j, (Instr.findAsking 77 (ruleV a p) (entries l n) i).run Try.prog w = .ok ((has l a p).map fun v => (j, .int .i64 v)) w
  | [], n, i => ⟨0, rfl⟩
  | (b, q, v) :: l, n, i => by
    by_cases h : (a == b && (p == q)) = true
    · refine ⟨i, ?_⟩
      have hh : (b == a && (q == p)) = true := by simp only [Bool.and_eq_true, beq_iff_eq] at h ⊢; exact ⟨h.1.symm, h.2.symm⟩
      simp [entries, Instr.findAsking, rule_eq, h, has, hh]
    · obtain ⟨j, hj⟩ := find_entries w a p l (n + 1) (i + 1)
      have hh : (b == a && (q == p)) = false := by
        rw [Bool.eq_false_iff]; intro hc; apply h; simp only [Bool.and_eq_true, beq_iff_eq] at hc ⊢; exact ⟨hc.1.symm, hc.2.symm⟩
      have h' : (a == b && (p == q)) = false := by simpa using h
      refine ⟨j, ?_⟩
      simp only [entries, Instr.findAsking]
      simp only [has] at hj ⊢
      rw [List.find?_cons_of_neg (by simpa using hh)]
      simp [rule_eq, h', hj]


theorem entries_snoc (a : Int) (p : Bool) (v : Int) : ∀ (l : List (Int × Bool × Int)) (n : Nat), entries (l ++ [(a, p, v)]) n = entries l n ++ [⟨ruleV a p, .int .i64 v, n + l.length⟩]
  | [], n => rfl
  | (b, q, u) :: l, n => by simp [entries, entries_snoc a p v l (n + 1), Nat.add_assoc, Nat.add_comm 1]
/-- The map, as it lies in memory. -/
def lmap (l : List (Int × Bool × Int)) : Obj := .map (entries l 0).toArray l.length
theorem hwide77 : (match Try.prog.underlying 77 with | some (.array _ _) | some (.struct _) => true | _ => false) = true := by rw [Try.underlying77]

theorem findKey77 (w : World) (x : Value) (es : List MapEntry) : (Instr.findKey 77 x es).run Try.prog w = (Instr.findAsking 77 x es).run Try.prog w := run_findKey_eq w hwide77 x es
theorem run_lookup_rule {w : World} {b : Nat} {l : List (Int × Bool × Int)} (hb : w.heap[b]? = some (lmap l)) (a : Int) (p c : Bool) :
    (Instr.lookup 74 (.map (some b)) (ruleV a p) c).run Try.prog w = .ok (if c then .tuple #[.int .i64 ((has l a p).getD 0), .bool (has l a p).isSome] else .int .i64 ((has l a p).getD 0)) w := by
  obtain ⟨j, hj⟩ := find_entries w a p l 0 0
  have hz : (zeroValue 3).run Try.prog w = .ok (.int .i64 0) w := by rfl
  unfold lmap at hb
  simp only [Instr.lookup]
  cases h : has l a p with
  | none =>
    simp only [h] at hj
    cases c <;> simp [run_underlying Try.underlying74, MapKept.run_getObj_map hb, rule_key, findKey77, hj, hz]
  | some v =>
    simp only [h] at hj
    cases c <;> simp [run_underlying Try.underlying74, MapKept.run_getObj_map hb, rule_key, findKey77, hj, hz]

theorem run_update_rule {w : World} {b : Nat} {l : List (Int × Bool × Int)} (hb : w.heap[b]? = some (lmap l)) (a : Int) (p : Bool) (v : Int) (hn : has l a p = none) :
    (Instr.mapUpdate 74 (.map (some b)) (ruleV a p) (.int .i64 v)).run Try.prog w = .ok () { w with heap := w.heap.setIfInBounds b (lmap (l ++ [(a, p, v)])) } := by
  obtain ⟨j, hj⟩ := find_entries w a p l 0 0
  rw [hn] at hj
  have hj : (Instr.findAsking 77 (ruleV a p) (entries l 0) 0).run Try.prog w = .ok none w := hj
  have hb' := hb
  unfold lmap at hb
  have he : lmap (l ++ [(a, p, v)]) = .map ((entries l 0).toArray.push ⟨ruleV a p, .int .i64 v, l.length⟩) (l.length + 1) := by
    unfold lmap
    rw [entries_snoc]
    simp
  simp [Instr.mapUpdate, run_underlying Try.underlying74, MapKept.run_getObj_map hb, rule_key, findKey77, hj, MapKept.run_setObj_map _ hb, he, Result.andThen]

theorem run_update_new (w : World) (n : Nat) (l : List (Int × Bool × Int)) (a : Int) (p : Bool) (v : Int) (hn : has l a p = none) :
    (Instr.mapUpdate 74 (.map (some w.heap.size)) (ruleV a p) (.int .i64 v)).run Try.prog ((w.alloc (lmap l)).drewN n) = .ok () ((w.alloc (lmap (l ++ [(a, p, v)]))).drewN n) := by
  have hb : ((w.alloc (lmap l)).drewN n).heap[w.heap.size]? = some (lmap l) := heap_alloc_new w _
  rw [run_update_rule hb a p v hn]
  simp [World.drewN, World.alloc_eq]
  refine ⟨?_, rfl, rfl⟩
  show (w.heap.push (lmap l)).setIfInBounds w.heap.size (lmap (l ++ [(a, p, v)])) = w.heap.push (lmap (l ++ [(a, p, v)]))
  apply Array.ext_getElem?
  intro i
  rw [Array.getElem?_setIfInBounds, Array.getElem?_push, Array.getElem?_push]
  by_cases e : w.heap.size = i
  · subst e; simp
  · have e' : ¬ i = w.heap.size := fun h => e h.symm
    rw [if_neg e, if_neg e', if_neg e']

/-- What the map says in the end: whatever order its entries were laid in. -/
def Says (l : List (Int × Bool × Int)) : Prop := ∀ a p, has l a p = if a = 2 then some (if p then 608 else 224) else if a = 4 then some (if p then 1632 else 288) else none

theorem says_of {l : List (Int × Bool × Int)} (h2 : has l 2 false = some 224 ∧ has l 2 true = some 608 ∧ has l 4 false = some 288 ∧ has l 4 true = some 1632) (hk : ∀ x ∈ l, x.1 = 2 ∨ x.1 = 4) : Says l := by
  intro a p
  by_cases e2 : a = 2
  · subst e2; cases p
    · exact h2.1
    · exact h2.2.1
  · by_cases e4 : a = 4
    · subst e4; cases p
      · exact h2.2.2.1
      · exact h2.2.2.2
    · rw [if_neg e2, if_neg e4]
      unfold has
      rw [Option.map_eq_none_iff, List.find?_eq_none]
      intro x hx hc
      simp only [Bool.and_eq_true, beq_iff_eq] at hc
      rcases hk x hx with h | h
      · exact e2 (hc.1.symm.trans h)
      · exact e4 (hc.1.symm.trans h)

def LosesPost (w : World) (e : Ending) (w' : World) : Prop := ∃ l, e = .returned (.map (some w.heap.size)) ∧ Says l ∧ ∃ n, w' = (w.alloc (lmap l)).drewN n
theorem losesPost (w : World) (l : List (Int × Bool × Int)) (h2 : has l 2 false = some 224 ∧ has l 2 true = some 608 ∧ has l 4 false = some 288 ∧ has l 4 true = some 1632) (hk : ∀ x ∈ l, x.1 = 2 ∨ x.1 = 4) (e : Ending) (he : e = .returned (.map (some w.heap.size))) :
    LosesPost w e (w.alloc (lmap l)).drew := ⟨l, he, says_of h2 hk, 1, rfl⟩
section
attribute [local go_sem] has
set_option maxHeartbeats 8000000 in
set_option maxRecDepth 100000 in
/-- 'loses()': a new map that says so, in whatever order it was filled. -/
theorem loses_calls (w : World) : Calls Try.prog 47 #[] w (LosesPost w) := by
  have hmm : ∀ W : World, (Instr.makeMap 74 none).run Try.prog W = .ok (.map (some W.heap.size)) (W.alloc (lmap [])) := fun W => rfl
  have hup : ∀ (l : List (Int × Bool × Int)) (a : Int) (p : Bool) (v : Int), has l a p = none → (Instr.mapUpdate 74 (.map (some w.heap.size)) (.agg #[.int .i64 a, .bool p]) (.int .i64 v)).run Try.prog ((w.alloc (lmap l)).drew) = .ok () ((w.alloc (lmap (l ++ [(a, p, v)]))).drew) := fun l a p v h => run_update_new w 1 l a p v h
  go_enter Try.func47, Try.ntmps47
  go_wp2
  go_region
  all_goals
    clear hmm hup
    go_wp2
    go_ret
    exact losesPost _ _ (by decide) (by decide) _ rfl
end


end Go.Proofs.Ytbpanbmjkfhcgaa.P
