-- Printed for this claim by drive.py (a program of this session's) through the kit's print program; not trusted: Lean checks it.
import Derived.Test.YtbpanbmjkfhcgaaP0
import Derived.BigRegion
import Derived.RegionTactic
import Derived.WalkSpells
import Derived.WideKeyRuns
namespace Go.Proofs.Ytbpanbmjkfhcgaa.P
open Go.RowKit Go.Proofs.YtbpanbmjkfhcgaaW.PrintWords Go.Proofs.YtbpanbmjkfhcgaaW.PrintLast Go.Proofs.YtbpanbmjkfhcgaaW.PrintMore
attribute [local go_sem] max2_int min2_int max_two min_two max_three min_three max_four min_four   -- for this text's walks alone
set_option linter.unusedVariables false
set_option linter.unusedSimpArgs false

/-! ### plan_in: function 43 -/
def plan_in.f (a0 : Int) (a1 : Int) (a2 : Int) : Option (Bool) := if a0 ≥ a1 then (some (decide (a0 ≤ a2))) else (some false)
set_option maxHeartbeats 8000000 in
set_option maxRecDepth 100000 in
theorem plan_in.calls (a0 : Int) (a1 : Int) (a2 : Int) (r : Bool) (w : World) (h : plan_in.f a0 a1 a2 = some r) :
    Calls Try.prog 43 #[.int .i64 a0, .int .i64 a1, .int .i64 a2] w fun e w' => e = .returned (.bool r) ∧ Drawn0 w w' := by
  have H : (if a0 ≥ a1 then (some (decide (a0 ≤ a2))) else (some false)) = some r := h
  clear h
  by_cases c4 : a0 ≥ a1
  · rw [if_pos c4] at H
    have c4b0 : decide (a1 ≤ a0) = true := decide_eq_true c4
    clear c4
    obtain rfl := Option.some.inj H
    go_enter Try.func43, Try.ntmps43
    go_wp2
    go_ret
    exact ⟨by first | rfl | (simp; done) | (simp [*]; done), by repeat (first | exact Drawn0.refl _ | apply Drawn0.step)⟩
  · rw [if_neg c4] at H
    have c4b0 : decide (a1 ≤ a0) = false := decide_eq_false c4
    clear c4
    obtain rfl := Option.some.inj H
    go_enter Try.func43, Try.ntmps43
    go_wp2
    go_ret
    exact ⟨by first | rfl | (simp; done) | (simp [*]; done), by repeat (first | exact Drawn0.refl _ | apply Drawn0.step)⟩

/-! ### headroomref13_one: function 42 -/
def headroomref13_one.f (a0 : Int) (a1 : Int) : Option (Bool) := if a0 ≥ 0 then (some (decide (a0 ≤ a1))) else (some false)
set_option maxHeartbeats 8000000 in
set_option maxRecDepth 100000 in
theorem headroomref13_one.calls (a0 : Int) (a1 : Int) (r : Bool) (w : World) (h : headroomref13_one.f a0 a1 = some r) :
    Calls Try.prog 42 #[.int .i64 a0, .int .i64 a1] w fun e w' => e = .returned (.bool r) ∧ Drawn0 w w' := by
  have H : (if a0 ≥ 0 then (some (decide (a0 ≤ a1))) else (some false)) = some r := h
  clear h
  by_cases c3 : a0 ≥ 0
  · rw [if_pos c3] at H
    have c3b0 : decide (0 ≤ a0) = true := decide_eq_true c3
    clear c3
    obtain rfl := Option.some.inj H
    go_enter Try.func42, Try.ntmps42
    go_wp2
    go_ret
    exact ⟨by first | rfl | (simp; done) | (simp [*]; done), by repeat (first | exact Drawn0.refl _ | apply Drawn0.step)⟩
  · rw [if_neg c3] at H
    have c3b0 : decide (0 ≤ a0) = false := decide_eq_false c3
    clear c3
    obtain rfl := Option.some.inj H
    go_enter Try.func42, Try.ntmps42
    go_wp2
    go_ret
    exact ⟨by first | rfl | (simp; done) | (simp [*]; done), by repeat (first | exact Drawn0.refl _ | apply Drawn0.step)⟩

/-! ### headroomref01_Pow: function 44 -/
def headroomref01_Pow.l0 : Nat → Int → Int → Int → Option (Int)
  | 0, _, _, _ => none
  | k + 1, x0, x3, x4 => if x4 < x0 then (headroomref01_Pow.l0 k x0 (wrap64 (2 * x3)) (wrap64 (x4 + 1))) else (some x3)
def headroomref01_Pow.f (k : Nat) (a0 : Int) : Option (Int) := headroomref01_Pow.l0 k a0 1 0
theorem headroomref01_Pow.mono_l : ∀ k, (∀ y0 y1 y2, LeO (headroomref01_Pow.l0 k y0 y1 y2) (headroomref01_Pow.l0 (k + 1) y0 y1 y2))
  | 0 => fun _ _ _ r h => by simp [headroomref01_Pow.l0] at h
  | k + 1 => by
    have ih0 := headroomref01_Pow.mono_l k
    · intro y0 y1 y2
      unfold headroomref01_Pow.l0
      repeat' first
      | (with_reducible exact ih0 _ _ _)
      | (with_reducible exact LeO.refl _)
      | (with_reducible exact LeO.none _)
      | (with_reducible refine LeO.ite ?_ ?_)
      | (with_reducible refine LeO.bind ?_ (fun _ => ?_))
      | exact ih0 _ _ _
      | exact LeO.none _
      | refine LeO.ite ?_ ?_
      | refine LeO.bind ?_ (fun _ => ?_)
theorem headroomref01_Pow.mono : ∀ a0 k, LeO (headroomref01_Pow.f k a0) (headroomref01_Pow.f (k + 1) a0) := by
  intro a0 k
  have ih0 := headroomref01_Pow.mono_l k
  unfold headroomref01_Pow.f
  repeat' first
      | (with_reducible exact ih0 _ _ _)
      | (with_reducible exact LeO.refl _)
      | (with_reducible exact LeO.none _)
      | (with_reducible refine LeO.ite ?_ ?_)
      | (with_reducible refine LeO.bind ?_ (fun _ => ?_))
      | exact ih0 _ _ _
      | exact LeO.none _
      | refine LeO.ite ?_ ?_
      | refine LeO.bind ?_ (fun _ => ?_)
set_option maxHeartbeats 8000000 in
set_option maxRecDepth 100000 in
theorem headroomref01_Pow.calls (k : Nat) (a0 : Int) (r : Int) (w : World) (h : headroomref01_Pow.f k a0 = some r) :
    Calls Try.prog 44 #[.int .i64 a0] w fun e w' => e = .returned (.int .i64 r) ∧ Drawn0 w w' := by
  have H : (headroomref01_Pow.l0 k a0 1 0) = some r := h
  clear h
  have H' := Aside0.mk H
  clear H
  go_enter Try.func44, Try.ntmps44
  go_wp2
  go_loopg [3, 4] k (fun kq v3 v4 w' => ∃ (x3_1 : Int) (x4_1 : Int), v3 = .int .i64 x3_1 ∧ v4 = .int .i64 x4_1 ∧ Aside0 (headroomref01_Pow.l0 kq a0 x3_1 x4_1 = some r) ∧ Aside0 (kq ≤ k) ∧ Drawn0 w w')
  case atStart => exact ⟨(1), (0), (by first | rfl | (simp; done) | (simp [*]; done)), (by first | rfl | (simp; done) | (simp [*]; done)), H', ⟨Nat.le_refl _⟩, by repeat (first | exact Drawn0.refl _ | apply Drawn0.step)⟩
  case round =>
    clear H'
    obtain ⟨x3_1, x4_1, rfl, rfl, HA, HK1, ⟨m1, rfl⟩⟩ := hrel
    cases gk with
    | zero => exact absurd HA.out (by simp [headroomref01_Pow.l0])
    | succ k1 =>
      have H := HA.out
      clear HA
      simp only [headroomref01_Pow.l0] at H
      by_cases c2 : x4_1 < a0
      · rw [if_pos c2] at H
        have c2b0 : decide (x4_1 < a0) = true := decide_eq_true c2
        clear c2
        have H' := Aside0.mk H
        clear H
        go_wp2
        go_roundg k1
        case measure => have := HK1.out; omega
        case rel => exact ⟨(wrap64 (2 * x3_1)), (wrap64 (x4_1 + 1)), (by first | rfl | (simp; done) | (simp [*]; done)), (by first | rfl | (simp; done) | (simp [*]; done)), H', ⟨by have := HK1.out; omega⟩, by repeat (first | exact Drawn0.refl _ | apply Drawn0.step)⟩
      · rw [if_neg c2] at H
        have c2b0 : decide (x4_1 < a0) = false := decide_eq_false c2
        clear c2
        obtain rfl := Option.some.inj H
        go_wp2
        go_ret
        exact ⟨by first | rfl | (simp; done) | (simp [*]; done), by repeat (first | exact Drawn0.refl _ | apply Drawn0.step)⟩

/-! ### budget_loses: function 47 -/
-- IMPORT Derived.WideKeyRuns
-- IMPORT Derived.RegionTactic
-- IMPORT Derived.BigRegion
/-- A rule, as a value. -/
@[reducible] def ruleV (a : Int) (p : Bool) : Value := .agg #[.int .i64 a, .bool p]
theorem rule_eq (w : World) (a b : Int) (p q : Bool) : (Op.equal 77 (ruleV a p) (ruleV b q)).run Try.prog w = .ok (a == b && (p == q)) w := by
  show (Op.equalIn (9998 + 2) 77 _ _).run Try.prog w = _
  refine eqA_of Try.underlying77 (by kernel_rfl) ?_
  refine eqf_cons (by rfl) (by go_simp; rfl) (by go_simp; rfl) (by go_simp) ?_
  exact eqf_last (by rfl) (by go_simp; rfl) (by go_simp; rfl) (by go_simp)
theorem rule_key (e : Bool) (w : World) (a : Int) (p : Bool) : (Instr.checkKey e 10000 77 (ruleV a p)).run Try.prog w = .ok () w := by
  rfl
/-- Entries: a rule, and what is lost; born one behind the other. -/
def entries : List (Int × Bool × Int) → Nat → List MapEntry
  | [], _ => []
  | (a, p, v) :: l, n => ⟨ruleV a p, .int .i64 v, n⟩ :: entries l (n + 1)
def has (l : List (Int × Bool × Int)) (a : Int) (p : Bool) : Option Int := (l.find? fun x => x.1 == a && (x.2.1 == p)).map fun x => x.2.2
theorem find_entries (w : World) (a : Int) (p : Bool) : ∀ (l : List (Int × Bool × Int)) (n i : Nat),
    ∃ j, (Instr.findAsking 77 (ruleV a p) (entries l n) i).run Try.prog w = .ok ((has l a p).map fun v => (j, .int .i64 v)) w
  | [], n, i => ⟨0, rfl⟩
  | (b, q, v) :: l, n, i => by
    by_cases h : (a == b && (p == q)) = true
    · refine ⟨i, ?_⟩
      have hh : (b == a && (q == p)) = true := by simp only [Bool.and_eq_true, beq_iff_eq] at h ⊢; exact ⟨h.1.symm, h.2.symm⟩
      simp [entries, Instr.findAsking, rule_eq, h, has, hh]
    · obtain ⟨j, hj⟩ := find_entries w a p l (n + 1) (i + 1)
      have hh : (b == a && (q == p)) = false := by
        rw [Bool.eq_false_iff]; intro hc; apply h; simp only [Bool.and_eq_true, beq_iff_eq] at hc ⊢; exact ⟨hc.1.symm, hc.2.symm⟩
      have h' : (a == b && (p == q)) = false := by simpa using h
      refine ⟨j, ?_⟩
      simp only [entries, Instr.findAsking]
      simp only [has] at hj ⊢
      rw [List.find?_cons_of_neg (by simpa using hh)]
      simp [rule_eq, h', hj]


theorem entries_snoc (a : Int) (p : Bool) (v : Int) : ∀ (l : List (Int × Bool × Int)) (n : Nat), entries (l ++ [(a, p, v)]) n = entries l n ++ [⟨ruleV a p, .int .i64 v, n + l.length⟩]
  | [], n => rfl
  | (b, q, u) :: l, n => by simp [entries, entries_snoc a p v l (n + 1), Nat.add_assoc, Nat.add_comm 1]
/-- The map, as it lies in memory. -/
def lmap (l : List (Int × Bool × Int)) : Obj := .map (entries l 0).toArray l.length
theorem hwide77 : (match Try.prog.underlying 77 with | some (.array _ _) | some (.struct _) => true | _ => false) = true := by rw [Try.underlying77]

theorem findKey77 (w : World) (x : Value) (es : List MapEntry) : (Instr.findKey 77 x es).run Try.prog w = (Instr.findAsking 77 x es).run Try.prog w := run_findKey_eq w hwide77 x es
theorem run_lookup_rule {w : World} {b : Nat} {l : List (Int × Bool × Int)} (hb : w.heap[b]? = some (lmap l)) (a : Int) (p c : Bool) :
    (Instr.lookup 74 (.map (some b)) (ruleV a p) c).run Try.prog w = .ok (if c then .tuple #[.int .i64 ((has l a p).getD 0), .bool (has l a p).isSome] else .int .i64 ((has l a p).getD 0)) w := by
  obtain ⟨j, hj⟩ := find_entries w a p l 0 0
  have hz : (zeroValue 3).run Try.prog w = .ok (.int .i64 0) w := by rfl
  unfold lmap at hb
  simp only [Instr.lookup]
  cases h : has l a p with
  | none =>
    simp only [h] at hj
    cases c <;> simp [run_underlying Try.underlying74, MapKept.run_getObj_map hb, rule_key, findKey77, hj, hz]
  | some v =>
    simp only [h] at hj
    cases c <;> simp [run_underlying Try.underlying74, MapKept.run_getObj_map hb, rule_key, findKey77, hj, hz]

theorem run_update_rule {w : World} {b : Nat} {l : List (Int × Bool × Int)} (hb : w.heap[b]? = some (lmap l)) (a : Int) (p : Bool) (v : Int) (hn : has l a p = none) :
    (Instr.mapUpdate 74 (.map (some b)) (ruleV a p) (.int .i64 v)).run Try.prog w = .ok () { w with heap := w.heap.setIfInBounds b (lmap (l ++ [(a, p, v)])) } := by
  obtain ⟨j, hj⟩ := find_entries w a p l 0 0
  rw [hn] at hj
  have hj : (Instr.findAsking 77 (ruleV a p) (entries l 0) 0).run Try.prog w = .ok none w := hj
  have hb' := hb
  unfold lmap at hb
  have he : lmap (l ++ [(a, p, v)]) = .map ((entries l 0).toArray.push ⟨ruleV a p, .int .i64 v, l.length⟩) (l.length + 1) := by
    unfold lmap
    rw [entries_snoc]
    simp
  simp [Instr.mapUpdate, run_underlying Try.underlying74, MapKept.run_getObj_map hb, rule_key, findKey77, hj, MapKept.run_setObj_map _ hb, he, Result.andThen]

theorem run_update_new (w : World) (n : Nat) (l : List (Int × Bool × Int)) (a : Int) (p : Bool) (v : Int) (hn : has l a p = none) :
    (Instr.mapUpdate 74 (.map (some w.heap.size)) (ruleV a p) (.int .i64 v)).run Try.prog ((w.alloc (lmap l)).drewN n) = .ok () ((w.alloc (lmap (l ++ [(a, p, v)]))).drewN n) := by
  have hb : ((w.alloc (lmap l)).drewN n).heap[w.heap.size]? = some (lmap l) := heap_alloc_new w _
  rw [run_update_rule hb a p v hn]
  simp [World.drewN, World.alloc_eq]
  refine ⟨?_, rfl, rfl⟩
  show (w.heap.push (lmap l)).setIfInBounds w.heap.size (lmap (l ++ [(a, p, v)])) = w.heap.push (lmap (l ++ [(a, p, v)]))
  apply Array.ext_getElem?
  intro i
  rw [Array.getElem?_setIfInBounds, Array.getElem?_push, Array.getElem?_push]
  by_cases e : w.heap.size = i
  · subst e; simp
  · have e' : ¬ i = w.heap.size := fun h => e h.symm
    rw [if_neg e, if_neg e', if_neg e']

/-- What the map says in the end: whatever order its entries were laid in. -/
def Says (l : List (Int × Bool × Int)) : Prop := ∀ a p, has l a p = if a = 2 then some (if p then 608 else 224) else if a = 4 then some (if p then 1632 else 288) else none

theorem says_of {l : List (Int × Bool × Int)} (h2 : has l 2 false = some 224 ∧ has l 2 true = some 608 ∧ has l 4 false = some 288 ∧ has l 4 true = some 1632) (hk : ∀ x ∈ l, x.1 = 2 ∨ x.1 = 4) : Says l := by
  intro a p
  by_cases e2 : a = 2
  · subst e2; cases p
    · exact h2.1
    · exact h2.2.1
  · by_cases e4 : a = 4
    · subst e4; cases p
      · exact h2.2.2.1
      · exact h2.2.2.2
    · rw [if_neg e2, if_neg e4]
      unfold has
      rw [Option.map_eq_none_iff, List.find?_eq_none]
      intro x hx hc
      simp only [Bool.and_eq_true, beq_iff_eq] at hc
      rcases hk x hx with h | h
      · exact e2 (hc.1.symm.trans h)
      · exact e4 (hc.1.symm.trans h)

def LosesPost (w : World) (e : Ending) (w' : World) : Prop := ∃ l, e = .returned (.map (some w.heap.size)) ∧ Says l ∧ ∃ n, w' = (w.alloc (lmap l)).drewN n
theorem losesPost (w : World) (l : List (Int × Bool × Int)) (h2 : has l 2 false = some 224 ∧ has l 2 true = some 608 ∧ has l 4 false = some 288 ∧ has l 4 true = some 1632) (hk : ∀ x ∈ l, x.1 = 2 ∨ x.1 = 4) (e : Ending) (he : e = .returned (.map (some w.heap.size))) :
    LosesPost w e (w.alloc (lmap l)).drew := ⟨l, he, says_of h2 hk, 1, rfl⟩
section
attribute [local go_sem] has
set_option maxHeartbeats 8000000 in
set_option maxRecDepth 100000 in
/-- 'loses()': a new map that says so, in whatever order it was filled. -/
theorem loses_calls (w : World) : Calls Try.prog 47 #[] w (LosesPost w) := by
  have hmm : ∀ W : World, (Instr.makeMap 74 none).run Try.prog W = .ok (.map (some W.heap.size)) (W.alloc (lmap [])) := fun W => rfl
  have hup : ∀ (l : List (Int × Bool × Int)) (a : Int) (p : Bool) (v : Int), has l a p = none → (Instr.mapUpdate 74 (.map (some w.heap.size)) (.agg #[.int .i64 a, .bool p]) (.int .i64 v)).run Try.prog ((w.alloc (lmap l)).drew) = .ok () ((w.alloc (lmap (l ++ [(a, p, v)]))).drew) := fun l a p v h => run_update_new w 1 l a p v h
  go_enter Try.func47, Try.ntmps47
  go_wp2
  go_region
  all_goals
    clear hmm hup
    go_wp2
    go_ret
    exact losesPost _ _ (by decide) (by decide) _ rfl
end


/-! ### headroomref14_Start: function 24 -/
def headroomref14_Start.f (a0_0 : Int) (a0_1 : Int) (a0_2 : Int) (a0_3 : Int) (a0_4 : Int) (a0_5 : Bool) : Option (Int) := if a0_3 = 0 then (some 91) else (some 0)
set_option maxHeartbeats 8000000 in
set_option maxRecDepth 100000 in
theorem headroomref14_Start.calls (a0_0 : Int) (a0_1 : Int) (a0_2 : Int) (a0_3 : Int) (a0_4 : Int) (a0_5 : Bool) (r : Int) (w : World) (h : headroomref14_Start.f a0_0 a0_1 a0_2 a0_3 a0_4 a0_5 = some r) :
    Calls Try.prog 24 #[.agg #[.int .i64 a0_0, .int .i64 a0_1, .int .i64 a0_2, .int .i64 a0_3, .int .i64 a0_4, .bool a0_5]] w fun e w' => e = .returned (.int .i64 r) ∧ Below w.heap.size w w' := by
  have hu23 := Try.underlying23
  have HB := Aside0.mk (Below.refl w.heap.size w)
  have H : (if a0_3 = 0 then (some 91) else (some 0)) = some r := h
  clear h
  by_cases c2 : a0_3 = 0
  · rw [if_pos c2] at H
    have c2b0 : (a0_3 == 0) = true := beq_iff_eq.mpr c2
    have c2b1 : (a0_3 != 0) = false := bne_eq_false_iff_eq.mpr c2
    clear c2
    obtain rfl := Option.some.inj H
    go_enter Try.func24, Try.ntmps24
    go_wp2_with (first | ((with_reducible refine gate_dst (N := 1) rfl ?_); refine box_event ?hg (N := 1) ?hd (cs := #[.int .i64 a0_0, .int .i64 a0_1, .int .i64 a0_2, .int .i64 a0_3, .int .i64 a0_4, .bool a0_5]) (t := 23) ?hr ?_; (case hd => rfl); (case hg => rfl); (case hr => first | (go_simp; done) | (go_simp; rfl)); intro gb219 hg w3 hbox hb; have n0_ := Aside0.mk (below_step (by repeat (first | (with_reducible first | exact HB.out | apply below_alloc | apply pw_below_drewN | apply below_drew1) | exact HB.out)) hb); have n1_ := Aside0.mk (hbox); have n2_ := Aside0.mk ((by rw [hg]; exact (below_size (by repeat (first | (with_reducible first | exact HB.out | apply below_alloc | apply pw_below_drewN | apply below_drew1) | exact HB.out))) : w.heap.size ≤ gb219)); have n3_ := Aside0.mk ((by rw [hg]; exact (below_size (by repeat (first | (with_reducible first | exact HB.out | apply below_alloc | apply pw_below_drewN | apply below_drew1) | exact HB.out))) : w.heap.size ≤ gb219)); clear HB; have HB := n0_; have BK219 := n1_; have GW219 := n2_; have GE219 := n3_; clear n0_ n1_ n2_ n3_; clear hb hbox hg; have hcz4_0 : w3.cell? ⟨gb219, 0, none⟩ = some (.int .i64 a0_0) := (blk_cell BK219.out 0).trans rfl; have hcz4_1 : w3.cell? ⟨gb219, 1, none⟩ = some (.int .i64 a0_1) := (blk_cell BK219.out 1).trans rfl; have hcz4_2 : w3.cell? ⟨gb219, 2, none⟩ = some (.int .i64 a0_2) := (blk_cell BK219.out 2).trans rfl; have hcz4_3 : w3.cell? ⟨gb219, 3, none⟩ = some (.int .i64 a0_3) := (blk_cell BK219.out 3).trans rfl; have hcz4_4 : w3.cell? ⟨gb219, 4, none⟩ = some (.int .i64 a0_4) := (blk_cell BK219.out 4).trans rfl; have hcz4_5 : w3.cell? ⟨gb219, 5, none⟩ = some (.bool a0_5) := (blk_cell BK219.out 5).trans rfl; have hfz4_0 := blk_frozen BK219.out 0; have hfz4_1 := blk_frozen BK219.out 1; have hfz4_2 := blk_frozen BK219.out 2; have hfz4_3 := blk_frozen BK219.out 3; have hfz4_4 := blk_frozen BK219.out 4; have hfz4_5 := blk_frozen BK219.out 5))
    go_ret
    exact ⟨by first | rfl | (simp [errW_none, errW_some] <;> rfl) | (simp [*, errW_none, errW_some] <;> rfl), by repeat (first | (with_reducible first | exact HB.out | apply below_alloc | apply pw_below_drewN | apply below_drew1 | refine below_set ?_ GE219.out) | exact HB.out)⟩
  · rw [if_neg c2] at H
    have c2b0 : (a0_3 == 0) = false := beq_eq_false_iff_ne.mpr c2
    have c2b1 : (a0_3 != 0) = true := bne_iff_ne.mpr c2
    obtain rfl := Option.some.inj H
    go_enter Try.func24, Try.ntmps24
    go_wp2_with (first | ((with_reducible refine gate_dst (N := 1) rfl ?_); refine box_event ?hg (N := 1) ?hd (cs := #[.int .i64 a0_0, .int .i64 a0_1, .int .i64 a0_2, .int .i64 a0_3, .int .i64 a0_4, .bool a0_5]) (t := 23) ?hr ?_; (case hd => rfl); (case hg => rfl); (case hr => first | (go_simp; done) | (go_simp; rfl)); intro gb219 hg w5 hbox hb; have n0_ := Aside0.mk (below_step (by repeat (first | (with_reducible first | exact HB.out | apply below_alloc | apply pw_below_drewN | apply below_drew1) | exact HB.out)) hb); have n1_ := Aside0.mk (hbox); have n2_ := Aside0.mk ((by rw [hg]; exact (below_size (by repeat (first | (with_reducible first | exact HB.out | apply below_alloc | apply pw_below_drewN | apply below_drew1) | exact HB.out))) : w.heap.size ≤ gb219)); have n3_ := Aside0.mk ((by rw [hg]; exact (below_size (by repeat (first | (with_reducible first | exact HB.out | apply below_alloc | apply pw_below_drewN | apply below_drew1) | exact HB.out))) : w.heap.size ≤ gb219)); clear HB; have HB := n0_; have BK219 := n1_; have GW219 := n2_; have GE219 := n3_; clear n0_ n1_ n2_ n3_; clear hb hbox hg; have hcz6_0 : w5.cell? ⟨gb219, 0, none⟩ = some (.int .i64 a0_0) := (blk_cell BK219.out 0).trans rfl; have hcz6_1 : w5.cell? ⟨gb219, 1, none⟩ = some (.int .i64 a0_1) := (blk_cell BK219.out 1).trans rfl; have hcz6_2 : w5.cell? ⟨gb219, 2, none⟩ = some (.int .i64 a0_2) := (blk_cell BK219.out 2).trans rfl; have hcz6_3 : w5.cell? ⟨gb219, 3, none⟩ = some (.int .i64 a0_3) := (blk_cell BK219.out 3).trans rfl; have hcz6_4 : w5.cell? ⟨gb219, 4, none⟩ = some (.int .i64 a0_4) := (blk_cell BK219.out 4).trans rfl; have hcz6_5 : w5.cell? ⟨gb219, 5, none⟩ = some (.bool a0_5) := (blk_cell BK219.out 5).trans rfl; have hfz6_0 := blk_frozen BK219.out 0; have hfz6_1 := blk_frozen BK219.out 1; have hfz6_2 := blk_frozen BK219.out 2; have hfz6_3 := blk_frozen BK219.out 3; have hfz6_4 := blk_frozen BK219.out 4; have hfz6_5 := blk_frozen BK219.out 5))
    go_ret
    exact ⟨by first | rfl | (simp [errW_none, errW_some] <;> rfl) | (simp [*, errW_none, errW_some] <;> rfl), by repeat (first | (with_reducible first | exact HB.out | apply below_alloc | apply pw_below_drewN | apply below_drew1 | refine below_set ?_ GE219.out) | exact HB.out)⟩

/-! ### budget_greatest: function 50 -/
def budget_greatest.f (a0_0 : Int) (a0_1 : Int) (a0_2 : Int) (a0_3 : Int) (a0_4 : Int) (a0_5 : Bool) (a1 : Int) : Option (Int × Bool) := if a0_3 = 0 then (some (wrap64 (Int.tdiv a1 2), true)) else (if a0_3 = 2 then (some (0, true)) else (some (wrap64 (1 + (wrap64 (Int.tdiv a1 2))), false)))
set_option maxHeartbeats 8000000 in
set_option maxRecDepth 100000 in
theorem budget_greatest.calls (a0_0 : Int) (a0_1 : Int) (a0_2 : Int) (a0_3 : Int) (a0_4 : Int) (a0_5 : Bool) (a1 : Int) (r1 : Int) (r2 : Bool) (w : World) (h : budget_greatest.f a0_0 a0_1 a0_2 a0_3 a0_4 a0_5 a1 = some (r1, r2)) :
    Calls Try.prog 50 #[.agg #[.int .i64 a0_0, .int .i64 a0_1, .int .i64 a0_2, .int .i64 a0_3, .int .i64 a0_4, .bool a0_5], .int .i64 a1] w fun e w' => e = .returned (.tuple #[.int .i64 r1, .bool r2]) ∧ Below w.heap.size w w' := by
  have hu23 := Try.underlying23
  have HB := Aside0.mk (Below.refl w.heap.size w)
  have H : (if a0_3 = 0 then (some (wrap64 (Int.tdiv a1 2), true)) else (if a0_3 = 2 then (some (0, true)) else (some (wrap64 (1 + (wrap64 (Int.tdiv a1 2))), false)))) = some (r1, r2) := h
  clear h
  by_cases c3 : a0_3 = 0
  · rw [if_pos c3] at H
    have c3b0 : (a0_3 == 0) = true := beq_iff_eq.mpr c3
    have c3b1 : (a0_3 != 0) = false := bne_eq_false_iff_eq.mpr c3
    clear c3
    simp only [Option.some.injEq, Prod.mk.injEq] at H
    obtain ⟨rfl, rfl⟩ := H
    go_enter Try.func50, Try.ntmps50
    go_wp2_with (first | ((with_reducible refine gate_dst (N := 2) rfl ?_); refine box_event ?hg (N := 2) ?hd (cs := #[.int .i64 a0_0, .int .i64 a0_1, .int .i64 a0_2, .int .i64 a0_3, .int .i64 a0_4, .bool a0_5]) (t := 23) ?hr ?_; (case hd => rfl); (case hg => rfl); (case hr => first | (go_simp; done) | (go_simp; rfl)); intro gb220 hg w4 hbox hb; have n0_ := Aside0.mk (below_step (by repeat (first | (with_reducible first | exact HB.out | apply below_alloc | apply pw_below_drewN | apply below_drew1) | exact HB.out)) hb); have n1_ := Aside0.mk (hbox); have n2_ := Aside0.mk ((by rw [hg]; exact (below_size (by repeat (first | (with_reducible first | exact HB.out | apply below_alloc | apply pw_below_drewN | apply below_drew1) | exact HB.out))) : w.heap.size ≤ gb220)); have n3_ := Aside0.mk ((by rw [hg]; exact (below_size (by repeat (first | (with_reducible first | exact HB.out | apply below_alloc | apply pw_below_drewN | apply below_drew1) | exact HB.out))) : w.heap.size ≤ gb220)); clear HB; have HB := n0_; have BK220 := n1_; have GW220 := n2_; have GE220 := n3_; clear n0_ n1_ n2_ n3_; clear hb hbox hg; have hcz5_0 : w4.cell? ⟨gb220, 0, none⟩ = some (.int .i64 a0_0) := (blk_cell BK220.out 0).trans rfl; have hcz5_1 : w4.cell? ⟨gb220, 1, none⟩ = some (.int .i64 a0_1) := (blk_cell BK220.out 1).trans rfl; have hcz5_2 : w4.cell? ⟨gb220, 2, none⟩ = some (.int .i64 a0_2) := (blk_cell BK220.out 2).trans rfl; have hcz5_3 : w4.cell? ⟨gb220, 3, none⟩ = some (.int .i64 a0_3) := (blk_cell BK220.out 3).trans rfl; have hcz5_4 : w4.cell? ⟨gb220, 4, none⟩ = some (.int .i64 a0_4) := (blk_cell BK220.out 4).trans rfl; have hcz5_5 : w4.cell? ⟨gb220, 5, none⟩ = some (.bool a0_5) := (blk_cell BK220.out 5).trans rfl; have hfz5_0 := blk_frozen BK220.out 0; have hfz5_1 := blk_frozen BK220.out 1; have hfz5_2 := blk_frozen BK220.out 2; have hfz5_3 := blk_frozen BK220.out 3; have hfz5_4 := blk_frozen BK220.out 4; have hfz5_5 := blk_frozen BK220.out 5))
    go_ret2
    exact ⟨by first | rfl | (simp [errW_none, errW_some] <;> rfl) | (simp [*, errW_none, errW_some] <;> rfl), by repeat (first | (with_reducible first | exact HB.out | apply below_alloc | apply pw_below_drewN | apply below_drew1 | refine below_set ?_ GE220.out) | exact HB.out)⟩
  · rw [if_neg c3] at H
    have c3b0 : (a0_3 == 0) = false := beq_eq_false_iff_ne.mpr c3
    have c3b1 : (a0_3 != 0) = true := bne_iff_ne.mpr c3
    by_cases c6 : a0_3 = 2
    · rw [if_pos c6] at H
      have c6b0 : (a0_3 == 2) = true := beq_iff_eq.mpr c6
      have c6b1 : (a0_3 != 2) = false := bne_eq_false_iff_eq.mpr c6
      clear c6
      simp only [Option.some.injEq, Prod.mk.injEq] at H
      obtain ⟨rfl, rfl⟩ := H
      go_enter Try.func50, Try.ntmps50
      go_wp2_with (first | ((with_reducible refine gate_dst (N := 2) rfl ?_); refine box_event ?hg (N := 2) ?hd (cs := #[.int .i64 a0_0, .int .i64 a0_1, .int .i64 a0_2, .int .i64 a0_3, .int .i64 a0_4, .bool a0_5]) (t := 23) ?hr ?_; (case hd => rfl); (case hg => rfl); (case hr => first | (go_simp; done) | (go_simp; rfl)); intro gb220 hg w7 hbox hb; have n0_ := Aside0.mk (below_step (by repeat (first | (with_reducible first | exact HB.out | apply below_alloc | apply pw_below_drewN | apply below_drew1) | exact HB.out)) hb); have n1_ := Aside0.mk (hbox); have n2_ := Aside0.mk ((by rw [hg]; exact (below_size (by repeat (first | (with_reducible first | exact HB.out | apply below_alloc | apply pw_below_drewN | apply below_drew1) | exact HB.out))) : w.heap.size ≤ gb220)); have n3_ := Aside0.mk ((by rw [hg]; exact (below_size (by repeat (first | (with_reducible first | exact HB.out | apply below_alloc | apply pw_below_drewN | apply below_drew1) | exact HB.out))) : w.heap.size ≤ gb220)); clear HB; have HB := n0_; have BK220 := n1_; have GW220 := n2_; have GE220 := n3_; clear n0_ n1_ n2_ n3_; clear hb hbox hg; have hcz8_0 : w7.cell? ⟨gb220, 0, none⟩ = some (.int .i64 a0_0) := (blk_cell BK220.out 0).trans rfl; have hcz8_1 : w7.cell? ⟨gb220, 1, none⟩ = some (.int .i64 a0_1) := (blk_cell BK220.out 1).trans rfl; have hcz8_2 : w7.cell? ⟨gb220, 2, none⟩ = some (.int .i64 a0_2) := (blk_cell BK220.out 2).trans rfl; have hcz8_3 : w7.cell? ⟨gb220, 3, none⟩ = some (.int .i64 a0_3) := (blk_cell BK220.out 3).trans rfl; have hcz8_4 : w7.cell? ⟨gb220, 4, none⟩ = some (.int .i64 a0_4) := (blk_cell BK220.out 4).trans rfl; have hcz8_5 : w7.cell? ⟨gb220, 5, none⟩ = some (.bool a0_5) := (blk_cell BK220.out 5).trans rfl; have hfz8_0 := blk_frozen BK220.out 0; have hfz8_1 := blk_frozen BK220.out 1; have hfz8_2 := blk_frozen BK220.out 2; have hfz8_3 := blk_frozen BK220.out 3; have hfz8_4 := blk_frozen BK220.out 4; have hfz8_5 := blk_frozen BK220.out 5))
      go_ret2
      exact ⟨by first | rfl | (simp [errW_none, errW_some] <;> rfl) | (simp [*, errW_none, errW_some] <;> rfl), by repeat (first | (with_reducible first | exact HB.out | apply below_alloc | apply pw_below_drewN | apply below_drew1 | refine below_set ?_ GE220.out) | exact HB.out)⟩
    · rw [if_neg c6] at H
      have c6b0 : (a0_3 == 2) = false := beq_eq_false_iff_ne.mpr c6
      have c6b1 : (a0_3 != 2) = true := bne_iff_ne.mpr c6
      simp only [Option.some.injEq, Prod.mk.injEq] at H
      obtain ⟨rfl, rfl⟩ := H
      go_enter Try.func50, Try.ntmps50
      go_wp2_with (first | ((with_reducible refine gate_dst (N := 2) rfl ?_); refine box_event ?hg (N := 2) ?hd (cs := #[.int .i64 a0_0, .int .i64 a0_1, .int .i64 a0_2, .int .i64 a0_3, .int .i64 a0_4, .bool a0_5]) (t := 23) ?hr ?_; (case hd => rfl); (case hg => rfl); (case hr => first | (go_simp; done) | (go_simp; rfl)); intro gb220 hg w9 hbox hb; have n0_ := Aside0.mk (below_step (by repeat (first | (with_reducible first | exact HB.out | apply below_alloc | apply pw_below_drewN | apply below_drew1) | exact HB.out)) hb); have n1_ := Aside0.mk (hbox); have n2_ := Aside0.mk ((by rw [hg]; exact (below_size (by repeat (first | (with_reducible first | exact HB.out | apply below_alloc | apply pw_below_drewN | apply below_drew1) | exact HB.out))) : w.heap.size ≤ gb220)); have n3_ := Aside0.mk ((by rw [hg]; exact (below_size (by repeat (first | (with_reducible first | exact HB.out | apply below_alloc | apply pw_below_drewN | apply below_drew1) | exact HB.out))) : w.heap.size ≤ gb220)); clear HB; have HB := n0_; have BK220 := n1_; have GW220 := n2_; have GE220 := n3_; clear n0_ n1_ n2_ n3_; clear hb hbox hg; have hcz10_0 : w9.cell? ⟨gb220, 0, none⟩ = some (.int .i64 a0_0) := (blk_cell BK220.out 0).trans rfl; have hcz10_1 : w9.cell? ⟨gb220, 1, none⟩ = some (.int .i64 a0_1) := (blk_cell BK220.out 1).trans rfl; have hcz10_2 : w9.cell? ⟨gb220, 2, none⟩ = some (.int .i64 a0_2) := (blk_cell BK220.out 2).trans rfl; have hcz10_3 : w9.cell? ⟨gb220, 3, none⟩ = some (.int .i64 a0_3) := (blk_cell BK220.out 3).trans rfl; have hcz10_4 : w9.cell? ⟨gb220, 4, none⟩ = some (.int .i64 a0_4) := (blk_cell BK220.out 4).trans rfl; have hcz10_5 : w9.cell? ⟨gb220, 5, none⟩ = some (.bool a0_5) := (blk_cell BK220.out 5).trans rfl; have hfz10_0 := blk_frozen BK220.out 0; have hfz10_1 := blk_frozen BK220.out 1; have hfz10_2 := blk_frozen BK220.out 2; have hfz10_3 := blk_frozen BK220.out 3; have hfz10_4 := blk_frozen BK220.out 4; have hfz10_5 := blk_frozen BK220.out 5))
      go_ret2
      exact ⟨by first | rfl | (simp [errW_none, errW_some] <;> rfl) | (simp [*, errW_none, errW_some] <;> rfl), by repeat (first | (with_reducible first | exact HB.out | apply below_alloc | apply pw_below_drewN | apply below_drew1 | refine below_set ?_ GE220.out) | exact HB.out)⟩

/-! ### headroomref01_half: function 57 -/
def headroomref01_half.f (a0 : Int) : Option (Int) := if (Int.tmod a0 2) = 0 then (some (wrap64 (Int.tdiv a0 2))) else (if a0 > 0 then (some (wrap64 (Int.tdiv a0 2))) else (some (wrap64 ((wrap64 (Int.tdiv a0 2)) - 1))))
set_option maxHeartbeats 8000000 in
set_option maxRecDepth 100000 in
theorem headroomref01_half.calls (a0 : Int) (r : Int) (w : World) (h : headroomref01_half.f a0 = some r) :
    Calls Try.prog 57 #[.int .i64 a0] w fun e w' => e = .returned (.int .i64 r) ∧ Drawn0 w w' := by
  have H : (if (Int.tmod a0 2) = 0 then (some (wrap64 (Int.tdiv a0 2))) else (if a0 > 0 then (some (wrap64 (Int.tdiv a0 2))) else (some (wrap64 ((wrap64 (Int.tdiv a0 2)) - 1))))) = some r := h
  clear h
  by_cases c2 : (Int.tmod a0 2) = 0
  · rw [if_pos c2] at H
    have c2b0 : ((Int.tmod a0 2) == 0) = true := beq_iff_eq.mpr c2
    have c2b1 : ((Int.tmod a0 2) != 0) = false := bne_eq_false_iff_eq.mpr c2
    clear c2
    obtain rfl := Option.some.inj H
    go_enter Try.func57, Try.ntmps57
    go_wp2
    go_ret
    exact ⟨by first | rfl | (simp; done) | (simp [*]; done), by repeat (first | exact Drawn0.refl _ | apply Drawn0.step)⟩
  · rw [if_neg c2] at H
    have c2b0 : ((Int.tmod a0 2) == 0) = false := beq_eq_false_iff_ne.mpr c2
    have c2b1 : ((Int.tmod a0 2) != 0) = true := bne_iff_ne.mpr c2
    by_cases c3 : a0 > 0
    · rw [if_pos c3] at H
      have c3b0 : decide (0 < a0) = true := decide_eq_true c3
      clear c3
      obtain rfl := Option.some.inj H
      go_enter Try.func57, Try.ntmps57
      go_wp2
      go_ret
      exact ⟨by first | rfl | (simp; done) | (simp [*]; done), by repeat (first | exact Drawn0.refl _ | apply Drawn0.step)⟩
    · rw [if_neg c3] at H
      have c3b0 : decide (0 < a0) = false := decide_eq_false c3
      clear c3
      obtain rfl := Option.some.inj H
      go_enter Try.func57, Try.ntmps57
      go_wp2
      go_ret
      exact ⟨by first | rfl | (simp; done) | (simp [*]; done), by repeat (first | exact Drawn0.refl _ | apply Drawn0.step)⟩

/-! ### slices_Clone_int_int: function 29 -/
-- IMPORT Derived.WalkSpells

def slices_Clone_int_int0.f (l0 : List Int) : Option (List Int) := (some (([] : List Int) : List Int)).bind fun y236 => (if y236.length + l0.length < 17592186044416 then (some (y236 ++ l0)) else (none))
set_option maxHeartbeats 8000000 in
set_option maxRecDepth 100000 in
theorem slices_Clone_int_int0.calls (A0 : Option Addr) (c0 : Nat) (l0 : List Int) (r : List Int) (w : World) (hr0 : Kd.C (Kd.int .i64) w A0 l0.length l0) (hc0 : l0.length ≤ c0) (hA : A0.isNone = false) (h : slices_Clone_int_int0.f l0 = some r) :
    Calls Try.prog 29 #[.slice A0 l0.length c0] w fun e w' => ∃ v0_ : Value, e = .returned (v0_) ∧ Kd.R (Kd.int .i64) 3 w' w.heap.size (fun _ => True) v0_ r ∧ Below w.heap.size w w' := by
  have HR0 := Aside0.mk hr0
  have HC0 := Aside0.mk hc0
  clear hr0 hc0
  have HB := Aside0.mk (Below.refl w.heap.size w)
  have H : ((some (([] : List Int) : List Int)).bind fun y236 => (if y236.length + l0.length < 17592186044416 then (some (y236 ++ l0)) else (none))) = some r := h
  clear h
  obtain ⟨y236, hy236⟩ : ∃ y_ : List Int, y_ = (([] : List Int)) := ⟨_, rfl⟩
  replace H : (if y236.length + l0.length < 17592186044416 then (some (y236 ++ l0)) else (none)) = some r := by first | (rw [hy236]; with_reducible exact H) | (have H2_ := (Option.bind_some _ _).symm.trans H; rw [hy236]; with_reducible exact H2_) | (have H2_ := (Option.bind_some _ _).symm.trans H; with_reducible exact H2_) | with_reducible exact H | (rw [hy236]; exact H) | exact H
  have Ny236 := Aside0.mk hy236
  clear hy236
  by_cases c2 : y236.length + l0.length < 17592186044416
  · rw [if_pos c2] at H
    have LMc2 := Aside0.mk c2
    clear c2
    obtain ⟨y239, hy239⟩ : ∃ y_ : List Int, y_ = (y236 ++ l0) := ⟨_, rfl⟩
    replace H : (some y239) = some r := by first | (rw [hy239]; with_reducible exact H) | (have H2_ := (Option.bind_some _ _).symm.trans H; rw [hy239]; with_reducible exact H2_) | (have H2_ := (Option.bind_some _ _).symm.trans H; with_reducible exact H2_) | with_reducible exact H | (rw [hy239]; exact H) | exact H
    have Ny239 := Aside0.mk hy239
    clear hy239
    obtain rfl := Option.some.inj H
    have hsn := fun W : World => Lib.run_eql_slice_nil (P := Try.prog) W 47 3 A0 l0.length c0 0 0 Try.underlying47
    go_enter Try.func29, Try.ntmps29
    go_wp2_with (first | ((with_reducible refine gate_dst (N := 5) rfl ?_); refine Kd.R_lit (Kd.int .i64) _ 3 ?hg (N := 5) ?hd (xs := ([] : List Int)) (inner := []) (ok := fun _ => True) (okp := fun _ => True) ?hr ?hp (fun _ hk => hk) trivial (Below.refl _ _) (Nat.le_refl _) (by simp) ?_; (case hd => rfl); (case hg => rfl); (case hr => first | (go_simp; done) | (go_simp; rfl)); (case hp => exact (Reps.none _ _)); intro v237 w3 ho4 hb hg_ hnew_; clear hg_ hnew_; (first | rw [← Ny236.out] at ho4 | (simp only [Int.reduceToNat] at ho4; rw [← Ny236.out] at ho4)); have n0_ := Aside0.mk (Kd.R_lower ho4 (below_size (by repeat (first | (with_reducible first | exact HB.out | apply below_alloc | apply pw_below_drewN | apply below_drew1) | exact HB.out)))); have n1_ := Aside0.mk (below_step (by repeat (first | (with_reducible first | exact HB.out | apply below_alloc | apply pw_below_drewN | apply below_drew1) | exact HB.out)) hb); clear HB; have HO238 := n0_; have HB := n1_; clear n0_ n1_; clear hb ho4) | ((with_reducible refine gate_builtin (b := .append) (xs := #[.tmp 5, .tmp 6]) rfl ?_); at_builtin; refine Kd.R_append_rows (Kd.int .i64) (w0 := w) w.heap.size rfl (.tmp 5) (.tmp 6) 47 3 (.int .i64 0) 8 rfl Try.underlying47 info3 rfl (by decide) (by omega) v237 y236 l0 _ _ _ (fun _ => True) (fun _ => False) rfl rfl ?aO ?aR (fun _ _ h => h) (fun _ h => h.elim) ?aF ?aB ?aS ?aL ?_; (case aR => repeat (first | exact (Kd.C_below HR0.out HB.out) | (with_reducible refine Kd.C_alloc ?_ _) | (with_reducible refine Kd.C_drewN ?_ _) | (with_reducible refine Kd.C_drew ?_))); (case aB => exact (by repeat (first | (with_reducible first | exact HB.out | apply below_alloc | apply pw_below_drewN | apply below_drew1) | exact HB.out))); (case aF => exact (fun _ _ => trivial)); (case aO => exact (by (with_reducible repeat (first | apply Kd.R_alloc | apply Kd.R_drewN | apply Kd.R_drew)); exact HO238.out)); (case aS => exact (below_size (by repeat (first | (with_reducible first | exact HB.out | apply below_alloc | apply pw_below_drewN | apply below_drew1) | exact HB.out)))); (case aL => have := LMc2.out; omega); intro v240 w5 ho hb hg hat; rw [← Ny239.out] at ho; have n0_ := Aside0.mk (hb); have n1_ := Aside0.mk (ho); clear HB; clear HO238; have HB := n0_; have HO241 := n1_; clear n0_ n1_; clear ho hb hg hat))
    go_ret
    exact ⟨_, by first | rfl | (simp [errW_none, errW_some] <;> rfl) | (simp [*, errW_none, errW_some] <;> rfl), by (with_reducible repeat (first | apply Kd.R_alloc | apply Kd.R_drewN | apply Kd.R_drew)); exact HO241.out, by repeat (first | (with_reducible first | exact HB.out | apply below_alloc | apply pw_below_drewN | apply below_drew1) | exact HB.out)⟩
  · rw [if_neg c2] at H
    exact absurd H (by simp)

set_option maxHeartbeats 8000000 in
set_option maxRecDepth 100000 in
theorem slices_Clone_int_int_nil (c0 : Nat) (w : World) :
    Calls Try.prog 29 #[.slice none 0 c0] w fun e w' => ∃ v0_ : Value, e = .returned (v0_) ∧ Kd.R (Kd.int .i64) 3 w' w.heap.size (fun _ => True) v0_ [] ∧ Below w.heap.size w w' := by
  have hsn := fun W : World => Lib.run_eql_slice_nil (P := Try.prog) W 47 3 none 0 c0 0 0 Try.underlying47
  go_enter Try.func29, Try.ntmps29
  go_wp2
  go_ret
  exact ⟨_, rfl, Kd.R_nil _ _ _ _ _, Below.refl _ _⟩
def slices_Clone_int_int.f (l0 : List Int) : Option (List Int) := slices_Clone_int_int0.f l0
theorem slices_Clone_int_int.calls (A0 : Option Addr) (c0 : Nat) (l0 : List Int) (r : List Int) (w : World) (hr0 : Kd.C (Kd.int .i64) w A0 l0.length l0) (hc0 : l0.length ≤ c0) (h : slices_Clone_int_int.f l0 = some r) :
    Calls Try.prog 29 #[.slice A0 l0.length c0] w fun e w' => ∃ v0_ : Value, e = .returned (v0_) ∧ Kd.R (Kd.int .i64) 3 w' w.heap.size (fun _ => True) v0_ r ∧ Below w.heap.size w w' := by
  cases A0 with
  | some ad => exact slices_Clone_int_int0.calls (some ad) c0 l0 r w hr0 hc0 rfl h
  | none =>
    have hl : l0 = [] := by
      cases l0 with
      | nil => rfl
      | cons x xs => obtain ⟨ad, e, _⟩ := hr0.2.2 (by simp); cases e
    subst hl
    have hr : r = [] := by
      unfold slices_Clone_int_int.f slices_Clone_int_int0.f at h
      simpa using h.symm
    subst hr
    exact slices_Clone_int_int_nil c0 w

/-! ### headroomref04_Same: function 31 -/
def headroomref04_Same.l0 : Nat → List Int → List Int → Int → Int → Option (Bool)
  | 0, _, _, _, _ => none
  | k + 1, x0, x1, x12, x13 => if x13 < x12 then (if 0 ≤ x13 then (if x13 < (x0.length : Int) then (if x13 < (x1.length : Int) then (if (rd x0 x13) = (rd x1 x13) then (headroomref04_Same.l0 k x0 x1 x12 (wrap64 (x13 + 1))) else (some false)) else (none)) else (none)) else (none)) else (some true)
def headroomref04_Same.f (k : Nat) (l0 : List Int) (l1 : List Int) : Option (Bool) := if (l0.length : Int) = (l1.length : Int) then (headroomref04_Same.l0 k l0 l1 (l0.length : Int) 0) else (some false)
theorem headroomref04_Same.mono_l : ∀ k, (∀ y0 y1 y2 y3, LeO (headroomref04_Same.l0 k y0 y1 y2 y3) (headroomref04_Same.l0 (k + 1) y0 y1 y2 y3))
  | 0 => fun _ _ _ _ r h => by simp [headroomref04_Same.l0] at h
  | k + 1 => by
    have ih0 := headroomref04_Same.mono_l k
    · intro y0 y1 y2 y3
      unfold headroomref04_Same.l0
      repeat' first
      | (with_reducible exact ih0 _ _ _ _)
      | (with_reducible exact LeO.refl _)
      | (with_reducible exact LeO.none _)
      | (with_reducible refine LeO.ite ?_ ?_)
      | (with_reducible refine LeO.bind ?_ (fun _ => ?_))
      | exact ih0 _ _ _ _
      | exact LeO.none _
      | refine LeO.ite ?_ ?_
      | refine LeO.bind ?_ (fun _ => ?_)
theorem headroomref04_Same.mono : ∀ a0 a1 k, LeO (headroomref04_Same.f k a0 a1) (headroomref04_Same.f (k + 1) a0 a1) := by
  intro a0 a1 k
  have ih0 := headroomref04_Same.mono_l k
  unfold headroomref04_Same.f
  repeat' first
      | (with_reducible exact ih0 _ _ _ _)
      | (with_reducible exact LeO.refl _)
      | (with_reducible exact LeO.none _)
      | (with_reducible refine LeO.ite ?_ ?_)
      | (with_reducible refine LeO.bind ?_ (fun _ => ?_))
      | exact ih0 _ _ _ _
      | exact LeO.none _
      | refine LeO.ite ?_ ?_
      | refine LeO.bind ?_ (fun _ => ?_)
set_option maxHeartbeats 8000000 in
set_option maxRecDepth 100000 in
theorem headroomref04_Same.calls (k : Nat) (A0 : Option Addr) (c0 : Nat) (l0 : List Int) (A1 : Option Addr) (c1 : Nat) (l1 : List Int) (r : Bool) (w : World) (hr0 : Kd.C (Kd.int .i64) w A0 l0.length l0) (hc0 : l0.length ≤ c0) (hr1 : Kd.C (Kd.int .i64) w A1 l1.length l1) (hc1 : l1.length ≤ c1) (h : headroomref04_Same.f k l0 l1 = some r) :
    Calls Try.prog 31 #[.slice A0 l0.length c0, .slice A1 l1.length c1] w fun e w' => e = .returned (.bool r) ∧ Drawn0 w w' := by
  have HR0 := Aside0.mk hr0
  have HC0 := Aside0.mk hc0
  clear hr0 hc0
  have HR1 := Aside0.mk hr1
  have HC1 := Aside0.mk hc1
  clear hr1 hc1
  have H : (if (l0.length : Int) = (l1.length : Int) then (headroomref04_Same.l0 k l0 l1 (l0.length : Int) 0) else (some false)) = some r := h
  clear h
  by_cases c3 : (l0.length : Int) = (l1.length : Int)
  · rw [if_pos c3] at H
    have c3b0 : ((l0.length : Int) == (l1.length : Int)) = true := beq_iff_eq.mpr c3
    have c3b1 : ((l0.length : Int) != (l1.length : Int)) = false := bne_eq_false_iff_eq.mpr c3
    have c3b2 : (l0.length == l1.length) = true := by first | simpa using c3 | (simp at c3 ⊢; omega)
    clear c3
    have H' := Aside0.mk H
    clear H
    go_enter Try.func31, Try.ntmps31
    go_wp2
    repeat (go_quiet (fail); try go_wp2)
    go_loopg [13] k (fun kq v13 w' => ∃ (x13_1 : Int), v13 = .int .i64 x13_1 ∧ Aside0 (headroomref04_Same.l0 kq l0 l1 (l0.length : Int) x13_1 = some r) ∧ Aside0 (kq ≤ k) ∧ Drawn0 w w')
    case atStart => exact ⟨(0), (by first | rfl | (simp; done) | (simp [*]; done)), H', ⟨Nat.le_refl _⟩, by repeat (first | exact Drawn0.refl _ | apply Drawn0.step)⟩
    case round =>
      clear H'
      try clear c1
      try clear p2
      try clear c3
      try clear c3b0
      try clear c3b1
      try clear c3b2
      obtain ⟨x13_1, rfl, HA, HK1, ⟨m1, rfl⟩⟩ := hrel
      cases gk with
      | zero => exact absurd HA.out (by simp [headroomref04_Same.l0])
      | succ k1 =>
        have H := HA.out
        clear HA
        simp only [headroomref04_Same.l0] at H
        by_cases c4 : x13_1 < (l0.length : Int)
        · rw [if_pos c4] at H
          have c4b0 : decide (x13_1 < (l0.length : Int)) = true := decide_eq_true c4
          clear c4
          by_cases c5 : 0 ≤ x13_1
          · rw [if_pos c5] at H
            have c5b0 : decide (0 ≤ x13_1) = true := decide_eq_true c5
            clear c5
            by_cases c6 : x13_1 < (l0.length : Int)
            · rw [if_pos c6] at H
              have c6b0 : decide (x13_1 < (l0.length : Int)) = true := decide_eq_true c6
              clear c6
              by_cases c7 : x13_1 < (l1.length : Int)
              · rw [if_pos c7] at H
                have c7b0 : decide (x13_1 < (l1.length : Int)) = true := decide_eq_true c7
                clear c7
                by_cases c8 : (rd l0 x13_1) = (rd l1 x13_1)
                · rw [if_pos c8] at H
                  have c8b0 : ((rd l0 x13_1) == (rd l1 x13_1)) = true := beq_iff_eq.mpr c8
                  have c8b1 : ((rd l0 x13_1) != (rd l1 x13_1)) = false := bne_eq_false_iff_eq.mpr c8
                  clear c8
                  have H' := Aside0.mk H
                  clear H
                  have p279 : 0 ≤ (x13_1 : Int) := of_decide_eq_true (by first | (with_reducible assumption) | assumption)
                  have q279 : x13_1 < (l0.length : Int) := of_decide_eq_true (by first | (with_reducible assumption) | assumption)
                  obtain ⟨ad279, e279, hx279_0⟩ := Kd.at_int HR0.out x13_1 p279 q279
                  cases e279
                  replace p279 := eq_true p279
                  replace q279 := eq_true q279
                  have p280 : 0 ≤ (x13_1 : Int) := of_decide_eq_true (by first | (with_reducible assumption) | assumption)
                  have q280 : x13_1 < (l1.length : Int) := of_decide_eq_true (by first | (with_reducible assumption) | assumption)
                  obtain ⟨ad280, e280, hx280_0⟩ := Kd.at_int HR1.out x13_1 p280 q280
                  cases e280
                  replace p280 := eq_true p280
                  replace q280 := eq_true q280
                  go_wp2
                  repeat (go_quiet (fail); try go_wp2)
                  go_roundg k1
                  case measure => have := HK1.out; omega
                  case rel => exact ⟨(wrap64 (x13_1 + 1)), (by first | rfl | (simp; done) | (simp [*]; done)), H', ⟨by have := HK1.out; omega⟩, by repeat (first | exact Drawn0.refl _ | apply Drawn0.step)⟩
                · rw [if_neg c8] at H
                  have c8b0 : ((rd l0 x13_1) == (rd l1 x13_1)) = false := beq_eq_false_iff_ne.mpr c8
                  have c8b1 : ((rd l0 x13_1) != (rd l1 x13_1)) = true := bne_iff_ne.mpr c8
                  obtain rfl := Option.some.inj H
                  have p279 : 0 ≤ (x13_1 : Int) := of_decide_eq_true (by first | (with_reducible assumption) | assumption)
                  have q279 : x13_1 < (l0.length : Int) := of_decide_eq_true (by first | (with_reducible assumption) | assumption)
                  obtain ⟨ad279, e279, hx279_0⟩ := Kd.at_int HR0.out x13_1 p279 q279
                  cases e279
                  replace p279 := eq_true p279
                  replace q279 := eq_true q279
                  have p280 : 0 ≤ (x13_1 : Int) := of_decide_eq_true (by first | (with_reducible assumption) | assumption)
                  have q280 : x13_1 < (l1.length : Int) := of_decide_eq_true (by first | (with_reducible assumption) | assumption)
                  obtain ⟨ad280, e280, hx280_0⟩ := Kd.at_int HR1.out x13_1 p280 q280
                  cases e280
                  replace p280 := eq_true p280
                  replace q280 := eq_true q280
                  go_wp2
                  repeat (go_quiet (fail); try go_wp2)
                  go_ret
                  exact ⟨by first | rfl | (simp; done) | (simp [*]; done), by repeat (first | exact Drawn0.refl _ | apply Drawn0.step)⟩
              · rw [if_neg c7] at H
                exact absurd H (by simp)
            · rw [if_neg c6] at H
              exact absurd H (by simp)
          · rw [if_neg c5] at H
            exact absurd H (by simp)
        · rw [if_neg c4] at H
          have c4b0 : decide (x13_1 < (l0.length : Int)) = false := decide_eq_false c4
          clear c4
          obtain rfl := Option.some.inj H
          go_wp2
          repeat (go_quiet (fail); try go_wp2)
          go_ret
          exact ⟨by first | rfl | (simp; done) | (simp [*]; done), by repeat (first | exact Drawn0.refl _ | apply Drawn0.step)⟩
  · rw [if_neg c3] at H
    have c3b0 : ((l0.length : Int) == (l1.length : Int)) = false := beq_eq_false_iff_ne.mpr c3
    have c3b1 : ((l0.length : Int) != (l1.length : Int)) = true := bne_iff_ne.mpr c3
    have c3b2 : (l0.length == l1.length) = false := by first | simpa using c3 | (simp at c3 ⊢; omega)
    obtain rfl := Option.some.inj H
    go_enter Try.func31, Try.ntmps31
    go_wp2
    repeat (go_quiet (fail); try go_wp2)
    go_ret
    exact ⟨by first | rfl | (simp; done) | (simp [*]; done), by repeat (first | exact Drawn0.refl _ | apply Drawn0.step)⟩

end Go.Proofs.Ytbpanbmjkfhcgaa.P
