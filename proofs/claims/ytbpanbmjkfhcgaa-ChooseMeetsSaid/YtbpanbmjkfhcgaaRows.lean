/-
  No cell of these rows narrows 'for every input' (looked for: loops, veiled, ifaces, maps, wideKeys, modest, calm, conditions, laid).
  DERIVED. THE GIVEN ROWS OF THIS SEAT. 10 by the template 'for every input the law returns true; each argument reads behind the call as it read before'; 0 by the template 'total and deterministic' (their statements: YtbpanbmjkfhcgaaTotals.lean).
  GIVEN WITH THE SEED: the statements are not yours to turn. If you find one false, say at which input.
  Laid BY PROGRAM, IN A SANDBOX (cutbox-rows.mjs): the forced cells as the released guide's own fill.sh prints them over the translation e93864e7173e6452… (all of the seat's roots in one cut). By AI agents, Wed Nov 11 2026. No macro, syntax, notation, axiom, sorry.
-/
import Derived.Test.YtbpanbmjkfhcgaaChecked
import GoSem.Claim
import GoSem.ClaimJoined
import GoSem.ClaimMapViews
import Derived.JoinedTies
import Derived.KernelRfl
namespace Go.Proofs.Ytbpanbmjkfhcgaa
/- THE CELL 'sum', in the pinned program and in every row, IS THE sha256 OF THE DUMP (.gsa) THAT YtbpanbmjkfhcgaaProg.lean LOADS. Nothing in Lean hashes anything: it is a label: what it is worth is what the hold of that sum in a sandbox is worth. -/
noncomputable def Try.pinned : Pinned := { name := "ytbpanbmjkfhcgaa", sum := "e93864e7173e6452756ba121b65fc8d57b7c460da9af87bac977ebdd2d5e42a3", checked := Try.checked }
namespace Rows
def none {H : Type} : Left H := { results := [], args := [] }

/-- 'headroomlaw13.PlanChecks': WHATEVER THE INPUT: true; the input reads as it did. -/
def planChecksSpec : ChangeSpec := { name := "planChecks", fn := fun _ => fun
  | [d] => { results := [.lit (.bool true)], args := [d] }
  | _ => none }
def planChecksRow : OpenClaim := { program := "ytbpanbmjkfhcgaa", sum := "e93864e7173e6452756ba121b65fc8d57b7c460da9af87bac977ebdd2d5e42a3", func := "headroom/headroomlaw13.PlanChecks", spec := "planChecks", plainKeys := false, apart := false }
def PlanChecksSaid : Prop := planChecksRow.holds Try.pinned (OpenSpec.ofChange planChecksSpec)

/-- ITS FALSE NEIGHBOUR: 'it returns false'. Refute it at one input. -/
def planChecksWrong : ChangeSpec := { name := "planChecks", fn := fun _ => fun
  | [d] => { results := [.lit (.bool false)], args := [d] }
  | _ => none }
def PlanChecksWrongFalsely : Prop := planChecksRow.holds Try.pinned (OpenSpec.ofChange planChecksWrong)

/-- 'headroomlaw13.PlanGoes': WHATEVER THE INPUT: true; the input reads as it did. -/
def planGoesSpec : ChangeSpec := { name := "planGoes", fn := fun _ => fun
  | [d1, d2, d3] => { results := [.lit (.bool true)], args := [d1, d2, d3] }
  | _ => none }
def planGoesRow : OpenClaim := { program := "ytbpanbmjkfhcgaa", sum := "e93864e7173e6452756ba121b65fc8d57b7c460da9af87bac977ebdd2d5e42a3", func := "headroom/headroomlaw13.PlanGoes", spec := "planGoes", plainKeys := false, apart := false }
def PlanGoesSaid : Prop := planGoesRow.holds Try.pinned (OpenSpec.ofChange planGoesSpec)

/-- ITS FALSE NEIGHBOUR: 'it returns false'. Refute it at one input. -/
def planGoesWrong : ChangeSpec := { name := "planGoes", fn := fun _ => fun
  | [d1, d2, d3] => { results := [.lit (.bool false)], args := [d1, d2, d3] }
  | _ => none }
def PlanGoesWrongFalsely : Prop := planGoesRow.holds Try.pinned (OpenSpec.ofChange planGoesWrong)

/-- 'headroomlaw13.PlanEvery': WHATEVER THE INPUT: true; the input reads as it did. -/
def planEverySpec : ChangeSpec := { name := "planEvery", fn := fun _ => fun
  | [d] => { results := [.lit (.bool true)], args := [d] }
  | _ => none }
def planEveryRow : OpenClaim := { program := "ytbpanbmjkfhcgaa", sum := "e93864e7173e6452756ba121b65fc8d57b7c460da9af87bac977ebdd2d5e42a3", func := "headroom/headroomlaw13.PlanEvery", spec := "planEvery", unfollowed := true, recurses := true, plainKeys := false, apart := false }
def PlanEverySaid : Prop := planEveryRow.holds Try.pinned (OpenSpec.ofChange planEverySpec)

/-- ITS FALSE NEIGHBOUR: 'it returns false'. Refute it at one input. -/
def planEveryWrong : ChangeSpec := { name := "planEvery", fn := fun _ => fun
  | [d] => { results := [.lit (.bool false)], args := [d] }
  | _ => none }
def PlanEveryWrongFalsely : Prop := planEveryRow.holds Try.pinned (OpenSpec.ofChange planEveryWrong)

/-- 'headroomlaw14.BudgetSteps': WHATEVER THE INPUT: true; the input reads as it did. -/
def budgetStepsSpec : ChangeSpec := { name := "budgetSteps", fn := fun _ => fun
  | [d1, d2, d3, d4, d5] => { results := [.lit (.bool true)], args := [d1, d2, d3, d4, d5] }
  | _ => none }
def budgetStepsRow : OpenClaim := { program := "ytbpanbmjkfhcgaa", sum := "e93864e7173e6452756ba121b65fc8d57b7c460da9af87bac977ebdd2d5e42a3", func := "headroom/headroomlaw14.BudgetSteps", spec := "budgetSteps", plainKeys := false, apart := false }
def BudgetStepsSaid : Prop := budgetStepsRow.holds Try.pinned (OpenSpec.ofChange budgetStepsSpec)

/-- ITS FALSE NEIGHBOUR: 'it returns false'. Refute it at one input. -/
def budgetStepsWrong : ChangeSpec := { name := "budgetSteps", fn := fun _ => fun
  | [d1, d2, d3, d4, d5] => { results := [.lit (.bool false)], args := [d1, d2, d3, d4, d5] }
  | _ => none }
def BudgetStepsWrongFalsely : Prop := budgetStepsRow.holds Try.pinned (OpenSpec.ofChange budgetStepsWrong)

/-- 'headroomlaw14.BudgetRises': WHATEVER THE INPUT: true; the input reads as it did. -/
def budgetRisesSpec : ChangeSpec := { name := "budgetRises", fn := fun _ => fun
  | [d1, d2, d3, d4, d5] => { results := [.lit (.bool true)], args := [d1, d2, d3, d4, d5] }
  | _ => none }
def budgetRisesRow : OpenClaim := { program := "ytbpanbmjkfhcgaa", sum := "e93864e7173e6452756ba121b65fc8d57b7c460da9af87bac977ebdd2d5e42a3", func := "headroom/headroomlaw14.BudgetRises", spec := "budgetRises", plainKeys := false, apart := false }
def BudgetRisesSaid : Prop := budgetRisesRow.holds Try.pinned (OpenSpec.ofChange budgetRisesSpec)

/-- ITS FALSE NEIGHBOUR: 'it returns false'. Refute it at one input. -/
def budgetRisesWrong : ChangeSpec := { name := "budgetRises", fn := fun _ => fun
  | [d1, d2, d3, d4, d5] => { results := [.lit (.bool false)], args := [d1, d2, d3, d4, d5] }
  | _ => none }
def BudgetRisesWrongFalsely : Prop := budgetRisesRow.holds Try.pinned (OpenSpec.ofChange budgetRisesWrong)

/-- 'headroomlaw14.BudgetLeast': WHATEVER THE INPUT: true; the input reads as it did. -/
def budgetLeastSpec : ChangeSpec := { name := "budgetLeast", fn := fun _ => fun
  | [d1, d2, d3, d4] => { results := [.lit (.bool true)], args := [d1, d2, d3, d4] }
  | _ => none }
def budgetLeastRow : OpenClaim := { program := "ytbpanbmjkfhcgaa", sum := "e93864e7173e6452756ba121b65fc8d57b7c460da9af87bac977ebdd2d5e42a3", func := "headroom/headroomlaw14.BudgetLeast", spec := "budgetLeast", plainKeys := false, apart := false }
def BudgetLeastSaid : Prop := budgetLeastRow.holds Try.pinned (OpenSpec.ofChange budgetLeastSpec)

/-- ITS FALSE NEIGHBOUR: 'it returns false'. Refute it at one input. -/
def budgetLeastWrong : ChangeSpec := { name := "budgetLeast", fn := fun _ => fun
  | [d1, d2, d3, d4] => { results := [.lit (.bool false)], args := [d1, d2, d3, d4] }
  | _ => none }
def BudgetLeastWrongFalsely : Prop := budgetLeastRow.holds Try.pinned (OpenSpec.ofChange budgetLeastWrong)

/-- 'headroomlaw14.BudgetPlans': WHATEVER THE INPUT: true; the input reads as it did. -/
def budgetPlansSpec : ChangeSpec := { name := "budgetPlans", fn := fun _ => fun
  | [d1, d2] => { results := [.lit (.bool true)], args := [d1, d2] }
  | _ => none }
def budgetPlansRow : OpenClaim := { program := "ytbpanbmjkfhcgaa", sum := "e93864e7173e6452756ba121b65fc8d57b7c460da9af87bac977ebdd2d5e42a3", func := "headroom/headroomlaw14.BudgetPlans", spec := "budgetPlans", plainKeys := false, apart := false }
def BudgetPlansSaid : Prop := budgetPlansRow.holds Try.pinned (OpenSpec.ofChange budgetPlansSpec)

/-- ITS FALSE NEIGHBOUR: 'it returns false'. Refute it at one input. -/
def budgetPlansWrong : ChangeSpec := { name := "budgetPlans", fn := fun _ => fun
  | [d1, d2] => { results := [.lit (.bool false)], args := [d1, d2] }
  | _ => none }
def BudgetPlansWrongFalsely : Prop := budgetPlansRow.holds Try.pinned (OpenSpec.ofChange budgetPlansWrong)

/-- 'headroomlaw22.ChooseLosses': WHATEVER THE INPUT: true; the input reads as it did. -/
def chooseLossesSpec : ChangeSpec := { name := "chooseLosses", fn := fun _ => fun
  | [d1, d2, d3] => { results := [.lit (.bool true)], args := [d1, d2, d3] }
  | _ => none }
def chooseLossesRow : OpenClaim := { program := "ytbpanbmjkfhcgaa", sum := "e93864e7173e6452756ba121b65fc8d57b7c460da9af87bac977ebdd2d5e42a3", func := "headroom/headroomlaw22.ChooseLosses", spec := "chooseLosses", plainKeys := false, apart := false }
def ChooseLossesSaid : Prop := chooseLossesRow.holds Try.pinned (OpenSpec.ofChange chooseLossesSpec)

/-- ITS FALSE NEIGHBOUR: 'it returns false'. Refute it at one input. -/
def chooseLossesWrong : ChangeSpec := { name := "chooseLosses", fn := fun _ => fun
  | [d1, d2, d3] => { results := [.lit (.bool false)], args := [d1, d2, d3] }
  | _ => none }
def ChooseLossesWrongFalsely : Prop := chooseLossesRow.holds Try.pinned (OpenSpec.ofChange chooseLossesWrong)

/-- 'headroomlaw22.ChoosePlans': WHATEVER THE INPUT: true; the input reads as it did. -/
def choosePlansSpec : ChangeSpec := { name := "choosePlans", fn := fun _ => fun
  | [d1, d2, d3, d4, d5] => { results := [.lit (.bool true)], args := [d1, d2, d3, d4, d5] }
  | _ => none }
def choosePlansRow : OpenClaim := { program := "ytbpanbmjkfhcgaa", sum := "e93864e7173e6452756ba121b65fc8d57b7c460da9af87bac977ebdd2d5e42a3", func := "headroom/headroomlaw22.ChoosePlans", spec := "choosePlans", unfollowed := true, recurses := true, plainKeys := false, apart := false }
def ChoosePlansSaid : Prop := choosePlansRow.holds Try.pinned (OpenSpec.ofChange choosePlansSpec)

/-- ITS FALSE NEIGHBOUR: 'it returns false'. Refute it at one input. -/
def choosePlansWrong : ChangeSpec := { name := "choosePlans", fn := fun _ => fun
  | [d1, d2, d3, d4, d5] => { results := [.lit (.bool false)], args := [d1, d2, d3, d4, d5] }
  | _ => none }
def ChoosePlansWrongFalsely : Prop := choosePlansRow.holds Try.pinned (OpenSpec.ofChange choosePlansWrong)

/-- 'headroomlaw22.ChooseMeets': WHATEVER THE INPUT: true; the input reads as it did. -/
def chooseMeetsSpec : ChangeSpec := { name := "chooseMeets", fn := fun _ => fun
  | [d1, d2, d3, d4, d5, d6] => { results := [.lit (.bool true)], args := [d1, d2, d3, d4, d5, d6] }
  | _ => none }
def chooseMeetsRow : OpenClaim := { program := "ytbpanbmjkfhcgaa", sum := "e93864e7173e6452756ba121b65fc8d57b7c460da9af87bac977ebdd2d5e42a3", func := "headroom/headroomlaw22.ChooseMeets", spec := "chooseMeets", unfollowed := true, recurses := true, plainKeys := false, apart := false }
def ChooseMeetsSaid : Prop := chooseMeetsRow.holds Try.pinned (OpenSpec.ofChange chooseMeetsSpec)

/-- ITS FALSE NEIGHBOUR: 'it returns false'. Refute it at one input. -/
def chooseMeetsWrong : ChangeSpec := { name := "chooseMeets", fn := fun _ => fun
  | [d1, d2, d3, d4, d5, d6] => { results := [.lit (.bool false)], args := [d1, d2, d3, d4, d5, d6] }
  | _ => none }
def ChooseMeetsWrongFalsely : Prop := chooseMeetsRow.holds Try.pinned (OpenSpec.ofChange chooseMeetsWrong)

/- THE SECOND FORM. 'bulk': how many values and letters a reading holds, each counted each time it is reached (what is shared counts as often as it is met; a slice's spare places count too). A statement '..UptoSaid' is the law's where the arguments, and the package variables that the reading takes, are together of bulk at most 1048576: NARROWER than '..Said'. Prove '..Said' where nothing that the law and all that it calls make is longer than what came in: it says more and counts as full. Else prove '..UptoSaid'. A law counts once. -/
mutual
def uptoBulk {H : Type} : DataW H → Nat
  | .lit (.string bytes) => bytes.length + 1
  | .lit _ => 1
  | .nil => 1
  | .ptr d => uptoBulk d + 1
  | .slice elems spare => uptoBulkAll elems + uptoBulkAll spare + 1
  | .agg parts => uptoBulkAll parts + 1
  | .iface _ d => uptoBulk d + 1
  | .map entries => uptoBulkEntries entries + 1
  | .held _ => 1
def uptoBulkAll {H : Type} : List (DataW H) → Nat
  | [] => 0
  | d :: r => uptoBulk d + uptoBulkAll r
def uptoBulkEntries {H : Type} : List (Lit × DataW H) → Nat
  | [] => 0
  | x :: r => uptoBulkEntry x + uptoBulkEntries r
def uptoBulkEntry {H : Type} : Lit × DataW H → Nat
  | (.string bytes, d) => bytes.length + uptoBulk d + 1
  | (_, d) => uptoBulk d + 1
 end
def uptoSmall : (H : Type) → List (DataW H) → Bool := fun _ ds => decide (uptoBulkAll ds ≤ 1048576)
def OpenSpec.upto (s : _root_.Go.ChangeSpec) : _root_.Go.OpenSpec := { _root_.Go.OpenSpec.ofChange s with cond := some uptoSmall }

/-- 'headroomlaw13.PlanChecks', WHERE WHAT IT READS IS OF BULK AT MOST 1048576: true; the input reads as it did. -/
def planChecksUptoRow : OpenClaim := { program := "ytbpanbmjkfhcgaa", sum := "e93864e7173e6452756ba121b65fc8d57b7c460da9af87bac977ebdd2d5e42a3", func := "headroom/headroomlaw13.PlanChecks", spec := "planChecks", plainKeys := false, apart := false, narrowed := true }
def PlanChecksUptoSaid : Prop := planChecksUptoRow.holds Try.pinned (OpenSpec.upto planChecksSpec)

/-- 'headroomlaw13.PlanGoes', WHERE WHAT IT READS IS OF BULK AT MOST 1048576: true; the input reads as it did. -/
def planGoesUptoRow : OpenClaim := { program := "ytbpanbmjkfhcgaa", sum := "e93864e7173e6452756ba121b65fc8d57b7c460da9af87bac977ebdd2d5e42a3", func := "headroom/headroomlaw13.PlanGoes", spec := "planGoes", plainKeys := false, apart := false, narrowed := true }
def PlanGoesUptoSaid : Prop := planGoesUptoRow.holds Try.pinned (OpenSpec.upto planGoesSpec)

/-- 'headroomlaw13.PlanEvery', WHERE WHAT IT READS IS OF BULK AT MOST 1048576: true; the input reads as it did. -/
def planEveryUptoRow : OpenClaim := { program := "ytbpanbmjkfhcgaa", sum := "e93864e7173e6452756ba121b65fc8d57b7c460da9af87bac977ebdd2d5e42a3", func := "headroom/headroomlaw13.PlanEvery", spec := "planEvery", unfollowed := true, recurses := true, plainKeys := false, apart := false, narrowed := true }
def PlanEveryUptoSaid : Prop := planEveryUptoRow.holds Try.pinned (OpenSpec.upto planEverySpec)

/-- 'headroomlaw14.BudgetSteps', WHERE WHAT IT READS IS OF BULK AT MOST 1048576: true; the input reads as it did. -/
def budgetStepsUptoRow : OpenClaim := { program := "ytbpanbmjkfhcgaa", sum := "e93864e7173e6452756ba121b65fc8d57b7c460da9af87bac977ebdd2d5e42a3", func := "headroom/headroomlaw14.BudgetSteps", spec := "budgetSteps", plainKeys := false, apart := false, narrowed := true }
def BudgetStepsUptoSaid : Prop := budgetStepsUptoRow.holds Try.pinned (OpenSpec.upto budgetStepsSpec)

/-- 'headroomlaw14.BudgetRises', WHERE WHAT IT READS IS OF BULK AT MOST 1048576: true; the input reads as it did. -/
def budgetRisesUptoRow : OpenClaim := { program := "ytbpanbmjkfhcgaa", sum := "e93864e7173e6452756ba121b65fc8d57b7c460da9af87bac977ebdd2d5e42a3", func := "headroom/headroomlaw14.BudgetRises", spec := "budgetRises", plainKeys := false, apart := false, narrowed := true }
def BudgetRisesUptoSaid : Prop := budgetRisesUptoRow.holds Try.pinned (OpenSpec.upto budgetRisesSpec)

/-- 'headroomlaw14.BudgetLeast', WHERE WHAT IT READS IS OF BULK AT MOST 1048576: true; the input reads as it did. -/
def budgetLeastUptoRow : OpenClaim := { program := "ytbpanbmjkfhcgaa", sum := "e93864e7173e6452756ba121b65fc8d57b7c460da9af87bac977ebdd2d5e42a3", func := "headroom/headroomlaw14.BudgetLeast", spec := "budgetLeast", plainKeys := false, apart := false, narrowed := true }
def BudgetLeastUptoSaid : Prop := budgetLeastUptoRow.holds Try.pinned (OpenSpec.upto budgetLeastSpec)

/-- 'headroomlaw14.BudgetPlans', WHERE WHAT IT READS IS OF BULK AT MOST 1048576: true; the input reads as it did. -/
def budgetPlansUptoRow : OpenClaim := { program := "ytbpanbmjkfhcgaa", sum := "e93864e7173e6452756ba121b65fc8d57b7c460da9af87bac977ebdd2d5e42a3", func := "headroom/headroomlaw14.BudgetPlans", spec := "budgetPlans", plainKeys := false, apart := false, narrowed := true }
def BudgetPlansUptoSaid : Prop := budgetPlansUptoRow.holds Try.pinned (OpenSpec.upto budgetPlansSpec)

/-- 'headroomlaw22.ChooseLosses', WHERE WHAT IT READS IS OF BULK AT MOST 1048576: true; the input reads as it did. -/
def chooseLossesUptoRow : OpenClaim := { program := "ytbpanbmjkfhcgaa", sum := "e93864e7173e6452756ba121b65fc8d57b7c460da9af87bac977ebdd2d5e42a3", func := "headroom/headroomlaw22.ChooseLosses", spec := "chooseLosses", plainKeys := false, apart := false, narrowed := true }
def ChooseLossesUptoSaid : Prop := chooseLossesUptoRow.holds Try.pinned (OpenSpec.upto chooseLossesSpec)

/-- 'headroomlaw22.ChoosePlans', WHERE WHAT IT READS IS OF BULK AT MOST 1048576: true; the input reads as it did. -/
def choosePlansUptoRow : OpenClaim := { program := "ytbpanbmjkfhcgaa", sum := "e93864e7173e6452756ba121b65fc8d57b7c460da9af87bac977ebdd2d5e42a3", func := "headroom/headroomlaw22.ChoosePlans", spec := "choosePlans", unfollowed := true, recurses := true, plainKeys := false, apart := false, narrowed := true }
def ChoosePlansUptoSaid : Prop := choosePlansUptoRow.holds Try.pinned (OpenSpec.upto choosePlansSpec)

/-- 'headroomlaw22.ChooseMeets', WHERE WHAT IT READS IS OF BULK AT MOST 1048576: true; the input reads as it did. -/
def chooseMeetsUptoRow : OpenClaim := { program := "ytbpanbmjkfhcgaa", sum := "e93864e7173e6452756ba121b65fc8d57b7c460da9af87bac977ebdd2d5e42a3", func := "headroom/headroomlaw22.ChooseMeets", spec := "chooseMeets", unfollowed := true, recurses := true, plainKeys := false, apart := false, narrowed := true }
def ChooseMeetsUptoSaid : Prop := chooseMeetsUptoRow.holds Try.pinned (OpenSpec.upto chooseMeetsSpec)

end Rows
end Go.Proofs.Ytbpanbmjkfhcgaa
