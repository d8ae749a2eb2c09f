/-
  No cell of these rows narrows 'for every input' (looked for: loops, veiled, ifaces, maps, wideKeys, modest, calm, conditions, laid).
  DERIVED. THE GIVEN ROWS OF THIS SEAT. 10 by the template 'for every input the law returns true; each argument reads behind the call as it read before'; 0 by the template 'total and deterministic' (their statements: YtghajjjdfhcljaaTotals.lean).
  GIVEN WITH THE SEED: the statements are not yours to turn. If you find one false, say at which input.
  Laid BY PROGRAM, IN A SANDBOX (cutbox-rows.mjs): the forced cells as the released guide's own fill.sh prints them over the translation a0a7b284fc56a3cb… (all of the seat's roots in one cut). By AI agents, Wed Nov 11 2026. No macro, syntax, notation, axiom, sorry.
-/
import Derived.Test.YtghajjjdfhcljaaChecked
import GoSem.Claim
import GoSem.ClaimJoined
import GoSem.ClaimMapViews
import Derived.JoinedTies
import Derived.KernelRfl
namespace Go.Proofs.Ytghajjjdfhcljaa
/- THE CELL 'sum', in the pinned program and in every row, IS THE sha256 OF THE DUMP (.gsa) THAT YtghajjjdfhcljaaProg.lean LOADS. Nothing in Lean hashes anything: it is a label: what it is worth is what the hold of that sum in a sandbox is worth. -/
noncomputable def Try.pinned : Pinned := { name := "ytghajjjdfhcljaa", sum := "a0a7b284fc56a3cb8706fbbc57b9e5642480736c36f490cb0a9106213973c1a8", checked := Try.checked }
namespace Rows
def none {H : Type} : Left H := { results := [], args := [] }

/-- 'headroomlaw04.ArcSplits': WHATEVER THE INPUT: true; the input reads as it did. -/
def arcSplitsSpec : ChangeSpec := { name := "arcSplits", fn := fun _ => fun
  | [d] => { results := [.lit (.bool true)], args := [d] }
  | _ => none }
def arcSplitsRow : OpenClaim := { program := "ytghajjjdfhcljaa", sum := "a0a7b284fc56a3cb8706fbbc57b9e5642480736c36f490cb0a9106213973c1a8", func := "headroom/headroomlaw04.ArcSplits", spec := "arcSplits", unfollowed := true, recurses := true, apart := false }
def ArcSplitsSaid : Prop := arcSplitsRow.holds Try.pinned (OpenSpec.ofChange arcSplitsSpec)

/-- ITS FALSE NEIGHBOUR: 'it returns false'. Refute it at one input. -/
def arcSplitsWrong : ChangeSpec := { name := "arcSplits", fn := fun _ => fun
  | [d] => { results := [.lit (.bool false)], args := [d] }
  | _ => none }
def ArcSplitsWrongFalsely : Prop := arcSplitsRow.holds Try.pinned (OpenSpec.ofChange arcSplitsWrong)

/-- 'headroomlaw04.ArcTells': WHATEVER THE INPUT: true; the input reads as it did. -/
def arcTellsSpec : ChangeSpec := { name := "arcTells", fn := fun _ => fun
  | [d] => { results := [.lit (.bool true)], args := [d] }
  | _ => none }
def arcTellsRow : OpenClaim := { program := "ytghajjjdfhcljaa", sum := "a0a7b284fc56a3cb8706fbbc57b9e5642480736c36f490cb0a9106213973c1a8", func := "headroom/headroomlaw04.ArcTells", spec := "arcTells", unfollowed := true, recurses := true, apart := false }
def ArcTellsSaid : Prop := arcTellsRow.holds Try.pinned (OpenSpec.ofChange arcTellsSpec)

/-- ITS FALSE NEIGHBOUR: 'it returns false'. Refute it at one input. -/
def arcTellsWrong : ChangeSpec := { name := "arcTells", fn := fun _ => fun
  | [d] => { results := [.lit (.bool false)], args := [d] }
  | _ => none }
def ArcTellsWrongFalsely : Prop := arcTellsRow.holds Try.pinned (OpenSpec.ofChange arcTellsWrong)

/-- 'headroomlaw04.ArcTerms': WHATEVER THE INPUT: true; the input reads as it did. -/
def arcTermsSpec : ChangeSpec := { name := "arcTerms", fn := fun _ => fun
  | [d] => { results := [.lit (.bool true)], args := [d] }
  | _ => none }
def arcTermsRow : OpenClaim := { program := "ytghajjjdfhcljaa", sum := "a0a7b284fc56a3cb8706fbbc57b9e5642480736c36f490cb0a9106213973c1a8", func := "headroom/headroomlaw04.ArcTerms", spec := "arcTerms", unfollowed := true, recurses := true, apart := false }
def ArcTermsSaid : Prop := arcTermsRow.holds Try.pinned (OpenSpec.ofChange arcTermsSpec)

/-- ITS FALSE NEIGHBOUR: 'it returns false'. Refute it at one input. -/
def arcTermsWrong : ChangeSpec := { name := "arcTerms", fn := fun _ => fun
  | [d] => { results := [.lit (.bool false)], args := [d] }
  | _ => none }
def ArcTermsWrongFalsely : Prop := arcTermsRow.holds Try.pinned (OpenSpec.ofChange arcTermsWrong)

/-- 'headroomlaw05.GainLeft': WHATEVER THE INPUT: true; the input reads as it did. -/
def gainLeftSpec : ChangeSpec := { name := "gainLeft", fn := fun _ => fun
  | [d1, d2] => { results := [.lit (.bool true)], args := [d1, d2] }
  | _ => none }
def gainLeftRow : OpenClaim := { program := "ytghajjjdfhcljaa", sum := "a0a7b284fc56a3cb8706fbbc57b9e5642480736c36f490cb0a9106213973c1a8", func := "headroom/headroomlaw05.GainLeft", spec := "gainLeft", unfollowed := true, recurses := true, apart := false }
def GainLeftSaid : Prop := gainLeftRow.holds Try.pinned (OpenSpec.ofChange gainLeftSpec)

/-- ITS FALSE NEIGHBOUR: 'it returns false'. Refute it at one input. -/
def gainLeftWrong : ChangeSpec := { name := "gainLeft", fn := fun _ => fun
  | [d1, d2] => { results := [.lit (.bool false)], args := [d1, d2] }
  | _ => none }
def GainLeftWrongFalsely : Prop := gainLeftRow.holds Try.pinned (OpenSpec.ofChange gainLeftWrong)

/-- 'headroomlaw05.GainTells': WHATEVER THE INPUT: true; the input reads as it did. -/
def gainTellsSpec : ChangeSpec := { name := "gainTells", fn := fun _ => fun
  | [d1, d2] => { results := [.lit (.bool true)], args := [d1, d2] }
  | _ => none }
def gainTellsRow : OpenClaim := { program := "ytghajjjdfhcljaa", sum := "a0a7b284fc56a3cb8706fbbc57b9e5642480736c36f490cb0a9106213973c1a8", func := "headroom/headroomlaw05.GainTells", spec := "gainTells", unfollowed := true, recurses := true, apart := false }
def GainTellsSaid : Prop := gainTellsRow.holds Try.pinned (OpenSpec.ofChange gainTellsSpec)

/-- ITS FALSE NEIGHBOUR: 'it returns false'. Refute it at one input. -/
def gainTellsWrong : ChangeSpec := { name := "gainTells", fn := fun _ => fun
  | [d1, d2] => { results := [.lit (.bool false)], args := [d1, d2] }
  | _ => none }
def GainTellsWrongFalsely : Prop := gainTellsRow.holds Try.pinned (OpenSpec.ofChange gainTellsWrong)

/-- 'headroomlaw06.CircleTells': WHATEVER THE INPUT: true; the input reads as it did. -/
def circleTellsSpec : ChangeSpec := { name := "circleTells", fn := fun _ => fun
  | [d1, d2, d3] => { results := [.lit (.bool true)], args := [d1, d2, d3] }
  | _ => none }
def circleTellsRow : OpenClaim := { program := "ytghajjjdfhcljaa", sum := "a0a7b284fc56a3cb8706fbbc57b9e5642480736c36f490cb0a9106213973c1a8", func := "headroom/headroomlaw06.CircleTells", spec := "circleTells", unfollowed := true, recurses := true, apart := false }
def CircleTellsSaid : Prop := circleTellsRow.holds Try.pinned (OpenSpec.ofChange circleTellsSpec)

/-- ITS FALSE NEIGHBOUR: 'it returns false'. Refute it at one input. -/
def circleTellsWrong : ChangeSpec := { name := "circleTells", fn := fun _ => fun
  | [d1, d2, d3] => { results := [.lit (.bool false)], args := [d1, d2, d3] }
  | _ => none }
def CircleTellsWrongFalsely : Prop := circleTellsRow.holds Try.pinned (OpenSpec.ofChange circleTellsWrong)

/-- 'headroomlaw06.CircleLength': WHATEVER THE INPUT: true; the input reads as it did. -/
def circleLengthSpec : ChangeSpec := { name := "circleLength", fn := fun _ => fun
  | [d] => { results := [.lit (.bool true)], args := [d] }
  | _ => none }
def circleLengthRow : OpenClaim := { program := "ytghajjjdfhcljaa", sum := "a0a7b284fc56a3cb8706fbbc57b9e5642480736c36f490cb0a9106213973c1a8", func := "headroom/headroomlaw06.CircleLength", spec := "circleLength", unfollowed := true, recurses := true, apart := false }
def CircleLengthSaid : Prop := circleLengthRow.holds Try.pinned (OpenSpec.ofChange circleLengthSpec)

/-- ITS FALSE NEIGHBOUR: 'it returns false'. Refute it at one input. -/
def circleLengthWrong : ChangeSpec := { name := "circleLength", fn := fun _ => fun
  | [d] => { results := [.lit (.bool false)], args := [d] }
  | _ => none }
def CircleLengthWrongFalsely : Prop := circleLengthRow.holds Try.pinned (OpenSpec.ofChange circleLengthWrong)

/-- 'headroomlaw06.CircleSum': WHATEVER THE INPUT: true; the input reads as it did. -/
def circleSumSpec : ChangeSpec := { name := "circleSum", fn := fun _ => fun
  | [d1, d2] => { results := [.lit (.bool true)], args := [d1, d2] }
  | _ => none }
def circleSumRow : OpenClaim := { program := "ytghajjjdfhcljaa", sum := "a0a7b284fc56a3cb8706fbbc57b9e5642480736c36f490cb0a9106213973c1a8", func := "headroom/headroomlaw06.CircleSum", spec := "circleSum", unfollowed := true, recurses := true, apart := false }
def CircleSumSaid : Prop := circleSumRow.holds Try.pinned (OpenSpec.ofChange circleSumSpec)

/-- ITS FALSE NEIGHBOUR: 'it returns false'. Refute it at one input. -/
def circleSumWrong : ChangeSpec := { name := "circleSum", fn := fun _ => fun
  | [d1, d2] => { results := [.lit (.bool false)], args := [d1, d2] }
  | _ => none }
def CircleSumWrongFalsely : Prop := circleSumRow.holds Try.pinned (OpenSpec.ofChange circleSumWrong)

/-- 'headroomlaw05.GainInverse': WHATEVER THE INPUT: true; the input reads as it did. -/
def gainInverseSpec : ChangeSpec := { name := "gainInverse", fn := fun _ => fun
  | [d] => { results := [.lit (.bool true)], args := [d] }
  | _ => none }
def gainInverseRow : OpenClaim := { program := "ytghajjjdfhcljaa", sum := "a0a7b284fc56a3cb8706fbbc57b9e5642480736c36f490cb0a9106213973c1a8", func := "headroom/headroomlaw05.GainInverse", spec := "gainInverse", inPlace := ["math/bits.Add64"], unfollowed := true, recurses := true, apart := false }
def GainInverseSaid : Prop := gainInverseRow.holds Try.pinned (OpenSpec.ofChange gainInverseSpec)

/-- ITS FALSE NEIGHBOUR: 'it returns false'. Refute it at one input. -/
def gainInverseWrong : ChangeSpec := { name := "gainInverse", fn := fun _ => fun
  | [d] => { results := [.lit (.bool false)], args := [d] }
  | _ => none }
def GainInverseWrongFalsely : Prop := gainInverseRow.holds Try.pinned (OpenSpec.ofChange gainInverseWrong)

/-- 'headroomlaw06.CircleEighth': WHATEVER THE INPUT: true; the input reads as it did. -/
def circleEighthSpec : ChangeSpec := { name := "circleEighth", fn := fun _ => fun
  | [d1, d2] => { results := [.lit (.bool true)], args := [d1, d2] }
  | _ => none }
def circleEighthRow : OpenClaim := { program := "ytghajjjdfhcljaa", sum := "a0a7b284fc56a3cb8706fbbc57b9e5642480736c36f490cb0a9106213973c1a8", func := "headroom/headroomlaw06.CircleEighth", spec := "circleEighth", unfollowed := true, recurses := true, apart := false }
def CircleEighthSaid : Prop := circleEighthRow.holds Try.pinned (OpenSpec.ofChange circleEighthSpec)

/-- ITS FALSE NEIGHBOUR: 'it returns false'. Refute it at one input. -/
def circleEighthWrong : ChangeSpec := { name := "circleEighth", fn := fun _ => fun
  | [d1, d2] => { results := [.lit (.bool false)], args := [d1, d2] }
  | _ => none }
def CircleEighthWrongFalsely : Prop := circleEighthRow.holds Try.pinned (OpenSpec.ofChange circleEighthWrong)

/- THE SECOND FORM. 'bulk': how many values and letters a reading holds, each counted each time it is reached (what is shared counts as often as it is met; a slice's spare places count too). A statement '..UptoSaid' is the law's where the arguments, and the package variables that the reading takes, are together of bulk at most 1048576: NARROWER than '..Said'. Prove '..Said' where nothing that the law and all that it calls make is longer than what came in: it says more and counts as full. Else prove '..UptoSaid'. A law counts once. -/
mutual
def uptoBulk {H : Type} : DataW H → Nat
  | .lit (.string bytes) => bytes.length + 1
  | .lit _ => 1
  | .nil => 1
  | .ptr d => uptoBulk d + 1
  | .slice elems spare => uptoBulkAll elems + uptoBulkAll spare + 1
  | .agg parts => uptoBulkAll parts + 1
  | .iface _ d => uptoBulk d + 1
  | .map entries => uptoBulkEntries entries + 1
  | .held _ => 1
def uptoBulkAll {H : Type} : List (DataW H) → Nat
  | [] => 0
  | d :: r => uptoBulk d + uptoBulkAll r
def uptoBulkEntries {H : Type} : List (Lit × DataW H) → Nat
  | [] => 0
  | x :: r => uptoBulkEntry x + uptoBulkEntries r
def uptoBulkEntry {H : Type} : Lit × DataW H → Nat
  | (.string bytes, d) => bytes.length + uptoBulk d + 1
  | (_, d) => uptoBulk d + 1
 end
def uptoSmall : (H : Type) → List (DataW H) → Bool := fun _ ds => decide (uptoBulkAll ds ≤ 1048576)
def OpenSpec.upto (s : _root_.Go.ChangeSpec) : _root_.Go.OpenSpec := { _root_.Go.OpenSpec.ofChange s with cond := some uptoSmall }

/-- 'headroomlaw04.ArcSplits', WHERE WHAT IT READS IS OF BULK AT MOST 1048576: true; the input reads as it did. -/
def arcSplitsUptoRow : OpenClaim := { program := "ytghajjjdfhcljaa", sum := "a0a7b284fc56a3cb8706fbbc57b9e5642480736c36f490cb0a9106213973c1a8", func := "headroom/headroomlaw04.ArcSplits", spec := "arcSplits", unfollowed := true, recurses := true, apart := false, narrowed := true }
def ArcSplitsUptoSaid : Prop := arcSplitsUptoRow.holds Try.pinned (OpenSpec.upto arcSplitsSpec)

/-- 'headroomlaw04.ArcTells', WHERE WHAT IT READS IS OF BULK AT MOST 1048576: true; the input reads as it did. -/
def arcTellsUptoRow : OpenClaim := { program := "ytghajjjdfhcljaa", sum := "a0a7b284fc56a3cb8706fbbc57b9e5642480736c36f490cb0a9106213973c1a8", func := "headroom/headroomlaw04.ArcTells", spec := "arcTells", unfollowed := true, recurses := true, apart := false, narrowed := true }
def ArcTellsUptoSaid : Prop := arcTellsUptoRow.holds Try.pinned (OpenSpec.upto arcTellsSpec)

/-- 'headroomlaw04.ArcTerms', WHERE WHAT IT READS IS OF BULK AT MOST 1048576: true; the input reads as it did. -/
def arcTermsUptoRow : OpenClaim := { program := "ytghajjjdfhcljaa", sum := "a0a7b284fc56a3cb8706fbbc57b9e5642480736c36f490cb0a9106213973c1a8", func := "headroom/headroomlaw04.ArcTerms", spec := "arcTerms", unfollowed := true, recurses := true, apart := false, narrowed := true }
def ArcTermsUptoSaid : Prop := arcTermsUptoRow.holds Try.pinned (OpenSpec.upto arcTermsSpec)

/-- 'headroomlaw05.GainLeft', WHERE WHAT IT READS IS OF BULK AT MOST 1048576: true; the input reads as it did. -/
def gainLeftUptoRow : OpenClaim := { program := "ytghajjjdfhcljaa", sum := "a0a7b284fc56a3cb8706fbbc57b9e5642480736c36f490cb0a9106213973c1a8", func := "headroom/headroomlaw05.GainLeft", spec := "gainLeft", unfollowed := true, recurses := true, apart := false, narrowed := true }
def GainLeftUptoSaid : Prop := gainLeftUptoRow.holds Try.pinned (OpenSpec.upto gainLeftSpec)

/-- 'headroomlaw05.GainTells', WHERE WHAT IT READS IS OF BULK AT MOST 1048576: true; the input reads as it did. -/
def gainTellsUptoRow : OpenClaim := { program := "ytghajjjdfhcljaa", sum := "a0a7b284fc56a3cb8706fbbc57b9e5642480736c36f490cb0a9106213973c1a8", func := "headroom/headroomlaw05.GainTells", spec := "gainTells", unfollowed := true, recurses := true, apart := false, narrowed := true }
def GainTellsUptoSaid : Prop := gainTellsUptoRow.holds Try.pinned (OpenSpec.upto gainTellsSpec)

/-- 'headroomlaw06.CircleTells', WHERE WHAT IT READS IS OF BULK AT MOST 1048576: true; the input reads as it did. -/
def circleTellsUptoRow : OpenClaim := { program := "ytghajjjdfhcljaa", sum := "a0a7b284fc56a3cb8706fbbc57b9e5642480736c36f490cb0a9106213973c1a8", func := "headroom/headroomlaw06.CircleTells", spec := "circleTells", unfollowed := true, recurses := true, apart := false, narrowed := true }
def CircleTellsUptoSaid : Prop := circleTellsUptoRow.holds Try.pinned (OpenSpec.upto circleTellsSpec)

/-- 'headroomlaw06.CircleLength', WHERE WHAT IT READS IS OF BULK AT MOST 1048576: true; the input reads as it did. -/
def circleLengthUptoRow : OpenClaim := { program := "ytghajjjdfhcljaa", sum := "a0a7b284fc56a3cb8706fbbc57b9e5642480736c36f490cb0a9106213973c1a8", func := "headroom/headroomlaw06.CircleLength", spec := "circleLength", unfollowed := true, recurses := true, apart := false, narrowed := true }
def CircleLengthUptoSaid : Prop := circleLengthUptoRow.holds Try.pinned (OpenSpec.upto circleLengthSpec)

/-- 'headroomlaw06.CircleSum', WHERE WHAT IT READS IS OF BULK AT MOST 1048576: true; the input reads as it did. -/
def circleSumUptoRow : OpenClaim := { program := "ytghajjjdfhcljaa", sum := "a0a7b284fc56a3cb8706fbbc57b9e5642480736c36f490cb0a9106213973c1a8", func := "headroom/headroomlaw06.CircleSum", spec := "circleSum", unfollowed := true, recurses := true, apart := false, narrowed := true }
def CircleSumUptoSaid : Prop := circleSumUptoRow.holds Try.pinned (OpenSpec.upto circleSumSpec)

/-- 'headroomlaw05.GainInverse', WHERE WHAT IT READS IS OF BULK AT MOST 1048576: true; the input reads as it did. -/
def gainInverseUptoRow : OpenClaim := { program := "ytghajjjdfhcljaa", sum := "a0a7b284fc56a3cb8706fbbc57b9e5642480736c36f490cb0a9106213973c1a8", func := "headroom/headroomlaw05.GainInverse", spec := "gainInverse", inPlace := ["math/bits.Add64"], unfollowed := true, recurses := true, apart := false, narrowed := true }
def GainInverseUptoSaid : Prop := gainInverseUptoRow.holds Try.pinned (OpenSpec.upto gainInverseSpec)

/-- 'headroomlaw06.CircleEighth', WHERE WHAT IT READS IS OF BULK AT MOST 1048576: true; the input reads as it did. -/
def circleEighthUptoRow : OpenClaim := { program := "ytghajjjdfhcljaa", sum := "a0a7b284fc56a3cb8706fbbc57b9e5642480736c36f490cb0a9106213973c1a8", func := "headroom/headroomlaw06.CircleEighth", spec := "circleEighth", unfollowed := true, recurses := true, apart := false, narrowed := true }
def CircleEighthUptoSaid : Prop := circleEighthUptoRow.holds Try.pinned (OpenSpec.upto circleEighthSpec)

end Rows
end Go.Proofs.Ytghajjjdfhcljaa
