/-
  No cell of these rows narrows 'for every input' (looked for: loops, veiled, ifaces, maps, wideKeys, modest, calm, conditions, laid).
  DERIVED. THE GIVEN ROWS OF THIS SEAT. 3 by the template 'for every input the law returns true; each argument reads behind the call as it read before'; 0 by the template 'total and deterministic' (their statements: YteieahbadclppaaGreatTotals.lean).
  GIVEN WITH THE SEED: the statements are not yours to turn. If you find one false, say at which input.
  Laid BY PROGRAM, IN A SANDBOX (cutbox-rows.mjs): the forced cells as the released guide's own fill.sh prints them over the translation f5348a6e006df4f1… (all of the seat's roots in one cut). By AI agents, Wed Nov 11 2026. No macro, syntax, notation, axiom, sorry.
-/
import Derived.Test.YteieahbadclppaaGreatChecked
import GoSem.Claim
import GoSem.ClaimJoined
import GoSem.ClaimMapViews
import Derived.JoinedTies
import Derived.KernelRfl
namespace Go.Proofs.YteieahbadclppaaGreat
/- THE CELL 'sum', in the pinned program and in every row, IS THE sha256 OF THE DUMP (.gsa) THAT YteieahbadclppaaGreatProg.lean LOADS. Nothing in Lean hashes anything: it is a label: what it is worth is what the hold of that sum in a sandbox is worth. -/
noncomputable def Tryz.pinned : Pinned := { name := "yteieahbadclppaagreat", sum := "f5348a6e006df4f16852d2675c579ca78327dc6e18e890b8da509f00811b4db8", checked := Tryz.checked }
namespace Rows
def none {H : Type} : Left H := { results := [], args := [] }

/-- 'headroomtop.TopInverse': WHATEVER THE INPUT: true; the input reads as it did. -/
def topInverseSpec : ChangeSpec := { name := "topInverse", fn := fun _ => fun
  | [d1, d2] => { results := [.lit (.bool true)], args := [d1, d2] }
  | _ => none }
def topInverseRow : OpenClaim := { program := "yteieahbadclppaagreat", sum := "f5348a6e006df4f16852d2675c579ca78327dc6e18e890b8da509f00811b4db8", func := "headroom/headroomtop.TopInverse", spec := "topInverse", unfollowed := true, recurses := true, plainKeys := false, apart := false }
def TopInverseSaid : Prop := topInverseRow.holds Tryz.pinned (OpenSpec.ofChange topInverseSpec)

/-- ITS FALSE NEIGHBOUR: 'it returns false'. Refute it at one input. -/
def topInverseWrong : ChangeSpec := { name := "topInverse", fn := fun _ => fun
  | [d1, d2] => { results := [.lit (.bool false)], args := [d1, d2] }
  | _ => none }
def TopInverseWrongFalsely : Prop := topInverseRow.holds Tryz.pinned (OpenSpec.ofChange topInverseWrong)

/-- 'headroomtop.TopSingle': WHATEVER THE INPUT: true; the input reads as it did. -/
def topSingleSpec : ChangeSpec := { name := "topSingle", fn := fun _ => fun
  | [d1, d2] => { results := [.lit (.bool true)], args := [d1, d2] }
  | _ => none }
def topSingleRow : OpenClaim := { program := "yteieahbadclppaagreat", sum := "f5348a6e006df4f16852d2675c579ca78327dc6e18e890b8da509f00811b4db8", func := "headroom/headroomtop.TopSingle", spec := "topSingle", unfollowed := true, recurses := true, plainKeys := false, apart := false }
def TopSingleSaid : Prop := topSingleRow.holds Tryz.pinned (OpenSpec.ofChange topSingleSpec)

/-- ITS FALSE NEIGHBOUR: 'it returns false'. Refute it at one input. -/
def topSingleWrong : ChangeSpec := { name := "topSingle", fn := fun _ => fun
  | [d1, d2] => { results := [.lit (.bool false)], args := [d1, d2] }
  | _ => none }
def TopSingleWrongFalsely : Prop := topSingleRow.holds Tryz.pinned (OpenSpec.ofChange topSingleWrong)

/-- 'headroomtop.TopReal': WHATEVER THE INPUT: true; the input reads as it did. -/
def topRealSpec : ChangeSpec := { name := "topReal", fn := fun _ => fun
  | [d1, d2] => { results := [.lit (.bool true)], args := [d1, d2] }
  | _ => none }
def topRealRow : OpenClaim := { program := "yteieahbadclppaagreat", sum := "f5348a6e006df4f16852d2675c579ca78327dc6e18e890b8da509f00811b4db8", func := "headroom/headroomtop.TopReal", spec := "topReal", unfollowed := true, recurses := true, plainKeys := false, apart := false }
def TopRealSaid : Prop := topRealRow.holds Tryz.pinned (OpenSpec.ofChange topRealSpec)

/-- ITS FALSE NEIGHBOUR: 'it returns false'. Refute it at one input. -/
def topRealWrong : ChangeSpec := { name := "topReal", fn := fun _ => fun
  | [d1, d2] => { results := [.lit (.bool false)], args := [d1, d2] }
  | _ => none }
def TopRealWrongFalsely : Prop := topRealRow.holds Tryz.pinned (OpenSpec.ofChange topRealWrong)

/- THE SECOND FORM. 'bulk': how many values and letters a reading holds, each counted each time it is reached (what is shared counts as often as it is met; a slice's spare places count too). A statement '..UptoSaid' is the law's where the arguments, and the package variables that the reading takes, are together of bulk at most 1048576: NARROWER than '..Said'. Prove '..Said' where nothing that the law and all that it calls make is longer than what came in: it says more and counts as full. Else prove '..UptoSaid'. A law counts once. -/
mutual
def uptoBulk {H : Type} : DataW H → Nat
  | .lit (.string bytes) => bytes.length + 1
  | .lit _ => 1
  | .nil => 1
  | .ptr d => uptoBulk d + 1
  | .slice elems spare => uptoBulkAll elems + uptoBulkAll spare + 1
  | .agg parts => uptoBulkAll parts + 1
  | .iface _ d => uptoBulk d + 1
  | .map entries => uptoBulkEntries entries + 1
  | .held _ => 1
def uptoBulkAll {H : Type} : List (DataW H) → Nat
  | [] => 0
  | d :: r => uptoBulk d + uptoBulkAll r
def uptoBulkEntries {H : Type} : List (Lit × DataW H) → Nat
  | [] => 0
  | x :: r => uptoBulkEntry x + uptoBulkEntries r
def uptoBulkEntry {H : Type} : Lit × DataW H → Nat
  | (.string bytes, d) => bytes.length + uptoBulk d + 1
  | (_, d) => uptoBulk d + 1
 end
def uptoSmall : (H : Type) → List (DataW H) → Bool := fun _ ds => decide (uptoBulkAll ds ≤ 1048576)
def OpenSpec.upto (s : _root_.Go.ChangeSpec) : _root_.Go.OpenSpec := { _root_.Go.OpenSpec.ofChange s with cond := some uptoSmall }

/-- 'headroomtop.TopInverse', WHERE WHAT IT READS IS OF BULK AT MOST 1048576: true; the input reads as it did. -/
def topInverseUptoRow : OpenClaim := { program := "yteieahbadclppaagreat", sum := "f5348a6e006df4f16852d2675c579ca78327dc6e18e890b8da509f00811b4db8", func := "headroom/headroomtop.TopInverse", spec := "topInverse", unfollowed := true, recurses := true, plainKeys := false, apart := false, narrowed := true }
def TopInverseUptoSaid : Prop := topInverseUptoRow.holds Tryz.pinned (OpenSpec.upto topInverseSpec)

/-- 'headroomtop.TopSingle', WHERE WHAT IT READS IS OF BULK AT MOST 1048576: true; the input reads as it did. -/
def topSingleUptoRow : OpenClaim := { program := "yteieahbadclppaagreat", sum := "f5348a6e006df4f16852d2675c579ca78327dc6e18e890b8da509f00811b4db8", func := "headroom/headroomtop.TopSingle", spec := "topSingle", unfollowed := true, recurses := true, plainKeys := false, apart := false, narrowed := true }
def TopSingleUptoSaid : Prop := topSingleUptoRow.holds Tryz.pinned (OpenSpec.upto topSingleSpec)

/-- 'headroomtop.TopReal', WHERE WHAT IT READS IS OF BULK AT MOST 1048576: true; the input reads as it did. -/
def topRealUptoRow : OpenClaim := { program := "yteieahbadclppaagreat", sum := "f5348a6e006df4f16852d2675c579ca78327dc6e18e890b8da509f00811b4db8", func := "headroom/headroomtop.TopReal", spec := "topReal", unfollowed := true, recurses := true, plainKeys := false, apart := false, narrowed := true }
def TopRealUptoSaid : Prop := topRealUptoRow.holds Tryz.pinned (OpenSpec.upto topRealSpec)

end Rows
end Go.Proofs.YteieahbadclppaaGreat
