/-
  NARROWER THAN 'FOR EVERY INPUT', by the rows' own cells (each row's printed sentence says how): TextReads: laid · TextPrints: laid · TextBack: laid.
  DERIVED. THE GIVEN ROWS OF THIS SEAT. 3 by the template 'for every input the law returns true; each argument reads behind the call as it read before'; 0 by the template 'total and deterministic' (their statements: YtajgpilcbaoneaaDoorTotals.lean).
  GIVEN WITH THE SEED: the statements are not yours to turn. If you find one false, say at which input.
  Laid BY PROGRAM, IN A SANDBOX (cutbox-rows.mjs): the forced cells as the released guide's own fill.sh prints them over the translation a4bcfb011e0e9589… (all of the seat's roots in one cut). By AI agents, Wed Nov 11 2026. No macro, syntax, notation, axiom, sorry.
-/
import Derived.Test.YtajgpilcbaoneaaDoorChecked
import GoSem.Claim
import GoSem.ClaimJoined
import GoSem.ClaimMapViews
import Derived.JoinedTies
import Derived.KernelRfl
namespace Go.Proofs.YtajgpilcbaoneaaDoor
/- THE CELL 'sum', in the pinned program and in every row, IS THE sha256 OF THE DUMP (.gsa) THAT YtajgpilcbaoneaaDoorProg.lean LOADS. Nothing in Lean hashes anything: it is a label: what it is worth is what the hold of that sum in a sandbox is worth. -/
noncomputable def Tryd.pinned : Pinned := { name := "ytajgpilcbaoneaadoor", sum := "a4bcfb011e0e958944651cd9c5fd1db12150b90d33c0d043e342a8139501ab2f", checked := Tryd.checked }
namespace Rows
def none {H : Type} : Left H := { results := [], args := [] }

/- WHAT THE LISTED PACKAGE-LEVEL VARIABLES READ AS WHEN THE CALL BEGINS. Each datum BY PROGRAM (the guide's laid-datum.mjs) off the statement by which the dump's own 'gosem.cut.vars' lays the variable. In a bare row this is a premise. The card (YtajgpilcbaoneaaDoorCards.lean) ties it to the program's text. -/
def laid_headroom_text_places {H : Type} : DataW H := .agg [.slice [.lit (.string [113, 49, 53]), .lit (.string [113, 51, 49])] [], .slice [.lit (.string [52]), .lit (.string [56]), .lit (.string [49, 54]), .lit (.string [51, 50]), .lit (.string [54, 52])] [], .slice [.lit (.string [116, 119, 111]), .lit (.string [102, 111, 117, 114]), .lit (.string [115, 112, 108, 105, 116])] [], .slice [.lit (.string [104, 97, 108, 102]), .lit (.string [98, 108, 111, 99, 107]), .lit (.string [110, 111, 110, 101])] [], .slice [.lit (.string [102, 108, 111, 111, 114]), .lit (.string [117, 112]), .lit (.string [101, 118, 101, 110])] [], .slice [.lit (.string [102, 111, 114, 119, 97, 114, 100]), .lit (.string [105, 110, 118, 101, 114, 115, 101])] []]

/-- 'headroomlaw24.TextReads': WHATEVER THE INPUT: true; the input reads as it did. -/
def textReadsSpec : ChangeSpec := { name := "textReads", fn := fun _ => fun
  | [d] => { results := [.lit (.bool true)], args := [d] }
  | _ => none }
def textReadsRow : OpenClaim := { program := "ytajgpilcbaoneaadoor", sum := "a4bcfb011e0e958944651cd9c5fd1db12150b90d33c0d043e342a8139501ab2f", func := "headroom/headroomlaw24.TextReads", spec := "textReads", named := ["headroom/text.places"], apart := false, laid := [("headroom/text.places", laid_headroom_text_places)] }
def TextReadsSaid : Prop := textReadsRow.holds Tryd.pinned (OpenSpec.ofChange textReadsSpec)

/-- ITS FALSE NEIGHBOUR: 'it returns false'. Refute it at one input. -/
def textReadsWrong : ChangeSpec := { name := "textReads", fn := fun _ => fun
  | [d] => { results := [.lit (.bool false)], args := [d] }
  | _ => none }
def TextReadsWrongFalsely : Prop := textReadsRow.holds Tryd.pinned (OpenSpec.ofChange textReadsWrong)

/-- 'headroomlaw24.TextPrints': WHATEVER THE INPUT: true; the input reads as it did. -/
def textPrintsSpec : ChangeSpec := { name := "textPrints", fn := fun _ => fun
  | [d1, d2] => { results := [.lit (.bool true)], args := [d1, d2] }
  | _ => none }
def textPrintsRow : OpenClaim := { program := "ytajgpilcbaoneaadoor", sum := "a4bcfb011e0e958944651cd9c5fd1db12150b90d33c0d043e342a8139501ab2f", func := "headroom/headroomlaw24.TextPrints", spec := "textPrints", inPlace := ["internal/abi.NoEscape", "internal/bytealg.MakeNoZero"], named := ["headroom/text.places"], apart := false, laid := [("headroom/text.places", laid_headroom_text_places)] }
def TextPrintsSaid : Prop := textPrintsRow.holds Tryd.pinned (OpenSpec.ofChange textPrintsSpec)

/-- ITS FALSE NEIGHBOUR: 'it returns false'. Refute it at one input. -/
def textPrintsWrong : ChangeSpec := { name := "textPrints", fn := fun _ => fun
  | [d1, d2] => { results := [.lit (.bool false)], args := [d1, d2] }
  | _ => none }
def TextPrintsWrongFalsely : Prop := textPrintsRow.holds Tryd.pinned (OpenSpec.ofChange textPrintsWrong)

/-- 'headroomlaw24.TextBack': WHATEVER THE INPUT: true; the input reads as it did. -/
def textBackSpec : ChangeSpec := { name := "textBack", fn := fun _ => fun
  | [d1, d2] => { results := [.lit (.bool true)], args := [d1, d2] }
  | _ => none }
def textBackRow : OpenClaim := { program := "ytajgpilcbaoneaadoor", sum := "a4bcfb011e0e958944651cd9c5fd1db12150b90d33c0d043e342a8139501ab2f", func := "headroom/headroomlaw24.TextBack", spec := "textBack", inPlace := ["internal/abi.NoEscape", "internal/bytealg.MakeNoZero"], named := ["headroom/text.places"], apart := false, laid := [("headroom/text.places", laid_headroom_text_places)] }
def TextBackSaid : Prop := textBackRow.holds Tryd.pinned (OpenSpec.ofChange textBackSpec)

/-- ITS FALSE NEIGHBOUR: 'it returns false'. Refute it at one input. -/
def textBackWrong : ChangeSpec := { name := "textBack", fn := fun _ => fun
  | [d1, d2] => { results := [.lit (.bool false)], args := [d1, d2] }
  | _ => none }
def TextBackWrongFalsely : Prop := textBackRow.holds Tryd.pinned (OpenSpec.ofChange textBackWrong)

/- THE SECOND FORM. 'bulk': how many values and letters a reading holds, each counted each time it is reached (what is shared counts as often as it is met; a slice's spare places count too). A statement '..UptoSaid' is the law's where the arguments, and the package variables that the reading takes, are together of bulk at most 1048576: NARROWER than '..Said'. Prove '..Said' where nothing that the law and all that it calls make is longer than what came in: it says more and counts as full. Else prove '..UptoSaid'. A law counts once. -/
mutual
def uptoBulk {H : Type} : DataW H → Nat
  | .lit (.string bytes) => bytes.length + 1
  | .lit _ => 1
  | .nil => 1
  | .ptr d => uptoBulk d + 1
  | .slice elems spare => uptoBulkAll elems + uptoBulkAll spare + 1
  | .agg parts => uptoBulkAll parts + 1
  | .iface _ d => uptoBulk d + 1
  | .map entries => uptoBulkEntries entries + 1
  | .held _ => 1
def uptoBulkAll {H : Type} : List (DataW H) → Nat
  | [] => 0
  | d :: r => uptoBulk d + uptoBulkAll r
def uptoBulkEntries {H : Type} : List (Lit × DataW H) → Nat
  | [] => 0
  | x :: r => uptoBulkEntry x + uptoBulkEntries r
def uptoBulkEntry {H : Type} : Lit × DataW H → Nat
  | (.string bytes, d) => bytes.length + uptoBulk d + 1
  | (_, d) => uptoBulk d + 1
 end
def uptoSmall : (H : Type) → List (DataW H) → Bool := fun _ ds => decide (uptoBulkAll ds ≤ 1048576)
def OpenSpec.upto (s : _root_.Go.ChangeSpec) : _root_.Go.OpenSpec := { _root_.Go.OpenSpec.ofChange s with cond := some uptoSmall }

/-- 'headroomlaw24.TextReads', WHERE WHAT IT READS IS OF BULK AT MOST 1048576: true; the input reads as it did. -/
def textReadsUptoRow : OpenClaim := { program := "ytajgpilcbaoneaadoor", sum := "a4bcfb011e0e958944651cd9c5fd1db12150b90d33c0d043e342a8139501ab2f", func := "headroom/headroomlaw24.TextReads", spec := "textReads", named := ["headroom/text.places"], apart := false, laid := [("headroom/text.places", laid_headroom_text_places)], narrowed := true }
def TextReadsUptoSaid : Prop := textReadsUptoRow.holds Tryd.pinned (OpenSpec.upto textReadsSpec)

/-- 'headroomlaw24.TextPrints', WHERE WHAT IT READS IS OF BULK AT MOST 1048576: true; the input reads as it did. -/
def textPrintsUptoRow : OpenClaim := { program := "ytajgpilcbaoneaadoor", sum := "a4bcfb011e0e958944651cd9c5fd1db12150b90d33c0d043e342a8139501ab2f", func := "headroom/headroomlaw24.TextPrints", spec := "textPrints", inPlace := ["internal/abi.NoEscape", "internal/bytealg.MakeNoZero"], named := ["headroom/text.places"], apart := false, laid := [("headroom/text.places", laid_headroom_text_places)], narrowed := true }
def TextPrintsUptoSaid : Prop := textPrintsUptoRow.holds Tryd.pinned (OpenSpec.upto textPrintsSpec)

/-- 'headroomlaw24.TextBack', WHERE WHAT IT READS IS OF BULK AT MOST 1048576: true; the input reads as it did. -/
def textBackUptoRow : OpenClaim := { program := "ytajgpilcbaoneaadoor", sum := "a4bcfb011e0e958944651cd9c5fd1db12150b90d33c0d043e342a8139501ab2f", func := "headroom/headroomlaw24.TextBack", spec := "textBack", inPlace := ["internal/abi.NoEscape", "internal/bytealg.MakeNoZero"], named := ["headroom/text.places"], apart := false, laid := [("headroom/text.places", laid_headroom_text_places)], narrowed := true }
def TextBackUptoSaid : Prop := textBackUptoRow.holds Tryd.pinned (OpenSpec.upto textBackSpec)

end Rows
end Go.Proofs.YtajgpilcbaoneaaDoor
