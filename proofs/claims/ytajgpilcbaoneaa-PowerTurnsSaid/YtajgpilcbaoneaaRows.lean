/-
  No cell of these rows narrows 'for every input' (looked for: loops, veiled, ifaces, maps, wideKeys, modest, calm, conditions, laid).
  DERIVED. THE GIVEN ROWS OF THIS SEAT. 6 by the template 'for every input the law returns true; each argument reads behind the call as it read before'; 0 by the template 'total and deterministic' (their statements: YtajgpilcbaoneaaTotals.lean).
  GIVEN WITH THE SEED: the statements are not yours to turn. If you find one false, say at which input.
  Laid BY PROGRAM, IN A SANDBOX (cutbox-rows.mjs): the forced cells as the released guide's own fill.sh prints them over the translation 170f703fa39c37da… (all of the seat's roots in one cut). By AI agents, Wed Nov 11 2026. No macro, syntax, notation, axiom, sorry.
-/
import Derived.Test.YtajgpilcbaoneaaChecked
import GoSem.Claim
import GoSem.ClaimJoined
import GoSem.ClaimMapViews
import Derived.JoinedTies
import Derived.KernelRfl
namespace Go.Proofs.Ytajgpilcbaoneaa
/- THE CELL 'sum', in the pinned program and in every row, IS THE sha256 OF THE DUMP (.gsa) THAT YtajgpilcbaoneaaProg.lean LOADS. Nothing in Lean hashes anything: it is a label: what it is worth is what the hold of that sum in a sandbox is worth. -/
noncomputable def Try.pinned : Pinned := { name := "ytajgpilcbaoneaa", sum := "170f703fa39c37daa59ade71cd1bc5255e39beb16df45e770da30d7ec0deb28d", checked := Try.checked }
namespace Rows
def none {H : Type} : Left H := { results := [], args := [] }

/-- 'headroomlaw08.FlipPlaces': WHATEVER THE INPUT: true; the input reads as it did. -/
def flipPlacesSpec : ChangeSpec := { name := "flipPlaces", fn := fun _ => fun
  | [d1, d2, d3] => { results := [.lit (.bool true)], args := [d1, d2, d3] }
  | _ => none }
def flipPlacesRow : OpenClaim := { program := "ytajgpilcbaoneaa", sum := "170f703fa39c37daa59ade71cd1bc5255e39beb16df45e770da30d7ec0deb28d", func := "headroom/headroomlaw08.FlipPlaces", spec := "flipPlaces", apart := false }
def FlipPlacesSaid : Prop := flipPlacesRow.holds Try.pinned (OpenSpec.ofChange flipPlacesSpec)

/-- ITS FALSE NEIGHBOUR: 'it returns false'. Refute it at one input. -/
def flipPlacesWrong : ChangeSpec := { name := "flipPlaces", fn := fun _ => fun
  | [d1, d2, d3] => { results := [.lit (.bool false)], args := [d1, d2, d3] }
  | _ => none }
def FlipPlacesWrongFalsely : Prop := flipPlacesRow.holds Try.pinned (OpenSpec.ofChange flipPlacesWrong)

/-- 'headroomlaw08.FlipNumbers': WHATEVER THE INPUT: true; the input reads as it did. -/
def flipNumbersSpec : ChangeSpec := { name := "flipNumbers", fn := fun _ => fun
  | [d] => { results := [.lit (.bool true)], args := [d] }
  | _ => none }
def flipNumbersRow : OpenClaim := { program := "ytajgpilcbaoneaa", sum := "170f703fa39c37daa59ade71cd1bc5255e39beb16df45e770da30d7ec0deb28d", func := "headroom/headroomlaw08.FlipNumbers", spec := "flipNumbers", apart := false }
def FlipNumbersSaid : Prop := flipNumbersRow.holds Try.pinned (OpenSpec.ofChange flipNumbersSpec)

/-- ITS FALSE NEIGHBOUR: 'it returns false'. Refute it at one input. -/
def flipNumbersWrong : ChangeSpec := { name := "flipNumbers", fn := fun _ => fun
  | [d] => { results := [.lit (.bool false)], args := [d] }
  | _ => none }
def FlipNumbersWrongFalsely : Prop := flipNumbersRow.holds Try.pinned (OpenSpec.ofChange flipNumbersWrong)

/-- 'headroomlaw08.FlipBack': WHATEVER THE INPUT: true; the input reads as it did. -/
def flipBackSpec : ChangeSpec := { name := "flipBack", fn := fun _ => fun
  | [d] => { results := [.lit (.bool true)], args := [d] }
  | _ => none }
def flipBackRow : OpenClaim := { program := "ytajgpilcbaoneaa", sum := "170f703fa39c37daa59ade71cd1bc5255e39beb16df45e770da30d7ec0deb28d", func := "headroom/headroomlaw08.FlipBack", spec := "flipBack", apart := false }
def FlipBackSaid : Prop := flipBackRow.holds Try.pinned (OpenSpec.ofChange flipBackSpec)

/-- ITS FALSE NEIGHBOUR: 'it returns false'. Refute it at one input. -/
def flipBackWrong : ChangeSpec := { name := "flipBack", fn := fun _ => fun
  | [d] => { results := [.lit (.bool false)], args := [d] }
  | _ => none }
def FlipBackWrongFalsely : Prop := flipBackRow.holds Try.pinned (OpenSpec.ofChange flipBackWrong)

/-- 'headroomlaw20.PowerSums': WHATEVER THE INPUT: true; the input reads as it did. -/
def powerSumsSpec : ChangeSpec := { name := "powerSums", fn := fun _ => fun
  | [d] => { results := [.lit (.bool true)], args := [d] }
  | _ => none }
def powerSumsRow : OpenClaim := { program := "ytajgpilcbaoneaa", sum := "170f703fa39c37daa59ade71cd1bc5255e39beb16df45e770da30d7ec0deb28d", func := "headroom/headroomlaw20.PowerSums", spec := "powerSums", inPlace := ["math/bits.Add64"], unfollowed := true, recurses := true, apart := false }
def PowerSumsSaid : Prop := powerSumsRow.holds Try.pinned (OpenSpec.ofChange powerSumsSpec)

/-- ITS FALSE NEIGHBOUR: 'it returns false'. Refute it at one input. -/
def powerSumsWrong : ChangeSpec := { name := "powerSums", fn := fun _ => fun
  | [d] => { results := [.lit (.bool false)], args := [d] }
  | _ => none }
def PowerSumsWrongFalsely : Prop := powerSumsRow.holds Try.pinned (OpenSpec.ofChange powerSumsWrong)

/-- 'headroomlaw20.PowerTells': WHATEVER THE INPUT: true; the input reads as it did. -/
def powerTellsSpec : ChangeSpec := { name := "powerTells", fn := fun _ => fun
  | [d] => { results := [.lit (.bool true)], args := [d] }
  | _ => none }
def powerTellsRow : OpenClaim := { program := "ytajgpilcbaoneaa", sum := "170f703fa39c37daa59ade71cd1bc5255e39beb16df45e770da30d7ec0deb28d", func := "headroom/headroomlaw20.PowerTells", spec := "powerTells", inPlace := ["math/bits.Add64"], unfollowed := true, recurses := true, apart := false }
def PowerTellsSaid : Prop := powerTellsRow.holds Try.pinned (OpenSpec.ofChange powerTellsSpec)

/-- ITS FALSE NEIGHBOUR: 'it returns false'. Refute it at one input. -/
def powerTellsWrong : ChangeSpec := { name := "powerTells", fn := fun _ => fun
  | [d] => { results := [.lit (.bool false)], args := [d] }
  | _ => none }
def PowerTellsWrongFalsely : Prop := powerTellsRow.holds Try.pinned (OpenSpec.ofChange powerTellsWrong)

/-- 'headroomlaw20.PowerTurns': WHATEVER THE INPUT: true; the input reads as it did. -/
def powerTurnsSpec : ChangeSpec := { name := "powerTurns", fn := fun _ => fun
  | [d1, d2, d3] => { results := [.lit (.bool true)], args := [d1, d2, d3] }
  | _ => none }
def powerTurnsRow : OpenClaim := { program := "ytajgpilcbaoneaa", sum := "170f703fa39c37daa59ade71cd1bc5255e39beb16df45e770da30d7ec0deb28d", func := "headroom/headroomlaw20.PowerTurns", spec := "powerTurns", inPlace := ["math/bits.Add64"], unfollowed := true, recurses := true, apart := false }
def PowerTurnsSaid : Prop := powerTurnsRow.holds Try.pinned (OpenSpec.ofChange powerTurnsSpec)

/-- ITS FALSE NEIGHBOUR: 'it returns false'. Refute it at one input. -/
def powerTurnsWrong : ChangeSpec := { name := "powerTurns", fn := fun _ => fun
  | [d1, d2, d3] => { results := [.lit (.bool false)], args := [d1, d2, d3] }
  | _ => none }
def PowerTurnsWrongFalsely : Prop := powerTurnsRow.holds Try.pinned (OpenSpec.ofChange powerTurnsWrong)

/- THE SECOND FORM. 'bulk': how many values and letters a reading holds, each counted each time it is reached (what is shared counts as often as it is met; a slice's spare places count too). A statement '..UptoSaid' is the law's where the arguments, and the package variables that the reading takes, are together of bulk at most 1048576: NARROWER than '..Said'. Prove '..Said' where nothing that the law and all that it calls make is longer than what came in: it says more and counts as full. Else prove '..UptoSaid'. A law counts once. -/
mutual
def uptoBulk {H : Type} : DataW H → Nat
  | .lit (.string bytes) => bytes.length + 1
  | .lit _ => 1
  | .nil => 1
  | .ptr d => uptoBulk d + 1
  | .slice elems spare => uptoBulkAll elems + uptoBulkAll spare + 1
  | .agg parts => uptoBulkAll parts + 1
  | .iface _ d => uptoBulk d + 1
  | .map entries => uptoBulkEntries entries + 1
  | .held _ => 1
def uptoBulkAll {H : Type} : List (DataW H) → Nat
  | [] => 0
  | d :: r => uptoBulk d + uptoBulkAll r
def uptoBulkEntries {H : Type} : List (Lit × DataW H) → Nat
  | [] => 0
  | x :: r => uptoBulkEntry x + uptoBulkEntries r
def uptoBulkEntry {H : Type} : Lit × DataW H → Nat
  | (.string bytes, d) => bytes.length + uptoBulk d + 1
  | (_, d) => uptoBulk d + 1
 end
def uptoSmall : (H : Type) → List (DataW H) → Bool := fun _ ds => decide (uptoBulkAll ds ≤ 1048576)
def OpenSpec.upto (s : _root_.Go.ChangeSpec) : _root_.Go.OpenSpec := { _root_.Go.OpenSpec.ofChange s with cond := some uptoSmall }

/-- 'headroomlaw08.FlipPlaces', WHERE WHAT IT READS IS OF BULK AT MOST 1048576: true; the input reads as it did. -/
def flipPlacesUptoRow : OpenClaim := { program := "ytajgpilcbaoneaa", sum := "170f703fa39c37daa59ade71cd1bc5255e39beb16df45e770da30d7ec0deb28d", func := "headroom/headroomlaw08.FlipPlaces", spec := "flipPlaces", apart := false, narrowed := true }
def FlipPlacesUptoSaid : Prop := flipPlacesUptoRow.holds Try.pinned (OpenSpec.upto flipPlacesSpec)

/-- 'headroomlaw08.FlipNumbers', WHERE WHAT IT READS IS OF BULK AT MOST 1048576: true; the input reads as it did. -/
def flipNumbersUptoRow : OpenClaim := { program := "ytajgpilcbaoneaa", sum := "170f703fa39c37daa59ade71cd1bc5255e39beb16df45e770da30d7ec0deb28d", func := "headroom/headroomlaw08.FlipNumbers", spec := "flipNumbers", apart := false, narrowed := true }
def FlipNumbersUptoSaid : Prop := flipNumbersUptoRow.holds Try.pinned (OpenSpec.upto flipNumbersSpec)

/-- 'headroomlaw08.FlipBack', WHERE WHAT IT READS IS OF BULK AT MOST 1048576: true; the input reads as it did. -/
def flipBackUptoRow : OpenClaim := { program := "ytajgpilcbaoneaa", sum := "170f703fa39c37daa59ade71cd1bc5255e39beb16df45e770da30d7ec0deb28d", func := "headroom/headroomlaw08.FlipBack", spec := "flipBack", apart := false, narrowed := true }
def FlipBackUptoSaid : Prop := flipBackUptoRow.holds Try.pinned (OpenSpec.upto flipBackSpec)

/-- 'headroomlaw20.PowerSums', WHERE WHAT IT READS IS OF BULK AT MOST 1048576: true; the input reads as it did. -/
def powerSumsUptoRow : OpenClaim := { program := "ytajgpilcbaoneaa", sum := "170f703fa39c37daa59ade71cd1bc5255e39beb16df45e770da30d7ec0deb28d", func := "headroom/headroomlaw20.PowerSums", spec := "powerSums", inPlace := ["math/bits.Add64"], unfollowed := true, recurses := true, apart := false, narrowed := true }
def PowerSumsUptoSaid : Prop := powerSumsUptoRow.holds Try.pinned (OpenSpec.upto powerSumsSpec)

/-- 'headroomlaw20.PowerTells', WHERE WHAT IT READS IS OF BULK AT MOST 1048576: true; the input reads as it did. -/
def powerTellsUptoRow : OpenClaim := { program := "ytajgpilcbaoneaa", sum := "170f703fa39c37daa59ade71cd1bc5255e39beb16df45e770da30d7ec0deb28d", func := "headroom/headroomlaw20.PowerTells", spec := "powerTells", inPlace := ["math/bits.Add64"], unfollowed := true, recurses := true, apart := false, narrowed := true }
def PowerTellsUptoSaid : Prop := powerTellsUptoRow.holds Try.pinned (OpenSpec.upto powerTellsSpec)

/-- 'headroomlaw20.PowerTurns', WHERE WHAT IT READS IS OF BULK AT MOST 1048576: true; the input reads as it did. -/
def powerTurnsUptoRow : OpenClaim := { program := "ytajgpilcbaoneaa", sum := "170f703fa39c37daa59ade71cd1bc5255e39beb16df45e770da30d7ec0deb28d", func := "headroom/headroomlaw20.PowerTurns", spec := "powerTurns", inPlace := ["math/bits.Add64"], unfollowed := true, recurses := true, apart := false, narrowed := true }
def PowerTurnsUptoSaid : Prop := powerTurnsUptoRow.holds Try.pinned (OpenSpec.upto powerTurnsSpec)

end Rows
end Go.Proofs.Ytajgpilcbaoneaa
