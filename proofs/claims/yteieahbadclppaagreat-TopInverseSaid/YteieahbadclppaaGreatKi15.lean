/- Part 15 of 18 of the proof: the texts that it reaches, one behind the other. No condition. -/
import Derived.Test.YteieahbadclppaaGreatKi11
namespace Go.Proofs.YteieahbadclppaaGreat.P

set_option linter.unusedVariables false
set_option linter.unusedSimpArgs false
set_option maxRecDepth 100000 in
theorem znN:([0,1].all fun fm=>[2,3,4,5].all fun g=>[0,1,2].all fun ker=>[true,false].all fun inv=>zgh fm g ker inv)=true:=by decide +kernel
end Go.Proofs.YteieahbadclppaaGreat.P

