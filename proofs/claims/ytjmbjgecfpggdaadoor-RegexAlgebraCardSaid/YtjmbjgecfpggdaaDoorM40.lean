/- A part of the proof: G40. -/
import Derived.Test.YtjmbjgecfpggdaaDoorM38
import Derived.Test.YtjmbjgecfpggdaaDoorMX20
set_option linter.all false
set_option linter.unusedVariables false
set_option linter.unusedSimpArgs false
namespace Go.Proofs.YtjmbjgecfpggdaaDoor
open Go.Ab Go.Rx
set_option maxHeartbeats 20000000
set_option maxRecDepth 100000
set_option linter.unusedVariables false
set_option linter.unusedSimpArgs false
set_option linter.unusedSectionVars false
attribute [local irreducible] Run Ops Op1 Does Val Tr PureF Eff1 NF Rel EffV EffM EffN
abbrev self1 : Int → List Int := fun c => [c]
end Go.Proofs.YtjmbjgecfpggdaaDoor
