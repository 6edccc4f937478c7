/- Part 20 of the means of the proof: a verified evaluator and contracts of functions. -/
import Derived.Test.YtggcpapoljmiaaaGreatDoorB15
set_option maxRecDepth 4000
set_option maxHeartbeats 4000000
set_option linter.unusedSimpArgs false
set_option linter.unusedVariables false
set_option linter.unusedSectionVars false
namespace Go.Proofs
open Go Go.Abs
set_option maxRecDepth 100000
set_option maxHeartbeats 0
theorem QxS:ctX Tryz.prog (λ_ _=>none) fsR 200 (c0 [pc (BM 6)] tb) 175=true:=by decide+kernel
theorem QxT:ctX Tryz.prog (λ_ _=>none) fsR 200 (c0 [pc (BM 7)] tb) 175=true:=by decide+kernel
end Go.Proofs
