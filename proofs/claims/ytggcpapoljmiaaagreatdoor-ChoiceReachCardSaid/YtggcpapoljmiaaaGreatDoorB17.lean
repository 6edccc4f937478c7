/- Part 17 of the means of the proof: a verified evaluator and contracts of functions. -/
import Derived.Test.YtggcpapoljmiaaaGreatDoorB15
set_option maxRecDepth 4000
set_option maxHeartbeats 4000000
set_option linter.unusedSimpArgs false
set_option linter.unusedVariables false
set_option linter.unusedSectionVars false
namespace Go.Proofs
open Go Go.Abs
set_option maxRecDepth 100000
set_option maxHeartbeats 0
theorem Qxv:ctX Tryz.prog (λ_ _=>none) fsW 60 (Qdi 1) 247=true:=by decide+kernel
theorem QxB:ctX Tryz.prog (λ_ _=>none) fsW 60 (Qov 1) 255=true:=by decide+kernel
theorem Qxz:ctX Tryz.prog (λ_ _=>none) fsW 60 (Qou 2) 220=true:=by decide+kernel
theorem Qxw:ctX Tryz.prog (λ_ _=>none) fsW 60 (Qdi 2) 247=true:=by decide+kernel
end Go.Proofs
