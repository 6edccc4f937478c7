/- Part 17 of the means of the proof: a verified evaluator and contracts of functions. -/
import Derived.Test.YtggcpapoljmiaaaGreatDoorC14
namespace Go.Proofs
open Go Go.Abs
set_option maxRecDepth 100000
set_option maxHeartbeats 0
theorem Qxj:ctX Tryz.prog (λ_ _=>none) fsW 60 (Qog 2) 255=true:=by decide+kernel
end Go.Proofs
