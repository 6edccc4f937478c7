/- Part 19 of the means of the proof: a verified evaluator and contracts of functions. -/
import Derived.Test.YtggcpapoljmiaaaGreatDoorC14
namespace Go.Proofs
open Go Go.Abs
set_option maxRecDepth 100000
set_option maxHeartbeats 0
theorem Qxy:ctX Tryz.prog (λ_ _=>none) fsR 200 (c0 [pc (Bo 6)] tb) 175=true:=by decide+kernel
theorem Qxz:ctX Tryz.prog (λ_ _=>none) fsR 200 (c0 [pc (Bo 7)] tb) 175=true:=by decide+kernel
end Go.Proofs
