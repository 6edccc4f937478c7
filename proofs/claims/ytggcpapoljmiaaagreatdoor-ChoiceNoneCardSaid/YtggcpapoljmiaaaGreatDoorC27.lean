/- Part 27 of the means of the proof: a verified evaluator and contracts of functions. -/
import Derived.Test.YtggcpapoljmiaaaGreatDoorC22
namespace Go.Proofs
open Go Go.Abs
set_option maxRecDepth 100000
set_option maxHeartbeats 0
theorem Qtp:((tVer.take 2).map λv=>[62,61]++v).all (ofB Tryz.prog)=true:=by decide+kernel
end Go.Proofs
