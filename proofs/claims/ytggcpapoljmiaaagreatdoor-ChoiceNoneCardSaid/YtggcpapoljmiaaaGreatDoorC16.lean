/- Part 16 of the means of the proof: a verified evaluator and contracts of functions. -/
import Derived.Test.YtggcpapoljmiaaaGreatDoorC14
namespace Go.Proofs
open Go Go.Abs
set_option maxRecDepth 100000
set_option maxHeartbeats 0
theorem Qxc:ctX Tryz.prog (λ_ _=>none) fsW 60 (QcS 1) 247=true:=by decide+kernel
theorem Qxi:ctX Tryz.prog (λ_ _=>none) fsW 60 (Qog 1) 255=true:=by decide+kernel
theorem Qxg:ctX Tryz.prog (λ_ _=>none) fsW 60 (Qof 2) 220=true:=by decide+kernel
theorem Qxd:ctX Tryz.prog (λ_ _=>none) fsW 60 (QcS 2) 247=true:=by decide+kernel
end Go.Proofs
