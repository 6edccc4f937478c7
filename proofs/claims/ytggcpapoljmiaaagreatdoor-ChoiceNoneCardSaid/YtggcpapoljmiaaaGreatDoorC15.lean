/- Part 15 of the means of the proof: a verified evaluator and contracts of functions. -/
import Derived.Test.YtggcpapoljmiaaaGreatDoorC14
namespace Go.Proofs
open Go Go.Abs
set_option maxRecDepth 100000
set_option maxHeartbeats 0
theorem Qxe:ctX Tryz.prog (λ_ _=>none) fsW 60 (Qof 0) 220=true:=by decide+kernel
theorem Qxb:ctX Tryz.prog (λ_ _=>none) fsW 60 (QcS 0) 247=true:=by decide+kernel
theorem Qxh:ctX Tryz.prog (λ_ _=>none) fsW 60 (Qog 0) 255=true:=by decide+kernel
theorem Qxf:ctX Tryz.prog (λ_ _=>none) fsW 60 (Qof 1) 220=true:=by decide+kernel
end Go.Proofs
