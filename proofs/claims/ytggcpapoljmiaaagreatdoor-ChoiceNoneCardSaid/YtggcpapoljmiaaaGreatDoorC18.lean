/- Part 18 of the means of the proof: a verified evaluator and contracts of functions. -/
import Derived.Test.YtggcpapoljmiaaaGreatDoorC14
namespace Go.Proofs
open Go Go.Abs
set_option maxRecDepth 100000
set_option maxHeartbeats 0
theorem Qxs:ctX Tryz.prog (λ_ _=>none) fsR 200 (c0 [pc (Bo 0)] tb) 175=true:=by decide+kernel
theorem Qxt:ctX Tryz.prog (λ_ _=>none) fsR 200 (c0 [pc (Bo 1)] tb) 175=true:=by decide+kernel
theorem Qxu:ctX Tryz.prog (λ_ _=>none) fsR 200 (c0 [pc (Bo 2)] tb) 175=true:=by decide+kernel
theorem Qxv:ctX Tryz.prog (λ_ _=>none) fsR 200 (c0 [pc (Bo 3)] tb) 175=true:=by decide+kernel
theorem Qxw:ctX Tryz.prog (λ_ _=>none) fsR 200 (c0 [pc (Bo 4)] tb) 175=true:=by decide+kernel
theorem Qxx:ctX Tryz.prog (λ_ _=>none) fsR 200 (c0 [pc (Bo 5)] tb) 175=true:=by decide+kernel
end Go.Proofs
