/- Part 12 of the means of the proof: a verified evaluator and contracts of functions. -/
import Derived.Test.YtggcpapoljmiaaaGreatDoorC6
namespace Go.Proofs
open Go Go.Abs
set_option maxRecDepth 100000
set_option maxHeartbeats 0
theorem QnD:Xm Tryz.prog spG noZ 2 Qsa=true:=by decide+kernel
theorem QnE:Xm Tryz.prog spG noZ 2 Qsb=true:=by decide+kernel
theorem QnF:Xm Tryz.prog spG noZ 2 Qsc=true:=by decide+kernel
theorem QnG:Xm Tryz.prog spG noZ 2 Qsd=true:=by decide+kernel
theorem QnH:Xm Tryz.prog spG noZ 2 Qse=true:=by decide+kernel
theorem QnI:Xm Tryz.prog spG noZ 2 QtW=true:=by decide+kernel
end Go.Proofs
