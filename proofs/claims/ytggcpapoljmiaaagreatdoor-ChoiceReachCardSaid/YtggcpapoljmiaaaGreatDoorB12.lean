/- Part 12 of the means of the proof: a verified evaluator and contracts of functions. -/
import Derived.Test.YtggcpapoljmiaaaGreatDoorB10
set_option maxRecDepth 4000
set_option maxHeartbeats 4000000
set_option linter.unusedSimpArgs false
set_option linter.unusedVariables false
set_option linter.unusedSectionVars false
namespace Go.Proofs
open Go Go.Abs
set_option maxRecDepth 100000
set_option maxHeartbeats 0
set_option cbv.maxSteps 100000000
def Qy6:TT false Tryz.f223:=⟨_,by cbv⟩
def tf223:z5:=Qy6.1
theorem Qvk:Qj Tryz.prog Tryz.f223=some tf223.erase:=by kernel_rfl
def Qzf:TT false Tryz.f251:=⟨_,by cbv⟩
def tf251:z5:=Qzf.1
theorem Qvt:Qj Tryz.prog Tryz.f251=some tf251.erase:=by kernel_rfl
set_option cbv.maxSteps 100000000
def Qy7:TT false Tryz.f224:=⟨_,by cbv⟩
def tf224:z5:=Qy7.1
theorem Qvl:Qj Tryz.prog Tryz.f224=some tf224.erase:=by kernel_rfl
def Qy8:TT false Tryz.f226:=⟨_,by cbv⟩
def tf226:z5:=Qy8.1
theorem Qvm:Qj Tryz.prog Tryz.f226=some tf226.erase:=by kernel_rfl
def Qze:TT false Tryz.f250:=⟨_,by cbv⟩
def tf250:z5:=Qze.1
theorem Qvs:Qj Tryz.prog Tryz.f250=some tf250.erase:=by kernel_rfl
def Qzi:TT false Tryz.f270:=⟨_,by cbv⟩
def tf270:z5:=Qzi.1
theorem Qvw:Qj Tryz.prog Tryz.f270=some tf270.erase:=by kernel_rfl
set_option cbv.maxSteps 100000000
def Qym:TT false Tryz.f140:=⟨_,by cbv⟩
def tf140:z5:=Qym.1
theorem QuB:Qj Tryz.prog Tryz.f140=some tf140.erase:=by kernel_rfl
def Qyp:TT false Tryz.f143:=⟨_,by cbv⟩
def tf143:z5:=Qyp.1
theorem QuD:Qj Tryz.prog Tryz.f143=some tf143.erase:=by kernel_rfl
end Go.Proofs
