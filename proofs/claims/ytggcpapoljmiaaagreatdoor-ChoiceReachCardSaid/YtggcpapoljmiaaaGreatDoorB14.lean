/- Part 14 of the means of the proof: a verified evaluator and contracts of functions. -/
import Derived.Test.YtggcpapoljmiaaaGreatDoorB10
set_option maxRecDepth 4000
set_option maxHeartbeats 4000000
set_option linter.unusedSimpArgs false
set_option linter.unusedVariables false
set_option linter.unusedSectionVars false
namespace Go.Proofs
open Go Go.Abs
set_option maxRecDepth 100000
set_option maxHeartbeats 0
set_option cbv.maxSteps 100000000
def t31:TT false Tryz.f31:=⟨_,by cbv⟩
def tf31:z5:=t31.1
theorem QzJ:Qj Tryz.prog Tryz.f31=some tf31.erase:=by kernel_rfl
def t66:TT false Tryz.f66:=⟨_,by cbv⟩
def tf66:z5:=t66.1
theorem QzW:Qj Tryz.prog Tryz.f66=some tf66.erase:=by kernel_rfl
set_option cbv.maxSteps 100000000
def Qyo:TT false Tryz.f142:=⟨_,by cbv⟩
def tf142:z5:=Qyo.1
theorem Qq6:Qj Tryz.prog Tryz.f142=some tf142.erase:=by kernel_rfl
set_option cbv.maxSteps 100000000
def t15:TT false Tryz.f15:=⟨_,by cbv⟩
def tf15:z5:=t15.1
theorem Qzu:Qj Tryz.prog Tryz.f15=some tf15.erase:=by kernel_rfl
def QyK:TT false Tryz.f185:=⟨_,by cbv⟩
def tf185:z5:=QyK.1
theorem QuY:Qj Tryz.prog Tryz.f185=some tf185.erase:=by kernel_rfl
end Go.Proofs
