/- Part 11 of the means of the proof: a verified evaluator and contracts of functions. -/
import Derived.Test.YtggcpapoljmiaaaGreatDoorB10
set_option maxRecDepth 4000
set_option maxHeartbeats 4000000
set_option linter.unusedSimpArgs false
set_option linter.unusedVariables false
set_option linter.unusedSectionVars false
namespace Go.Proofs
open Go Go.Abs
set_option maxRecDepth 100000
set_option maxHeartbeats 0
set_option cbv.maxSteps 100000000
def t92:TT false Tryz.f92:=⟨_,by cbv⟩
def tf92:z5:=t92.1
theorem Qz8:Qj Tryz.prog Tryz.f92=some tf92.erase:=by kernel_rfl
def t93:TT false Tryz.f93:=⟨_,by cbv⟩
def tf93:z5:=t93.1
theorem Qz9:Qj Tryz.prog Tryz.f93=some tf93.erase:=by kernel_rfl
def t94:TT false Tryz.f94:=⟨_,by cbv⟩
def tf94:z5:=t94.1
theorem QAa:Qj Tryz.prog Tryz.f94=some tf94.erase:=by kernel_rfl
def Qyh:TT false Tryz.f130:=⟨_,by cbv⟩
def tf130:z5:=Qyh.1
theorem Qux:Qj Tryz.prog Tryz.f130=some tf130.erase:=by kernel_rfl
def Qyk:TT false Tryz.f138:=⟨_,by cbv⟩
def tf138:z5:=Qyk.1
theorem Quz:Qj Tryz.prog Tryz.f138=some tf138.erase:=by kernel_rfl
def Qyl:TT false Tryz.f139:=⟨_,by cbv⟩
def tf139:z5:=Qyl.1
theorem QuA:Qj Tryz.prog Tryz.f139=some tf139.erase:=by kernel_rfl
def QyG:TT false Tryz.f172:=⟨_,by cbv⟩
def tf172:z5:=QyG.1
theorem QuU:Qj Tryz.prog Tryz.f172=some tf172.erase:=by kernel_rfl
def QyH:TT false Tryz.f176:=⟨_,by cbv⟩
def tf176:z5:=QyH.1
theorem QuV:Qj Tryz.prog Tryz.f176=some tf176.erase:=by kernel_rfl
def QyI:TT false Tryz.f177:=⟨_,by cbv⟩
def tf177:z5:=QyI.1
theorem QuW:Qj Tryz.prog Tryz.f177=some tf177.erase:=by kernel_rfl
end Go.Proofs
