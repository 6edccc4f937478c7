/- Part 13 of the means of the proof: a verified evaluator and contracts of functions. -/
import Derived.Test.YtggcpapoljmiaaaGreatDoorB10
set_option maxRecDepth 4000
set_option maxHeartbeats 4000000
set_option linter.unusedSimpArgs false
set_option linter.unusedVariables false
set_option linter.unusedSectionVars false
namespace Go.Proofs
open Go Go.Abs
set_option maxRecDepth 100000
set_option maxHeartbeats 0
set_option cbv.maxSteps 100000000
def QyL:TT false Tryz.f186:=⟨_,by cbv⟩
def tf186:z5:=QyL.1
theorem QuZ:Qj Tryz.prog Tryz.f186=some tf186.erase:=by kernel_rfl
set_option cbv.maxSteps 100000000
def Qyq:TT true Tryz.f144:=⟨_,by cbv⟩
def tf144:z5:=Qyq.1
theorem QuE:Qj Tryz.prog Tryz.f144=some tf144.erase:=by kernel_rfl
set_option cbv.maxSteps 100000000
def Qyn:TT false Tryz.f141:=⟨_,by cbv⟩
def tf141:z5:=Qyn.1
theorem QuC:Qj Tryz.prog Tryz.f141=some tf141.erase:=by kernel_rfl
set_option cbv.maxSteps 100000000
def t98:TT false Tryz.f98:=⟨_,by cbv⟩
def tf98:z5:=t98.1
theorem QvF:Qj Tryz.prog Tryz.f98=some tf98.erase:=by kernel_rfl
def Qyj:TT false Tryz.f137:=⟨_,by cbv⟩
def tf137:z5:=Qyj.1
theorem Qq5:Qj Tryz.prog Tryz.f137=some tf137.erase:=by kernel_rfl
set_option cbv.maxSteps 100000000
def t97:TT false Tryz.f97:=⟨_,by cbv⟩
def tf97:z5:=t97.1
theorem QAb:Qj Tryz.prog Tryz.f97=some tf97.erase:=by kernel_rfl
set_option cbv.maxSteps 100000000
def t67:TT false Tryz.f67:=⟨_,by cbv⟩
def tf67:z5:=t67.1
theorem QzX:Qj Tryz.prog Tryz.f67=some tf67.erase:=by kernel_rfl
end Go.Proofs
