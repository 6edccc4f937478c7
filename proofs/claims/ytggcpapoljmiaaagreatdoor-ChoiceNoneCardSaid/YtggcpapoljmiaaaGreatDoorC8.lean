/- Part 8 of the means of the proof: a verified evaluator and contracts of functions. -/
import Derived.Test.YtggcpapoljmiaaaGreatDoorC5
namespace Go.Proofs
open Go Go.Abs
set_option maxRecDepth 100000
set_option maxHeartbeats 0
set_option cbv.maxSteps 100000000
def t35:TT false Tryz.f35:=⟨_,by cbv⟩
def tf35:a6:=t35.1
theorem Qzj:Qk Tryz.prog Tryz.f35=some tf35.erase:=by kernel_rfl
def t51:TT false Tryz.f51:=⟨_,by cbv⟩
def tf51:a6:=t51.1
theorem Qzl:Qk Tryz.prog Tryz.f51=some tf51.erase:=by kernel_rfl
def t81:TT false Tryz.f81:=⟨_,by cbv⟩
def tf81:a6:=t81.1
theorem Qzw:Qk Tryz.prog Tryz.f81=some tf81.erase:=by kernel_rfl
def QxS:TT false Tryz.f119:=⟨_,by cbv⟩
def tf119:a6:=QxS.1
theorem Quc:Qk Tryz.prog Tryz.f119=some tf119.erase:=by kernel_rfl
def QxT:TT false Tryz.f120:=⟨_,by cbv⟩
def tf120:a6:=QxT.1
theorem Qud:Qk Tryz.prog Tryz.f120=some tf120.erase:=by kernel_rfl
def QxV:TT false Tryz.f122:=⟨_,by cbv⟩
def tf122:a6:=QxV.1
theorem Quf:Qk Tryz.prog Tryz.f122=some tf122.erase:=by kernel_rfl
def QxX:TT false Tryz.f124:=⟨_,by cbv⟩
def tf124:a6:=QxX.1
theorem Quh:Qk Tryz.prog Tryz.f124=some tf124.erase:=by kernel_rfl
def Qx1:TT false Tryz.f136:=⟨_,by cbv⟩
def tf136:a6:=Qx1.1
theorem Qul:Qk Tryz.prog Tryz.f136=some tf136.erase:=by kernel_rfl
def Qya:TT false Tryz.f147:=⟨_,by cbv⟩
def tf147:a6:=Qya.1
theorem Qus:Qk Tryz.prog Tryz.f147=some tf147.erase:=by kernel_rfl
def Qyb:TT false Tryz.f152:=⟨_,by cbv⟩
def tf152:a6:=Qyb.1
theorem Qut:Qk Tryz.prog Tryz.f152=some tf152.erase:=by kernel_rfl
def Qyj:TT false Tryz.f160:=⟨_,by cbv⟩
def tf160:a6:=Qyj.1
theorem QuB:Qk Tryz.prog Tryz.f160=some tf160.erase:=by kernel_rfl
def Qym:TT false Tryz.f163:=⟨_,by cbv⟩
def tf163:a6:=Qym.1
theorem QuE:Qk Tryz.prog Tryz.f163=some tf163.erase:=by kernel_rfl
def QyB:TT false Tryz.f195:=⟨_,by cbv⟩
def tf195:a6:=QyB.1
theorem QuT:Qk Tryz.prog Tryz.f195=some tf195.erase:=by kernel_rfl
def QyD:TT false Tryz.f197:=⟨_,by cbv⟩
def tf197:a6:=QyD.1
theorem QuV:Qk Tryz.prog Tryz.f197=some tf197.erase:=by kernel_rfl
def QyF:TT false Tryz.f199:=⟨_,by cbv⟩
def tf199:a6:=QyF.1
theorem QuX:Qk Tryz.prog Tryz.f199=some tf199.erase:=by kernel_rfl
def QyL:TT false Tryz.f215:=⟨_,by cbv⟩
def tf215:a6:=QyL.1
theorem Qu3:Qk Tryz.prog Tryz.f215=some tf215.erase:=by kernel_rfl
def QyN:TT false Tryz.f217:=⟨_,by cbv⟩
def tf217:a6:=QyN.1
theorem Qu5:Qk Tryz.prog Tryz.f217=some tf217.erase:=by kernel_rfl
def Qy1:TT false Tryz.f271:=⟨_,by cbv⟩
def tf271:a6:=Qy1.1
theorem Qvj:Qk Tryz.prog Tryz.f271=some tf271.erase:=by kernel_rfl
set_option cbv.maxSteps 100000000
def t83:TT false Tryz.f83:=⟨_,by cbv⟩
def tf83:a6:=t83.1
theorem Qzy:Qk Tryz.prog Tryz.f83=some tf83.erase:=by kernel_rfl
def t84:TT false Tryz.f84:=⟨_,by cbv⟩
def tf84:a6:=t84.1
theorem Qzz:Qk Tryz.prog Tryz.f84=some tf84.erase:=by kernel_rfl
def QxL:TT false Tryz.f112:=⟨_,by cbv⟩
def tf112:a6:=QxL.1
theorem Qt5:Qk Tryz.prog Tryz.f112=some tf112.erase:=by kernel_rfl
def QxN:TT false Tryz.f114:=⟨_,by cbv⟩
def tf114:a6:=QxN.1
theorem Qt7:Qk Tryz.prog Tryz.f114=some tf114.erase:=by kernel_rfl
def QxR:TT false Tryz.f118:=⟨_,by cbv⟩
def tf118:a6:=QxR.1
theorem Qub:Qk Tryz.prog Tryz.f118=some tf118.erase:=by kernel_rfl
def QxU:TT false Tryz.f121:=⟨_,by cbv⟩
def tf121:a6:=QxU.1
theorem Que:Qk Tryz.prog Tryz.f121=some tf121.erase:=by kernel_rfl
def Qyw:TT false Tryz.f190:=⟨_,by cbv⟩
def tf190:a6:=Qyw.1
theorem QuO:Qk Tryz.prog Tryz.f190=some tf190.erase:=by kernel_rfl
def QyU:TT false Tryz.f243:=⟨_,by cbv⟩
def tf243:a6:=QyU.1
theorem Qvc:Qk Tryz.prog Tryz.f243=some tf243.erase:=by kernel_rfl
def QyY:TT false Tryz.f253:=⟨_,by cbv⟩
def tf253:a6:=QyY.1
theorem Qvg:Qk Tryz.prog Tryz.f253=some tf253.erase:=by kernel_rfl
def Qy2:TT false Tryz.f276:=⟨_,by cbv⟩
def tf276:a6:=Qy2.1
theorem Qvk:Qk Tryz.prog Tryz.f276=some tf276.erase:=by kernel_rfl
def Qy4:TT false Tryz.f281:=⟨_,by cbv⟩
def tf281:a6:=Qy4.1
theorem Qvm:Qk Tryz.prog Tryz.f281=some tf281.erase:=by kernel_rfl
def Qy5:TT false Tryz.f282:=⟨_,by cbv⟩
def tf282:a6:=Qy5.1
theorem Qvn:Qk Tryz.prog Tryz.f282=some tf282.erase:=by kernel_rfl
def Qy7:TT false Tryz.f288:=⟨_,by cbv⟩
def tf288:a6:=Qy7.1
theorem Qvp:Qk Tryz.prog Tryz.f288=some tf288.erase:=by kernel_rfl
end Go.Proofs
