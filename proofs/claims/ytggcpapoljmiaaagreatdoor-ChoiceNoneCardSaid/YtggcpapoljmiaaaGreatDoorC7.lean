/- Part 7 of the means of the proof: a verified evaluator and contracts of functions. -/
import Derived.Test.YtggcpapoljmiaaaGreatDoorC5
namespace Go.Proofs
open Go Go.Abs
set_option maxRecDepth 100000
set_option maxHeartbeats 0
set_option cbv.maxSteps 100000000
def t92:TT false Tryz.f92:=⟨_,by cbv⟩
def tf92:a6:=t92.1
theorem QzC:Qk Tryz.prog Tryz.f92=some tf92.erase:=by kernel_rfl
def t93:TT false Tryz.f93:=⟨_,by cbv⟩
def tf93:a6:=t93.1
theorem QzD:Qk Tryz.prog Tryz.f93=some tf93.erase:=by kernel_rfl
def t94:TT false Tryz.f94:=⟨_,by cbv⟩
def tf94:a6:=t94.1
theorem QzE:Qk Tryz.prog Tryz.f94=some tf94.erase:=by kernel_rfl
def QxZ:TT false Tryz.f130:=⟨_,by cbv⟩
def tf130:a6:=QxZ.1
theorem Quj:Qk Tryz.prog Tryz.f130=some tf130.erase:=by kernel_rfl
def Qx3:TT false Tryz.f138:=⟨_,by cbv⟩
def tf138:a6:=Qx3.1
theorem Qum:Qk Tryz.prog Tryz.f138=some tf138.erase:=by kernel_rfl
def Qx4:TT false Tryz.f139:=⟨_,by cbv⟩
def tf139:a6:=Qx4.1
theorem Qun:Qk Tryz.prog Tryz.f139=some tf139.erase:=by kernel_rfl
def Qyo:TT false Tryz.f172:=⟨_,by cbv⟩
def tf172:a6:=Qyo.1
theorem QuG:Qk Tryz.prog Tryz.f172=some tf172.erase:=by kernel_rfl
def Qyq:TT false Tryz.f176:=⟨_,by cbv⟩
def tf176:a6:=Qyq.1
theorem QuI:Qk Tryz.prog Tryz.f176=some tf176.erase:=by kernel_rfl
def Qyr:TT false Tryz.f177:=⟨_,by cbv⟩
def tf177:a6:=Qyr.1
theorem QuJ:Qk Tryz.prog Tryz.f177=some tf177.erase:=by kernel_rfl
set_option cbv.maxSteps 100000000
def t78:TT false Tryz.f78:=⟨_,by cbv⟩
def tf78:a6:=t78.1
theorem Qzu:Qk Tryz.prog Tryz.f78=some tf78.erase:=by kernel_rfl
def t80:TT false Tryz.f80:=⟨_,by cbv⟩
def tf80:a6:=t80.1
theorem Qzv:Qk Tryz.prog Tryz.f80=some tf80.erase:=by kernel_rfl
def t82:TT false Tryz.f82:=⟨_,by cbv⟩
def tf82:a6:=t82.1
theorem Qzx:Qk Tryz.prog Tryz.f82=some tf82.erase:=by kernel_rfl
def QxI:TT false Tryz.f109:=⟨_,by cbv⟩
def tf109:a6:=QxI.1
theorem Qt2:Qk Tryz.prog Tryz.f109=some tf109.erase:=by kernel_rfl
def QxO:TT false Tryz.f115:=⟨_,by cbv⟩
def tf115:a6:=QxO.1
theorem Qt8:Qk Tryz.prog Tryz.f115=some tf115.erase:=by kernel_rfl
def QxP:TT false Tryz.f116:=⟨_,by cbv⟩
def tf116:a6:=QxP.1
theorem Qt9:Qk Tryz.prog Tryz.f116=some tf116.erase:=by kernel_rfl
def QxQ:TT false Tryz.f117:=⟨_,by cbv⟩
def tf117:a6:=QxQ.1
theorem Qua:Qk Tryz.prog Tryz.f117=some tf117.erase:=by kernel_rfl
def Qyi:TT false Tryz.f159:=⟨_,by cbv⟩
def tf159:a6:=Qyi.1
theorem QuA:Qk Tryz.prog Tryz.f159=some tf159.erase:=by kernel_rfl
def Qys:TT false Tryz.f178:=⟨_,by cbv⟩
def tf178:a6:=Qys.1
theorem QuK:Qk Tryz.prog Tryz.f178=some tf178.erase:=by kernel_rfl
def QyC:TT false Tryz.f196:=⟨_,by cbv⟩
def tf196:a6:=QyC.1
theorem QuU:Qk Tryz.prog Tryz.f196=some tf196.erase:=by kernel_rfl
def QyE:TT false Tryz.f198:=⟨_,by cbv⟩
def tf198:a6:=QyE.1
theorem QuW:Qk Tryz.prog Tryz.f198=some tf198.erase:=by kernel_rfl
def QyG:TT false Tryz.f200:=⟨_,by cbv⟩
def tf200:a6:=QyG.1
theorem QuY:Qk Tryz.prog Tryz.f200=some tf200.erase:=by kernel_rfl
def QyH:TT false Tryz.f201:=⟨_,by cbv⟩
def tf201:a6:=QyH.1
theorem QuZ:Qk Tryz.prog Tryz.f201=some tf201.erase:=by kernel_rfl
def QyT:TT false Tryz.f229:=⟨_,by cbv⟩
def tf229:a6:=QyT.1
theorem Qvb:Qk Tryz.prog Tryz.f229=some tf229.erase:=by kernel_rfl
def Qy6:TT false Tryz.f286:=⟨_,by cbv⟩
def tf286:a6:=Qy6.1
theorem Qvo:Qk Tryz.prog Tryz.f286=some tf286.erase:=by kernel_rfl
end Go.Proofs
