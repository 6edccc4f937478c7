/- Part 9 of the means of the proof: a verified evaluator and contracts of functions. -/
import Derived.Test.YtggcpapoljmiaaaGreatDoorC5
namespace Go.Proofs
open Go Go.Abs
set_option maxRecDepth 100000
set_option maxHeartbeats 0
set_option cbv.maxSteps 100000000
def t47:TT false Tryz.f47:=⟨_,by cbv⟩
def tf47:a6:=t47.1
theorem Qzk:Qk Tryz.prog Tryz.f47=some tf47.erase:=by kernel_rfl
def t86:TT false Tryz.f86:=⟨_,by cbv⟩
def tf86:a6:=t86.1
theorem QzA:Qk Tryz.prog Tryz.f86=some tf86.erase:=by kernel_rfl
def QxH:TT false Tryz.f108:=⟨_,by cbv⟩
def tf108:a6:=QxH.1
theorem Qt1:Qk Tryz.prog Tryz.f108=some tf108.erase:=by kernel_rfl
def QxJ:TT false Tryz.f110:=⟨_,by cbv⟩
def tf110:a6:=QxJ.1
theorem Qt3:Qk Tryz.prog Tryz.f110=some tf110.erase:=by kernel_rfl
def Qyc:TT false Tryz.f153:=⟨_,by cbv⟩
def tf153:a6:=Qyc.1
theorem Quu:Qk Tryz.prog Tryz.f153=some tf153.erase:=by kernel_rfl
def Qyh:TT false Tryz.f158:=⟨_,by cbv⟩
def tf158:a6:=Qyh.1
theorem Quz:Qk Tryz.prog Tryz.f158=some tf158.erase:=by kernel_rfl
def Qyv:TT false Tryz.f189:=⟨_,by cbv⟩
def tf189:a6:=Qyv.1
theorem QuN:Qk Tryz.prog Tryz.f189=some tf189.erase:=by kernel_rfl
def QyA:TT false Tryz.f194:=⟨_,by cbv⟩
def tf194:a6:=QyA.1
theorem QuS:Qk Tryz.prog Tryz.f194=some tf194.erase:=by kernel_rfl
def QyS:TT false Tryz.f228:=⟨_,by cbv⟩
def tf228:a6:=QyS.1
theorem Qva:Qk Tryz.prog Tryz.f228=some tf228.erase:=by kernel_rfl
def QyV:TT false Tryz.f244:=⟨_,by cbv⟩
def tf244:a6:=QyV.1
theorem Qvd:Qk Tryz.prog Tryz.f244=some tf244.erase:=by kernel_rfl
def QyZ:TT false Tryz.f260:=⟨_,by cbv⟩
def tf260:a6:=QyZ.1
theorem Qvh:Qk Tryz.prog Tryz.f260=some tf260.erase:=by kernel_rfl
def Qy3:TT false Tryz.f280:=⟨_,by cbv⟩
def tf280:a6:=Qy3.1
theorem Qvl:Qk Tryz.prog Tryz.f280=some tf280.erase:=by kernel_rfl
set_option cbv.maxSteps 100000000
def QxK:TT false Tryz.f111:=⟨_,by cbv⟩
def tf111:a6:=QxK.1
theorem Qt4:Qk Tryz.prog Tryz.f111=some tf111.erase:=by kernel_rfl
def QxM:TT false Tryz.f113:=⟨_,by cbv⟩
def tf113:a6:=QxM.1
theorem Qt6:Qk Tryz.prog Tryz.f113=some tf113.erase:=by kernel_rfl
def QxW:TT false Tryz.f123:=⟨_,by cbv⟩
def tf123:a6:=QxW.1
theorem Qug:Qk Tryz.prog Tryz.f123=some tf123.erase:=by kernel_rfl
def Qyd:TT false Tryz.f154:=⟨_,by cbv⟩
def tf154:a6:=Qyd.1
theorem Quv:Qk Tryz.prog Tryz.f154=some tf154.erase:=by kernel_rfl
def Qye:TT false Tryz.f155:=⟨_,by cbv⟩
def tf155:a6:=Qye.1
theorem Quw:Qk Tryz.prog Tryz.f155=some tf155.erase:=by kernel_rfl
def Qyf:TT false Tryz.f156:=⟨_,by cbv⟩
def tf156:a6:=Qyf.1
theorem Qux:Qk Tryz.prog Tryz.f156=some tf156.erase:=by kernel_rfl
def Qyg:TT false Tryz.f157:=⟨_,by cbv⟩
def tf157:a6:=Qyg.1
theorem Quy:Qk Tryz.prog Tryz.f157=some tf157.erase:=by kernel_rfl
def Qyk:TT false Tryz.f161:=⟨_,by cbv⟩
def tf161:a6:=Qyk.1
theorem QuC:Qk Tryz.prog Tryz.f161=some tf161.erase:=by kernel_rfl
def Qyl:TT false Tryz.f162:=⟨_,by cbv⟩
def tf162:a6:=Qyl.1
theorem QuD:Qk Tryz.prog Tryz.f162=some tf162.erase:=by kernel_rfl
def Qyx:TT false Tryz.f191:=⟨_,by cbv⟩
def tf191:a6:=Qyx.1
theorem QuP:Qk Tryz.prog Tryz.f191=some tf191.erase:=by kernel_rfl
def Qyy:TT false Tryz.f192:=⟨_,by cbv⟩
def tf192:a6:=Qyy.1
theorem QuQ:Qk Tryz.prog Tryz.f192=some tf192.erase:=by kernel_rfl
def Qyz:TT false Tryz.f193:=⟨_,by cbv⟩
def tf193:a6:=Qyz.1
theorem QuR:Qk Tryz.prog Tryz.f193=some tf193.erase:=by kernel_rfl
def QyJ:TT false Tryz.f213:=⟨_,by cbv⟩
def tf213:a6:=QyJ.1
theorem Qu1:Qk Tryz.prog Tryz.f213=some tf213.erase:=by kernel_rfl
def QyK:TT false Tryz.f214:=⟨_,by cbv⟩
def tf214:a6:=QyK.1
theorem Qu2:Qk Tryz.prog Tryz.f214=some tf214.erase:=by kernel_rfl
def QyM:TT false Tryz.f216:=⟨_,by cbv⟩
def tf216:a6:=QyM.1
theorem Qu4:Qk Tryz.prog Tryz.f216=some tf216.erase:=by kernel_rfl
def QyR:TT false Tryz.f227:=⟨_,by cbv⟩
def tf227:a6:=QyR.1
theorem Qu9:Qk Tryz.prog Tryz.f227=some tf227.erase:=by kernel_rfl
def Qy8:TT false Tryz.f290:=⟨_,by cbv⟩
def tf290:a6:=Qy8.1
theorem Qvq:Qk Tryz.prog Tryz.f290=some tf290.erase:=by kernel_rfl
set_option cbv.maxSteps 100000000
def t62:TT false Tryz.f62:=⟨_,by cbv⟩
def tf62:a6:=t62.1
theorem Qzq:Qk Tryz.prog Tryz.f62=some tf62.erase:=by kernel_rfl
def t91:TT false Tryz.f91:=⟨_,by cbv⟩
def tf91:a6:=t91.1
theorem QzB:Qk Tryz.prog Tryz.f91=some tf91.erase:=by kernel_rfl
def QxY:TT false Tryz.f129:=⟨_,by cbv⟩
def tf129:a6:=QxY.1
theorem Qui:Qk Tryz.prog Tryz.f129=some tf129.erase:=by kernel_rfl
def Qx0:TT false Tryz.f131:=⟨_,by cbv⟩
def tf131:a6:=Qx0.1
theorem Quk:Qk Tryz.prog Tryz.f131=some tf131.erase:=by kernel_rfl
def Qyn:TT false Tryz.f170:=⟨_,by cbv⟩
def tf170:a6:=Qyn.1
theorem QuF:Qk Tryz.prog Tryz.f170=some tf170.erase:=by kernel_rfl
def Qyp:TT false Tryz.f173:=⟨_,by cbv⟩
def tf173:a6:=Qyp.1
theorem QuH:Qk Tryz.prog Tryz.f173=some tf173.erase:=by kernel_rfl
def QyI:TT false Tryz.f205:=⟨_,by cbv⟩
def tf205:a6:=QyI.1
theorem Qu0:Qk Tryz.prog Tryz.f205=some tf205.erase:=by kernel_rfl
set_option cbv.maxSteps 100000000
def QyO:TT false Tryz.f223:=⟨_,by cbv⟩
def tf223:a6:=QyO.1
theorem Qu6:Qk Tryz.prog Tryz.f223=some tf223.erase:=by kernel_rfl
def QyX:TT false Tryz.f251:=⟨_,by cbv⟩
def tf251:a6:=QyX.1
theorem Qvf:Qk Tryz.prog Tryz.f251=some tf251.erase:=by kernel_rfl
set_option cbv.maxSteps 100000000
def t63:TT false Tryz.f63:=⟨_,by cbv⟩
def tf63:a6:=t63.1
theorem Qzr:Qk Tryz.prog Tryz.f63=some tf63.erase:=by kernel_rfl
end Go.Proofs
