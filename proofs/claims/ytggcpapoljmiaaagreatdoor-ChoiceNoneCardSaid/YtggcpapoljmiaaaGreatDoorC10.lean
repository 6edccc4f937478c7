/- Part 10 of the means of the proof: a verified evaluator and contracts of functions. -/
import Derived.Test.YtggcpapoljmiaaaGreatDoorC5
namespace Go.Proofs
open Go Go.Abs
set_option maxRecDepth 100000
set_option maxHeartbeats 0
set_option cbv.maxSteps 100000000
def QyP:TT false Tryz.f224:=⟨_,by cbv⟩
def tf224:a6:=QyP.1
theorem Qu7:Qk Tryz.prog Tryz.f224=some tf224.erase:=by kernel_rfl
def QyQ:TT false Tryz.f226:=⟨_,by cbv⟩
def tf226:a6:=QyQ.1
theorem Qu8:Qk Tryz.prog Tryz.f226=some tf226.erase:=by kernel_rfl
def QyW:TT false Tryz.f250:=⟨_,by cbv⟩
def tf250:a6:=QyW.1
theorem Qve:Qk Tryz.prog Tryz.f250=some tf250.erase:=by kernel_rfl
def Qy0:TT false Tryz.f270:=⟨_,by cbv⟩
def tf270:a6:=Qy0.1
theorem Qvi:Qk Tryz.prog Tryz.f270=some tf270.erase:=by kernel_rfl
set_option cbv.maxSteps 100000000
def Qx5:TT false Tryz.f140:=⟨_,by cbv⟩
def tf140:a6:=Qx5.1
theorem Quo:Qk Tryz.prog Tryz.f140=some tf140.erase:=by kernel_rfl
def Qx8:TT false Tryz.f143:=⟨_,by cbv⟩
def tf143:a6:=Qx8.1
theorem Quq:Qk Tryz.prog Tryz.f143=some tf143.erase:=by kernel_rfl
set_option cbv.maxSteps 100000000
def Qyu:TT false Tryz.f186:=⟨_,by cbv⟩
def tf186:a6:=Qyu.1
theorem QuM:Qk Tryz.prog Tryz.f186=some tf186.erase:=by kernel_rfl
set_option cbv.maxSteps 100000000
def Qx9:TT true Tryz.f144:=⟨_,by cbv⟩
def tf144:a6:=Qx9.1
theorem Qur:Qk Tryz.prog Tryz.f144=some tf144.erase:=by kernel_rfl
set_option cbv.maxSteps 100000000
def Qx6:TT false Tryz.f141:=⟨_,by cbv⟩
def tf141:a6:=Qx6.1
theorem Qup:Qk Tryz.prog Tryz.f141=some tf141.erase:=by kernel_rfl
set_option cbv.maxSteps 100000000
def t98:TT false Tryz.f98:=⟨_,by cbv⟩
def tf98:a6:=t98.1
theorem Qvr:Qk Tryz.prog Tryz.f98=some tf98.erase:=by kernel_rfl
def Qx2:TT false Tryz.f137:=⟨_,by cbv⟩
def tf137:a6:=Qx2.1
theorem QqR:Qk Tryz.prog Tryz.f137=some tf137.erase:=by kernel_rfl
set_option cbv.maxSteps 100000000
def t97:TT false Tryz.f97:=⟨_,by cbv⟩
def tf97:a6:=t97.1
theorem QzF:Qk Tryz.prog Tryz.f97=some tf97.erase:=by kernel_rfl
set_option cbv.maxSteps 100000000
def t67:TT false Tryz.f67:=⟨_,by cbv⟩
def tf67:a6:=t67.1
theorem Qzt:Qk Tryz.prog Tryz.f67=some tf67.erase:=by kernel_rfl
set_option cbv.maxSteps 100000000
def t31:TT false Tryz.f31:=⟨_,by cbv⟩
def tf31:a6:=t31.1
theorem Qzi:Qk Tryz.prog Tryz.f31=some tf31.erase:=by kernel_rfl
def t66:TT false Tryz.f66:=⟨_,by cbv⟩
def tf66:a6:=t66.1
theorem Qzs:Qk Tryz.prog Tryz.f66=some tf66.erase:=by kernel_rfl
set_option cbv.maxSteps 100000000
def Qx7:TT false Tryz.f142:=⟨_,by cbv⟩
def tf142:a6:=Qx7.1
theorem QqS:Qk Tryz.prog Tryz.f142=some tf142.erase:=by kernel_rfl
set_option cbv.maxSteps 100000000
def t15:TT false Tryz.f15:=⟨_,by cbv⟩
def tf15:a6:=t15.1
theorem Qzc:Qk Tryz.prog Tryz.f15=some tf15.erase:=by kernel_rfl
def Qyt:TT false Tryz.f185:=⟨_,by cbv⟩
def tf185:a6:=Qyt.1
theorem QuL:Qk Tryz.prog Tryz.f185=some tf185.erase:=by kernel_rfl
set_option cbv.maxSteps 100000000
def t17:TT false Tryz.f17:=⟨_,by cbv⟩
def tf17:a6:=t17.1
theorem Qzd:Qk Tryz.prog Tryz.f17=some tf17.erase:=by kernel_rfl
def t18:TT false Tryz.f18:=⟨_,by cbv⟩
def tf18:a6:=t18.1
theorem Qze:Qk Tryz.prog Tryz.f18=some tf18.erase:=by kernel_rfl
def t25:TT false Tryz.f25:=⟨_,by cbv⟩
def tf25:a6:=t25.1
theorem Qwf:Qk Tryz.prog Tryz.f25=some tf25.erase:=by kernel_rfl
def t52:TT false Tryz.f52:=⟨_,by cbv⟩
def tf52:a6:=t52.1
theorem Qzm:Qk Tryz.prog Tryz.f52=some tf52.erase:=by kernel_rfl
def t54:TT false Tryz.f54:=⟨_,by cbv⟩
def tf54:a6:=t54.1
theorem Qzn:Qk Tryz.prog Tryz.f54=some tf54.erase:=by kernel_rfl
def t55:TT false Tryz.f55:=⟨_,by cbv⟩
def tf55:a6:=t55.1
theorem Qzo:Qk Tryz.prog Tryz.f55=some tf55.erase:=by kernel_rfl
set_option cbv.maxSteps 100000000
def t21:TT false Tryz.f21:=⟨_,by cbv⟩
def tf21:a6:=t21.1
theorem Qzf:Qk Tryz.prog Tryz.f21=some tf21.erase:=by kernel_rfl
def t23:TT false Tryz.f23:=⟨_,by cbv⟩
def tf23:a6:=t23.1
theorem Qzg:Qk Tryz.prog Tryz.f23=some tf23.erase:=by kernel_rfl
def t28:TT false Tryz.f28:=⟨_,by cbv⟩
def tf28:a6:=t28.1
theorem Qzh:Qk Tryz.prog Tryz.f28=some tf28.erase:=by kernel_rfl
def t57:TT false Tryz.f57:=⟨_,by cbv⟩
def tf57:a6:=t57.1
theorem Qzp:Qk Tryz.prog Tryz.f57=some tf57.erase:=by kernel_rfl
def t58:TT false Tryz.f58:=⟨_,by cbv⟩
def tf58:a6:=t58.1
theorem Qwg:Qk Tryz.prog Tryz.f58=some tf58.erase:=by kernel_rfl
set_option cbv.maxSteps 100000000
def t7:TT false Tryz.f7:=⟨_,by cbv⟩
def tf7:a6:=t7.1
theorem tp7:Qk Tryz.prog Tryz.f7=some tf7.erase:=by kernel_rfl
end Go.Proofs
