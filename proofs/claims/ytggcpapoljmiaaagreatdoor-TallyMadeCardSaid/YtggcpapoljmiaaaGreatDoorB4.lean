/- Part 4 of the means of the proof: a verified abstract evaluator and contracts of functions. It states nothing of the claim by itself. -/
import Derived.Test.YtggcpapoljmiaaaGreatDoorB3
import Derived.KernelRfl
import Derived.Test.YtggcpapoljmiaaaGreatDoorProg
set_option maxRecDepth 4000
set_option maxHeartbeats 1000000
set_option linter.unusedSimpArgs false
set_option linter.unusedVariables false
set_option linter.unusedSectionVars false
namespace Go.Proofs
open Go Go.Abs
set_option maxRecDepth 100000
def DK (P:Program) (nt:Nat) (b:Bool):Code->Option l8
 | .skip=>some .skip
 | .label _=>some .skip
 | .region _ ops draw=>if draw&&b then(QV P nt ops ops.toList).map .na else(QV P nt ops ops.toList).map (.region draw)
 | .seq x y=>match DK P nt b x,DK P nt b y with
  |some x',some y'=>some (.seq x' y')
  |_,_=>none
 | .cond c x y=>match QP c,DK P nt b x,DK P nt b y with
  |some c',some x',some y'=>some (.cond c' x' y')
  |_,_,_=>none
 | .block id x=>(DK P nt b x).map (.block id)
 | .loop x=>(DK P nt b x).map .loop
 | .scope x=>(DK P nt b x).map .scope
 | .exit id=>some (.exit id)
 | .ret=>some .ret
 | .rangeFunc g ps az y=>(Qmv nt g ps.toList az (DK P nt b y)).map λt=>.z8 t.1 t.2.1 t.2.2.1 t.2.2.2
 |_=>none
def Qxs (P:Program) (b:Bool) (fn:Func):Option o6:=
 match fn.body,Yh P fn.results.toList with
 |some c,some rs=>(DK P fn.ntmps b c).map λx=>tfN ⟨fn.ntmps,rs,x⟩
 |_,_=>none
@[cbv_eval] theorem nbeq (a b:Nat):Nat.beq a b=decide (a=b):=by rw[QFN];simp[Nat.beq_eq]
@[cbv_eval] theorem nblt (a b:Nat):Nat.blt a b=decide (a<b):=by rw[QFN];simp[Nat.blt_eq]
abbrev TT (b:Bool) (f:Func):={t:o6 // Qxs Tryz.prog b f=some t}
theorem tfol:Tryz.prog.follows .mixedOrders=true:=by kernel_rfl
set_option maxHeartbeats 0
set_option cbv.maxSteps 100000000
def t78:TT false Tryz.f78:=⟨_,by cbv⟩
def tf78:o6:=t78.1
theorem QD1:QT Tryz.prog Tryz.f78=some tf78.erase:=by kernel_rfl
def t80:TT false Tryz.f80:=⟨_,by cbv⟩
def tf80:o6:=t80.1
theorem QD3:QT Tryz.prog Tryz.f80=some tf80.erase:=by kernel_rfl
def t82:TT false Tryz.f82:=⟨_,by cbv⟩
def tf82:o6:=t82.1
theorem QD5:QT Tryz.prog Tryz.f82=some tf82.erase:=by kernel_rfl
def QCi:TT false Tryz.f109:=⟨_,by cbv⟩
def tf109:o6:=QCi.1
theorem Qx6:QT Tryz.prog Tryz.f109=some tf109.erase:=by kernel_rfl
def QCo:TT false Tryz.f115:=⟨_,by cbv⟩
def tf115:o6:=QCo.1
theorem Qyc:QT Tryz.prog Tryz.f115=some tf115.erase:=by kernel_rfl
def QCp:TT false Tryz.f116:=⟨_,by cbv⟩
def tf116:o6:=QCp.1
theorem Qyd:QT Tryz.prog Tryz.f116=some tf116.erase:=by kernel_rfl
def QCq:TT false Tryz.f117:=⟨_,by cbv⟩
def tf117:o6:=QCq.1
theorem Qye:QT Tryz.prog Tryz.f117=some tf117.erase:=by kernel_rfl
def QCN:TT false Tryz.f159:=⟨_,by cbv⟩
def tf159:o6:=QCN.1
theorem QyB:QT Tryz.prog Tryz.f159=some tf159.erase:=by kernel_rfl
def QC1:TT false Tryz.f196:=⟨_,by cbv⟩
def tf196:o6:=QC1.1
theorem QyP:QT Tryz.prog Tryz.f196=some tf196.erase:=by kernel_rfl
def QC3:TT false Tryz.f198:=⟨_,by cbv⟩
def tf198:o6:=QC3.1
theorem QyR:QT Tryz.prog Tryz.f198=some tf198.erase:=by kernel_rfl
def QC5:TT false Tryz.f200:=⟨_,by cbv⟩
def tf200:o6:=QC5.1
theorem QyT:QT Tryz.prog Tryz.f200=some tf200.erase:=by kernel_rfl
def QC9:TT false Tryz.f229:=⟨_,by cbv⟩
def tf229:o6:=QC9.1
theorem QyX:QT Tryz.prog Tryz.f229=some tf229.erase:=by kernel_rfl
def QDg:TT false Tryz.f286:=⟨_,by cbv⟩
def tf286:o6:=QDg.1
theorem Qy4:QT Tryz.prog Tryz.f286=some tf286.erase:=by kernel_rfl
set_option cbv.maxSteps 100000000
def t35:TT false Tryz.f35:=⟨_,by cbv⟩
def tf35:o6:=t35.1
theorem QDE:QT Tryz.prog Tryz.f35=some tf35.erase:=by kernel_rfl
def t51:TT false Tryz.f51:=⟨_,by cbv⟩
def tf51:o6:=t51.1
theorem QDM:QT Tryz.prog Tryz.f51=some tf51.erase:=by kernel_rfl
def t81:TT false Tryz.f81:=⟨_,by cbv⟩
def tf81:o6:=t81.1
theorem QD4:QT Tryz.prog Tryz.f81=some tf81.erase:=by kernel_rfl
def t99:TT false Tryz.f99:=⟨_,by cbv⟩
def tf99:o6:=t99.1
theorem QEa:QT Tryz.prog Tryz.f99=some tf99.erase:=by kernel_rfl
def QCs:TT false Tryz.f119:=⟨_,by cbv⟩
def tf119:o6:=QCs.1
theorem Qyg:QT Tryz.prog Tryz.f119=some tf119.erase:=by kernel_rfl
def QCt:TT false Tryz.f120:=⟨_,by cbv⟩
def tf120:o6:=QCt.1
theorem Qyh:QT Tryz.prog Tryz.f120=some tf120.erase:=by kernel_rfl
def QCv:TT false Tryz.f122:=⟨_,by cbv⟩
def tf122:o6:=QCv.1
theorem Qyj:QT Tryz.prog Tryz.f122=some tf122.erase:=by kernel_rfl
def QCy:TT false Tryz.f136:=⟨_,by cbv⟩
def tf136:o6:=QCy.1
theorem Qym:QT Tryz.prog Tryz.f136=some tf136.erase:=by kernel_rfl
def QCB:TT false Tryz.f147:=⟨_,by cbv⟩
def tf147:o6:=QCB.1
theorem Qyp:QT Tryz.prog Tryz.f147=some tf147.erase:=by kernel_rfl
def QCG:TT false Tryz.f152:=⟨_,by cbv⟩
def tf152:o6:=QCG.1
theorem Qyu:QT Tryz.prog Tryz.f152=some tf152.erase:=by kernel_rfl
def QCO:TT false Tryz.f160:=⟨_,by cbv⟩
def tf160:o6:=QCO.1
theorem QyC:QT Tryz.prog Tryz.f160=some tf160.erase:=by kernel_rfl
def QCS:TT false Tryz.f187:=⟨_,by cbv⟩
def tf187:o6:=QCS.1
theorem QyG:QT Tryz.prog Tryz.f187=some tf187.erase:=by kernel_rfl
def QCT:TT false Tryz.f188:=⟨_,by cbv⟩
def tf188:o6:=QCT.1
theorem QyH:QT Tryz.prog Tryz.f188=some tf188.erase:=by kernel_rfl
def QC0:TT false Tryz.f195:=⟨_,by cbv⟩
def tf195:o6:=QC0.1
theorem QyO:QT Tryz.prog Tryz.f195=some tf195.erase:=by kernel_rfl
def QC2:TT false Tryz.f197:=⟨_,by cbv⟩
def tf197:o6:=QC2.1
theorem QyQ:QT Tryz.prog Tryz.f197=some tf197.erase:=by kernel_rfl
def QC4:TT false Tryz.f199:=⟨_,by cbv⟩
def tf199:o6:=QC4.1
theorem QyS:QT Tryz.prog Tryz.f199=some tf199.erase:=by kernel_rfl
def QDb:TT false Tryz.f271:=⟨_,by cbv⟩
def tf271:o6:=QDb.1
theorem QyZ:QT Tryz.prog Tryz.f271=some tf271.erase:=by kernel_rfl
set_option cbv.maxSteps 100000000
def t33:TT false Tryz.f33:=⟨_,by cbv⟩
def tf33:o6:=t33.1
theorem QDC:QT Tryz.prog Tryz.f33=some tf33.erase:=by kernel_rfl
def t83:TT false Tryz.f83:=⟨_,by cbv⟩
def tf83:o6:=t83.1
theorem QD6:QT Tryz.prog Tryz.f83=some tf83.erase:=by kernel_rfl
def t84:TT false Tryz.f84:=⟨_,by cbv⟩
def tf84:o6:=t84.1
theorem QD7:QT Tryz.prog Tryz.f84=some tf84.erase:=by kernel_rfl
def QCl:TT false Tryz.f112:=⟨_,by cbv⟩
def tf112:o6:=QCl.1
theorem Qx9:QT Tryz.prog Tryz.f112=some tf112.erase:=by kernel_rfl
def QCn:TT false Tryz.f114:=⟨_,by cbv⟩
def tf114:o6:=QCn.1
theorem Qyb:QT Tryz.prog Tryz.f114=some tf114.erase:=by kernel_rfl
def QCr:TT false Tryz.f118:=⟨_,by cbv⟩
def tf118:o6:=QCr.1
theorem Qyf:QT Tryz.prog Tryz.f118=some tf118.erase:=by kernel_rfl
def QCu:TT false Tryz.f121:=⟨_,by cbv⟩
def tf121:o6:=QCu.1
theorem Qyi:QT Tryz.prog Tryz.f121=some tf121.erase:=by kernel_rfl
def QCz:TT false Tryz.f145:=⟨_,by cbv⟩
def tf145:o6:=QCz.1
theorem Qyn:QT Tryz.prog Tryz.f145=some tf145.erase:=by kernel_rfl
def QCV:TT false Tryz.f190:=⟨_,by cbv⟩
def tf190:o6:=QCV.1
theorem QyJ:QT Tryz.prog Tryz.f190=some tf190.erase:=by kernel_rfl
def QDa:TT false Tryz.f253:=⟨_,by cbv⟩
def tf253:o6:=QDa.1
theorem QyY:QT Tryz.prog Tryz.f253=some tf253.erase:=by kernel_rfl
def QDc:TT false Tryz.f276:=⟨_,by cbv⟩
def tf276:o6:=QDc.1
theorem Qy0:QT Tryz.prog Tryz.f276=some tf276.erase:=by kernel_rfl
def QDe:TT false Tryz.f281:=⟨_,by cbv⟩
def tf281:o6:=QDe.1
theorem Qy2:QT Tryz.prog Tryz.f281=some tf281.erase:=by kernel_rfl
def QDf:TT false Tryz.f282:=⟨_,by cbv⟩
def tf282:o6:=QDf.1
theorem Qy3:QT Tryz.prog Tryz.f282=some tf282.erase:=by kernel_rfl
def QDh:TT false Tryz.f288:=⟨_,by cbv⟩
def tf288:o6:=QDh.1
theorem Qy5:QT Tryz.prog Tryz.f288=some tf288.erase:=by kernel_rfl
set_option cbv.maxSteps 100000000
def t47:TT false Tryz.f47:=⟨_,by cbv⟩
def tf47:o6:=t47.1
theorem QDK:QT Tryz.prog Tryz.f47=some tf47.erase:=by kernel_rfl
def QCh:TT false Tryz.f108:=⟨_,by cbv⟩
def tf108:o6:=QCh.1
theorem Qx5:QT Tryz.prog Tryz.f108=some tf108.erase:=by kernel_rfl
def QCj:TT false Tryz.f110:=⟨_,by cbv⟩
def tf110:o6:=QCj.1
theorem Qx7:QT Tryz.prog Tryz.f110=some tf110.erase:=by kernel_rfl
def QCH:TT false Tryz.f153:=⟨_,by cbv⟩
def tf153:o6:=QCH.1
theorem Qyv:QT Tryz.prog Tryz.f153=some tf153.erase:=by kernel_rfl
def QCM:TT false Tryz.f158:=⟨_,by cbv⟩
def tf158:o6:=QCM.1
theorem QyA:QT Tryz.prog Tryz.f158=some tf158.erase:=by kernel_rfl
def QCU:TT false Tryz.f189:=⟨_,by cbv⟩
def tf189:o6:=QCU.1
theorem QyI:QT Tryz.prog Tryz.f189=some tf189.erase:=by kernel_rfl
def QCZ:TT false Tryz.f194:=⟨_,by cbv⟩
def tf194:o6:=QCZ.1
theorem QyN:QT Tryz.prog Tryz.f194=some tf194.erase:=by kernel_rfl
def QC8:TT false Tryz.f228:=⟨_,by cbv⟩
def tf228:o6:=QC8.1
theorem QyW:QT Tryz.prog Tryz.f228=some tf228.erase:=by kernel_rfl
def QDd:TT false Tryz.f280:=⟨_,by cbv⟩
def tf280:o6:=QDd.1
theorem Qy1:QT Tryz.prog Tryz.f280=some tf280.erase:=by kernel_rfl
set_option cbv.maxSteps 100000000
def t69:TT false Tryz.f69:=⟨_,by cbv⟩
def tf69:o6:=t69.1
theorem QDU:QT Tryz.prog Tryz.f69=some tf69.erase:=by kernel_rfl
def QCk:TT false Tryz.f111:=⟨_,by cbv⟩
def tf111:o6:=QCk.1
theorem Qx8:QT Tryz.prog Tryz.f111=some tf111.erase:=by kernel_rfl
def QCm:TT false Tryz.f113:=⟨_,by cbv⟩
def tf113:o6:=QCm.1
theorem Qya:QT Tryz.prog Tryz.f113=some tf113.erase:=by kernel_rfl
def QCw:TT false Tryz.f123:=⟨_,by cbv⟩
def tf123:o6:=QCw.1
theorem Qyk:QT Tryz.prog Tryz.f123=some tf123.erase:=by kernel_rfl
def QCA:TT false Tryz.f146:=⟨_,by cbv⟩
def tf146:o6:=QCA.1
theorem Qyo:QT Tryz.prog Tryz.f146=some tf146.erase:=by kernel_rfl
def QCI:TT false Tryz.f154:=⟨_,by cbv⟩
def tf154:o6:=QCI.1
theorem Qyw:QT Tryz.prog Tryz.f154=some tf154.erase:=by kernel_rfl
def QCJ:TT false Tryz.f155:=⟨_,by cbv⟩
def tf155:o6:=QCJ.1
theorem Qyx:QT Tryz.prog Tryz.f155=some tf155.erase:=by kernel_rfl
def QCK:TT false Tryz.f156:=⟨_,by cbv⟩
def tf156:o6:=QCK.1
theorem Qyy:QT Tryz.prog Tryz.f156=some tf156.erase:=by kernel_rfl
def QCL:TT false Tryz.f157:=⟨_,by cbv⟩
def tf157:o6:=QCL.1
theorem Qyz:QT Tryz.prog Tryz.f157=some tf157.erase:=by kernel_rfl
def QCP:TT false Tryz.f161:=⟨_,by cbv⟩
def tf161:o6:=QCP.1
theorem QyD:QT Tryz.prog Tryz.f161=some tf161.erase:=by kernel_rfl
def QCQ:TT false Tryz.f162:=⟨_,by cbv⟩
def tf162:o6:=QCQ.1
theorem QyE:QT Tryz.prog Tryz.f162=some tf162.erase:=by kernel_rfl
def QCW:TT false Tryz.f191:=⟨_,by cbv⟩
def tf191:o6:=QCW.1
theorem QyK:QT Tryz.prog Tryz.f191=some tf191.erase:=by kernel_rfl
def QCX:TT false Tryz.f192:=⟨_,by cbv⟩
def tf192:o6:=QCX.1
theorem QyL:QT Tryz.prog Tryz.f192=some tf192.erase:=by kernel_rfl
def QCY:TT false Tryz.f193:=⟨_,by cbv⟩
def tf193:o6:=QCY.1
theorem QyM:QT Tryz.prog Tryz.f193=some tf193.erase:=by kernel_rfl
def QC7:TT false Tryz.f227:=⟨_,by cbv⟩
def tf227:o6:=QC7.1
theorem QyV:QT Tryz.prog Tryz.f227=some tf227.erase:=by kernel_rfl
def QDi:TT false Tryz.f290:=⟨_,by cbv⟩
def tf290:o6:=QDi.1
theorem Qy6:QT Tryz.prog Tryz.f290=some tf290.erase:=by kernel_rfl
end Go.Proofs
namespace M3
open Go Go.Abs
variable {i:Nat} {s:List UInt8}
def Dn (n:Int):Bool:=decide (0<=n)&&decide (n<=9999)
def Yk (m n:Int):Int:=if m<n then -1 else if n<m then 1 else 0
def X2 (c:UInt8):Bool:=decide (48<=c.toNat)&&decide (c.toNat<=57)
def XF (s:List UInt8):Bool:=s.all X2&&!decide (s=[])
theorem FH (h:i<s.length) (hd:X2 s[i]=false):XF s=false:=by
 have:s.all X2=false:=by
  grind
 grind [XF]
theorem SV (hi:s.length<=i) (h:(s.take i).all X2=true):XF s= !decide (s=[]):=by
 grind [List.take_of_length_le,XF]
def YE (v n:Int):Int:=if v.tmod n<0 then v.tmod n+n else v.tmod n
def mAt (l:List Int) (i:Int):Int:=if i<0\/(l.length:Int)<=i then 0 else l.getD i.toNat 0
def Mj (l:List Int) (i n:Int):Int:=YE (mAt l i) n
def Q0 (l:List Int):D:=.sl (l.map λx=>[.int .i64 x])
end M3
namespace M3
open Go Go.Abs
def Hw (c:Int):List UInt8->List UInt8->List (List UInt8)
 |[],cur=>[cur]
 |x::xs,cur=>if(x.toNat:Int)=c then cur::Hw c xs []else Hw c xs (cur++[x])
def Zr (s:List UInt8) (c:Int):List (List UInt8):=Hw c s []
def JD (l:List (List UInt8)):List (List D):=l.map λx=>[.str x]
def j9 (s:List UInt8) (c:Int) (i k:Nat) (acc:List (List UInt8)):Prop:=
 i<=s.length/\k<=i/\acc.length<=i/\Zr s c=acc++Hw c (s.drop i) ((s.take i).drop k)
theorem j9.zero {s:List UInt8} {c:Int}:j9 s c 0 0 []:=⟨QEu _,QEI _,QEI _,by rfl⟩
theorem j9.pg {s:List UInt8} {c:Int} {i k:Nat} {acc:List (List UInt8)} (h:j9 s c i k acc) (hi:i<s.length) (he:((s[i]).toNat:Int)=c):j9 s c (i+1) (i+1) (acc++[(s.take i).drop k]):=by
 obtain⟨O,M,G,C⟩:=h;refine⟨hi,QEI _,by grind, ?_⟩;rw[QEz hi]at C;simp only[Hw,he,if_true]at C
 grind
theorem j9.dh {s:List UInt8} {c:Int} {i k:Nat} {acc:List (List UInt8)} (h:j9 s c i k acc) (hi:i<s.length) (he:¬((s[i]).toNat:Int)=c):j9 s c (i+1) k acc:=by
 obtain⟨O,M,G,C⟩:=h;refine⟨hi,Wa,Wa, ?_⟩;rw[QEz hi]at C;simp only[Hw,he,if_false]at C
 grind [List.take_succ_eq_append_getElem]
theorem j9.done {s:List UInt8} {c:Int} {i k:Nat} {acc:List (List UInt8)} (h:j9 s c i k acc) (hi:s.length<=i):Zr s c=acc++[s.drop k]:=by
 obtain⟨O,M,G,C⟩:=h;rw[C,QED hi,QEy hi];rfl
end M3
namespace M3
open Go Go.Abs
def J5 (a b:List UInt8):Int:=if Op.bytesLess a b=true then -1 else if a=b then 0 else 1
def JF (c:Int):Bool:=decide (48<=c)&&decide (c<=57)
def Hl (c:UInt8):Bool:=(decide (97<=c.toNat)&&decide (c.toNat<=122))||(decide (48<=c.toNat)&&decide (c.toNat<=57))||decide (c.toNat=45)
def Cv (s:List UInt8):Bool:=decide (1<=s.length)&&decide (s.length<=8)&&s.all Hl
def val (s:List UInt8):Nat:=s.foldl (λn c=>10*n+(c.toNat - 48)) 0
def YC (s:List UInt8):Int × Bool:=
 if s.length<1\/9<s.length\/(1<s.length/\s.head?=some 48)\/s.all X2=false\/9999<val s then(0,false)else((val s:Int),true)
def Qbk (a b:List UInt8):Int:=
 if XF a=true/\XF b=true then Yk (YC a).1 (YC b).1
 else if XF a=true then -1 else if XF b=true then 1 else J5 a b
def QcU:List (List UInt8)->List (List UInt8)->Int
 |[],[]=>0
 |[],_::_=>-1
 |_::_,[]=>1
 |a::l,b::m=>if Qbk a b≠0 then Qbk a b else QcU l m
def PX (a b:List UInt8):Int:=if a=b then 0 else if a=[]then 1 else if b=[]then -1 else QcU (Zr a 46) (Zr b 46)
def Tl (pre:Bool) (t:List UInt8):Bool:=Cv t&&!(pre&&XF t&&!(YC t).2)
def Pg (s:List UInt8) (pre:Bool):Bool:=decide (s=[])||(decide ((Zr s 46).length<=4)&&(Zr s 46).all (Tl pre))
def Ff (a b c:Int) (p q:List UInt8):Bool:=Dn a&&Dn b&&Dn c&&Pg p true&&Pg q false
def Pf (a b c:Int) (p q:List UInt8) (a' b' c':Int) (p' q':List UInt8):Int:=
 if Ff a b c p q=false\/Ff a' b' c' p' q'=false then 0
 else if Yk a a'≠0 then Yk a a' else if Yk b b'≠0 then Yk b b' else if Yk c c'≠0 then Yk c c' else PX p p'
theorem JU {α:Type} {s:List α} {p:α->Bool} {i:Nat} (h:i<s.length) (hd:p s[i]=false):s.all p=false:=by
 grind
theorem MW {α:Type} {s:List α} {p:α->Bool} {i:Nat} (hi:s.length<=i) (h:(s.take i).all p=true):s.all p=true:=by grind [List.take_of_length_le]
theorem QdH {s:List UInt8} {i:Nat} (h:i<s.length):val (s.take (i+1))=10*val (s.take i)+(s[i].toNat - 48):=by
 rw[QFB h];grind [val]
theorem QiQ:∀{s:List UInt8},s.all X2=true->val s<10 ^ s.length:=by
 intro s;rw[<- List.reverse_reverse s];generalize s.reverse=r
 induction r with
 |nil=>trivial
 |cons c r ih=>
  intro h;rw[List.reverse_cons,QFK,QEm]at h;have G:=ih h.1;have C:X2 c=true:=by grind
  simp only[X2,QEm,decide_eq_true_eq]at C;rw[List.reverse_cons]
  grind [val]
theorem Bz {l m:List (List UInt8)} {i:Nat} (G:i<l.length) (C:i<m.length) (h:Qbk l[i] m[i]=0):QcU (l.drop i) (m.drop i)=QcU (l.drop (i+1)) (m.drop (i+1)):=by
 grind [List.drop_eq_getElem_cons,QcU]
theorem QcV {l m:List (List UInt8)} {i:Nat} (G:i<l.length) (C:i<m.length) (h:Qbk l[i] m[i]≠0):QcU (l.drop i) (m.drop i)=Qbk l[i] m[i]:=by
 grind [List.drop_eq_getElem_cons,QcU]
theorem Rh {l m:List (List UInt8)} {i:Nat} (M:i<=l.length) (hm:i<=m.length) (h:l.length<=i\/m.length<=i):QcU (l.drop i) (m.drop i)=Yk l.length m.length:=by
 rcases QEF i l.length with G |G<;>rcases QEF i m.length with C |C
 omega;rw[QEz G,QED C];simp only[QcU,Yk];omega;rw[QEz C,QED G];simp only[QcU,Yk];omega;rw[QED G,QED C];simp only[QcU,Yk];omega
end M3
namespace M3
end M3
namespace M3
theorem QsX {s:List UInt8} (h:0<s.length) (e:((s[0]).toNat:Int)=48):s.head?=some 48:=by
 cases s with
 |nil=>grind
 |cons x r=>
  simp only[List.getElem_cons_zero]at e;have:x=48:=UInt8.toNat_inj.1 Wc
  grind
theorem Qgv {s:List UInt8} (h:0<s.length) (e:¬((s[0]).toNat:Int)=48):s.head?≠some 48:=by
 cases s with
 |nil=>simp
 |cons x r=>
  simp only[List.getElem_cons_zero]at e;intro C
  (repeat clear hK K);simp_all
theorem Qmo {s:List UInt8} {i:Nat} (h:¬(s.length<1\/9<s.length\/(1<s.length/\s.head?=some 48))) (hi:s.length<=i) (ha:(s.take i).all X2=true) (C:val (s.take i)<=9999):YC s=((val (s.take i):Int),true):=by
 (repeat clear hK K);simp_all [QEy,YC]
theorem QoK {s:List UInt8} {i:Nat} (hi:s.length<=i) (C:9999<val (s.take i)):YC s=(0,false):=by
 (repeat clear hK K);simp_all [QEy,YC]
theorem DB {s:List UInt8} {i:Nat} (h:i<s.length) (hd:X2 s[i]=false):YC s=(0,false):=by
 rw[YC,if_pos (.inr (.inr (.inr (.inl (JU h hd)))))]
theorem Qhe {s:List UInt8} (h:s.length<1\/9<s.length):YC s=(0,false):=by
 rw[YC,if_pos Wa]
theorem Qc7 {s:List UInt8} (h:1<s.length) (e:((s[0]).toNat:Int)=48):YC s=(0,false):=by
 rw[YC,if_pos (.inr (.inr (.inl ⟨h,QsX Wa e⟩)))]
end M3
namespace M3
open Go Go.Abs
theorem QU (l:List (List UInt8)):(JD l).length=l.length:=by simp[JD]
theorem Ke {l:List (List UInt8)} {i:Nat} (h:i<l.length):(JD l)[((i:Nat):Int).toNat]?=some [.str l[i]]:=by simp[JD,h]
theorem Gq {c:Int}:∀(s cur:List UInt8),(Hw c s cur).length<=s.length+1/\∀x∈Hw c s cur,x.length<=s.length+cur.length
 |[],cur=>by simp[Hw]
 |x::xs,cur=>by
  simp only[Hw];split;obtain⟨G,C⟩:=Gq (c:=c) xs []
  grind
  obtain⟨G,C⟩:=Gq (c:=c) xs (cur++[x])
  grind
theorem MH {s:List UInt8} {c:Int}:(Zr s c).length<=s.length+1:=(Gq s []).1
theorem Ki {s:List UInt8} {c:Int} {i:Nat} (h:i<(Zr s c).length) (C:s.length<=1048576):((Zr s c)[i]).length<=1048576:=by
 have:=(Gq (c:=c) s []).2 _ (QEn h)
 grind
end M3
namespace M3
open Go Go.Abs
theorem QcX {s:List UInt8} {pre:Bool} {i:Nat} (C:s≠[]) (h:i<(Zr s 46).length) (hd:Tl pre (Zr s 46)[i]=false):Pg s pre=false:=by
 grind [Pg]
theorem QgZ {s:List UInt8} {pre:Bool} {i:Nat} (C:(Zr s 46).length<=4) (hi:(Zr s 46).length<=i) (h:((Zr s 46).take i).all (Tl pre)=true):Pg s pre=true:=by
 grind [Pg,MW]
def Yt:List Int->Int
 |[]=>0
 |x::r=>if x≠0 then x else Yt r
theorem QaZ {l:List Int} {i:Nat} (h:i<l.length) (e:¬l[i]=0):Yt (l.drop i)=l[i]:=by
 grind [List.drop_eq_getElem_cons,Yt]
theorem Bd {l:List Int} {i:Nat} (h:i<l.length) (e:l[i]=0):Yt (l.drop i)=Yt (l.drop (i+1)):=by
 grind [List.drop_eq_getElem_cons,Yt]
end M3
namespace M3
open Go Go.Abs
structure Cu where
 e:Int
 a:Int
 b:Int
 c:Int
 p:List UInt8
 q:List UInt8
 f:Bool
def JO (e a b c:Int) (p q:List UInt8) (f:Bool):Bool:=
 if e=0 then Ff a b c p q&&decide (q=[])
 else(decide (e= -1)||decide (e=1))&&(decide (a=0)&&(decide (b=0)&&(decide (c=0)&&(decide (p=[])&&(decide (q=[])&&true)))))&&!f
def Hq (e a b c:Int) (p q:List UInt8) (f:Bool) (e' a' b' c':Int) (p' q':List UInt8) (f':Bool):Int:=
 if JO e a b c p q f=false\/JO e' a' b' c' p' q' f'=false then 0
 else if e≠e'\/e≠0 then Yk e e'
 else if Pf a b c p q a' b' c' p' q'≠0 then Pf a b c p q a' b' c' p' q'
 else if f=f' then 0 else if f'=true then -1 else 1
def J4 (e a b c:Int) (p q:List UInt8) (f:Bool) (a' b' c':Int) (p' q':List UInt8):Bool:=
 if JO e a b c p q f=false\/Ff a' b' c' p' q'=false then false
 else if e≠0 then decide (e<0)
 else decide (Pf a b c p q a' b' c' p' q'<0)||(decide (Pf a b c p q a' b' c' p' q'=0)&&!f)
end M3
namespace M3
def SM (e a b c:Int) (p q:List UInt8) (f:Bool) (e' a' b' c':Int) (p' q':List UInt8) (f':Bool):Bool:=
 JO e a b c p q f&&JO e' a' b' c' p' q' f'&&decide (Hq e a b c p q f e' a' b' c' p' q' f'<0)
def Fe (e a b c:Int) (p q:List UInt8) (f:Bool) (e' a' b' c':Int) (p' q':List UInt8) (f':Bool) (x y z:Int) (r s:List UInt8):Bool:=
 SM e a b c p q f e' a' b' c' p' q' f'&&Ff x y z r s&&J4 e a b c p q f x y z r s&&!J4 e' a' b' c' p' q' f' x y z r s
end M3
namespace M3
open Go Go.Abs
theorem Qc6 {s:List UInt8} (h:s=[]\/4<s.length):YC s=(0,false):=by
 rcases h with rfl |h;rfl;unfold YC;split;rfl;rename_i G;exfalso;apply G
 by_cases h1:s.head?=some 48
 grind
 cases hd:s.all X2 with
 |false=>simp
 |true=>
  refine .inr (.inr (.inr (.inr ?_)));cases s with
  |nil=>grind
  |cons x r=>
   simp only[QFk,QEm,X2,decide_eq_true_eq]at hd;simp only[List.head?_cons,QEl]at h1
   have hx:1<=x.toNat - 48:=by
    have:x.toNat≠48:=λe=>h1 (UInt8.toNat_inj.1 Wc);omega
   have key:∀(r:List UInt8) (n:Nat),n*10 ^ r.length<=r.foldl (λn c=>10*n+(c.toNat - 48)) n:=by
    intro r
    induction r with
    |nil=>simp
    |cons c r C=>
     intro n;simp only[QER,QEZ];refine QEB ?_ (C _);rw[Nat.pow_succ,<- Nat.mul_assoc,Nat.mul_right_comm]
     grind
   have T:=key r (10*0+(x.toNat - 48));have O:10 ^ 4<=10 ^ r.length:=QFO Wa Wc;have M:10 ^ r.length<=(10*0+(x.toNat - 48))*10 ^ r.length:=Nat.le_mul_of_pos_left _ Wa;show 9999<(x::r).foldl (λn c=>10*n+(c.toNat - 48)) 0
   grind
theorem QoJ {s:List UInt8} {i:Nat} (h:¬(s=[]\/4<s.length\/(1<s.length/\s.head?=some 48))) (hi:s.length<=i) (ha:(s.take i).all X2=true):YC s=((val (s.take i):Int),true):=by
 have G:=MW hi ha;have M:=QiQ G;have C:s.length<=4:=Nat.le_of_not_lt λq=>h (.inr (.inl q));have hp:10 ^ s.length<=10 ^ 4:=QFO Wa C;refine Qmo ?_ hi ha ?_
 grind
 grind [List.take_of_length_le]
end M3
namespace M3
open Go Go.Abs
def Ni (s:List UInt8):Bool:=decide ((Zr s 46).length<=4)&&(Zr s 46).all Cv
theorem Qoy {t:List UInt8} (h0:¬t=[]) (C:t.length<=8) (h:t.all Hl=true):Cv t=true:=by
 grind [List.length_pos_iff,Cv]
theorem QcW {t:List UInt8} (h:t=[]\/8<t.length):Cv t=false:=by
 rcases h with rfl |h;rfl
 grind [Cv]
theorem Ri {t:List UInt8} (h:t.all Hl=false):Cv t=false:=by simp[Cv,h]
theorem FN {s:List UInt8} {i:Nat} (h:i<(Zr s 46).length) (hd:Cv (Zr s 46)[i]=false):Ni s=false:=by
 rw[Ni,JU h hd,QFP]
theorem Qim {s:List UInt8} {i:Nat} (hi:(Zr s 46).length<=i) (h:((Zr s 46).take i).all Cv=true):Ni s=decide ((Zr s 46).length<=4):=by
 rw[Ni,MW hi h,QFj]
theorem Gm (s:List UInt8):Pg s false=(decide (s=[])||Ni s):=by
 grind [Tl,Pg,Ni]
end M3
namespace M3
open Go Go.Abs
def BV (t:List UInt8):Bool:=!(XF t&&!(YC t).2)
def By (s:List UInt8):Bool:=Ni s&&(Zr s 46).all BV
theorem Qo5 {s:List UInt8} {i:Nat} (h:i<(Zr s 46).length) (hd:BV (Zr s 46)[i]=false):By s=false:=by
 rw[By,JU h hd,QFP]
theorem QkM {s:List UInt8} {i:Nat} (C:Ni s=true) (hi:(Zr s 46).length<=i) (h:((Zr s 46).take i).all BV=true):By s=true:=by
 grind [By,MW]
theorem HT (s:List UInt8):Pg s true=(decide (s=[])||By s):=by
 grind [Tl,BV,Pg,By,Ni]
theorem Lg {a b:Int}:Yk a b=0↔a=b:=by grind [Yk]
theorem Qsp {a b c:Int} {p q:List UInt8} {a' b' c':Int} {p' q':List UInt8} (G:Ff a b c p q=true) (C:Ff a' b' c' p' q'=true)
 (h:(decide (a=a')&&(decide (b=b')&&(decide (c=c')&&(decide (p=p')&&(decide (([]:List UInt8)=[])&&true)))))=true):Pf a b c p q a' b' c' p' q'=0:=by
 simp only[QEm,decide_eq_true_eq,and_true]at h;obtain⟨rfl,rfl,rfl,rfl⟩:=h;have e:∀x,Yk x x=0:=λx=>Lg.2 rfl
 grind [Pf,PX]
theorem QnL {a b c:Int} {p q:List UInt8} {a' b' c':Int} {p' q':List UInt8} (G:Ff a b c p q=true) (C:Ff a' b' c' p' q'=true)
 (h:¬Yt [Yk a a',Yk b b',Yk c c']=0):Yt [Yk a a',Yk b b',Yk c c']=Pf a b c p q a' b' c' p' q':=by
 simp only[Yt,Pf,G,C]at h ⊢
 grind
theorem R8 {a b c:Int} {p q:List UInt8} {a' b' c':Int} {p' q':List UInt8} (G:Ff a b c p q=true) (C:Ff a' b' c' p' q'=true) (h:Yt [Yk a a',Yk b b',Yk c c']=0):
  Pf a b c p q a' b' c' p' q'=PX p p':=by
 simp only[Yt]at h;simp only[Pf,G,C,Bool.true_eq_false,or_self,if_false];omega
theorem QlT {a b c:Int} {p:List UInt8} {a' b' c':Int} {p':List UInt8} (h:(decide (a=a')&&(decide (b=b')&&(decide (c=c')&&(decide (p=p')&&(decide (([]:List UInt8)=[])&&true)))))=false)
 (h0:Yt [Yk a a',Yk b b',Yk c c']=0):p≠p':=by
 rintro rfl
 grind [Yt,Lg]
theorem QjR {a b c:Int} {p q:List UInt8} {a' b' c':Int} {p' q':List UInt8} (G:Ff a b c p q=true) (C:Ff a' b' c' p' q'=true)
 (h:(decide (a=a')&&(decide (b=b')&&(decide (c=c')&&(decide (p=p')&&(decide (([]:List UInt8)=[])&&true)))))=false)
 (h0:Yt [Yk a a',Yk b b',Yk c c']=0) (hp:p=[]):Pf a b c p q a' b' c' p' q'=1:=by
 rw[R8 G C h0,PX,if_neg (QlT h h0),if_pos hp]
theorem QjS {a b c:Int} {p q:List UInt8} {a' b' c':Int} {p' q':List UInt8} (M:Ff a b c p q=true) (G:Ff a' b' c' p' q'=true)
 (h0:Yt [Yk a a',Yk b b',Yk c c']=0) (hp:¬p=[]) (C:p'=[]):Pf a b c p q a' b' c' p' q'= -1:=by
 (repeat clear hK K);simp_all [R8,PX]
theorem QnM {a b c:Int} {p q:List UInt8} {a' b' c':Int} {p' q':List UInt8} (M:Ff a b c p q=true) (G:Ff a' b' c' p' q'=true)
 (h:(decide (a=a')&&(decide (b=b')&&(decide (c=c')&&(decide (p=p')&&(decide (([]:List UInt8)=[])&&true)))))=false)
 (h0:Yt [Yk a a',Yk b b',Yk c c']=0) (hp:¬p=[]) (C:¬p'=[]):Pf a b c p q a' b' c' p' q'=QcU ((Zr p 46).drop 0) ((Zr p' 46).drop 0):=by
 rw[R8 M G h0,PX,if_neg (QlT h h0),if_neg hp,if_neg C];rfl
end M3
namespace M3
open Go Go.Abs
theorem QjL {e a b c:Int} {p q:List UInt8} {f:Bool} {e' a' b' c':Int} {p' q':List UInt8} {f':Bool} (G:JO e a b c p q f=true) (C:JO e' a' b' c' p' q' f'=true) (h:¬e=0\/¬e'=0):
  Hq e a b c p q f e' a' b' c' p' q' f'=Yk e e':=by
 rw[Hq,G,C,if_neg Wd,if_pos];omega
end M3
namespace Go.Proofs
open Go Go.Abs M3
variable {c m n:Int} {p:Prop} {s:List UInt8}
theorem Hi:Ok Tryz.prog 112 [.int .i64 n] (.bool (Dn n)):=by
 refine Ok.n7 tfol Tryz.func112 Qx9 (QEi Z) ?_;show TW _ _ tf112.body _ _;refine Qd λK G=>Qb Z (kc1 G Z (Qd λK G=>Qb Z (Gw Z Z (Qb Z (Qq (g:=5) Z (λC=>?_) (λC=>?_))))));rw[C];simp only[qB]at C;refine Qc Z (Qb Z (Qc Z (Cr Z Z (Qh Z Z (Qb Z (kc1 G Z (Qv (Qg Z ?_))))))))
 grind [Dn]
 rw[C];simp only[qB]at C;refine gn2 Z Z (Qh Z Z (Qb Z (kc1 G Z (Qv (Qg Z ?_)))))
 grind [Dn]
theorem XZ:Ok Tryz.prog 161 [.int .i64 n] (.bool (Dn n)):=by
 refine Ok.n7 tfol Tryz.func161 QyD (QEi Z) ?_;show TW _ _ tf161.body _ _;refine Qd λK G=>Qb Z (kc1 G Z (Qd λK G=>Qb Z (Gw Z Z (Qb Z (Qq (g:=5) Z (λC=>?_) (λC=>?_))))));rw[C];simp only[qB]at C;refine Qc Z (Qb Z (Qc Z (Cr Z Z (Qh Z Z (Qb Z (kc1 G Z (Qv (Qg Z ?_))))))))
 grind [Dn]
 rw[C];simp only[qB]at C;refine gn2 Z Z (Qh Z Z (Qb Z (kc1 G Z (Qv (Qg Z ?_)))))
 grind [Dn]
theorem GQ:Ok Tryz.prog 155 [.int .i64 n] (.bool false):=by
 refine Ok.n7 tfol Tryz.func155 Qyx (QEi Z) ?_;show TW _ _ tf155.body _ _;refine Qd λK C=>Qb Z (kc1 C Z (Qd λK C=>mv2 Z Z (Ys Z Z (Qb Z (kc1 C Z (Qv (Qg Z ?_)))))));simp
theorem ZN:Ok Tryz.prog 189 [.int .i64 m,.int .i64 n] (.int .i64 (Yk m n)):=by
 refine Ok.n7 tfol Tryz.func189 QyI (QEi Z) ?_;show TW _ _ tf189.body _ _;refine Qd λK C=>Qb Z (kc2 C Z Z (Qw (Qu (Qd λK C=>mv2 Z Z (ZK Z Z (Qb Z (kc3 C Z Z Z (Qs Z (λM=>?_) (λM=>?_)))))))));rw[M];simp only[qB]at M;refine Qd λK C=>Qb Z (kc1 C Z (Qv (Qm (Qi (QR Z ?_)))))
 grind [Yk]
 rw[M];simp only[qB]at M;refine Qd λK C=>mv2 Z Z (Jh Z Z (Qb Z (kc1 C Z (Qs Z (λG=>?_) (λG=>?_)))));rw[G];simp only[qB]at G;refine Qd λK C=>Qb Z (kc1 C Z (Qv (Qm (Qi (QR Z ?_)))))
 grind [Yk]
 rw[G];simp only[qB]at G;refine Qp (Qk (QK (QL) (Qd λK C=>Qb Z (kc1 C Z (Qv (QR Z ?_))))))
 grind [Yk]
theorem ZY:Ok Tryz.prog 116 [.int .i64 m,.int .i64 n] (.int .i64 (Yk m n)):=by
 refine Ok.n7 tfol Tryz.func116 Qyd (QEi Z) ?_;show TW _ _ tf116.body _ _;refine Qd λK C=>Qb Z (kc2 C Z Z (Qd λK C=>Qb Z (QA (GQ) Z Z (.inr Z) (Qb Z (kc3 C Z Z Z (Qd λK C=>Qb Z (QA (GQ) Z Z (.inr Z) (Qb Z (kc4 C Z Z Z Z (Qw (Qd λK C=>Qb Z (kc4 C Z Z Z Z (Qs Z (λT=>?_) (λT=>?_))))))))))))))
 grind
 rw[T];simp only[qB]at T;refine Qp (ks3 Z Z Z (Qw (Qd λK C=>Qb Z (kc3 C Z Z Z (Qs Z (λO=>?_) (λO=>?_))))))
 grind
 rw[O];simp only[qB]at O;refine Qp (ks2 Z Z (Qw (Qd λK C=>mv2 Z Z (ZK Z Z (kc3 C Z Z Z (Qs Z (λM=>?_) (λM=>?_)))))));rw[M];simp only[qB]at M;refine Qd λK C=>Qb Z (kc1 C Z (Qv (Qi (QR Z ?_))))
 grind [Yk]
 rw[M];simp only[qB]at M;refine Qp (ks2 Z Z (Qw (Qd λK C=>mv2 Z Z (Jh Z Z (kc1 C Z (Qs Z (λG=>?_) (λG=>?_)))))));rw[G];simp only[qB]at G;refine Qd λK C=>Qb Z (kc1 C Z (Qv (Qi (QR Z ?_))))
 grind [Yk]
 rw[G];simp only[qB]at G;refine Qp (QK (QL) (Qd λK C=>Qb Z (kc1 C Z (Qv (QR Z ?_)))))
 grind [Yk]
theorem _root_.Wn (h:p:=by grind [X2]):p:=h
theorem _root_.Wb (h:p:=by exact Qn (by omega) (by omega)):p:=h
theorem Jj (T:s.length<=1048576):Ok Tryz.prog 154 [.str s] (.bool (XF s)):=by
 refine Ok.n7 tfol Tryz.func154 Qyw (QEi Z) ?_;show TW _ _ tf154.body _ _;refine Qd λK C=>Qb Z (kc1 C Z (Qw (Qd λK C=>Qb Z (YQ Z (Qb Z (kc3 C Z Z Z (Qu (Q8 (ι:=Nat) (λi=>⟨[(0,.str s),(5,.int .i64 s.length),(6,.int .i64 i)],[]⟩) (λi=>i<=s.length/\(s.take i).all X2=true) (λi=>s.length - i) 0 ?_ ?_ ?_))))))));exact Zn (kp3 Z Z Z);simp;intro i U;refine Qd λK C=>ZK Z Z (kc4 C Z Z Z Z (Qw (Qs Z (λO=>?_) (λO=>?_))));rw[O];simp only[qB]at O;refine Qp (ks3 Z Z Z (Qw (Qu (Qd λK C=>mv2 Z Z (kc4 C Z Z Z Z (Qd λK C=>mv2 Z Z (YK Z Z Wa (G4 Wa) (ZK Z Z (Qb Z (Qq (g:=13) Z (λM=>?_) (λM=>?_)))))))))));rw[M];simp only[qB]at M;refine gn4 Z Z Z Z (Qh Z Z (kc4 C Z Z Z Z (Zb Z (Qd λK C=>Qb Z (kc1 C Z (Qv (Qm (Qi (QQ (Qm (Qi (Qg Z ?_))))))))))));exact(FH (i:=i) Wa Wn).symm;rw[M];simp only[qB]at M;refine Qc Z (Qb Z (Qc Z (Qb Z (Qc Z (YK Z Z Wa (G4 Wa) (Qc Z (Jh Z Z (Qh Z Z (kc4 C Z Z Z Z (Qs Z (λG=>?_) (λG=>?_)))))))))));rw[G];simp only[qB]at G;refine Qd λK C=>Qb Z (kc1 C Z (Qv (Qm (Qi (QQ (Qm (Qi (Qg Z ?_))))))));exact(FH (i:=i) Wa Wn).symm;rw[G];simp only[qB]at G;refine Qp (Qk (ks3 Z Z Z (QJ λK C=>Q2 Z Z Wb (Qb Z (C _ (Qj (i+1) ?_ ?_ ?_))))));exact Zn (kp3 Z Z Z)
 grind [ZW,X2]
 omega;rw[O];simp only[qB]at O;refine Q3 (QF (Qx (QD (ks1 Z (Qd λK C=>Qb Z (QdQ Z Z (Qb Z (kc1 C Z (Qv (Qg Z ?_))))))))))
 grind [SV]
theorem Z2 {v:Int} (M:0<n/\n<=9223372036854775807) (U: -9223372036854775808<=v/\v<=9223372036854775807):Ok Tryz.prog 35 [.int .i64 v,.int .i64 n] (.int .i64 (YE v n)):=by
 refine Ok.n7 tfol Tryz.func35 QDE (QEi Z) ?_;show TW _ _ tf35.body _ _;have T:=Int.tmod_lt_of_pos v M.1;have O:=Int.lt_tmod_of_pos v M.1;refine Qd λK C=>Qb Z (kc2 C Z Z (Qd λK C=>mv2 Z Z (Qwl Z Z Wa (Qb Z (kc2 C Z Z (Qw (Qd λK C=>Qb Z (ZK Z Z (kc3 C Z Z Z (Qs Z (λG=>?_) (λG=>?_)))))))))));rw[G];simp only[qB]at G;refine QJ λK C=>mv2 Z Z (Q2 Z Z Wb (Qb Z (C _ (ks1 Z (Qd λK C=>mv2 Z Z (kc1 C Z (Qv (QR Z ?_))))))))
 grind [YE]
 rw[G];simp only[qB]at G;refine Qp (ks1 Z (Qd λK C=>mv2 Z Z (kc1 C Z (Qv (QR Z ?_)))))
 grind [YE]
theorem Xv (Y:s.length<=1048576):Ok Tryz.prog 197 [.str s,.int .u8 c] (.sl (JD (Zr s c))):=by
 refine Ok.n7 tfol Tryz.func197 QyQ (QEi Z) ?_;show TW _ _ tf197.body _ _;refine Qd λK C=>Qb Z (kc2 C Z Z (Qd λK C=>Qb Z (kc3 C Z Z Z (Qd λK C=>Qb Z (kc4 C Z Z Z Z (Qw (Qd λK C=>Qb Z (kc5 C Z Z Z Z Z (Qu (Q8 (ι:=Nat × Nat × List (List UInt8)) (λ⟨i,k,acc⟩=>⟨[(0,.str s),(1,.int .u8 c),(5,.u4 25 acc.length),(6,.int .i64 k),(7,.int .i64 i)],[(25,⟨JD acc,1,9,true⟩)]⟩) (λ⟨i,k,acc⟩=>j9 s c i k acc) (λ⟨i,k,acc⟩=>s.length - i) (0,0,[]) ?_ ?_ ?_))))))))));exact le_trans (Z1 5 25 1 9 Z Z) (QM (l:=[0,1,5,6,7]) (lH:=[25]) (kp5 Z Z Z Z Z) (Qa Z Qf) Z Z Z);exact j9.zero;intro ⟨i,k,acc⟩ G;have V:=G.1;have U:=G.2.1;have T:=G.2.2.1;dsimp only;refine Qw (Qd λK C=>mv2 Z Z (YQ Z (ZK Z Z (kc6 C Z Z Z Z Z Z (Qs Z (λO=>?_) (λO=>?_))))));rw[O];simp only[qB]at O;refine Qp (ks5 Z Z Z Z Z (Qw (Qu (Qd λK C=>mv2 Z Z (YK Z Z Wa (G4 Wa) (Qb Z (Yp Z Z (kc6 C Z Z Z Z Z Z (Qs Z (λM=>?_) (λM=>?_))))))))));rw[M];simp only[qB]at M;refine Qd λK C=>mv2 Z Z (mv2 Z Z (Ft Z Z Z Wa Wa Wa Z (QZ Z Z (Yl Z Z (λ_ h=>YZ Z Z Z h) Z (by simp[JD]) Z Z Z Wc Wc (Qb Z (kc4 C Z Z Z Z ?_))))));refine QJ λK C=>Qb Z (Q2 Z Z Wb (Qb Z (C _ (Qk (ks5 Z Z Z Z Z (QJ λK C=>Qb Z (Q2 Z Z Wb (Qb Z (C _ (Qj (i+1,i+1,acc++[(s.take i).drop k]) ?_ ?_ ?_))))))))));exact QM (l:=[0,1,5,6,7]) (lH:=[25]) (kp5 Z Z Z Z Z) (Qa Z Qf) (by simp[JD,D.n4]) (by simp[JD,x4.n4]) Z;exact G.pg Wa Wa;omega;rw[M];simp only[qB]at M;refine Qp (Qk (ks5 Z Z Z Z Z (QJ λK C=>Qb Z (Q2 Z Z Wb (Qb Z (C _ (Qj (i+1,k,acc) ?_ ?_ ?_)))))));exact QM (l:=[0,1,5,6,7]) (lH:=[25]) (kp5 Z Z Z Z Z) (Qa Z Qf) Wg Wg Z;exact G.dh Wa Wa;omega
 ·rw[O];simp only[qB]at O;refine Q3 (QF (Qx (QD (ks3 Z Z Z (Qd λK C=>mv2 Z Z (Qb Z (Ft Z Z Z Wa Wa Wa Z (QZ Z Z (Yl Z Z (λ_ h=>YZ Z Z Z h) Z (by simp[JD]) Z Z Z Wc Wc ?_)))))))));refine Qb Z (kc1 C Z (Qv (ZU Z ?_)));rw[G.done Wa];simp[XX,D.fz,D.x7,Jt,lk,D.can,D.x6,JD]
theorem J9 (Y:s.length<=1048576):Ok Tryz.prog 117 [.str s,.int .u8 c] (.sl (JD (Zr s c))):=by
 refine Ok.n7 tfol Tryz.func117 Qye (QEi Z) ?_;show TW _ _ tf117.body _ _;refine Qd λK C=>Qb Z (kc2 C Z Z (Qd λK C=>Qb Z (kc3 C Z Z Z (Qd λK C=>Qb Z (kc4 C Z Z Z Z (Qw (Qd λK C=>Qb Z (YQ Z (Qb Z (kc6 C Z Z Z Z Z Z (Qu (Q8 (ι:=Nat × Nat × List (List UInt8)) (λ⟨i,k,acc⟩=>⟨[(0,.str s),(1,.int .u8 c),(5,.u4 24 acc.length),(6,.int .i64 k),(9,.int .i64 s.length),(10,.int .i64 i)],[(24,⟨JD acc,1,9,true⟩)]⟩) (λ⟨i,k,acc⟩=>j9 s c i k acc) (λ⟨i,k,acc⟩=>s.length - i) (0,0,[]) ?_ ?_ ?_))))))))))));exact le_trans (Z1 5 24 1 9 Z Z) (QM (l:=[0,1,5,6,9,10]) (lH:=[24]) (kp6 Z Z Z Z Z Z) (Qa Z Qf) Z Z Z);exact j9.zero;intro ⟨i,k,acc⟩ G;have V:=G.1;have U:=G.2.1;have T:=G.2.2.1;dsimp only;refine Qd λK C=>ZK Z Z (kc7 C Z Z Z Z Z Z Z (Qw (Qs Z (λO=>?_) (λO=>?_))));rw[O];simp only[qB]at O;refine Qp (ks6 Z Z Z Z Z Z (Qw (Qu (Qd λK C=>mv2 Z Z (kc7 C Z Z Z Z Z Z Z (Qd λK C=>mv2 Z Z (YK Z Z Wa (G4 Wa) (Qb Z (Yp Z Z (kc8 C Z Z Z Z Z Z Z Z (Qs Z (λM=>?_) (λM=>?_))))))))))));rw[M];simp only[qB]at M;refine Qd λK C=>mv2 Z Z (mv2 Z Z (Ft Z Z Z Wa Wa Wa Z (QZ Z Z (Yl Z Z (λ_ h=>YZ Z Z Z h) Z (by simp[JD]) Z Z Z Wc Wc (Qb Z (kc6 C Z Z Z Z Z Z ?_))))));refine QJ λK C=>Qb Z (Q2 Z Z Wb (Qb Z (C _ (Qk (ks6 Z Z Z Z Z Z (QJ λK C=>Q2 Z Z Wb (Qb Z (C _ (Qj (i+1,i+1,acc++[(s.take i).drop k]) ?_ ?_ ?_)))))))));exact QM (l:=[0,1,5,6,9,10]) (lH:=[24]) (kp6 Z Z Z Z Z Z) (Qa Z Qf) (by simp[JD,D.n4]) (by simp[JD,x4.n4]) Z;exact G.pg Wa Wa;omega;rw[M];simp only[qB]at M;refine Qp (Qk (ks6 Z Z Z Z Z Z (QJ λK C=>Q2 Z Z Wb (Qb Z (C _ (Qj (i+1,k,acc) ?_ ?_ ?_))))));exact QM (l:=[0,1,5,6,9,10]) (lH:=[24]) (kp6 Z Z Z Z Z Z) (Qa Z Qf) Wg Wg Z;exact G.dh Wa Wa;omega
 ·rw[O];simp only[qB]at O;refine Q3 (QF (Qx (QD (ks3 Z Z Z (Qd λK C=>mv2 Z Z (Qb Z (Ft Z Z Z Wa Wa Wa Z (QZ Z Z (Yl Z Z (λ_ h=>YZ Z Z Z h) Z (by simp[JD]) Z Z Z Wc Wc ?_)))))))));refine Qb Z (kc1 C Z (Qv (ZU Z ?_)));rw[G.done Wa];simp[XX,D.fz,D.x7,Jt,lk,D.can,D.x6,JD]
variable {a b:List UInt8}
theorem KU:Ok Tryz.prog 152 [.str s] (.bool false):=by
 refine Ok.n7 tfol Tryz.func152 Qyu (QEi Z) ?_;show TW _ _ tf152.body _ _;refine Qd λK C=>Qb Z (kc1 C Z (Qd λK C=>mv2 Z Z (QdQ Z Z (Qb Z (kc1 C Z (Qv (Qg Z ?_)))))));simp
theorem Xt:Ok Tryz.prog 111 [.str a,.str b] (.int .i64 (J5 a b)):=by
 refine Ok.n7 tfol Tryz.func111 Qx8 (QEi Z) ?_;show TW _ _ tf111.body _ _;refine Qd λK C=>Qb Z (kc2 C Z Z (Qd λK C=>Qb Z (QA (KU) Z Z (.inr Z) (Qb Z (kc3 C Z Z Z (Qd λK C=>Qb Z (QA (KU) Z Z (.inr Z) (Qb Z (kc4 C Z Z Z Z (Qw (Qd λK C=>Qb Z (kc4 C Z Z Z Z (Qs Z (λT=>?_) (λT=>?_))))))))))))))
 grind
 rw[T];simp only[qB]at T;refine Qp (ks3 Z Z Z (Qw (Qd λK C=>Qb Z (kc3 C Z Z Z (Qs Z (λO=>?_) (λO=>?_))))))
 grind
 rw[O];simp only[qB]at O;refine Qp (ks2 Z Z (Qw (Qd λK C=>mv2 Z Z (Qjl Z Z (kc3 C Z Z Z (Qs Z (λM=>?_) (λM=>?_)))))));rw[M];refine Qd λK C=>Qb Z (kc1 C Z (Qv (Qi (QR Z ?_))))
 grind [J5]
 rw[M];refine Qp (ks2 Z Z (Qw (Qd λK C=>mv2 Z Z (QrR Z Z (kc1 C Z (Qs Z (λG=>?_) (λG=>?_)))))));rw[G];simp only[qB]at G;refine Qd λK C=>Qb Z (kc1 C Z (Qv (Qi (QR Z ?_))))
 grind [J5]
 rw[G];simp only[qB]at G;refine Qp (QK (QL) (Qd λK C=>Qb Z (kc1 C Z (Qv (QR Z ?_)))))
 grind [J5]
theorem F1:Ok Tryz.prog 253 [.str a,.str b] (.int .i64 (J5 a b)):=by
 refine Ok.n7 tfol Tryz.func253 QyY (QEi Z) ?_;show TW _ _ tf253.body _ _;refine Qd λK C=>Qb Z (kc2 C Z Z (Qw (Qu (Qd λK C=>mv2 Z Z (Qjl Z Z (Qb Z (kc3 C Z Z Z (Qs Z (λM=>?_) (λM=>?_)))))))));rw[M];refine Qd λK C=>Qb Z (kc1 C Z (Qv (Qm (Qi (QR Z ?_)))))
 grind [J5]
 rw[M];refine Qd λK C=>mv2 Z Z (QrR Z Z (Qb Z (kc1 C Z (Qs Z (λG=>?_) (λG=>?_)))));rw[G];simp only[qB]at G;refine Qd λK C=>Qb Z (kc1 C Z (Qv (Qm (Qi (QR Z ?_)))))
 grind [J5]
 rw[G];simp only[qB]at G;refine Qp (Qk (QK (QL) (Qd λK C=>Qb Z (kc1 C Z (Qv (QR Z ?_))))))
 grind [J5]
theorem FX:Ok Tryz.prog 136 [.int .u8 c] (.bool (JF c)):=by
 refine Ok.n7 tfol Tryz.func136 Qym (QEi Z) ?_;show TW _ _ tf136.body _ _;refine Qd λK G=>Qb Z (kc1 G Z (Qd λK G=>Qb Z (Gw Z Z (Qb Z (Qq (g:=5) Z (λC=>?_) (λC=>?_))))));rw[C];simp only[qB]at C;refine Qc Z (Qb Z (Qc Z (Cr Z Z (Qh Z Z (Qb Z (kc1 G Z (Qv (Qg Z ?_))))))))
 grind [JF]
 rw[C];simp only[qB]at C;refine gn2 Z Z (Qh Z Z (Qb Z (kc1 G Z (Qv (Qg Z ?_)))))
 grind [JF]
theorem Y3 (U:s.length<=1048576):Ok Tryz.prog 200 [.str s] (.bool (XF s)):=by
 refine Ok.n7 tfol Tryz.func200 QyT (QEi Z) ?_;show TW _ _ tf200.body _ _;refine Qd λK C=>Qb Z (kc1 C Z (Qw (Qd λK C=>Qb Z (kc2 C Z Z (Qu (Q8 (ι:=Nat) (λi=>⟨[(0,.str s),(3,.int .i64 i)],[]⟩) (λi=>i<=s.length/\(s.take i).all X2=true) (λi=>s.length - i) 0 ?_ ?_ ?_))))));exact Zn (kp2 Z Z);simp;intro i T;refine Qw (Qd λK C=>mv2 Z Z (YQ Z (ZK Z Z (kc3 C Z Z Z (Qs Z (λO=>?_) (λO=>?_))))));rw[O];simp only[qB]at O;refine Qp (ks2 Z Z (Qw (Qu (Qd λK C=>mv2 Z Z (YK Z Z Wa (G4 Wa) (ZK Z Z (Qb Z (Qq (g:=14) Z (λM=>?_) (λM=>?_)))))))));rw[M];simp only[qB]at M;refine gn4 Z Z Z Z (Qh Z Z (kc3 C Z Z Z (Zb Z (Qd λK C=>Qb Z (kc1 C Z (Qv (Qm (Qi (QQ (Qm (Qi (Qg Z ?_))))))))))));exact(FH (i:=i) Wa Wn).symm;rw[M];simp only[qB]at M;refine Qc Z (Qb Z (Qc Z (Qb Z (Qc Z (YK Z Z Wa (G4 Wa) (Qc Z (Jh Z Z (Qh Z Z (kc3 C Z Z Z (Qs Z (λG=>?_) (λG=>?_)))))))))));rw[G];simp only[qB]at G;refine Qd λK C=>Qb Z (kc1 C Z (Qv (Qm (Qi (QQ (Qm (Qi (Qg Z ?_))))))));exact(FH (i:=i) Wa Wn).symm;rw[G];simp only[qB]at G;refine Qp (Qk (ks2 Z Z (QJ λK C=>Qb Z (Q2 Z Z Wb (Qb Z (C _ (Qj (i+1) ?_ ?_ ?_)))))));exact Zn (kp2 Z Z)
 grind [ZW,X2]
 omega;rw[O];simp only[qB]at O;refine Q3 (QF (Qx (QD (ks1 Z (Qd λK C=>Qb Z (YQ Z (Jh Z Z (Qb Z (kc1 C Z (Qv (Qg Z ?_)))))))))));rw[SV (i:=i) Wa T.2];cases s<;>simp
theorem NS (hl:s.length<=1048576):Ok Tryz.prog 198 [.str s] (.bool (Cv s)):=by
 refine Ok.n7 tfol Tryz.func198 QyR (QEi Z) ?_;show TW _ _ tf198.body _ _;refine Qd λK C=>Qb Z (kc1 C Z (Qw (Qd λK C=>Qb Z (YQ Z (ZK Z Z (Qb Z (Qq (g:=8) Z (λh1=>?_) (λh1=>?_))))))));rw[h1];simp only[qB]at h1;refine gn3 Z Z Z (Qh Z Z (kc2 C Z Z (Zb Z (Qd λK C=>Qb Z (kc1 C Z (Qv (Qi (Qg Z ?_))))))))
 (grind [Cv])
 rw[h1];simp only[qB]at h1;refine Qc Z (Qb Z (Qc Z (YQ Z (Qc Z (Jh Z Z (Qh Z Z (kc2 C Z Z (Qs Z (λh2=>?_) (λh2=>?_)))))))));rw[h2];simp only[qB]at h2;refine Qd λK C=>Qb Z (kc1 C Z (Qv (Qi (Qg Z ?_))))
 (grind [Cv])
 rw[h2];simp only[qB]at h2;refine Qp (ks1 Z (Qw (Qd λK C=>Qb Z (kc2 C Z Z (Qu (Q8 (ι:=Nat) (λi=>⟨[(0,.str s),(3,.int .i64 i)],[]⟩) (λi=>i<=s.length/\(s.take i).all Hl=true) (λi=>s.length - i) 0 ?_ ?_ ?_))))));exact Zn (kp2 Z Z);simp;intro i hI;refine Qw (Qd λK C=>mv2 Z Z (YQ Z (ZK Z Z (kc3 C Z Z Z (Qs Z (λh3=>?_) (λh3=>?_))))));rw[h3];simp only[qB]at h3;refine Qp (ks2 Z Z (Qw (Qu (Qd λK C=>mv2 Z Z (YK Z Z Wa (G4 Wa) (Qb Z (kc3 C Z Z Z (Qd λK C=>Qb Z (ZK Z Z (Qb Z (Qq (g:=24) Z (λh4=>?_) (λh4=>?_))))))))))));rw[h4];simp only[qB]at h4;refine gn2 Z Z (Qh Z Z (Qb Z (Qc Z (Qb Z (Qc Z (ZK Z Z (Qc Z (Qb Z (Qq (g:=31) Z (λh5=>?_) (λh5=>?_))))))))));rw[h5];simp only[qB]at h5;refine gn2 Z Z (Qc Z (Qh Z Z (Qh Z Z (Qb Z (Qc Z (Qb Z (Qc Z (Ys Z Z (Qh Z Z (kc3 C Z Z Z (Qs Z (λY=>?_) (λY=>?_))))))))))))
 ·rw[Y];simp only[qB]at Y;refine Qd λK C=>Qb Z (kc1 C Z (Qv (Qm (Qi (QQ (Qm (Qi (Qg Z ?_))))))))
  (have T:=JU (p:=Hl) (s:=s) (i:=i) Wa (by grind [Hl]);simp[Cv,T];done)
 rw[Y];simp only[qB]at Y;refine Qp (Qk (ks2 Z Z (QJ λK C=>Qb Z (Q2 Z Z Wb (Qb Z (C _ (Qj (i+1) ?_ ?_ ?_)))))));exact Zn (kp2 Z Z)
 grind [ZW,Hl]
 omega;rw[h5];simp only[qB]at h5;refine Qc Z (Qb Z (Qc Z (Jh Z Z (Qc Z (Qh Z Z (Qh Z Z (Qb Z (Qq (g:=36) Z (λV=>?_) (λV=>?_)))))))));rw[V];simp only[qB]at V;refine Qc Z (Qb Z (Qc Z (Ys Z Z (Qh Z Z (kc3 C Z Z Z (Qs Z (λh8=>?_) (λh8=>?_)))))))
 ·rw[h8];simp only[qB]at h8;refine Qd λK C=>Qb Z (kc1 C Z (Qv (Qm (Qi (QQ (Qm (Qi (Qg Z ?_))))))))
  (have T:=JU (p:=Hl) (s:=s) (i:=i) Wa (by grind [Hl]);simp[Cv,T];done)
 grind
 rw[V];simp only[qB]at V;refine gn2 Z Z (Qh Z Z (kc3 C Z Z Z (Zq Z (Qp (Qk (ks2 Z Z (QJ λK C=>Qb Z (Q2 Z Z Wb (Qb Z (C _ (Qj (i+1) ?_ ?_ ?_)))))))))));exact Zn (kp2 Z Z)
 grind [ZW,Hl]
 omega;rw[h4];simp only[qB]at h4;refine Qc Z (Qb Z (Qc Z (Jh Z Z (Qh Z Z (Qb Z (Qq (g:=28) Z (λU=>?_) (λU=>?_)))))));rw[U];simp only[qB]at U;refine Qc Z (Qb Z (Qc Z (ZK Z Z (Qc Z (Qb Z (Qq (g:=31) Z (λO=>?_) (λO=>?_)))))))
 grind
 rw[O];simp only[qB]at O;refine Qc Z (Qb Z (Qc Z (Jh Z Z (Qc Z (Qh Z Z (Qh Z Z (Qb Z (Qq (g:=36) Z (λM=>?_) (λM=>?_)))))))));rw[M];simp only[qB]at M;refine Qc Z (Qb Z (Qc Z (Ys Z Z (Qh Z Z (kc3 C Z Z Z (Qs Z (λG=>?_) (λG=>?_)))))))
 ·rw[G];simp only[qB]at G;refine Qd λK C=>Qb Z (kc1 C Z (Qv (Qm (Qi (QQ (Qm (Qi (Qg Z ?_))))))))
  (have T:=JU (p:=Hl) (s:=s) (i:=i) Wa (by grind [Hl]);simp[Cv,T];done)
 grind
 grind
 rw[U];simp only[qB]at U;refine gn3 Z Z Z (Qy Z (Qy Z (YN Z (Qh Z Z (Qb Z (gn2 Z Z (Qh Z Z (kc3 C Z Z Z (Zq Z (Qp (Qk (ks2 Z Z (QJ λK C=>Qb Z (Q2 Z Z Wb (Qb Z (C _ (Qj (i+1) ?_ ?_ ?_)))))))))))))))));exact Zn (kp2 Z Z)
 grind [ZW,Hl]
 omega;rw[h3];simp only[qB]at h3;refine Q3 (QF (Qx (QD (QK (QL) (Qd λK C=>Qb Z (kc1 C Z (Qv (Qg Z ?_))))))))
 (grind [Cv])
theorem Nd {a b:Int} {p q:List UInt8}:Ok Tryz.prog 115 [.agg [.int .i64 a,.int .i64 b,.int .i64 c,.str p,.str q]] (.agg [.int .i64 a,.int .i64 b,.int .i64 c,.str p,.str []]):=by
 refine Ok.n7 tfol Tryz.func115 Qyc (QEi Z) ?_;show TW _ _ tf115.body _ _;refine Qd λK C=>Zu Z Z Z (Zk Z (kc2 C Z Z (Qd λK C=>Qe Z Z (Za Z Z Z Z Z Z Z Z (kc2 C Z Z (Qd λK C=>QB (cs:=[_,_,_,_,_]) Z Z Z Z (Za Z Z Z Z Z Z Z Z (kc1 C Z (Qv (H4 (cs:=[_,_,_,_,_]) Z Z Z Z ?_))))))))));rfl
theorem Xf (hl:s.length<=1048576):Ok Tryz.prog 199 [.str s] (.g8 [.int .i64 (YC s).1,.bool (YC s).2]):=by
 refine Ok.n7 tfol Tryz.func199 QyS (QEi Z) ?_;show TW _ _ tf199.body _ _;refine Qd λK C=>mv2 Z Z (kc1 C Z (HD (ι:=Unit) (λ_u=>⟨[(0,.str s)],[]⟩) (λ_u=>¬(s.length<1\/9<s.length\/(1<s.length/\s.head?=some 48))) ?_ ?_))
 skip
 refine Qd λK C=>Qb Z (YQ Z (ZK Z Z (Qb Z (Qq (g:=9) Z (λY=>?_) (λY=>?_)))));rw[Y];simp only[qB,JF,QEm,QEv]at Y;refine gn3 Z Z Z (Qh Z Z (Qb Z (gn4 Z Z Z Z (Qy Z (Qy Z (Qy Z (YN Z (Qh Z Z (kc2 C Z Z (Zb Z (Qd λK C=>mv2 Z Z (kc2 C Z Z (Qv (YI (ZD Z Z ?_)))))))))))))))
 (rw[Qhe (s:=s) Wa];trivial)
 rw[Y];simp only[qB,JF,QEm,QEv]at Y;refine Qc Z (Qb Z (Qc Z (YQ Z (Qc Z (Jh Z Z (Qh Z Z (Qb Z (Qq (g:=14) Z (λV=>?_) (λV=>?_)))))))));rw[V];simp only[qB,JF,QEm,QEv]at V;refine gn4 Z Z Z Z (Qy Z (Qy Z (Qy Z (YN Z (Qh Z Z (kc2 C Z Z (Zb Z (Qd λK C=>mv2 Z Z (kc2 C Z Z (Qv (YI (ZD Z Z ?_))))))))))))
 (rw[Qhe (s:=s) Wa];trivial)
 rw[V];simp only[qB,JF,QEm,QEv]at V;refine Qc Z (Qb Z (Qc Z (YQ Z (Qc Z (Jh Z Z (Qc Z (Qb Z (Qq (g:=18) Z (λU=>?_) (λU=>?_)))))))));rw[U];simp only[qB,JF,QEm,QEv]at U;refine Qc Z (Qb Z (Qc Z (YK Z Z Wa (G4 (i:=0) Wa) (Qc Z (Yp Z Z (Qc Z (Qh Z Z (Qh Z Z (kc2 C Z Z (Qs Z (λT=>?_) (λT=>?_)))))))))));rw[T];simp only[qB,JF,QEm,QEv]at T;refine Qd λK C=>mv2 Z Z (kc2 C Z Z (Qv (YI (ZD Z Z ?_))))
 (rw[Qc7 (s:=s) Wa Wa];trivial)
 rw[T];simp only[qB,JF,QEm,QEv]at T;refine Qp (Zl () ?_ ?_);exact Zn (kp1 Z)
 grind [Qgv]
 rw[U];simp only[qB,JF,QEm,QEv]at U;refine gn3 Z Z Z (Qc Z (Qh Z Z (Qh Z Z (kc2 C Z Z (Zq Z (Qp (Zl () ?_ ?_)))))));exact Zn (kp1 Z);omega;intro _u hJ;refine Qd λK C=>Qb Z (kc2 C Z Z (Qw (Qd λK C=>Qb Z (kc3 C Z Z Z (Qu (Q8 (ι:=Nat) (λi=>⟨[(0,.str s),(4,.int .i64 (val (s.take i))),(5,.int .i64 i)],[]⟩) (λi=>i<=s.length/\(s.take i).all X2=true/\s.length<=9) (λi=>s.length - i) 0 ?_ ?_ ?_))))));exact Zn (kp3 Z Z Z)
 grind
 intro i hI;have hv:=QiQ (s:=s.take i) hI.2.1;have hp:10 ^ (s.take i).length<=10 ^ 9:=QFO Wa Wc;refine Qw (Qd λK C=>mv2 Z Z (YQ Z (ZK Z Z (kc4 C Z Z Z Z (Qs Z (λO=>?_) (λO=>?_))))));rw[O];simp only[qB,JF,QEm,QEv]at O;refine Qp (ks3 Z Z Z (Qw (Qu (Qw (Qd λK C=>mv2 Z Z (YK Z Z Wa (G4 Wa) (QA (FX) Z Z (.inr Z) (Zp Z (kc4 C Z Z Z Z (Qs Z (λM=>?_) (λM=>?_)))))))))));rw[M];simp only[qB,JF,QEm,QEv]at M;refine Qd λK C=>mv2 Z Z (kc2 C Z Z (Qv (Qi (Qm (Qi (QQ (Qm (Qi (ZD Z Z ?_)))))))))
 (rw[DB (s:=s) (i:=i) Wa Wn];trivial)
 rw[M];simp only[qB,JF,QEm,QEv]at M;refine Qp (ks3 Z Z Z (QJ λK C=>Qb Z (Qe3 Z Z Wb (mv2 Z Z (YK Z Z Wa (G4 Wa) (J7 Z Z (by exact Qre Wa Wa) (Qe1 Z Wb (Q2 Z Z Wb (Qb Z ?_)))))))));refine C _ (Qk (ks3 Z Z Z (QJ λK C=>Qb Z (Q2 Z Z Wb (Qb Z (C _ (Qj (i+1) ?_ ?_ ?_)))))));exact QM (l:=[0,4,5]) (kp3 Z Z Z) Qf (by grind [QdH]) Z Z
 grind [ZW,X2]
 omega;rw[O];simp only[qB,JF,QEm,QEv]at O;refine Q3 (QF (Qx (QD (ks1 Z (Qw (Qd λK C=>Qb Z (Jh Z Z (kc2 C Z Z (Qs Z (λG=>?_) (λG=>?_))))))))));rw[G];simp only[qB,JF,QEm,QEv]at G;refine Qd λK C=>mv2 Z Z (kc2 C Z Z (Qv (Qi (ZD Z Z ?_))))
 (rw[QoK (s:=s) (i:=i) Wa Wa];trivial)
 rw[G];simp only[qB,JF,QEm,QEv]at G;refine Qp (ks1 Z (Qd λK C=>mv2 Z Z (Qb Z (kc2 C Z Z (Qv (ZD Z Z ?_))))))
 (rw[Qmo (s:=s) (i:=i) hJ Wa hI.2.1 Wa];trivial)
theorem NR (ha:a.length<=1048576) (hb:b.length<=1048576):Ok Tryz.prog 227 [.str a,.str b] (.int .i64 (Qbk a b)):=by
 refine Ok.n7 tfol Tryz.func227 QyV (QEi Z) ?_;show TW _ _ tf227.body _ _;refine Qd λK C=>Qb Z (kc2 C Z Z (Qd λK C=>Qb Z (QA (Y3 Wa) Z Z (.inr Z) (Qb Z (QA (Y3 Wa) Z Z (.inr Z) (mv2 Z Z (kc4 C Z Z Z Z (Qw (Qu (Qd λK C=>mv2 Z Z (Qq (g:=17) Z (λO=>?_) (λO=>?_))))))))))));rw[O];refine Qc Z (Qb Z (Qh Z Z (Qb Z (kc5 C Z Z Z Z Z (Qs Z (λM=>?_) (λM=>?_))))));rw[M];refine Qd λK C=>Qb Z (QA (Xf Wa) Z Z (.inr Z) (Qb Z (QN Z Z (QN Z Z (mv2 Z Z (kc2 C Z Z (Qd λK C=>Qb Z (QA (Xf Wa) Z Z (.inr Z) (Qb Z (QN Z Z (QN Z Z (mv2 Z Z (kc2 C Z Z (Qd λK C=>mv2 Z Z (QA (ZN) Z Z (.inr Z) (Qb Z (kc1 C Z (Qv (Qm (Qi (QR Z ?_)))))))))))))))))))))
 grind [Qbk]
 rw[M];refine Qd λK C=>mv2 Z Z (kc4 C Z Z Z Z (Zb Z (Qd λK C=>Qb Z (kc1 C Z (Qv (Qm (Qi (QR Z ?_))))))))
 grind [Qbk]
 rw[O];refine YN Z (Qh Z Z (Qb Z (kc5 C Z Z Z Z Z (Zq Z (Qd λK C=>mv2 Z Z (kc4 C Z Z Z Z (Zq Z (Qd λK C=>mv2 Z Z (kc3 C Z Z Z (Qs Z (λG=>?_) (λG=>?_)))))))))));rw[G];refine Qd λK C=>Qb Z (kc1 C Z (Qv (Qm (Qi (QR Z ?_)))))
 grind [Qbk]
 rw[G];refine Qp (Qk (ks2 Z Z (Qd λK C=>mv2 Z Z (QA (F1) Z Z (.inr Z) (Qb Z (kc1 C Z (Qv (QR Z ?_))))))))
 grind [Qbk]
theorem Nv (ha:a.length<=1048576) (hb:b.length<=1048576):Ok Tryz.prog 190 [.str a,.str b] (.int .i64 (PX a b)):=by
 refine Ok.n7 tfol Tryz.func190 QyJ (QEi Z) ?_;show TW _ _ tf190.body _ _;refine Qd λK C=>Qb Z (kc2 C Z Z (Qw (Qu (Qd λK C=>mv2 Z Z (HB Z Z (Qb Z (kc3 C Z Z Z (Qs Z (λV=>?_) (λV=>?_)))))))));rw[V];simp only[qB,QU]at V;refine Qd λK C=>Qb Z (kc1 C Z (Qv (Qm (Qi (QR Z ?_)))))
 grind [PX]
 rw[V];simp only[qB,QU]at V;refine Qd λK C=>Qb Z (HB Z Z (Qb Z (kc3 C Z Z Z (Qs Z (λU=>?_) (λU=>?_)))));rw[U];simp only[qB,QU]at U;refine Qd λK C=>Qb Z (kc1 C Z (Qv (Qm (Qi (QR Z ?_)))))
 grind [PX]
 rw[U];simp only[qB,QU]at U;refine Qd λK C=>Qb Z (HB Z Z (Qb Z (kc3 C Z Z Z (Qs Z (λT=>?_) (λT=>?_)))));rw[T];simp only[qB,QU]at T;refine Qd λK C=>Qb Z (kc1 C Z (Qv (Qm (Qi (QR Z ?_)))))
 grind [PX]
 rw[T];simp only[qB,QU]at T;refine Qp (Qk (ks2 Z Z (Qd λK C=>Qb Z (QA (Xv Wa) Z Z (.inl Z) (Qb Z (QA (Xv Wa) Z Z (.inl Z) (mv2 Z Z (kc2 C Z Z (Qw (Qd λK C=>Qb Z (kc3 C Z Z Z (Qu (Q8 (ι:=Nat) (λi=>⟨[(5,.sl (JD (Zr a 46))),(6,.sl (JD (Zr b 46))),(7,.int .i64 i)],[]⟩) (λi=>i<=(Zr a 46).length/\i<=(Zr b 46).length/\PX a b=QcU ((Zr a 46).drop i) ((Zr b 46).drop i)) (λi=>(Zr a 46).length - i) 0 ?_ ?_ ?_)))))))))))));exact Zn (kp3 Z Z Z)
 (repeat clear C K);simp_all [PX]
 intro i Y;have sl:=MH (s:=a) (c:=46);refine Qw (Qd λK C=>mv2 Z Z (QW Z Z (ZK Z Z (Qb Z (Qq (g:=27) Z (λO=>?_) (λO=>?_))))));rw[O];simp only[qB,QU]at O;refine Qc Z (Qb Z (Qc Z (Qb Z (Qc Z (QW Z Z (Qc Z (ZK Z Z (Qh Z Z (kc4 C Z Z Z Z (Qs Z (λM=>?_) (λM=>?_)))))))))));rw[M];simp only[qB,QU]at M;refine Qp (ks3 Z Z Z (Qw (Qu (Qd λK C=>mv2 Z Z (Qt Z Z Z Wa (Ke Wa) Z (QG (ds0:=[1,0]) Z Z Z Z Z (mv2 Z Z (Qt Z Z Z Wa (Ke Wa) Z (QG (ds0:=[1,0]) Z Z Z Z Z (Zi (ds0:=[0]) (NR (Ki Wa ha) (Ki Wa hb)) Z Z (.inr Z) Z Z (Qb Z (kc4 C Z Z Z Z (Qd λK C=>Qb Z (Ys Z Z (kc5 C Z Z Z Z Z (Qs Z (λG=>?_) (λG=>?_)))))))))))))))));rw[G];simp only[qB,QU]at G;refine Qd λK C=>mv2 Z Z (kc1 C Z (Qv (Qm (Qi (QQ (Qm (Qi (QR Z ?_))))))))
 grind [QcV]
 rw[G];simp only[qB,QU]at G;refine Qp (Qk (ks3 Z Z Z (QJ λK C=>Qb Z (Q2 Z Z Wb (Qb Z (C _ (Qj (i+1) ?_ ?_ ?_)))))));exact Zn (kp3 Z Z Z)
 grind [Bz]
 omega;rw[M];simp only[qB,QU]at M;refine Q3 (QF (Qx (QD (ks2 Z Z (Qd λK C=>Qb Z (QW Z Z (Qb Z (QW Z Z (QA (ZN) Z Z (.inr Z) (Qb Z (kc1 C Z (Qv (QR Z ?_)))))))))))))
 (grind [Rh,QU])
 rw[O];simp only[qB,QU]at O;refine gn4 Z Z Z Z (Qh Z Z (kc4 C Z Z Z Z (Zq Z (Q3 (QF (Qx (QD (ks2 Z Z (Qd λK C=>Qb Z (QW Z Z (Qb Z (QW Z Z (QA (ZN) Z Z (.inr Z) (Qb Z (kc1 C Z (Qv (QR Z ?_)))))))))))))))))
 (grind [Rh,QU])
theorem Ku {s:List UInt8} {pre:Bool} (V:s.length<=1048576):Ok Tryz.prog 162 [.str s,.bool pre] (.bool (Pg s pre)):=by
 refine Ok.n7 tfol Tryz.func162 QyE (QEi Z) ?_;show TW _ _ tf162.body _ _;refine Qd λK C=>Qb Z (kc2 C Z Z (Qw (Qd λK C=>Qb Z (HB Z Z (kc3 C Z Z Z (Qs Z (λU=>?_) (λU=>?_)))))));rw[U];simp only[qB,QU]at U;refine Qd λK C=>Qb Z (kc1 C Z (Qv (Qi (Qg Z ?_))))
 grind [Pg]
 rw[U];simp only[qB,QU]at U;refine Qp (ks2 Z Z (Qd λK C=>Qb Z (QA (Xv Wa) Z Z (.inl Z) (Qb Z (kc2 C Z Z (Qw (Qd λK C=>Qb Z (QW Z Z (Jh Z Z (kc3 C Z Z Z (Qs Z (λT=>?_) (λT=>?_))))))))))));rw[T];simp only[qB,QU]at T;refine Qd λK C=>Qb Z (kc1 C Z (Qv (Qi (Qg Z ?_))))
 (grind [Pg])
 rw[T];simp only[qB,QU]at T;refine Qp (ks2 Z Z (Qw (Qd λK C=>Qb Z (kc3 C Z Z Z (Qu (Q8 (ι:=Nat) (λi=>⟨[(1,.bool pre),(5,.sl (JD (Zr s 46))),(6,.int .i64 i)],[]⟩) (λi=>i<=(Zr s 46).length/\((Zr s 46).take i).all (Tl pre)=true) (λi=>(Zr s 46).length - i) 0 ?_ ?_ ?_))))));exact Zn (kp3 Z Z Z);simp;intro i hI;refine Qw (Qd λK C=>mv2 Z Z (QW Z Z (ZK Z Z (kc4 C Z Z Z Z (Qs Z (λO=>?_) (λO=>?_))))));rw[O];simp only[qB,QU]at O;refine Qp (ks3 Z Z Z (Qw (Qu (Qw (Qd λK C=>mv2 Z Z (Qt Z Z Z Wa (Ke Wa) Z (Qr Z Z Z (QA (NS (Ki Wa V)) Z Z (.inr Z) (Zp Z (kc4 C Z Z Z Z (Qs Z (λM=>?_) (λM=>?_))))))))))));rw[M];simp only[qB,QU]at M;refine Qd λK C=>Qb Z (kc1 C Z (Qv (Qi (Qm (Qi (QQ (Qm (Qi (Qg Z ?_)))))))));exact(QcX (i:=i) Wa Wa (by grind [Tl])).symm;rw[M];simp only[qB,QU]at M;refine Qp (ks3 Z Z Z (Qd λK C=>mv2 Z Z (Qt Z Z Z Wa (Ke Wa) Z (Qr Z Z Z (QA (Xf (Ki Wa V)) Z Z (.inr Z) (Qb Z (QN Z Z (QN Z Z (Qb Z (Qb Z (kc4 C Z Z Z Z (Qd λK C=>mv2 Z Z (Qq (g:=37) Z (λh5=>?_) (λh5=>?_))))))))))))));rw[h5];refine Qc Z (Qb Z (Qc Z (Qb Z (Qc Z (Qt Z Z Z Wa (Ke Wa) Z (Qc Z (Qr Z Z Z (Qc Z (QA (Y3 (Ki Wa V)) Z Z (.inr Z) (Qh Z Z (Qb Z (Qq (g:=44) Z (λY=>?_) (λY=>?_)))))))))))));rw[Y];refine Qc Z (Qb Z (Qc Z (Zp Z (Qh Z Z (kc4 C Z Z Z Z (Qs Z (λG=>?_) (λG=>?_)))))));rw[G];simp only[qB,QU]at G;refine Qd λK C=>Qb Z (kc1 C Z (Qv (Qm (Qi (QQ (Qm (Qi (Qg Z ?_))))))));exact(QcX (i:=i) Wa Wa (by grind [Tl])).symm;rw[G];simp only[qB,QU]at G;refine Qp (Qk (ks3 Z Z Z (QJ λK C=>Qb Z (Q2 Z Z Wb (Qb Z (C _ (Qj (i+1) ?_ ?_ ?_)))))));exact QM (l:=[1,5,6]) (kp3 Z Z Z) Qf Wc Z Z
 grind [ZW,Tl]
 omega;rw[Y];refine gn2 Z Z (Qh Z Z (kc4 C Z Z Z Z (Zq Z (Qp (Qk (ks3 Z Z Z (QJ λK C=>Qb Z (Q2 Z Z Wb (Qb Z (C _ (Qj (i+1) ?_ ?_ ?_)))))))))));exact QM (l:=[1,5,6]) (kp3 Z Z Z) Qf Wc Z Z
 grind [ZW,Tl]
 omega;rw[h5];refine gn4 Z Z Z Z (YN Z (Qh Z Z (Qb Z (gn2 Z Z (Qh Z Z (kc4 C Z Z Z Z (Zq Z (Qp (Qk (ks3 Z Z Z (QJ λK C=>Qb Z (Q2 Z Z Wb (Qb Z (C _ (Qj (i+1) ?_ ?_ ?_)))))))))))))));exact QM (l:=[1,5,6]) (kp3 Z Z Z) Qf Wc Z Z
 grind [ZW,Tl]
 omega;rw[O];simp only[qB,QU]at O;refine Q3 (QF (Qx (QD (QK (QL) (Qd λK C=>Qb Z (kc1 C Z (Qv (Qg Z ?_))))))))
 grind [QgZ]
theorem Z0 {a b c:Int} {p q:List UInt8} (hp:p.length<=1048576) (U:q.length<=1048576):Ok Tryz.prog 123 [.agg [.int .i64 a,.int .i64 b,.int .i64 c,.str p,.str q]] (.bool (Ff a b c p q)):=by
 refine Ok.n7 tfol Tryz.func123 Qyk (QEi Z) ?_;show TW _ _ tf123.body _ _;refine Qd λK C=>Zu Z Z Z (Qb Z (kc1 C Z (Qd λK C=>Qe Z Z (Qr Z Z Z (QA (XZ) Z Z (.inr Z) (Qb Z (Qq (g:=6) Z (λT=>?_) (λT=>?_))))))));rw[T];refine Qc Z (Qe Z Z (Qc Z (Qr Z Z Z (Qc Z (QA (XZ) Z Z (.inr Z) (Qh Z Z (Qb Z (Qq (g:=11) Z (λO=>?_) (λO=>?_)))))))));rw[O];refine Qc Z (Qe Z Z (Qc Z (Qr Z Z Z (Qc Z (QA (XZ) Z Z (.inr Z) (Qh Z Z (Qb Z (Qq (g:=16) Z (λM=>?_) (λM=>?_)))))))));rw[M];refine Qc Z (Qe Z Z (Qc Z (Qr Z Z Z (Qc Z (QA (Ku Wa) Z Z (.inr Z) (Qh Z Z (Qb Z (Qq (g:=21) Z (λG=>?_) (λG=>?_)))))))));rw[G];refine Qc Z (Qe Z Z (Qc Z (Qr Z Z Z (Qc Z (QA (Ku Wa) Z Z (.inr Z) (Qh Z Z (Qb Z (kc1 C Z (Qv (Qg Z ?_))))))))))
 grind [Ff]
 rw[G];refine gn3 Z Z Z (Qh Z Z (Qb Z (kc1 C Z (Qv (Qg Z ?_)))))
 grind [Ff]
 rw[M];refine gn3 Z Z Z (Qh Z Z (Qb Z (gn3 Z Z Z (Qh Z Z (Qb Z (kc1 C Z (Qv (Qg Z ?_))))))))
 grind [Ff]
 rw[O];refine gn3 Z Z Z (Qh Z Z (Qb Z (gn3 Z Z Z (Qh Z Z (Qb Z (gn2 Z Z (YN Z (Qh Z Z (Qb Z (kc1 C Z (Qv (Qg Z ?_))))))))))))
 grind [Ff]
 rw[T];refine gn3 Z Z Z (Qh Z Z (Qb Z (gn3 Z Z Z (Qh Z Z (Qb Z (gn2 Z Z (YN Z (Qh Z Z (Qb Z (gn3 Z Z Z (Qh Z Z (Qb Z (kc1 C Z (Qv (Qg Z ?_)))))))))))))))
 grind [Ff]
theorem Pz {l:List Int} (T:l.length<=1048576):Ok Tryz.prog 110 [Q0 l] (.int .i64 (Yt l)):=by
 refine Ok.n7 tfol Tryz.func110 Qx7 (QEi Z) ?_;show TW _ _ tf110.body _ _;refine Qd λK C=>Qb Z (kc1 C Z (Qd λK C=>Qb Z (kc2 C Z Z (Qw (Qd λK C=>Qb Z (QW Z Z (Qb Z (kc4 C Z Z Z Z (Qu (Q8 (ι:=Nat) (λi=>⟨[(3,.int .i64 0),(6,Q0 l),(7,.int .i64 l.length),(8,.int .i64 i)],[]⟩) (λi=>i<=l.length/\Yt l=Yt (l.drop i)) (λi=>l.length - i) 0 ?_ ?_ ?_))))))))));exact QM (l:=[3,6,7,8]) (kp4 Z Z Z Z) Qf Wd Z Z;simp;intro i O;refine Qd λK C=>ZK Z Z (kc5 C Z Z Z Z Z (Qw (Qs Z (λM=>?_) (λM=>?_))));rw[M];simp only[qB]at M;refine Qp (ks4 Z Z Z Z (Qw (Qu (Qd λK C=>Qt Z Z Z Wa (QH Wa) Z (Qr Z Z Z (Qb Z (kc5 C Z Z Z Z Z (Qd λK C=>mv2 Z Z (Ys Z Z (kc6 C Z Z Z Z Z Z (Qs Z (λG=>?_) (λG=>?_))))))))))));rw[G];simp only[qB]at G;refine Qd λK C=>mv2 Z Z (kc1 C Z (Qv (Qm (Qi (QQ (Qm (Qi (QR Z ?_))))))))
 grind [QaZ]
 rw[G];simp only[qB]at G;refine Qp (Qk (ks4 Z Z Z Z (QJ λK C=>Q2 Z Z Wb (Qb Z (C _ (Qj (i+1) ?_ ?_ ?_))))));exact Zn (kp4 Z Z Z Z)
 grind [Bd]
 omega;rw[M];simp only[qB]at M;refine Q3 (QF (Qx (QD (ks1 Z (Qd λK C=>mv2 Z Z (kc1 C Z (Qv (QR Z ?_))))))))
 (rw[O.2,QED Wa];rfl)
variable {a a' b b' c' e e':Int} {f f':Bool} {p p' q q':List UInt8}
theorem Y2 (hp:p.length<=1048576) (hq:q.length<=1048576) (Y:p'.length<=1048576) (V:q'.length<=1048576):Ok Tryz.prog 147 [.agg [.int .i64 a,.int .i64 b,.int .i64 c,.str p,.str q],.agg [.int .i64 a',.int .i64 b',.int .i64 c',.str p',.str q']] (.int .i64 (Pf a b c p q a' b' c' p' q')):=by
 refine Ok.n7 tfol Tryz.func147 Qyp (QEi Z) ?_;show TW _ _ tf147.body _ _;refine Qd λK C=>Zu Z Z Z (Zu Z Z Z (Qb Z (kc2 C Z Z (Qw (Qd λK C=>QB (cs:=[_,_,_,_,_]) Z Z Z Z (QA (Z0 Wa Wa) Z Z (.inr Z) (Zp Z (Qb Z (Qq (g:=11) Z (λU=>?_) (λU=>?_))))))))));rw[U];simp only[qB]at U;refine gn3 Z Z Z (Qh Z Z (kc3 C Z Z Z (Zb Z (Qd λK C=>Qb Z (kc1 C Z (Qv (Qi (QR Z ?_))))))))
 grind [Pf]
 rw[U];simp only[qB]at U;refine Qc Z (QB (cs:=[_,_,_,_,_]) Z Z Z Z (Qc Z (QA (Z0 Wa Wa) Z Z (.inr Z) (Qc Z (Zp Z (Qh Z Z (kc3 C Z Z Z (Qs Z (λT=>?_) (λT=>?_)))))))));rw[T];simp only[qB]at T;refine Qd λK C=>Qb Z (kc1 C Z (Qv (Qi (QR Z ?_))))
 grind [Pf]
 rw[T];simp only[qB]at T;refine Qp (ks2 Z Z (Qw (Qd λK C=>Qe Z Z (Qr Z Z Z (Qe Z Z (Qr Z Z Z (QA (ZN) Z Z (.inr Z) (Qb Z (kc3 C Z Z Z (Qd λK C=>Qb Z (Ys Z Z (kc4 C Z Z Z Z (Qs Z (λO=>?_) (λO=>?_))))))))))))));rw[O];simp only[qB]at O;refine Qd λK C=>mv2 Z Z (kc1 C Z (Qv (Qi (QR Z ?_))))
 grind [Pf]
 rw[O];simp only[qB]at O;refine Qp (ks2 Z Z (Qw (Qd λK C=>Qe Z Z (Qr Z Z Z (Qe Z Z (Qr Z Z Z (QA (ZN) Z Z (.inr Z) (Qb Z (kc3 C Z Z Z (Qd λK C=>Qb Z (Ys Z Z (kc4 C Z Z Z Z (Qs Z (λM=>?_) (λM=>?_))))))))))))));rw[M];simp only[qB]at M;refine Qd λK C=>mv2 Z Z (kc1 C Z (Qv (Qi (QR Z ?_))))
 grind [Pf]
 rw[M];simp only[qB]at M;refine Qp (ks2 Z Z (Qw (Qd λK C=>Qe Z Z (Qr Z Z Z (Qe Z Z (Qr Z Z Z (QA (ZN) Z Z (.inr Z) (Qb Z (kc3 C Z Z Z (Qd λK C=>Qb Z (Ys Z Z (kc4 C Z Z Z Z (Qs Z (λG=>?_) (λG=>?_))))))))))))));rw[G];simp only[qB]at G;refine Qd λK C=>mv2 Z Z (kc1 C Z (Qv (Qi (QR Z ?_))))
 grind [Pf]
 rw[G];simp only[qB]at G;refine Qp (ks2 Z Z (Qd λK C=>Qe Z Z (Qr Z Z Z (Qe Z Z (Qr Z Z Z (QA (Nv Wa Wa) Z Z (.inr Z) (Qb Z (kc1 C Z (Qv (QR Z ?_))))))))))
 grind [Pf]
theorem Yx (hp:p.length<=1048576) (Y:q.length<=1048576):Ok Tryz.prog 229 [.agg [.int .i64 e,.int .i64 a,.int .i64 b,.int .i64 c,.str p,.str q,.bool f]] (.bool (JO e a b c p q f)):=by
 refine Ok.n7 tfol Tryz.func229 QyX (QEi Z) ?_;show TW _ _ tf229.body _ _;refine Qd λK C=>Zu Z Z Z (Qb Z (kc1 C Z (Qw (Qd λK C=>Qe Z Z (Qr Z Z Z (Yp Z Z (kc2 C Z Z (Qs Z (λU=>?_) (λU=>?_)))))))));rw[U];simp only[qB]at U;refine Qd λK C=>Qe Z Z (QB (cs:=[_,_,_,_,_]) Z Z Z Z (QA (Z0 Wa Wa) Z Z (.inr Z) (Qb Z (Qq (g:=9) Z (λV=>?_) (λV=>?_)))));rw[V];refine Qc Z (Qe Z Z (Qc Z (Qe Z Z (Qc Z (Qr Z Z Z (Qc Z (HB Z Z (Qh Z Z (Qb Z (kc1 C Z (Qv (Qi (Qg Z ?_)))))))))))))
 grind [JO]
 rw[V];refine gn4 Z Z Z Z (Qh Z Z (Qb Z (kc1 C Z (Qv (Qi (Qg Z ?_))))))
 grind [JO]
 rw[U];simp only[qB]at U;refine Qp (ks1 Z (Qd λK C=>Qe Z Z (Qr Z Z Z (Yp Z Z (Qb Z (Qq (g:=18) Z (λT=>?_) (λT=>?_)))))));rw[T];simp only[qB]at T;refine gn3 Z Z Z (Qh Z Z (Qb Z (Qc Z (Qe Z Z (Qc Z (QB (cs:=[_,_,_,_,_]) Z Z Z Z (Qc Z (Zz Z Z (Qc Z (TO Z Z Z (Qh Z Z (Qb Z (Qq (g:=29) Z (λO=>?_) (λO=>?_))))))))))))));rw[O];simp only[qB]at O;refine Qc Z (Qe Z Z (Qc Z (Qr Z Z Z (Qc Z (Zp Z (Qh Z Z (Qb Z (kc1 C Z (Qv (Qg Z ?_))))))))))
 grind [JO]
 rw[O];simp only[qB]at O;refine gn3 Z Z Z (Qh Z Z (Qb Z (kc1 C Z (Qv (Qg Z ?_)))))
 grind [JO]
 rw[T];simp only[qB]at T;refine Qc Z (Qe Z Z (Qc Z (Qr Z Z Z (Qc Z (Yp Z Z (Qh Z Z (Qb Z (Qq (g:=23) Z (λM=>?_) (λM=>?_)))))))));rw[M];simp only[qB]at M;refine Qc Z (Qe Z Z (Qc Z (QB (cs:=[_,_,_,_,_]) Z Z Z Z (Qc Z (Zz Z Z (Qc Z (TO Z Z Z (Qh Z Z (Qb Z (Qq (g:=29) Z (λG=>?_) (λG=>?_)))))))))));rw[G];simp only[qB]at G;refine Qc Z (Qe Z Z (Qc Z (Qr Z Z Z (Qc Z (Zp Z (Qh Z Z (Qb Z (kc1 C Z (Qv (Qg Z ?_))))))))))
 grind [JO]
 rw[G];simp only[qB]at G;refine gn3 Z Z Z (Qh Z Z (Qb Z (kc1 C Z (Qv (Qg Z ?_)))))
 grind [JO]
 rw[M];simp only[qB]at M;refine gn4 Z Z Z Z (Qh Z Z (Qb Z (gn3 Z Z Z (Qh Z Z (Qb Z (kc1 C Z (Qv (Qg Z ?_))))))))
 grind [JO]
theorem ZL (hp:p.length<=1048576) (hq:q.length<=1048576) (hp':p'.length<=1048576) (hq':q'.length<=1048576):Ok Tryz.prog 195 [.agg [.int .i64 e,.int .i64 a,.int .i64 b,.int .i64 c,.str p,.str q,.bool f],.agg [.int .i64 e',.int .i64 a',.int .i64 b',.int .i64 c',.str p',.str q',.bool f']] (.int .i64 (Hq e a b c p q f e' a' b' c' p' q' f')):=by
 refine Ok.n7 tfol Tryz.func195 QyO (QEi Z) ?_;show TW _ _ tf195.body _ _;refine Qd λK C=>Zu Z Z Z (Zu Z Z Z (Qb Z (kc2 C Z Z (Qw (Qd λK C=>QB (cs:=[_,_,_,_,_,_,_]) Z Z Z Z (QA (Yx Wa Wa) Z Z (.inr Z) (Zp Z (Qb Z (Qq (g:=9) Z (λV=>?_) (λV=>?_))))))))));rw[V];simp only[qB]at V;refine gn3 Z Z Z (Qh Z Z (kc3 C Z Z Z (Zb Z (Qd λK C=>Qb Z (kc1 C Z (Qv (Qi (QR Z ?_))))))))
 grind [Hq]
 rw[V];simp only[qB]at V;refine Qc Z (QB (cs:=[_,_,_,_,_,_,_]) Z Z Z Z (Qc Z (QA (Yx Wa Wa) Z Z (.inr Z) (Qc Z (Zp Z (Qh Z Z (kc3 C Z Z Z (Qs Z (λU=>?_) (λU=>?_)))))))));rw[U];simp only[qB]at U;refine Qd λK C=>Qb Z (kc1 C Z (Qv (Qi (QR Z ?_))))
 grind [Hq]
 rw[U];simp only[qB]at U;refine Qp (ks2 Z Z (Qw (Qd λK C=>Qe Z Z (Qr Z Z Z (Qe Z Z (Qr Z Z Z (Ys Z Z (Qb Z (Qq (g:=19) Z (λT=>?_) (λT=>?_))))))))));rw[T];simp only[qB]at T;refine gn3 Z Z Z (Qh Z Z (kc3 C Z Z Z (Zb Z (Qd λK C=>Qe Z Z (Qr Z Z Z (Qe Z Z (Qr Z Z Z (QA (ZN) Z Z (.inr Z) (Qb Z (kc1 C Z (Qv (Qi (QR Z ?_)))))))))))))
 grind [Hq]
 rw[T];simp only[qB]at T;refine Qc Z (Qe Z Z (Qc Z (Qr Z Z Z (Qc Z (Ys Z Z (Qh Z Z (kc3 C Z Z Z (Qs Z (λO=>?_) (λO=>?_)))))))));rw[O];simp only[qB]at O;refine Qd λK C=>Qe Z Z (Qr Z Z Z (Qe Z Z (Qr Z Z Z (QA (ZN) Z Z (.inr Z) (Qb Z (kc1 C Z (Qv (Qi (QR Z ?_)))))))))
 grind [Hq]
 rw[O];simp only[qB]at O;refine Qp (ks2 Z Z (Qw (Qd λK C=>Qe Z Z (QB (cs:=[_,_,_,_,_]) Z Z Z Z (Qe Z Z (QB (cs:=[_,_,_,_,_]) Z Z Z Z (QA (Y2 Wa Wa Wa Wa) Z Z (.inr Z) (Qb Z (kc3 C Z Z Z (Qd λK C=>Qb Z (Ys Z Z (kc4 C Z Z Z Z (Qs Z (λM=>?_) (λM=>?_))))))))))))));rw[M];simp only[qB]at M;refine Qd λK C=>mv2 Z Z (kc1 C Z (Qv (Qi (QR Z ?_))))
 grind [Hq]
 rw[M];simp only[qB]at M;refine Qp (ks2 Z Z (Qw (Qu (Qd λK C=>Qe Z Z (Qr Z Z Z (Qe Z Z (Qr Z Z Z (Qay Z Z (Qb Z (kc2 C Z Z (Qs Z (λG=>?_) (λG=>?_))))))))))));rw[G];simp only[qB]at G;refine Qd λK C=>Qb Z (kc1 C Z (Qv (Qm (Qi (QR Z ?_)))))
 grind [Hq]
 rw[G];simp only[qB]at G;refine Qd λK C=>Qe Z Z (Qr Z Z Z (Qb Z (kc1 C Z (Qs Z (λY=>?_) (λY=>?_)))));rw[Y];refine Qd λK C=>Qb Z (kc1 C Z (Qv (Qm (Qi (QR Z ?_)))))
 grind [Hq]
 rw[Y];refine Qp (Qk (QK (QL) (Qd λK C=>Qb Z (kc1 C Z (Qv (QR Z ?_))))))
 grind [Hq]
theorem Y4 (hp:p.length<=1048576) (U:q.length<=1048576) (T:p'.length<=1048576) (O:q'.length<=1048576):Ok Tryz.prog 194 [.agg [.int .i64 e,.int .i64 a,.int .i64 b,.int .i64 c,.str p,.str q,.bool f,.int .i64 e',.int .i64 a',.int .i64 b',.int .i64 c',.str p',.str q',.bool f']] (.bool (SM e a b c p q f e' a' b' c' p' q' f')):=by
 refine Ok.n7 tfol Tryz.func194 QyN (QEi Z) ?_;show TW _ _ tf194.body _ _;refine Qd λK C=>Zu Z Z Z (Qb Z (kc1 C Z (Qd λK C=>Qe Z Z (QB (cs:=[_,_,_,_,_,_,_]) Z Z Z Z (QA (Yx Wa Wa) Z Z (.inr Z) (Qb Z (Qq (g:=6) Z (λM=>?_) (λM=>?_))))))));rw[M];refine Qc Z (Qe Z Z (Qc Z (QB (cs:=[_,_,_,_,_,_,_]) Z Z Z Z (Qc Z (QA (Yx Wa Wa) Z Z (.inr Z) (Qh Z Z (Qb Z (Qq (g:=11) Z (λG=>?_) (λG=>?_)))))))));rw[G];refine Qc Z (Qe Z Z (Qc Z (QB (cs:=[_,_,_,_,_,_,_]) Z Z Z Z (Qc Z (Qe Z Z (Qc Z (QB (cs:=[_,_,_,_,_,_,_]) Z Z Z Z (Qc Z (QA (ZL Wa Wa Wa Wa) Z Z (.inr Z) (Qc Z (ZK Z Z (Qh Z Z (Qb Z (kc1 C Z (Qv (Qg Z ?_))))))))))))))))
 grind [SM]
 rw[G];refine gn4 Z Z Z Z (gn2 Z Z (Qh Z Z (Qb Z (kc1 C Z (Qv (Qg Z ?_))))))
 grind [SM]
 rw[M];refine gn3 Z Z Z (Qh Z Z (Qb Z (gn4 Z Z Z Z (gn2 Z Z (Qh Z Z (Qb Z (kc1 C Z (Qv (Qg Z ?_)))))))))
 grind [SM]
theorem Hg (hl:s.length<=1048576):Ok Tryz.prog 153 [.str s] (.g8 [.int .i64 (YC s).1,.bool (YC s).2]):=by
 refine Ok.n7 tfol Tryz.func153 Qyv (QEi Z) ?_;show TW _ _ tf153.body _ _;refine Qd λK C=>mv2 Z Z (kc1 C Z (HD (ι:=Unit) (λ_u=>⟨[(0,.str s)],[]⟩) (λ_u=>¬(s=[]\/4<s.length\/(1<s.length/\s.head?=some 48))) ?_ ?_))
 skip
 refine Qd λK C=>Qb Z (HB Z Z (Qb Z (Qq (g:=9) Z (λh1=>?_) (λh1=>?_))));rw[h1];simp only[qB,QEm,QEv,decide_eq_true_eq]at h1;refine gn3 Z Z Z (Qh Z Z (Qb Z (gn4 Z Z Z Z (Qy Z (Qy Z (Qy Z (YN Z (Qh Z Z (kc2 C Z Z (Zb Z (Qd λK C=>mv2 Z Z (kc2 C Z Z (Qv (YI (ZD Z Z ?_)))))))))))))))
 (rw[Qc6 (s:=s) Wc];trivial)
 rw[h1];simp only[qB,QEm,QEv,decide_eq_true_eq]at h1;refine Qc Z (Qb Z (Qc Z (YQ Z (Qc Z (Jh Z Z (Qh Z Z (Qb Z (Qq (g:=14) Z (λh2=>?_) (λh2=>?_)))))))));rw[h2];simp only[qB,QEm,QEv,decide_eq_true_eq]at h2;refine gn4 Z Z Z Z (Qy Z (Qy Z (Qy Z (YN Z (Qh Z Z (kc2 C Z Z (Zb Z (Qd λK C=>mv2 Z Z (kc2 C Z Z (Qv (YI (ZD Z Z ?_))))))))))))
 (rw[Qc6 (s:=s) Wa];trivial)
 rw[h2];simp only[qB,QEm,QEv,decide_eq_true_eq]at h2;refine Qc Z (Qb Z (Qc Z (YK Z Z Wa (G4 (i:=0) (QE0.2 Wa)) (Qc Z (Yp Z Z (Qc Z (Qb Z (Qq (g:=18) Z (λY=>?_) (λY=>?_)))))))));rw[Y];simp only[qB,QEm,QEv,decide_eq_true_eq]at Y;refine Qc Z (Qb Z (Qc Z (YQ Z (Qc Z (Jh Z Z (Qc Z (Qh Z Z (Qh Z Z (kc2 C Z Z (Qs Z (λV=>?_) (λV=>?_)))))))))));rw[V];simp only[qB,QEm,QEv,decide_eq_true_eq]at V;refine Qd λK C=>mv2 Z Z (kc2 C Z Z (Qv (YI (ZD Z Z ?_))))
 (rw[Qc7 (s:=s) Wa Wa];trivial)
 rw[V];simp only[qB,QEm,QEv,decide_eq_true_eq]at V;refine Qp (Zl () ?_ ?_);exact Zn (kp1 Z)
 grind
 rw[Y];simp only[qB,QEm,QEv,decide_eq_true_eq]at Y;refine gn3 Z Z Z (Qc Z (Qh Z Z (Qh Z Z (kc2 C Z Z (Zq Z (Qp (Zl () ?_ ?_)))))));exact Zn (kp1 Z)
 grind [Qgv]
 intro _u hJ;refine Qd λK C=>Qb Z (kc2 C Z Z (Qw (Qd λK C=>Qb Z (Qe4 Z Z (kc2 C Z Z (Qu (Q8 (ι:=Nat) (λi=>⟨[(4,.int .i64 (val (s.take i))),(25,.ref 25 0 0)],[(25,⟨[],0,ZM s i,false⟩)]⟩) (λi=>i<=s.length/\(s.take i).all X2=true/\s.length<=4/\0<s.length) (λi=>s.length - i) 0 ?_ ?_ ?_)))))));exact QM (l:=[4,25]) (lH:=[25]) (kp2 Z Z) (Qa Z Qf) Wg Z Z
 grind
 intro i hI;have hv:=QiQ (s:=s.take i) hI.2.1;have hp:10 ^ (s.take i).length<=10 ^ 4:=QFO Wa Wc;have hI1:=hI.1;have hI3:=hI.2.2.1;refine Qd λK C=>?_;rcases QEF (i) (s).length with U |U
 rcases QEF (((s)[i]).toNat) 128 with h6 |h6;refine QbS Z Z U (C1 U h6) (QN Z Z (kc4 C Z Z Z Z (Qw (Zb Z (Qp (ks3 Z Z Z (Qu (Qd λK C=>QN Z Z (Qb Z (kc3 C Z Z Z (Qu (Qd λK C=>Qb Z (Gw Z Z (Qb Z (Qq (g:=32) Z (λT=>?_) (λT=>?_))))))))))))))));rw[T];simp only[qB,QEm,QEv,decide_eq_true_eq]at T;refine Qc Z (Qb Z (Qc Z (Cr Z Z (Qh Z Z (Qb Z (kc4 C Z Z Z Z (Qs Z (λO=>?_) (λO=>?_))))))));rw[O];simp only[qB,QEm,QEv,decide_eq_true_eq]at O;refine QJ λK C=>Qb Z (Qe3 Z Z Wb (Qb Z (J7 Z Z (by exact Qly Wa Wa) (Qe1 Z Wb (Q2 Z Z Wb (Qb Z (C _ ?_)))))))
 refine Qk (Qk (Qj (i+1) ?_ ?_ ?_));exact QM (l:=[4,25]) (lH:=[25]) (kp2 Z Z) (Qa Z Qf) (by grind [QdH]) Z Z
 grind [ZW,X2]
 omega;rw[O];simp only[qB,QEm,QEv,decide_eq_true_eq]at O;refine Qd λK C=>mv2 Z Z (kc2 C Z Z (Qv (Qm (Qm (QQ (Qm (Qi (ZD Z Z ?_))))))))
 (rw[DB (s:=s) (i:=i) Wa Wn];trivial)
 rw[T];simp only[qB,QEm,QEv,decide_eq_true_eq]at T;refine gn2 Z Z (Qh Z Z (Qb Z (kc4 C Z Z Z Z (Zq Z (Qd λK C=>mv2 Z Z (kc2 C Z Z (Qv (Qm (Qm (QQ (Qm (Qi (ZD Z Z ?_)))))))))))))
 (rw[DB (s:=s) (i:=i) Wa Wn];trivial)
 obtain⟨cwh6,nwh6,hch6,M⟩:=Qcj U h6;refine QbS Z Z U M (QN Z Z (kc4 C Z Z Z Z (Qw (Zb Z (Qp (ks3 Z Z Z (Qu (Qd λK C=>QN Z Z (Qb Z (kc3 C Z Z Z (Qu (Qd λK C=>Qb Z (Gw Z Z (Qb Z (Qq (g:=32) Z (λh9=>?_) (λh9=>?_))))))))))))))));rw[h9];simp only[qB,QEm,QEv,decide_eq_true_eq]at h9;refine Qc Z (Qb Z (Qc Z (Cr Z Z (Qh Z Z (Qb Z (kc4 C Z Z Z Z (Qs Z (λG=>?_) (λG=>?_))))))))
 grind
 rw[G];simp only[qB,QEm,QEv,decide_eq_true_eq]at G;refine Qd λK C=>mv2 Z Z (kc2 C Z Z (Qv (Qm (Qm (QQ (Qm (Qi (ZD Z Z ?_))))))))
 (rw[DB (s:=s) (i:=i) Wa Wn];trivial)
 grind
 refine CA Z Z Wa (QN Z Z (kc4 C Z Z Z Z (Qw (Zq Z (Q3 (QF (Qx (QD (ks1 Z (Qd λK C=>mv2 Z Z (Cr Z Z (mv2 Z Z (kc2 C Z Z (Qv (ZD Z Z ?_)))))))))))))))
 (rw[QoJ (s:=s) (i:=i) hJ Wa hI.2.1];exact⟨rfl,by grind [XX,D.fz,D.x7,D.can,D.x6]⟩)
theorem _root_.We {p:Prop} (h:p:=by decide):p:=h
theorem Hj (hl:s.length<=1048576):Ok Tryz.prog 114 [.str s] (.bool (Ni s)):=by
 refine Ok.n7 tfol Tryz.func114 Qyb (QEi Z) ?_;show TW _ _ tf114.body _ _;refine Qd λK C=>Qb Z (kc1 C Z (LG (Qd λK C=>Qb Z (QA (J9 Wa) Z Z (.inl Z) (Qb Z (kc1 C Z (Qd λK C=>Qb Z (QW Z Z (Cr Z Z (Qb Z (kc2 C Z Z (Qw (Qp (ks2 Z Z (Qw (Qd λK C=>Qb Z (QW Z Z (Qb Z (kc4 C Z Z Z Z (Qu (Q8 (ι:=Nat) (λi=>⟨[(4,.bool (decide ((Zr s 46).length<=4))),(14,.sl (JD (Zr s 46))),(15,.int .i64 (Zr s 46).length),(16,.int .i64 i)],[]⟩) (λi=>i<=(Zr s 46).length/\((Zr s 46).take i).all Cv=true) (λi=>(Zr s 46).length - i) 0 ?_ ?_ ?_)))))))))))))))))))));exact QM (l:=[4,14,15,16]) (kp4 Z Z Z Z) Qf (by simp[QU];omega) Z Z
 simp;intro i hI;have sl:=MH (s:=s) (c:=46);refine Qd λK C=>ZK Z Z (kc5 C Z Z Z Z Z (Qw (Qs Z (λh1=>?_) (λh1=>?_))));rw[h1];simp only[qB,QU]at h1;refine Qp (ks4 Z Z Z Z (Qw (Qu (Qd λK C=>Qt Z Z Z Wa (Ke Wa) Z (Qr Z Z Z (Qb Z (kc5 C Z Z Z Z Z (Qw (Qd λK C=>Qb Z (HB Z Z (Qb Z (Qq (g:=22) Z (λh2=>?_) (λh2=>?_)))))))))))));rw[h2];simp only[qB,QU]at h2;refine gn3 Z Z Z (Qh Z Z (kc6 C Z Z Z Z Z Z (Zb Z (Qd λK C=>Qb Z (kc1 C Z (Q3 (QF (Yf We (QF (Qx (QD (ks1 Z (Qd λK C=>mv2 Z Z (kc1 C Z (Qv (Qg Z ?_))))))))))))))));exact(FN (i:=i) Wa (QcW Wc)).symm;rw[h2];simp only[qB,QU]at h2;refine Qc Z (Qb Z (Qc Z (YQ Z (Qc Z (Jh Z Z (Qh Z Z (kc6 C Z Z Z Z Z Z (Qs Z (λh3=>?_) (λh3=>?_)))))))));rw[h3];simp only[qB,QU]at h3;refine Qd λK C=>Qb Z (kc1 C Z (Q3 (QF (Yf We (QF (Qx (QD (ks1 Z (Qd λK C=>mv2 Z Z (kc1 C Z (Qv (Qg Z ?_))))))))))));exact(FN (i:=i) Wa (QcW Wa)).symm;rw[h3];simp only[qB,QU]at h3;refine Qp (ks5 Z Z Z Z Z (Qd λK C=>Qb Z (Qe4 Z Z (kc5 C Z Z Z Z Z (Qu ?_)))));have G:i<(Zr s 46).length:=Wa;refine Q8 (ι:=Nat) (λj=>⟨[(4,.bool (decide ((Zr s 46).length<=4))),(14,.sl (JD (Zr s 46))),(15,.int .i64 (Zr s 46).length),(16,.int .i64 i),(28,.ref 28 0 0)],[(28,⟨[],0,ZM ((Zr s 46)[i]'G) j,false⟩)]⟩) (λj=>j<=((Zr s 46)[i]'G).length/\(((Zr s 46)[i]'G).take j).all Hl=true) (λj=>((Zr s 46)[i]'G).length - j) 0 ?_ ?_ ?_;exact QM (l:=[4,14,15,16,28]) (lH:=[28]) (kp5 Z Z Z Z Z) (Qa Z Qf) Z Z Z;simp;intro j hJ;have hJ1:=hJ.1;refine Qd λK C=>?_;rcases QEF (j) (((Zr s 46)[i]'G)).length with h4 |h4
 rcases QEF (((((Zr s 46)[i]'G))[j]).toNat) 128 with h5 |h5;refine QbS Z Z h4 (C1 h4 h5) (QN Z Z (kc7 C Z Z Z Z Z Z Z (Qw (Zb Z (Qp (ks6 Z Z Z Z Z Z (Qu (Qd λK C=>QN Z Z (Qb Z (kc6 C Z Z Z Z Z Z (Qd λK C=>Qb Z (ZK Z Z (Qb Z ?_)))))))))))))
 refine Qq (g:=34) Z (λh6=>?_) (λh6=>?_);rw[h6];simp only[qB,QU]at h6;refine gn2 Z Z (Qh Z Z (Qb Z (Qc Z (Qb Z (Qc Z (ZK Z Z (Qc Z (Qb Z (Qq (g:=41) Z (λh7=>?_) (λh7=>?_))))))))));rw[h7];simp only[qB,QU]at h7;refine gn2 Z Z (Qc Z (Qh Z Z (Qh Z Z (Qb Z (Qc Z (Qb Z (Qc Z (Ys Z Z (Qh Z Z (kc6 C Z Z Z Z Z Z (Qs Z (λh8=>?_) (λh8=>?_))))))))))));rw[h8];simp only[qB,QU]at h8;refine Qd λK C=>Qb Z (kc1 C Z (Q3 (Yf We (Qx (Yf We (Yf We (QF (Qx (QD (ks1 Z (Qd λK C=>mv2 Z Z (kc1 C Z (Qv (Qg Z ?_))))))))))))))
 grind [FN,Ri,JU,Hl]
 rw[h8];simp only[qB,QU]at h8;refine Qp (Qk (Qj (j+1) ?_ ?_ ?_));exact QM (l:=[4,14,15,16,28]) (lH:=[28]) (kp5 Z Z Z Z Z) (Qa Z Qf) Z Z Z
 grind [ZW,Hl]
 omega;rw[h7];simp only[qB,QU]at h7;refine Qc Z (Qb Z (Qc Z (Jh Z Z (Qc Z (Qh Z Z (Qh Z Z (Qb Z (Qq (g:=46) Z (λh9=>?_) (λh9=>?_)))))))));rw[h9];simp only[qB,QU]at h9;refine Qc Z (Qb Z (Qc Z (Ys Z Z (Qh Z Z (kc6 C Z Z Z Z Z Z (Qs Z (λh10=>?_) (λh10=>?_)))))));rw[h10];simp only[qB,QU]at h10;refine Qd λK C=>Qb Z (kc1 C Z (Q3 (Yf We (Qx (Yf We (Yf We (QF (Qx (QD (ks1 Z (Qd λK C=>mv2 Z Z (kc1 C Z (Qv (Qg Z ?_))))))))))))))
 grind [FN,Ri,JU,Hl]
 grind
 rw[h9];simp only[qB,QU]at h9;refine gn2 Z Z (Qh Z Z (kc6 C Z Z Z Z Z Z (Zq Z (Qp (Qk (Qj (j+1) ?_ ?_ ?_))))));exact QM (l:=[4,14,15,16,28]) (lH:=[28]) (kp5 Z Z Z Z Z) (Qa Z Qf) Z Z Z
 grind [ZW,Hl]
 omega;rw[h6];simp only[qB,QU]at h6;refine Qc Z (Qb Z (Qc Z (Jh Z Z (Qh Z Z (Qb Z (Qq (g:=38) Z (λM=>?_) (λM=>?_)))))));rw[M];simp only[qB,QU]at M;refine Qc Z (Qb Z (Qc Z (ZK Z Z (Qc Z (Qb Z (Qq (g:=41) Z (λh12=>?_) (λh12=>?_)))))))
 grind
 rw[h12];simp only[qB,QU]at h12;refine Qc Z (Qb Z (Qc Z (Jh Z Z (Qc Z (Qh Z Z (Qh Z Z (Qb Z (Qq (g:=46) Z (λh14=>?_) (λh14=>?_)))))))));rw[h14];simp only[qB,QU]at h14;refine Qc Z (Qb Z (Qc Z (Ys Z Z (Qh Z Z (kc6 C Z Z Z Z Z Z (Qs Z (λh15=>?_) (λh15=>?_)))))));rw[h15];simp only[qB,QU]at h15;refine Qd λK C=>Qb Z (kc1 C Z (Q3 (Yf We (Qx (Yf We (Yf We (QF (Qx (QD (ks1 Z (Qd λK C=>mv2 Z Z (kc1 C Z (Qv (Qg Z ?_))))))))))))))
 grind [FN,Ri,JU,Hl]
 grind
 grind
 rw[M];simp only[qB,QU]at M;refine gn3 Z Z Z (Qy Z (Qy Z (YN Z (Qh Z Z (Qb Z (gn2 Z Z (Qh Z Z (kc6 C Z Z Z Z Z Z (Zq Z (Qp (Qk (Qj (j+1) ?_ ?_ ?_))))))))))));exact QM (l:=[4,14,15,16,28]) (lH:=[28]) (kp5 Z Z Z Z Z) (Qa Z Qf) Z Z Z
 grind [ZW,Hl]
 omega;obtain⟨cwh5,nwh5,hch5,hdh5⟩:=Qcj h4 h5;refine QbS Z Z h4 hdh5 (QN Z Z (kc7 C Z Z Z Z Z Z Z (Qw (Zb Z (Qp (ks6 Z Z Z Z Z Z (Qu (Qd λK C=>QN Z Z (Qb Z (kc6 C Z Z Z Z Z Z (Qd λK C=>Qb Z (ZK Z Z (Qb Z (Qq (g:=34) Z (λY=>?_) (λY=>?_)))))))))))))))
 grind
 rw[Y];simp only[qB,QU]at Y;refine Qc Z (Qb Z (Qc Z (Jh Z Z (Qh Z Z (Qb Z (Qq (g:=38) Z (λV=>?_) (λV=>?_)))))));rw[V];simp only[qB,QU]at V;refine Qc Z (Qb Z (Qc Z (ZK Z Z (Qc Z (Qb Z (Qq (g:=41) Z (λU=>?_) (λU=>?_)))))))
 grind
 rw[U];simp only[qB,QU]at U;refine Qc Z (Qb Z (Qc Z (Jh Z Z (Qc Z (Qh Z Z (Qh Z Z (Qb Z (Qq (g:=46) Z (λT=>?_) (λT=>?_)))))))));rw[T];simp only[qB,QU]at T;refine Qc Z (Qb Z (Qc Z (Ys Z Z (Qh Z Z (kc6 C Z Z Z Z Z Z (Qs Z (λO=>?_) (λO=>?_)))))));rw[O];simp only[qB,QU]at O;refine Qd λK C=>Qb Z (kc1 C Z (Q3 (Yf We (Qx (Yf We (Yf We (QF (Qx (QD (ks1 Z (Qd λK C=>mv2 Z Z (kc1 C Z (Qv (Qg Z ?_))))))))))))))
 grind [FN,Ri,JU,Hl]
 grind
 grind
 grind
 refine CA Z Z Wa (QN Z Z (kc7 C Z Z Z Z Z Z Z (Qw (Zq Z (Q3 (QF (Qx (QD (Qk (ks4 Z Z Z Z (QJ λK C=>Q2 Z Z Wb (Qb Z (C _ (Qj (i+1) ?_ ?_ ?_))))))))))))));exact QM (l:=[4,14,15,16]) (kp4 Z Z Z Z) Qf Z Z Z
 grind [ZW,Qoy]
 omega;rw[h1];simp only[qB,QU]at h1;refine Q3 (QF (Qx (QD (ks1 Z (Qd λK C=>mv2 Z Z (kc1 C Z (Qv (Qg Z ?_))))))))
 grind [Qim]
theorem LY {a b:List UInt8} (ha:a.length<=1048576) (hb:b.length<=1048576):Ok Tryz.prog 118 [.str a,.str b] (.int .i64 (Qbk a b)):=by
 refine Ok.n7 tfol Tryz.func118 Qyf (QEi Z) ?_;show TW _ _ tf118.body _ _;refine Qd λK C=>Qb Z (kc2 C Z Z (Qd λK C=>Qb Z (QA (Jj Wa) Z Z (.inr Z) (Qb Z (QA (Jj Wa) Z Z (.inr Z) (mv2 Z Z (kc4 C Z Z Z Z (Qw (Qd λK C=>mv2 Z Z (Qq (g:=16) Z (λT=>?_) (λT=>?_)))))))))));rw[T];refine Qc Z (Qb Z (Qh Z Z (kc5 C Z Z Z Z Z (Qs Z (λO=>?_) (λO=>?_)))));rw[O];refine Qd λK C=>Qb Z (QA (Hg Wa) Z Z (.inr Z) (Qb Z (QN Z Z (QN Z Z (mv2 Z Z (kc2 C Z Z (Qd λK C=>Qb Z (QA (Hg Wa) Z Z (.inr Z) (Qb Z (QN Z Z (QN Z Z (mv2 Z Z (kc2 C Z Z (Qd λK C=>mv2 Z Z (QA (ZY) Z Z (.inr Z) (Qb Z (kc1 C Z (Qv (Qi (QR Z ?_))))))))))))))))))))
 grind [Qbk]
 rw[O];refine Qp (ks4 Z Z Z Z (Qw (Qd λK C=>mv2 Z Z (QrS Z Z (kc4 C Z Z Z Z (Qs Z (λM=>?_) (λM=>?_)))))));rw[M];simp only[qB]at M;refine Qw (Qd λK C=>Qb Z (kc1 C Z (Zb Z (Qd λK C=>Qb Z (kc1 C Z (Qv (Qi (Qi (QR Z ?_)))))))))
 grind [Qbk]
 grind
 rw[T];refine YN Z (Qh Z Z (kc5 C Z Z Z Z Z (Zq Z (Qp (ks4 Z Z Z Z (Qw (Qd λK C=>mv2 Z Z (QrS Z Z (kc4 C Z Z Z Z (Qs Z (λG=>?_) (λG=>?_)))))))))));rw[G];simp only[qB]at G;refine Qw (Qd λK C=>Qb Z (kc1 C Z (Zq Z (Qp (QK (QL) (Qd λK C=>Qb Z (kc1 C Z (Qv (Qi (QR Z ?_))))))))))
 grind [Qbk]
 rw[G];simp only[qB]at G;refine Qp (ks2 Z Z (Qd λK C=>mv2 Z Z (QA (Xt) Z Z (.inr Z) (Qb Z (kc1 C Z (Qv (QR Z ?_)))))))
 grind [Qbk]
theorem LX (U:s.length<=1048576):Ok Tryz.prog 113 [.str s] (.bool (By s)):=by
 refine Ok.n7 tfol Tryz.func113 Qya (QEi Z) ?_;show TW _ _ tf113.body _ _;refine Qd λK C=>Qb Z (kc1 C Z (Qw (Qd λK C=>Qb Z (QA (Hj Wa) Z Z (.inr Z) (Zp Z (kc2 C Z Z (Qs Z (λO=>?_) (λO=>?_))))))));rw[O];simp only[qB,QU]at O;refine Qd λK C=>Qb Z (kc1 C Z (Qv (Qi (Qg Z ?_))))
 grind [By]
 rw[O];simp only[qB,QU]at O;refine Qp (ks1 Z (Qw (Qd λK C=>Qb Z (QA (J9 Wa) Z Z (.inl Z) (QW Z Z (Qb Z (kc3 C Z Z Z (Qu (Q8 (ι:=Nat) (λi=>⟨[(11,.sl (JD (Zr s 46))),(12,.int .i64 (Zr s 46).length),(13,.int .i64 i)],[]⟩) (λi=>i<=(Zr s 46).length/\((Zr s 46).take i).all BV=true) (λi=>(Zr s 46).length - i) 0 ?_ ?_ ?_)))))))));exact QM (l:=[11,12,13]) (kp3 Z Z Z) Qf (by simp[QU]) Z Z;simp;intro i V;have sl:=MH (s:=s) (c:=46);refine Qd λK C=>ZK Z Z (kc4 C Z Z Z Z (Qw (Qs Z (λM=>?_) (λM=>?_))));rw[M];simp only[qB,QU]at M;refine Qp (ks3 Z Z Z (Qw (Qu (Qd λK C=>Qt Z Z Z Wa (Ke Wa) Z (Qr Z Z Z (Qb Z (kc4 C Z Z Z Z (Qd λK C=>Qb Z (QA (Hg (Ki Wa U)) Z Z (.inr Z) (Qb Z (QN Z Z (QN Z Z (mv2 Z Z (kc5 C Z Z Z Z Z (Qd λK C=>Qb Z (QA (Jj (Ki Wa U)) Z Z (.inr Z) (Qb Z (Qq (g:=24) Z (λT=>?_) (λT=>?_)))))))))))))))))));rw[T];refine Qc Z (Qb Z (Qc Z (Zp Z (Qh Z Z (kc4 C Z Z Z Z (Qs Z (λG=>?_) (λG=>?_)))))));rw[G];simp only[qB,QU]at G;refine Qd λK C=>Qb Z (kc1 C Z (Qv (Qm (Qi (QQ (Qm (Qi (Qg Z ?_))))))));exact(Qo5 (i:=i) Wa (by grind [BV])).symm;rw[G];simp only[qB,QU]at G;refine Qp (Qk (ks3 Z Z Z (QJ λK C=>Q2 Z Z Wb (Qb Z (C _ (Qj (i+1) ?_ ?_ ?_))))));exact Zn (kp3 Z Z Z)
 grind [ZW,BV]
 omega;rw[T];refine gn2 Z Z (Qh Z Z (kc4 C Z Z Z Z (Zq Z (Qp (Qk (ks3 Z Z Z (QJ λK C=>Q2 Z Z Wb (Qb Z (C _ (Qj (i+1) ?_ ?_ ?_))))))))));exact Zn (kp3 Z Z Z)
 grind [ZW,BV]
 omega;rw[M];simp only[qB,QU]at M;refine Q3 (QF (Qx (QD (QK (QL) (Qd λK C=>Qb Z (kc1 C Z (Qv (Qg Z ?_))))))))
 grind [QkM]
theorem YU (hp:p.length<=1048576) (hq:q.length<=1048576):Ok Tryz.prog 81 [.agg [.int .i64 a,.int .i64 b,.int .i64 c,.str p,.str q]] (.bool (Ff a b c p q)):=by
 refine Ok.n7 tfol Tryz.func81 QD4 (QEi Z) ?_;show TW _ _ tf81.body _ _;refine Qd λK C=>Zu Z Z Z (Qb Z (kc1 C Z (Qd λK C=>Qe Z Z (Qr Z Z Z (QA (Hi) Z Z (.inr Z) (Qb Z (Qq (g:=6) Z (λY=>?_) (λY=>?_))))))));rw[Y];refine Qc Z (Qe Z Z (Qc Z (Qr Z Z Z (Qc Z (QA (Hi) Z Z (.inr Z) (Qh Z Z (Qb Z (Qq (g:=11) Z (λV=>?_) (λV=>?_)))))))));rw[V];refine Qc Z (Qe Z Z (Qc Z (Qr Z Z Z (Qc Z (QA (Hi) Z Z (.inr Z) (Qh Z Z (Qb Z (Qq (g:=16) Z (λU=>?_) (λU=>?_)))))))));rw[U];refine Qc Z (Qe Z Z (Qc Z (Qr Z Z Z (Qc Z (HB Z Z (Qc Z (Qb Z (Qq (g:=20) Z (λO=>?_) (λO=>?_)))))))));rw[O];simp only[qB]at O;refine gn3 Z Z Z (Qc Z (Qh Z Z (Qh Z Z (Qb Z (Qc Z (Qe Z Z (Qc Z (Qr Z Z Z (Qc Z (HB Z Z (Qc Z (Qb Z (Qq (g:=30) Z (λM=>?_) (λM=>?_))))))))))))));rw[M];simp only[qB]at M;refine gn3 Z Z Z (Qc Z (Qh Z Z (Qh Z Z (Qb Z (kc1 C Z (Qv (Qg Z ?_)))))))
 grind [Ff,Gm,HT]
 rw[M];simp only[qB]at M;refine Qc Z (Qe Z Z (Qc Z (Qr Z Z Z (Qc Z (QA (Hj Wa) Z Z (.inr Z) (Qc Z (Qh Z Z (Qh Z Z (Qb Z (kc1 C Z (Qv (Qg Z ?_))))))))))))
 grind [Ff,Gm,HT]
 rw[O];simp only[qB]at O;refine Qc Z (Qe Z Z (Qc Z (Qr Z Z Z (Qc Z (QA (LX Wa) Z Z (.inr Z) (Qc Z (Qh Z Z (Qh Z Z (Qb Z (Qq (g:=26) Z (λT=>?_) (λT=>?_)))))))))));rw[T];refine Qc Z (Qe Z Z (Qc Z (Qr Z Z Z (Qc Z (HB Z Z (Qc Z (Qb Z (Qq (g:=30) Z (λG=>?_) (λG=>?_)))))))));rw[G];simp only[qB]at G;refine gn3 Z Z Z (Qc Z (Qh Z Z (Qh Z Z (Qb Z (kc1 C Z (Qv (Qg Z ?_)))))))
 grind [Ff,Gm,HT]
 rw[G];simp only[qB]at G;refine Qc Z (Qe Z Z (Qc Z (Qr Z Z Z (Qc Z (QA (Hj Wa) Z Z (.inr Z) (Qc Z (Qh Z Z (Qh Z Z (Qb Z (kc1 C Z (Qv (Qg Z ?_))))))))))))
 grind [Ff,Gm,HT]
 rw[T];refine gn4 Z Z Z Z (Qy Z (Qy Z (Qy Z (YN Z (Qh Z Z (Qb Z (kc1 C Z (Qv (Qg Z ?_)))))))))
 grind [Ff,HT]
 rw[U];refine gn4 Z Z Z Z (Qy Z (Qy Z (Qy Z (YN Z (Qh Z Z (Qb Z (gn2 Z Z (gn2 Z Z (Qy Z (Qy Z (Qy Z (YN Z (Qh Z Z (Qb Z (kc1 C Z (Qv (Qg Z ?_)))))))))))))))))
 grind [Ff]
 rw[V];refine gn3 Z Z Z (Qh Z Z (Qb Z (gn4 Z Z Z Z (Qy Z (Qy Z (Qy Z (YN Z (Qh Z Z (Qb Z (gn4 Z Z Z Z (Qy Z (Qy Z (Qy Z (YN Z (Qh Z Z (Qb Z (kc1 C Z (Qv (Qg Z ?_)))))))))))))))))))
 grind [Ff]
 rw[Y];refine gn3 Z Z Z (Qh Z Z (Qb Z (gn3 Z Z Z (Qh Z Z (Qb Z (gn2 Z Z (gn2 Z Z (Qy Z (Qy Z (Qy Z (YN Z (Qh Z Z (Qb Z (gn4 Z Z Z Z (Qy Z (Qy Z (Qy Z (YN Z (Qh Z Z (Qb Z (kc1 C Z (Qv (Qg Z ?_)))))))))))))))))))))))
 grind [Ff]
theorem Ji (hp:p.length<=1048576) (hq:q.length<=1048576) (hp':p'.length<=1048576) (hq':q'.length<=1048576):Ok Tryz.prog 82 [.agg [.int .i64 a,.int .i64 b,.int .i64 c,.str p,.str q],.agg [.int .i64 a',.int .i64 b',.int .i64 c',.str p',.str q']] (.int .i64 (Pf a b c p q a' b' c' p' q')):=by
 refine Ok.n7 tfol Tryz.func82 QD5 (QEi Z) ?_;show TW _ _ tf82.body _ _;refine Qd λK C=>Zu Z Z Z (Zu Z Z Z (Qb Z (kc2 C Z Z (Qw (Qd λK C=>QY (ds0:=dn 14) (cs:=[_,_,_,_,_]) Z Z Z Z Z Z (Zi (ds0:=dn 13) (YU Wa Wa) Z Z (.inr Z) Z Z (Zp Z (Qb Z (Qq (g:=13) Z (λh1=>?_) (λh1=>?_))))))))));rw[h1];simp only[qB,QU]at h1;refine gn3 Z Z Z (Qh Z Z (Qb Z (gn4 Z Z Z Z (YN Z (Qh Z Z (kc3 C Z Z Z (Zb Z (Qd λK C=>Qb Z (kc1 C Z (Qv (Qi (QR Z ?_))))))))))))
 grind [Pf]
 rw[h1];simp only[qB,QU]at h1;refine Qc Z (QY (ds0:=dn 10) (cs:=[_,_,_,_,_]) Z Z Z Z Z Z (Qc Z (Zi (ds0:=dn 9) (YU Wa Wa) Z Z (.inr Z) Z Z (Qc Z (Zp Z (Qh Z Z (Qb Z (Qq (g:=18) Z (λh2=>?_) (λh2=>?_)))))))));rw[h2];simp only[qB,QU]at h2;refine gn4 Z Z Z Z (YN Z (Qh Z Z (kc3 C Z Z Z (Zb Z (Qd λK C=>Qb Z (kc1 C Z (Qv (Qi (QR Z ?_)))))))))
 grind [Pf]
 rw[h2];simp only[qB,QU]at h2;refine Qc Z (QY (ds0:=[4,1,0]) (cs:=[_,_,_,_,_]) Z Z Z Z Z Z (Qc Z (Zi (ds0:=[1,0]) (Nd) Z Z (.inl Z) Z Z (Qc Z (QY (ds0:=[2,1,0]) (cs:=[_,_,_,_,_]) Z Z Z Z Z Z (Qc Z (Zi (ds0:=[1,0]) (Nd) Z Z (.inl Z) Z Z (Qc Z (TO Z Z Z (Qh Z Z (kc3 C Z Z Z (Qs Z (λY=>?_) (λY=>?_)))))))))))));rw[Y];simp only[qB,QU]at Y;refine Qd λK C=>Qb Z (kc1 C Z (Qv (Qi (QR Z ?_))))
 grind [Qsp]
 rw[Y];simp only[qB,QU]at Y;refine Qp (ks2 Z Z (Qw (Qd λK C=>Qe Z Z (QG (ds0:=[13,2,1,0]) Z Z Z Z Z (Qe Z Z (QG (ds0:=[13,2,1,0]) Z Z Z Z Z (Zi (ds0:=[2,1,0]) (ZY) Z Z (.inr Z) Z Z (Qe Z Z (QG (ds0:=[8,2,1,0]) Z Z Z Z Z (Qe Z Z (QG (ds0:=[8,2,1,0]) Z Z Z Z Z (Zi (ds0:=[2,1,0]) (ZY) Z Z (.inr Z) Z Z (Qe Z Z (QG (ds0:=dn 4) Z Z Z Z Z (Qe Z Z (QG (ds0:=dn 4) Z Z Z Z Z (Zi (ds0:=[2,1,0]) (ZY) Z Z (.inr Z) Z Z (QZ Z Z (Zi (ds0:=[0]) (Pz (l:=[Yk a a',Yk b b',Yk c c']) Wd) Z Z (.inr Z) Z Z (Qb Z (kc3 C Z Z Z (Qd λK C=>Qb Z (Ys Z Z (kc4 C Z Z Z Z (Qs Z (λV=>?_) (λV=>?_))))))))))))))))))))))))));rw[V];simp only[qB,QU]at V;refine Qd λK C=>mv2 Z Z (kc1 C Z (Qv (Qi (QR Z ?_))))
 grind [QnL]
 rw[V];simp only[qB,QU]at V;refine Qp (ks2 Z Z (Qw (Qd λK C=>Qe Z Z (Qr Z Z Z (HB Z Z (kc3 C Z Z Z (Qs Z (λU=>?_) (λU=>?_))))))));rw[U];simp only[qB,QU]at U;refine Qd λK C=>Qb Z (kc1 C Z (Qv (Qi (QR Z ?_))))
 grind [QjR]
 rw[U];simp only[qB,QU]at U;refine Qp (ks2 Z Z (Qw (Qd λK C=>Qe Z Z (Qr Z Z Z (HB Z Z (kc3 C Z Z Z (Qs Z (λT=>?_) (λT=>?_))))))));rw[T];simp only[qB,QU]at T;refine Qd λK C=>Qb Z (kc1 C Z (Qv (Qi (QR Z ?_))))
 grind [QjS]
 rw[T];simp only[qB,QU]at T;refine Qp (ks2 Z Z (Qd λK C=>Qe Z Z (QG (ds0:=[5,1]) Z Z Z Z Z (Zi (ds0:=[1]) (J9 Wa) Z Z (.inl Z) Z Z (Qe Z Z (QG (ds0:=[2,0]) Z Z Z Z Z (Zi (ds0:=[0]) (J9 Wa) Z Z (.inl Z) Z Z (mv2 Z Z (kc2 C Z Z (Qw (Qd λK C=>Qb Z (kc3 C Z Z Z (Qu (Q8 (ι:=Nat) (λi=>⟨[(6,.sl (JD (Zr p 46))),(7,.sl (JD (Zr p' 46))),(8,.int .i64 i)],[]⟩) (λi=>i<=(Zr p 46).length/\i<=(Zr p' 46).length/\Pf a b c p q a' b' c' p' q'=QcU ((Zr p 46).drop i) ((Zr p' 46).drop i)) (λi=>(Zr p 46).length - i) 0 ?_ ?_ ?_))))))))))))));exact QM (l:=[6,7,8]) (kp3 Z Z Z) Qf Z Z Z
 (repeat clear C K);simp_all [QnM]
 intro i hI;have sl:=MH (s:=p) (c:=46);refine Qw (Qd λK C=>mv2 Z Z (QW Z Z (ZK Z Z (Qb Z (Qq (g:=61) Z (λO=>?_) (λO=>?_))))));rw[O];simp only[qB,QU]at O;refine Qc Z (Qb Z (Qc Z (Qb Z (Qc Z (QW Z Z (Qc Z (ZK Z Z (Qh Z Z (kc4 C Z Z Z Z (Qs Z (λM=>?_) (λM=>?_)))))))))));rw[M];simp only[qB,QU]at M;refine Qp (ks3 Z Z Z (Qw (Qu (Qd λK C=>mv2 Z Z (Qt Z Z Z Wa (Ke Wa) Z (QG (ds0:=[1,0]) Z Z Z Z Z (mv2 Z Z (Qt Z Z Z Wa (Ke Wa) Z (QG (ds0:=[1,0]) Z Z Z Z Z (Zi (ds0:=[0]) (LY (Ki Wa hp) (Ki Wa hp')) Z Z (.inr Z) Z Z (Qb Z (kc4 C Z Z Z Z (Qd λK C=>Qb Z (Ys Z Z (kc5 C Z Z Z Z Z (Qs Z (λG=>?_) (λG=>?_)))))))))))))))));rw[G];simp only[qB,QU]at G;refine Qd λK C=>mv2 Z Z (kc1 C Z (Qv (Qm (Qi (QQ (Qm (Qi (QR Z ?_))))))))
 grind [QcV]
 rw[G];simp only[qB,QU]at G;refine Qp (Qk (ks3 Z Z Z (QJ λK C=>Qb Z (Q2 Z Z Wb (Qb Z (C _ (Qj (i+1) ?_ ?_ ?_)))))));exact Zn (kp3 Z Z Z)
 grind [Bz]
 omega;rw[M];simp only[qB,QU]at M;refine Q3 (QF (Qx (QD (ks2 Z Z (Qd λK C=>Qb Z (QW Z Z (Qb Z (QW Z Z (QA (ZY) Z Z (.inr Z) (Qb Z (kc1 C Z (Qv (QR Z ?_)))))))))))))
 (grind [Rh,QU])
 rw[O];simp only[qB,QU]at O;refine gn4 Z Z Z Z (Qh Z Z (kc4 C Z Z Z Z (Zq Z (Q3 (QF (Qx (QD (ks2 Z Z (Qd λK C=>Qb Z (QW Z Z (Qb Z (QW Z Z (QA (ZY) Z Z (.inr Z) (Qb Z (kc1 C Z (Qv (QR Z ?_)))))))))))))))))
 (grind [Rh,QU])
theorem GR (hp:p.length<=1048576) (Y:q.length<=1048576):Ok Tryz.prog 228 [.agg [.int .i64 e,.int .i64 a,.int .i64 b,.int .i64 c,.str p,.str q,.bool f]] (.bool (JO e a b c p q f)):=by
 refine Ok.n7 tfol Tryz.func228 QyW (QEi Z) ?_;show TW _ _ tf228.body _ _;refine Qd λK C=>Zu Z Z Z (Qb Z (kc1 C Z (Qw (Qd λK C=>Qe Z Z (Qr Z Z Z (Yp Z Z (Qb Z (Qq (g:=6) Z (λU=>?_) (λU=>?_)))))))));rw[U];simp only[qB]at U;refine gn3 Z Z Z (Qh Z Z (kc2 C Z Z (Zb Z (Qd λK C=>Qe Z Z (QB (cs:=[_,_,_,_,_]) Z Z Z Z (Zz Z Z (TO Z Z Z (Qb Z (Qq (g:=15) Z (λT=>?_) (λT=>?_))))))))));rw[T];simp only[qB]at T;refine Qc Z (Qe Z Z (Qc Z (Qr Z Z Z (Qc Z (Zp Z (Qh Z Z (Qb Z (kc1 C Z (Qv (Qi (Qg Z ?_)))))))))))
 grind [JO]
 rw[T];simp only[qB]at T;refine gn3 Z Z Z (Qh Z Z (Qb Z (kc1 C Z (Qv (Qi (Qg Z ?_))))))
 grind [JO]
 rw[U];simp only[qB]at U;refine Qc Z (Qe Z Z (Qc Z (Qr Z Z Z (Qc Z (Yp Z Z (Qh Z Z (kc2 C Z Z (Qs Z (λO=>?_) (λO=>?_)))))))));rw[O];simp only[qB]at O;refine Qd λK C=>Qe Z Z (QB (cs:=[_,_,_,_,_]) Z Z Z Z (Zz Z Z (TO Z Z Z (Qb Z (Qq (g:=15) Z (λM=>?_) (λM=>?_))))));rw[M];simp only[qB]at M;refine Qc Z (Qe Z Z (Qc Z (Qr Z Z Z (Qc Z (Zp Z (Qh Z Z (Qb Z (kc1 C Z (Qv (Qi (Qg Z ?_)))))))))))
 grind [JO]
 rw[M];simp only[qB]at M;refine gn3 Z Z Z (Qh Z Z (Qb Z (kc1 C Z (Qv (Qi (Qg Z ?_))))))
 grind [JO]
 rw[O];simp only[qB]at O;refine Qd λK C=>Qe Z Z (Qr Z Z Z (Ys Z Z (kc2 C Z Z (Qs Z (λG=>?_) (λG=>?_)))));rw[G];simp only[qB]at G;refine Qd λK C=>Qb Z (kc1 C Z (Qv (Qi (Qg Z ?_))))
 grind [JO]
 rw[G];simp only[qB]at G;refine Qp (ks1 Z (Qd λK C=>Qe Z Z (QB (cs:=[_,_,_,_,_]) Z Z Z Z (QA (YU Wa Wa) Z Z (.inr Z) (Qb Z (Qq (g:=26) Z (λV=>?_) (λV=>?_)))))));rw[V];refine Qc Z (Qe Z Z (Qc Z (Qe Z Z (Qc Z (Qr Z Z Z (Qc Z (HB Z Z (Qh Z Z (Qb Z (kc1 C Z (Qv (Qg Z ?_))))))))))))
 grind [JO]
 rw[V];refine gn4 Z Z Z Z (Qh Z Z (Qb Z (kc1 C Z (Qv (Qg Z ?_)))))
 grind [JO]
theorem NP (hp:p.length<=1048576) (hq:q.length<=1048576) (hp':p'.length<=1048576) (hq':q'.length<=1048576):Ok Tryz.prog 192 [.agg [.int .i64 e,.int .i64 a,.int .i64 b,.int .i64 c,.str p,.str q,.bool f],.agg [.int .i64 e',.int .i64 a',.int .i64 b',.int .i64 c',.str p',.str q',.bool f']] (.int .i64 (Hq e a b c p q f e' a' b' c' p' q' f')):=by
 refine Ok.n7 tfol Tryz.func192 QyL (QEi Z) ?_;show TW _ _ tf192.body _ _;refine Qd λK C=>Zu Z Z Z (Zu Z Z Z (Qb Z (kc2 C Z Z (Qw (Qd λK C=>QB (cs:=[_,_,_,_,_,_,_]) Z Z Z Z (QA (GR Wa Wa) Z Z (.inr Z) (Zp Z (Qb Z (Qq (g:=9) Z (λV=>?_) (λV=>?_))))))))));rw[V];simp only[qB]at V;refine gn3 Z Z Z (Qh Z Z (kc3 C Z Z Z (Zb Z (Qd λK C=>Qb Z (kc1 C Z (Qv (Qi (QR Z ?_))))))))
 grind [Hq]
 rw[V];simp only[qB]at V;refine Qc Z (QB (cs:=[_,_,_,_,_,_,_]) Z Z Z Z (Qc Z (QA (GR Wa Wa) Z Z (.inr Z) (Qc Z (Zp Z (Qh Z Z (kc3 C Z Z Z (Qs Z (λU=>?_) (λU=>?_)))))))));rw[U];simp only[qB]at U;refine Qd λK C=>Qb Z (kc1 C Z (Qv (Qi (QR Z ?_))))
 grind [Hq]
 rw[U];simp only[qB]at U;refine Qd λK C=>Qe Z Z (Qr Z Z Z (Ys Z Z (Qb Z (Qq (g:=17) Z (λT=>?_) (λT=>?_)))));rw[T];simp only[qB]at T;refine gn3 Z Z Z (Qh Z Z (kc3 C Z Z Z (Zb Z (Qd λK C=>Qe Z Z (Qr Z Z Z (Qe Z Z (Qr Z Z Z (QA (ZY) Z Z (.inr Z) (Qb Z (kc1 C Z (Qv (Qi (QR Z ?_)))))))))))))
 grind [Hq]
 rw[T];simp only[qB]at T;refine Qc Z (Qe Z Z (Qc Z (Qr Z Z Z (Qc Z (Ys Z Z (Qh Z Z (kc3 C Z Z Z (Qs Z (λO=>?_) (λO=>?_)))))))));rw[O];simp only[qB]at O;refine Qd λK C=>Qe Z Z (Qr Z Z Z (Qe Z Z (Qr Z Z Z (QA (ZY) Z Z (.inr Z) (Qb Z (kc1 C Z (Qv (Qi (QR Z ?_)))))))))
 grind [QjL]
 rw[O];simp only[qB]at O;refine Qd λK C=>Qe Z Z (QB (cs:=[_,_,_,_,_]) Z Z Z Z (Qe Z Z (QB (cs:=[_,_,_,_,_]) Z Z Z Z (QA (Ji Wa Wa Wa Wa) Z Z (.inr Z) (Qb Z (kc3 C Z Z Z (Qd λK C=>Qb Z (Ys Z Z (kc4 C Z Z Z Z (Qs Z (λM=>?_) (λM=>?_)))))))))));rw[M];simp only[qB]at M;refine Qd λK C=>mv2 Z Z (kc1 C Z (Qv (Qi (QR Z ?_))))
 grind [Hq]
 rw[M];simp only[qB]at M;refine Qd λK C=>Qe Z Z (Qr Z Z Z (Qe Z Z (Qr Z Z Z (Qay Z Z (kc2 C Z Z (Qs Z (λG=>?_) (λG=>?_)))))));rw[G];simp only[qB]at G;refine Qd λK C=>Qb Z (kc1 C Z (Qv (Qi (QR Z ?_))))
 grind [Hq]
 rw[G];simp only[qB]at G;refine Qd λK C=>Qe Z Z (Qr Z Z Z (kc1 C Z (Qs Z (λY=>?_) (λY=>?_))));rw[Y];refine Qd λK C=>Qb Z (kc1 C Z (Qv (Qi (QR Z ?_))))
 grind [Hq]
 rw[Y];refine Qp (QK (QL) (Qd λK C=>Qb Z (kc1 C Z (Qv (QR Z ?_)))))
 grind [Hq]
theorem RY (hp:p.length<=1048576) (hq:q.length<=1048576) (Y:p'.length<=1048576) (V:q'.length<=1048576):Ok Tryz.prog 193 [.agg [.int .i64 e,.int .i64 a,.int .i64 b,.int .i64 c,.str p,.str q,.bool f],.agg [.int .i64 a',.int .i64 b',.int .i64 c',.str p',.str q']] (.bool (J4 e a b c p q f a' b' c' p' q')):=by
 refine Ok.n7 tfol Tryz.func193 QyM (QEi Z) ?_;show TW _ _ tf193.body _ _;refine Qd λK C=>Zu Z Z Z (Zu Z Z Z (Qb Z (kc2 C Z Z (Qw (Qd λK C=>QB (cs:=[_,_,_,_,_,_,_]) Z Z Z Z (QA (GR Wa Wa) Z Z (.inr Z) (Zp Z (Qb Z (Qq (g:=9) Z (λU=>?_) (λU=>?_))))))))));rw[U];simp only[qB]at U;refine gn3 Z Z Z (Qh Z Z (kc3 C Z Z Z (Zb Z (Qd λK C=>Qb Z (kc1 C Z (Qv (Qi (Qg Z ?_))))))))
 grind [J4]
 rw[U];simp only[qB]at U;refine Qc Z (QB (cs:=[_,_,_,_,_]) Z Z Z Z (Qc Z (QA (YU Wa Wa) Z Z (.inr Z) (Qc Z (Zp Z (Qh Z Z (kc3 C Z Z Z (Qs Z (λT=>?_) (λT=>?_)))))))));rw[T];simp only[qB]at T;refine Qd λK C=>Qb Z (kc1 C Z (Qv (Qi (Qg Z ?_))))
 grind [J4]
 rw[T];simp only[qB]at T;refine Qd λK C=>Qe Z Z (Qr Z Z Z (Ys Z Z (kc3 C Z Z Z (Qs Z (λO=>?_) (λO=>?_)))));rw[O];simp only[qB]at O;refine Qd λK C=>Qe Z Z (Qr Z Z Z (ZK Z Z (Qb Z (kc1 C Z (Qv (Qi (Qg Z ?_)))))))
 grind [J4]
 rw[O];simp only[qB]at O;refine Qp (ks2 Z Z (Qd λK C=>Qe Z Z (QB (cs:=[_,_,_,_,_]) Z Z Z Z (QB (cs:=[_,_,_,_,_]) Z Z Z Z (QA (Ji Wa Wa Wa Wa) Z Z (.inr Z) (Qb Z (kc2 C Z Z (Qd λK C=>Qb Z (ZK Z Z (Qb Z (Qq (g:=26) Z (λM=>?_) (λM=>?_))))))))))));rw[M];simp only[qB]at M;refine gn3 Z Z Z (Qy Z (Qy Z (Qy Z (YN Z (Qh Z Z (Qb Z (kc1 C Z (Qv (Qg Z ?_)))))))))
 grind [J4]
 rw[M];simp only[qB]at M;refine Qc Z (Qb Z (Qc Z (Yp Z Z (Qc Z (Qb Z (Qq (g:=29) Z (λG=>?_) (λG=>?_)))))));rw[G];simp only[qB]at G;refine Qc Z (Qe Z Z (Qc Z (Qr Z Z Z (Qc Z (Zp Z (Qc Z (Qh Z Z (Qh Z Z (Qb Z (kc1 C Z (Qv (Qg Z ?_))))))))))))
 grind [J4]
 rw[G];simp only[qB]at G;refine gn3 Z Z Z (Qc Z (Qh Z Z (Qh Z Z (Qb Z (kc1 C Z (Qv (Qg Z ?_)))))))
 grind [J4]
theorem NQ (hp:p.length<=1048576) (U:q.length<=1048576) (T:p'.length<=1048576) (O:q'.length<=1048576):Ok Tryz.prog 191 [.agg [.int .i64 e,.int .i64 a,.int .i64 b,.int .i64 c,.str p,.str q,.bool f,.int .i64 e',.int .i64 a',.int .i64 b',.int .i64 c',.str p',.str q',.bool f']] (.bool (SM e a b c p q f e' a' b' c' p' q' f')):=by
 refine Ok.n7 tfol Tryz.func191 QyK (QEi Z) ?_;show TW _ _ tf191.body _ _;refine Qd λK C=>Zu Z Z Z (Qb Z (kc1 C Z (Qd λK C=>Qe Z Z (QB (cs:=[_,_,_,_,_,_,_]) Z Z Z Z (QA (GR Wa Wa) Z Z (.inr Z) (Qb Z (Qq (g:=6) Z (λM=>?_) (λM=>?_))))))));rw[M];refine Qc Z (Qe Z Z (Qc Z (QB (cs:=[_,_,_,_,_,_,_]) Z Z Z Z (Qc Z (QA (GR Wa Wa) Z Z (.inr Z) (Qh Z Z (Qb Z (Qq (g:=11) Z (λG=>?_) (λG=>?_)))))))));rw[G];refine Qc Z (Qe Z Z (Qc Z (QB (cs:=[_,_,_,_,_,_,_]) Z Z Z Z (Qc Z (Qe Z Z (Qc Z (QB (cs:=[_,_,_,_,_,_,_]) Z Z Z Z (Qc Z (QA (NP Wa Wa Wa Wa) Z Z (.inr Z) (Qc Z (ZK Z Z (Qh Z Z (Qb Z (kc1 C Z (Qv (Qg Z ?_))))))))))))))))
 grind [SM]
 rw[G];refine gn4 Z Z Z Z (gn2 Z Z (Qh Z Z (Qb Z (kc1 C Z (Qv (Qg Z ?_))))))
 grind [SM]
 rw[M];refine gn3 Z Z Z (Qh Z Z (Qb Z (gn4 Z Z Z Z (gn2 Z Z (Qh Z Z (Qb Z (kc1 C Z (Qv (Qg Z ?_)))))))))
 grind [SM]
theorem QaJ (hp:p.length<=1048576) (Y:q.length<=1048576) (U:p'.length<=1048576) (T:q'.length<=1048576) {x y z:Int} {r:List UInt8} (hr:r.length<=1048576) (V:s.length<=1048576):Ok Tryz.prog 158 [.agg [.int .i64 e,.int .i64 a,.int .i64 b,.int .i64 c,.str p,.str q,.bool f,.int .i64 e',.int .i64 a',.int .i64 b',.int .i64 c',.str p',.str q',.bool f'],.agg [.int .i64 x,.int .i64 y,.int .i64 z,.str r,.str s]] (.bool (Fe e a b c p q f e' a' b' c' p' q' f' x y z r s)):=by
 refine Ok.n7 tfol Tryz.func158 QyA (QEi Z) ?_;show TW _ _ tf158.body _ _;refine Qd λK C=>Zu Z Z Z (Zu Z Z Z (Qb Z (kc2 C Z Z (Qd λK C=>QB (cs:=[_,_,_,_,_,_,_,_,_,_,_,_,_,_]) Z Z Z Z (QA (NQ Wa Wa Wa Wa) Z Z (.inr Z) (Qb Z (Qq (g:=7) Z (λO=>?_) (λO=>?_))))))));rw[O];refine Qc Z (QB (cs:=[_,_,_,_,_]) Z Z Z Z (Qc Z (QA (YU Wa Wa) Z Z (.inr Z) (Qh Z Z (Qb Z (Qq (g:=11) Z (λM=>?_) (λM=>?_)))))));rw[M];refine Qc Z (Qe Z Z (Qc Z (QB (cs:=[_,_,_,_,_,_,_]) Z Z Z Z (Qc Z (QB (cs:=[_,_,_,_,_]) Z Z Z Z (Qc Z (QA (RY Wa Wa Wa Wa) Z Z (.inr Z) (Qh Z Z (Qb Z (Qq (g:=17) Z (λG=>?_) (λG=>?_)))))))))));rw[G];refine Qc Z (Qe Z Z (Qc Z (QB (cs:=[_,_,_,_,_,_,_]) Z Z Z Z (Qc Z (QB (cs:=[_,_,_,_,_]) Z Z Z Z (Qc Z (QA (RY Wa Wa Wa Wa) Z Z (.inr Z) (Qc Z (Zp Z (Qh Z Z (Qb Z (kc1 C Z (Qv (Qg Z ?_))))))))))))))
 grind [Fe]
 rw[G];refine gn4 Z Z Z Z (YN Z (Qh Z Z (Qb Z (kc1 C Z (Qv (Qg Z ?_))))))
 grind [Fe]
 rw[M];refine gn4 Z Z Z Z (Qh Z Z (Qb Z (gn4 Z Z Z Z (YN Z (Qh Z Z (Qb Z (kc1 C Z (Qv (Qg Z ?_)))))))))
 grind [Fe]
 rw[O];refine gn2 Z Z (Qh Z Z (Qb Z (gn4 Z Z Z Z (Qh Z Z (Qb Z (gn2 Z Z (gn3 Z Z Z (Qh Z Z (Qb Z (kc1 C Z (Qv (Qg Z ?_))))))))))))
 grind [Fe]
end Go.Proofs
namespace M3
open Go Go.Abs
def numT:List Int:=[0,1,2,3,0,1,10,9999]
def preT:List (List UInt8):=[[],[],[],[],[48],[49],[50],[49,49],[97],[97,46,49],[97,46,98],[98],[48,46,48],[114,99,46,49]]
def Qza (l:List Int) (i:Int):Int:=numT.getD (Mj l i 8).toNat 0
def QEc (l:List Int) (i:Int):List UInt8:=preT.getD (Mj l i 14).toNat []
def cu (l:List Int) (i:Int):Cu:=
 if Mj l (i+5) 9<2 then⟨2*Mj l (i+5) 9 - 1,0,0,0,[],[],false⟩
 else⟨0,Qza l i,Qza l (i+1),Qza l (i+2),QEc l (i+3),[],decide (Mj l (i+5) 2=1)⟩
end M3
namespace M3
open Go Go.Abs
end M3
namespace M3
open Go Go.Abs
end M3
namespace M25
open Go Go.Abs M3
variable {a b:Int} {c:List Cu} {f:Cu->Cu->Bool} {i k n:Nat} {l out:List (Cu × Cu)} {p:Nat->Bool} {q:List UInt8} {s:List (Cu × Cu) × List (Cu × Cu)} {x y:Cu} {α:Type}
def SL (a b c:Int):Bool:=decide (a=0)&&decide (b=0)&&decide (c=0)
def dCu (x:Cu):List D:=[.int .i64 x.e,.int .i64 x.a,.int .i64 x.b,.int .i64 x.c,.str x.p,.str x.q,.bool x.f]
def Nx (s:Cu × Cu):List D:=dCu s.1++dCu s.2
def ZB (l:List (Cu × Cu)):D:=.sl (l.map Nx)
def QnQ (s:List (Cu × Cu) × List (Cu × Cu)):D:=.agg [ZB s.1,ZB s.2]
def Z6:Cu:=⟨-1,0,0,0,[],[],false⟩
def Y6:Cu:=⟨1,0,0,0,[],[],false⟩
def PI (e a b c:Int) (p q:List UInt8) (f:Bool):Bool:=!decide (e=0)||(!f&&decide (p=[])&&!SL a b c)
def Cu.sm (x:Cu):Prop:=x.p.length<=1048576/\x.q.length<=1048576
def Sm (l:List (Cu × Cu)):Prop:=l.length<=4194304/\∀s∈l,Cu.sm s.1/\Cu.sm s.2
theorem Sm.at (h:Sm l) (hi:i<l.length):(l[i].1.p.length<=1048576/\l[i].1.q.length<=1048576)/\(l[i].2.p.length<=1048576/\l[i].2.q.length<=1048576):=h.2 _ (QEn hi)
def Fg (s:Cu × Cu):Bool:=SM s.1.e s.1.a s.1.b s.1.c s.1.p s.1.q s.1.f s.2.e s.2.a s.2.b s.2.c s.2.p s.2.q s.2.f
def Gl (x y:Cu):Int:=Hq x.e x.a x.b x.c x.p x.q x.f y.e y.a y.b y.c y.p y.q y.f
def QoR (l:List (Cu × Cu)) (i:Nat):Bool:=match l[i]? with
 |none=>true
 |some s=>Fg s&&(decide (i=0)||match l[i - 1]? with |none=>true |some r=>decide (Gl r.2 s.1<0))
theorem Qbn (h:i<l.length):QoR l i=(Fg l[i]&&(decide (i=0)||decide (Gl (l[i - 1]'Wa).2 l[i].1<0))):=by
 unfold QoR
 grind
theorem Qc9 (h:i<l.length) (G:Fg l[i]=true) (C:i=0\/Gl (l[i - 1]'Wa).2 l[i].1<0):QoR l i=true:=by
 grind [Qbn]
theorem GC (h:i<l.length) (C:Fg l[i]=false\/(i≠0/\0<=Gl (l[i - 1]'Wa).2 l[i].1)):QoR l i=false:=by
 rw[Qbn h]
 grind
def HS (l:List (Cu × Cu)):Bool:=(List.range l.length).all (QoR l)
theorem Xa (h:i<n) (hp:p i=false):(List.range n).all p=false:=by
 grind
theorem Mw (h:(List.range i).all p=true) (hp:p i=true):(List.range (i+1)).all p=true:=by
 grind
theorem FI (h:(List.range i).all p=true) (C:n<=i):(List.range n).all p=true:=by
 grind
def SJ (s:Cu × Cu) (a b c:Int) (p q:List UInt8):Bool:=Fe s.1.e s.1.a s.1.b s.1.c s.1.p s.1.q s.1.f s.2.e s.2.a s.2.b s.2.c s.2.p s.2.q s.2.f a b c p q
def TF (l:List (Cu × Cu)) (a b c:Int) (p q:List UInt8):Bool:=HS l&&l.any λs=>SJ s a b c p q
theorem Ra {c:Int} {p:List UInt8} (hi:l.length<=i) (h:(l.take i).any (λs=>SJ s a b c p q)=false):TF l a b c p q=false:=by
 (repeat clear hK K);simp_all [QEy,TF]
theorem Rb {c:Int} {p:List UInt8} (h:HS l=false):TF l a b c p q=false:=by grind [TF]
theorem QcF {c:Int} {p:List UInt8} (h:HS l=true) (hi:i<l.length) (hp:SJ l[i] a b c p q=true):TF l a b c p q=true:=by
 rw[TF,h,QE7];grind
def inC (x y:Cu) (s:Cu × Cu):Bool:=decide (Gl s.1 x<=0)&&decide (Gl y s.2<=0)
theorem Qs3 {s:Cu × Cu} (G:Gl s.1 x<=0) (C:Gl y s.2<=0):inC x y s=true:=by grind [inC]
theorem Qs2 {s:Cu × Cu} (h:¬Gl s.1 x<=0\/¬Gl y s.2<=0):inC x y s=false:=by
 grind [inC]
def mIn (l:List (Cu × Cu)) (x y:Cu):Bool:=l.any (inC x y)
theorem Qfc {s:List α} {p:α->Bool} (h:i<s.length) (hp:p s[i]=true):s.any p=true:=QFy.2 ⟨_,QEn h,hp⟩
theorem QlJ {s:List α} {p:α->Bool} (hi:s.length<=i) (h:(s.take i).any p=false):s.any p=false:=by grind [List.take_of_length_le]
theorem RM {s:List α} {p:α->Bool} (h:i<s.length) (ha:(s.take i).any p=false) (hp:p s[i]=false):(s.take (i+1)).any p=false:=by
 grind [List.take_succ_eq_append_getElem]
def JG (x:Cu):Bool:=PI x.e x.a x.b x.c x.p x.q x.f
def F8 (s:List (Cu × Cu) × List (Cu × Cu)):Bool:=HS s.1&&HS s.2&&s.1.all λx=>JG x.1&&JG x.2
def PV (s:List (Cu × Cu) × List (Cu × Cu)) (a b c:Int) (p q:List UInt8):Bool:=
 F8 s&&Ff a b c p q&&(if p=[]then TF s.1 a b c p q else TF s.2 a b c p q)
theorem Ph (h:HS s.1=false\/HS s.2=false):F8 s=false:=by
 grind [F8]
theorem SN (hi:i<s.1.length) (h:JG s.1[i].1=false\/JG s.1[i].2=false):F8 s=false:=by
 have:(s.1.all λx=>JG x.1&&JG x.2)=false:=JU hi Wc;rw[F8,this,QFP]
theorem Dt (G:HS s.1=true) (C:HS s.2=true) (hi:s.1.length<=i) (h:(s.1.take i).all (λx=>JG x.1&&JG x.2)=true):F8 s=true:=by
 grind [List.take_of_length_le,F8]
def Tx (l:List Cu):D:=.sl (l.map dCu)
theorem B7 {l:List Cu}:∀r∈l.map dCu,r.length=7:=λr hr=>by obtain⟨x,_,rfl⟩:=QEw.1 hr;rfl
theorem Qk0 {l:List Cu} {a b:Nat}:∀r∈((l.map dCu).take a).drop b,r.length=7:=λr hr=>B7 r (QEC (QEL hr))
def H9:List Cu->Cu->List Cu
 |[],c=>[c]
 |x::r,c=>if Gl x c<0 then x::H9 r c else if Gl x c=0 then x::r else c::x::r
theorem QgX {l:List Cu} {c:Cu} (hk:k<l.length) (h:Gl l[k] c<0) (hi:H9 l c=l.take k++H9 (l.drop k) c):H9 l c=l.take (k+1)++H9 (l.drop (k+1)) c:=by
 rw[hi,QEz hk,H9,if_pos h,QFB hk,QFa];rfl
theorem QgW {l:List Cu} {c:Cu} (hk:k<l.length) (h:Gl l[k] c=0) (hi:H9 l c=l.take k++H9 (l.drop k) c):H9 l c=l:=by
 rw[hi,QEz hk,H9,if_neg Wa,if_pos h,<- QEz hk,QES]
theorem QcT {l:List Cu} {c:Cu} (h:l.length<=k\/∃hk:k<l.length,¬Gl l[k] c<0/\Gl l[k] c≠0) (hi:H9 l c=l.take k++H9 (l.drop k) c):H9 l c=l.take k++c::l.drop k:=by
 rw[hi];rcases h with h |⟨hk,G,C⟩
 rw[QED h,H9];rw[QEz hk,H9,if_neg G,if_neg C]
theorem Rg:∀(l:List Cu) (c:Cu),(H9 l c).length<=l.length+1
 |[],c=>by simp[H9]
 |x::r,c=>by
  have:=Rg r c
  grind [H9]
theorem Dq:∀{l:List Cu} {c:Cu},(∀x∈l,Cu.sm x)->Cu.sm c->∀x∈H9 l c,Cu.sm x
 |[],c,_,hc,x,hx=>by grind [H9]
 |y::r,c,hl,hc,x,hx=>by
  simp only[H9]at hx;split at hx;rcases QEk.1 hx with rfl |hx
  grind
  exact Dq (λz C=>hl z Wc) hc x hx
  grind
def Xk (l:List (Cu × Cu)):List Cu:=l.foldl (λout s=>H9 (H9 out s.1) s.2) [Z6,Y6]
theorem Qku (h:i<l.length):Xk (l.take (i+1))=H9 (H9 (Xk (l.take i)) l[i].1) l[i].2:=by
 grind [List.take_succ_eq_append_getElem,Xk]
theorem Le:∀(l:List (Cu × Cu)) (out:List Cu),(l.foldl (λout s=>H9 (H9 out s.1) s.2) out).length<=out.length+2*l.length
 |[],out=>by simp
 |s::l,out=>by
  have G:=Rg out s.1;have C:=Rg (H9 out s.1) s.2;have:=Le l (H9 (H9 out s.1) s.2)
  grind
theorem Fc (l:List (Cu × Cu)):(Xk l).length<=2+2*l.length:=Le l _
theorem Bu:∀{l:List (Cu × Cu)} {out:List Cu},(∀s∈l,Cu.sm s.1/\Cu.sm s.2)->(∀x∈out,Cu.sm x)->∀x∈l.foldl (λout s=>H9 (H9 out s.1) s.2) out,Cu.sm x
 |[],_,_,h=>h
 |s::l,out,hl,h=>by
  rw[QER];exact Bu (λt C=>hl t Wc) (Dq (Dq h (hl s Wd).1) (hl s Wd).2)
theorem QcS (C:∀s∈l,Cu.sm s.1/\Cu.sm s.2):∀x∈Xk l,Cu.sm x:=Bu C (by
 intro x hx;simp only[QEk,QEj,or_false]at hx;rcases hx with rfl |rfl<;>exact⟨QEu _,QEu _⟩)
theorem Rf (C:Sm l) (i:Nat):(Xk (l.take i)).length<=8388610/\∀x∈Xk (l.take i),Cu.sm x:=by
 refine⟨?_,QcS λs G=>C.2 s (QEC G)⟩;have:=Fc (l.take i);have M:(l.take i).length<=l.length:=List.length_take_le' ..;have:=C.1;omega
def HR (l:List (Cu × Cu)) (x y:Cu):List (Cu × Cu):=match l.getLast? with
 |some s=>if Gl s.2 x=0 then l.dropLast++[(s.1,y)]else l++[(x,y)]
 |none=>l++[(x,y)]
theorem Bw (hi:i+1=l.length) (h:Gl (l[i]'Wa).2 x=0):HR l x y=l.set i ((l[i]'Wa).1,y):=by
 have C:l.getLast?=some (l[i]'Wa):=by
  grind
 rw[HR,C];simp only[h,if_true];rw[List.dropLast_eq_take,show l.length - 1=i by omega,List.set_eq_take_append_cons_drop,if_pos Wa,QED Wa]
theorem Mk (h:l=[]\/∃i,∃hi:i+1=l.length,Gl (l[i]'Wa).2 x≠0):HR l x y=l++[(x,y)]:=by
 rcases h with rfl |⟨i,hi,h⟩;rfl
 have C:l.getLast?=some (l[i]'Wa):=by
  grind
 rw[HR,C]
 grind
theorem QgU (l:List (Cu × Cu)) (x y:Cu):(HR l x y).length<=l.length+1:=by
 grind [HR]
theorem Qkx (G:∀s∈l,Cu.sm s.1/\Cu.sm s.2) (hx:Cu.sm x) (C:Cu.sm y):∀s∈HR l x y,Cu.sm s.1/\Cu.sm s.2:=by
 grind [HR,List.dropLast_subset]
theorem SB {β:Type} {l:List α} {f:α->β} (h:i+1<l.length):(l.map f)[((i:Int)+1).toNat]?=some (f l[i+1]):=by
 grind
def GJ (f:Cu->Cu->Bool):List Cu->List (Cu × Cu)->List (Cu × Cu)
 |x::y::r,out=>GJ f (y::r) (if f x y=true then HR out x y else out)
 |_,out=>out
def PW (l:List (Cu × Cu)):List (Cu × Cu):=if l.all Fg=true then GJ (mIn l) (Xk l) []else[]
theorem Lf (h:i+1<c.length):GJ f (c.drop i) out=GJ f (c.drop (i+1)) (if f c[i] c[i+1]=true then HR out c[i] c[i+1]else out):=by
 grind [List.drop_eq_getElem_cons,GJ]
theorem QgT (h:c.length<=i+1):GJ f (c.drop i) out=out:=by
 have:(c.drop i).length<=1:=by grind
 match hd:c.drop i with
 |[]=>rfl
 |[x]=>rfl
 |x::y::r=>grind
def r9 (f:Cu->Cu->Bool) (c:List Cu) (i:Nat) (out:List (Cu × Cu)):Prop:=
 out.length<=i/\(∀s∈out,Cu.sm s.1/\Cu.sm s.2)/\GJ f c []=GJ f (c.drop i) out
theorem r9.zero:r9 f c 0 []:=⟨QEu _,by simp,by simp⟩
theorem r9.take (h:r9 f c i out) (C:∀x∈c,Cu.sm x) (hi:i+1<c.length) (M:f c[i] c[i+1]=true):r9 f c (i+1) (HR out c[i] c[i+1]):=by
 obtain⟨T,G,O⟩:=h;refine⟨QEB (QgU ..) Wa,Qkx G (C _ (QEn _)) (C _ (QEn _)), ?_⟩
 (repeat clear hK K);simp_all [Lf]
theorem r9.skip (h:r9 f c i out) (hi:i+1<c.length) (G:f c[i] c[i+1]=false):r9 f c (i+1) out:=by
 obtain⟨O,C,M⟩:=h;exact⟨Wa,C,by simp_all [Lf]⟩
theorem r9.done (h:r9 f c i out) (hi:c.length<=i+1):GJ f c []=out:=by rw[h.2.2,QgT hi]
theorem Yb (C:Sm l):∀x∈Xk l,Cu.sm x:=QcS C.2
def Qox (a b:List (Cu × Cu)):List (Cu × Cu):=if HS a=true/\HS b=true then PW (a++b)else[]
def TG (a:List (Cu × Cu)):List (Cu × Cu):=if HS a=true then GJ (λx y=>!mIn a x y) (Xk a) []else[]
theorem Qdq:∀r∈l.map Nx,r.length=14:=λr hr=>by obtain⟨x,_,rfl⟩:=QEw.1 hr;rfl
theorem Sm.app {a b:List (Cu × Cu)} (ha:Sm a) (hb:Sm b) (h:a.length+b.length<=4194304):Sm (a++b):=by
 refine⟨by grind,λs C=>?_⟩;rcases QEt.1 C with C |C
 exact ha.2 s C;exact hb.2 s C
abbrev CC:=List (Cu × Cu) × List (Cu × Cu)
def Qxf (a:CC):CC:=if F8 a=true then(TG a.1,TG a.2)else([],[])
def mPl (v n:Int):Int:=if n<1 then 0 else YE v n
def Qzw (l:List Int) (i:Int):Int:=if i<0\/(l.length:Int)<=i then i.tmod 3 else l.getD i.toNat 0
def I64 (x:Int):Prop:=-9223372036854775808<=x/\x<=9223372036854775807
theorem Qaq (x:Int):I64 (IntKind.i64.wrap x):=by
 unfold IntKind.wrap I64;simp only[IntKind.bits,IntKind.signed,QE7]
 grind
def BA (h m:Int):Int:=if Kd .and .i64 h m=h then 2 else if Kd .and .i64 h m=0 then 0 else 1
structure Vr where
 a:Int
 b:Int
 c:Int
 p:List UInt8
 q:List UInt8
def versions:List Vr:=[⟨1,0,0,[],[]⟩,⟨1,2,0,[],[]⟩,⟨2,0,0,[97,46,49],[]⟩,⟨2,0,0,[],[]⟩]
theorem K8:((i:Int) - 1).toNat=i - 1:=Wa
end M25
namespace Go.Proofs
open Go Go.Abs M3 M25
theorem J1:Ok Tryz.prog 108 [] (.agg [.int .i64 (-1),.int .i64 0,.int .i64 0,.int .i64 0,.str [],.str [],.bool false]):=by
 refine Ok.n7 tfol Tryz.func108 Qx5 (QEi Z) ?_;show TW _ _ tf108.body _ _;refine Qd λK C=>Zk Z (kc1 C Z (Qd λK C=>Zz Z Z (Za Z Z Z Z Z Z Z Z (kc1 C Z (Qv (H4 (cs:=[_,_,_,_,_,_,_]) Z Z Z Z ?_))))));rfl
theorem Kv:Ok Tryz.prog 109 [] (.agg [.int .i64 1,.int .i64 0,.int .i64 0,.int .i64 0,.str [],.str [],.bool false]):=by
 refine Ok.n7 tfol Tryz.func109 Qx6 (QEi Z) ?_;show TW _ _ tf109.body _ _;refine Qd λK C=>Zk Z (kc1 C Z (Qd λK C=>Zz Z Z (Za Z Z Z Z Z Z Z Z (kc1 C Z (Qv (H4 (cs:=[_,_,_,_,_,_,_]) Z Z Z Z ?_))))));rfl
theorem F3 {a b c:Int} {p q:List UInt8}:Ok Tryz.prog 196 [.agg [.int .i64 a,.int .i64 b,.int .i64 c,.str p,.str q]] (.bool (SL a b c)):=by
 refine Ok.n7 tfol Tryz.func196 QyP (QEi Z) ?_;show TW _ _ tf196.body _ _;refine Qd λK C=>Zu Z Z Z (Qb Z (kc1 C Z (Qd λK C=>Qe Z Z (Qr Z Z Z (Yp Z Z (Qb Z (Qq (g:=6) Z (λM=>?_) (λM=>?_))))))));rw[M];simp only[qB]at M;refine Qc Z (Qe Z Z (Qc Z (Qr Z Z Z (Qc Z (Yp Z Z (Qh Z Z (Qb Z (Qq (g:=11) Z (λG=>?_) (λG=>?_)))))))));rw[G];simp only[qB]at G;refine Qc Z (Qe Z Z (Qc Z (Qr Z Z Z (Qc Z (Yp Z Z (Qh Z Z (Qb Z (kc1 C Z (Qv (Qg Z ?_))))))))))
 grind [SL]
 rw[G];simp only[qB]at G;refine gn3 Z Z Z (Qh Z Z (Qb Z (kc1 C Z (Qv (Qg Z ?_)))))
 grind [SL]
 rw[M];simp only[qB]at M;refine gn3 Z Z Z (Qh Z Z (Qb Z (gn3 Z Z Z (Qh Z Z (Qb Z (kc1 C Z (Qv (Qg Z ?_))))))))
 grind [SL]
theorem J2 {e a b c:Int} {p q:List UInt8} {f:Bool}:Ok Tryz.prog 160 [.agg [.int .i64 e,.int .i64 a,.int .i64 b,.int .i64 c,.str p,.str q,.bool f]] (.bool (PI e a b c p q f)):=by
 refine Ok.n7 tfol Tryz.func160 QyC (QEi Z) ?_;show TW _ _ tf160.body _ _;refine Qd λK C=>Zu Z Z Z (Qb Z (kc1 C Z (Qd λK C=>Qe Z Z (Qr Z Z Z (Ys Z Z (Qb Z (Qq (g:=6) Z (λO=>?_) (λO=>?_))))))));rw[O];simp only[qB]at O;refine gn4 Z Z Z Z (Qy Z (Qy Z (Qy Z (Qy Z (gn2 Z Z (Qy Z (Qy Z (Qy Z (Qy Z (YN Z (Qh Z Z (Qb Z (kc1 C Z (Qv (Qg Z ?_)))))))))))))))
 grind [PI]
 rw[O];simp only[qB]at O;refine Qc Z (Qe Z Z (Qc Z (Qr Z Z Z (Qc Z (Zp Z (Qc Z (Qb Z (Qq (g:=10) Z (λM=>?_) (λM=>?_)))))))));rw[M];simp only[qB]at M;refine Qc Z (Qe Z Z (Qc Z (Qe Z Z (Qc Z (Qr Z Z Z (Qc Z (HB Z Z (Qc Z (Qh Z Z (Qc Z (Qb Z (Qq (g:=16) Z (λG=>?_) (λG=>?_)))))))))))));rw[G];simp only[qB]at G;refine Qc Z (Qe Z Z (Qc Z (QB (cs:=[_,_,_,_,_]) Z Z Z Z (Qc Z (QA (F3) Z Z (.inr Z) (Qc Z (Zp Z (Qc Z (Qh Z Z (Qh Z Z (Qb Z (kc1 C Z (Qv (Qg Z ?_))))))))))))))
 grind [PI]
 rw[G];simp only[qB]at G;refine gn4 Z Z Z Z (Qc Z (Qh Z Z (Qh Z Z (Qb Z (kc1 C Z (Qv (Qg Z ?_)))))))
 grind [PI]
 rw[M];simp only[qB]at M;refine gn4 Z Z Z Z (Qc Z (Qh Z Z (Qc Z (Qb Z (gn4 Z Z Z Z (Qc Z (Qh Z Z (Qh Z Z (Qb Z (kc1 C Z (Qv (Qg Z ?_))))))))))))
 grind [PI]
theorem J3:Ok Tryz.prog 78 [] (ZB [(Z6,Y6)]):=by
 refine Ok.n7 tfol Tryz.func78 QD1 (QEi Z) ?_;show TW _ _ tf78.body _ _;refine Qd λK C=>Qb Z (C _ _ (Zt (QL) (Qd λK C=>QA (J1) Z Z (.inl Z) (QA (Kv) Z Z (.inl Z) (Zz Z Z (QZ Z Z (Qb Z (kc1 C Z (Qv (ZU Z ?_))))))))));rfl
theorem Y8:Ok Tryz.prog 47 [] (QnQ ([(Z6,Y6)],[(Z6,Y6)])):=by
 refine Ok.n7 tfol Tryz.func47 QDK (QEi Z) ?_;show TW _ _ tf47.body _ _;refine Qd λK C=>Zk Z (kc1 C Z (Qd λK C=>QA (J3) Z Z (.inl Z) (QA (J3) Z Z (.inl Z) (Zz Z Z (Za Z Z Z Z Z Z Z Z (kc1 C Z (Qv (ua.eq (H4 (ds:=[.sl _,.sl _]) (cs:=[_,_]) Z Z Z Z Z) ?_))))))));rfl
variable {l:List (Cu × Cu)}
theorem ZS (M:Sm l):Ok Tryz.prog 159 [ZB l] (.bool (HS l)):=by
 refine Ok.n7 tfol Tryz.func159 QyB (QEi Z) ?_;show TW _ _ tf159.body _ _;have Y:=M.1;refine Qd λK C=>Qb Z (kc1 C Z (Qw (Qd λK C=>Qb Z (kc2 C Z Z (Qu (Q8 (ι:=Nat) (λi=>⟨[(0,ZB l),(3,.int .i64 i)],[]⟩) (λi=>i<=l.length/\(List.range i).all (QoR l)=true) (λi=>l.length - i) 0 ?_ ?_ ?_))))));exact Zn (kp2 Z Z);simp;intro i T;refine Qw (Qd λK C=>mv2 Z Z (QW Z Z (ZK Z Z (kc3 C Z Z Z (Qs Z (λV=>?_) (λV=>?_))))));rw[V];simp only[qA]at V;refine Qp (ks2 Z Z (Qw (Qu (Qd λK C=>mv2 Z Z (Qt Z Z Z Wa (QH Wa) Z (QY (ds0:=dn 21) (cs:=[_,_,_,_,_,_,_,_,_,_,_,_,_,_]) Z Z Z Z Z Z (Zi (ds0:=dn 20) (Y4 (M.at (i:=i) Wa).1.1 (M.at (i:=i) Wa).1.2 (M.at (i:=i) Wa).2.1 (M.at (i:=i) Wa).2.2) Z Z (.inr Z) Z Z (Zp Z (Qb Z (Qq (g:=16) Z (λG=>?_) (λG=>?_)))))))))));rw[G];simp only[qA]at G;refine gn3 Z Z Z (Qy Z (Qy Z (Qy Z (Qy Z (Qy Z (Qy Z (Qy Z (Qy Z (Qy Z (Qy Z (Qy Z (Qy Z (Qy Z (YN Z (Qh Z Z (kc3 C Z Z Z (Zb Z (Qd λK C=>Qb Z (kc1 C Z (Qv (Qm (Qi (QQ (Qm (Qi (Qg Z ?_))))))))))))))))))))))))))
 first
  |exact(FI T.2 Wa).symm
  |exact(Xa (i:=i) Wa (GC Wa (.inl G))).symm
  |(simp only[K8]at*;exact(Xa (i:=i) Wa (GC Wa (.inr ⟨Wa,O⟩))).symm)
 rw[G];simp only[qA]at G;refine Qc Z (Qb Z (Qc Z (Jh Z Z (Qc Z (Qb Z (Qq (g:=19) Z (λU=>?_) (λU=>?_)))))));rw[U];simp only[qA]at U;refine Qc Z (Qb Z (Qc Z (Qb Z (Qc Z (J7 Z Z Wb (Qc Z (Qt Z Z Z Wa (Q5 Wa Wa) Z (Qc Z (Q7 Z Z (Qc Z (QY (ds0:=dn 4) (cs:=[_,_,_,_,_,_,_]) Z Z Z Z Z Z (Qc Z (Qb Z (Qc Z (Qb Z (Qc Z (Qt Z Z Z Wa (QH Wa) Z (Qc Z (Q7 Z Z (Qc Z (QY (ds0:=dn 4) (cs:=[_,_,_,_,_,_,_]) Z Z Z Z Z Z (Qc Z (Zi (ds0:=[2,1,0]) (ZL (M.at (i:=((i:Int) - 1).toNat) Wa).2.1 (M.at (i:=((i:Int) - 1).toNat) Wa).2.2 (M.at (i:=i) Wa).1.1 (M.at (i:=i) Wa).1.2) Z Z (.inr Z) Z Z (Qc Z (Gw Z Z (Qc Z (Qh Z Z (Qh Z Z (kc3 C Z Z Z (Qs Z (λO=>?_) (λO=>?_)))))))))))))))))))))))))))))));rw[O];simp only[qA]at O;refine Qd λK C=>Qb Z (kc1 C Z (Qv (Qm (Qi (QQ (Qm (Qi (Qg Z ?_))))))))
 first
  |exact(FI T.2 Wa).symm
  |exact(Xa (i:=i) Wa (GC Wa (.inl G))).symm
  |(simp only[K8]at*;exact(Xa (i:=i) Wa (GC Wa (.inr ⟨Wa,O⟩))).symm)
 rw[O];simp only[qA]at O;refine Qp (Qk (ks2 Z Z (QJ λK C=>Qb Z (Q2 Z Z Wb (Qb Z (C _ (Qj (i+1) ?_ ?_ ?_)))))));exact Zn (kp2 Z Z);exact⟨Wa,Mw T.2 (Qc9 Wa G (by(simp only[K8]at*;exact .inr (Int.not_le.1 O))))⟩
 omega;rw[U];simp only[qA]at U;refine gn4 Z Z Z Z (gn4 Z Z Z Z (gn4 Z Z Z Z (YN Z (Qc Z (Qh Z Z (Qh Z Z (kc3 C Z Z Z (Zq Z (Qp (Qk (ks2 Z Z (QJ λK C=>Qb Z (Q2 Z Z Wb (Qb Z (C _ (Qj (i+1) ?_ ?_ ?_))))))))))))))));exact Zn (kp2 Z Z);exact⟨Wa,Mw T.2 (Qc9 Wa G Wa)⟩;omega;rw[V];simp only[qA]at V;refine Q3 (QF (Qx (QD (QK (QL) (Qd λK C=>Qb Z (kc1 C Z (Qv (Qg Z ?_))))))))
 first
  |exact(FI T.2 Wa).symm
  |exact(Xa (i:=i) Wa (GC Wa (.inl G))).symm
  |(simp only[K8]at*;exact(Xa (i:=i) Wa (GC Wa (.inr ⟨Wa,O⟩))).symm)
theorem Xn (O:Sm l) {x y:Cu} (hx:Cu.sm x) (V:Cu.sm y):Ok Tryz.prog 281 [ZB l,.agg (dCu x),.agg (dCu y)] (.bool (mIn l x y)):=by
 refine Ok.n7 tfol Tryz.func281 Qy2 (QEi Z) ?_;show TW _ _ tf281.body _ _;have Y:=O.1;refine Qd λK C=>Zu Z Z Z (Zu Z Z Z (Qb Z (kc3 C Z Z Z (Qw (Qd λK C=>Qb Z (kc4 C Z Z Z Z (Qu (Q8 (ι:=Nat) (λi=>⟨[(0,ZB l),(4,.ref 4 0 0),(5,.ref 5 0 0),(7,.int .i64 i)],[(4,⟨[dCu x],7,190,true⟩),(5,⟨[dCu y],7,190,true⟩)]⟩) (λi=>i<=l.length/\(l.take i).any (inC x y)=false) (λi=>l.length - i) 0 ?_ ?_ ?_))))))));exact QM (l:=[0,4,5,7]) (lH:=[4,5]) (kp4 Z Z Z Z) (Qa Z (Qa Z Qf)) Z Z Z;simp;intro i U;refine Qw (Qd λK C=>mv2 Z Z (QW Z Z (ZK Z Z (kc5 C Z Z Z Z Z (Qs Z (λT=>?_) (λT=>?_))))));rw[T];simp only[qA]at T;refine Qp (ks4 Z Z Z Z (Qw (Qu (Qd λK C=>mv2 Z Z (Qt Z Z Z Wa (QH Wa) Z (Q7 Z Z (QY (ds0:=dn 12) (cs:=[_,_,_,_,_,_,_]) Z Z Z Z Z Z (QY (ds0:=dn 12) (cs:=[_,_,_,_,_,_,_]) Z Z Z Z Z Z (Zi (ds0:=dn 11) (ZL (O.at (i:=i) Wa).1.1 (O.at (i:=i) Wa).1.2 hx.1 hx.2) Z Z (.inr Z) Z Z (Cr Z Z (Qb Z (Qq (g:=22) Z (λM=>?_) (λM=>?_)))))))))))));rw[M];simp only[qA]at M;refine Qc Z (QY (ds0:=[2,1,0]) (cs:=[_,_,_,_,_,_,_]) Z Z Z Z Z Z (Qc Z (Qb Z (Qc Z (Qb Z (Qc Z (Qt Z Z Z Wa (QH Wa) Z (Qc Z (Q7 Z Z (Qc Z (QY (ds0:=[2,1,0]) (cs:=[_,_,_,_,_,_,_]) Z Z Z Z Z Z (Qc Z (Zi (ds0:=[1,0]) (ZL V.1 V.2 (O.at (i:=i) Wa).2.1 (O.at (i:=i) Wa).2.2) Z Z (.inr Z) Z Z (Qc Z (Cr Z Z (Qh Z Z (kc5 C Z Z Z Z Z (Qs Z (λG=>?_) (λG=>?_)))))))))))))))))));rw[G];simp only[qA]at G;refine Qd λK C=>Qb Z (kc1 C Z (Qv (Qm (Qi (QQ (Qm (Qi (Qg Z ?_))))))))
 first
  |exact(QlJ (i:=i) Wa U.2).symm
  |exact(Qfc (i:=i) Wa (Qs3 M G)).symm
 rw[G];simp only[qA]at G;refine Qp (Qk (ks4 Z Z Z Z (QJ λK C=>Qb Z (Q2 Z Z Wb (Qb Z (C _ (Qj (i+1) ?_ ?_ ?_)))))));exact QM (l:=[0,4,5,7]) (lH:=[4,5]) (kp4 Z Z Z Z) (Qa Z (Qa Z Qf)) Z Z Z;exact⟨Wa,RM Wa U.2 (Qs2 (by exact .inr G))⟩;omega;rw[M];simp only[qA]at M;refine gn4 Z Z Z Z (gn4 Z Z Z Z (Qh Z Z (kc5 C Z Z Z Z Z (Zq Z (Qp (Qk (ks4 Z Z Z Z (QJ λK C=>Qb Z (Q2 Z Z Wb (Qb Z (C _ (Qj (i+1) ?_ ?_ ?_))))))))))));exact QM (l:=[0,4,5,7]) (lH:=[4,5]) (kp4 Z Z Z Z) (Qa Z (Qa Z Qf)) Z Z Z;exact⟨Wa,RM Wa U.2 (Qs2 (by exact .inl M))⟩;omega;rw[T];simp only[qA]at T;refine Q3 (QF (Qx (QD (QK (QL) (Qd λK C=>Qb Z (kc1 C Z (Qv (Qg Z ?_))))))))
 first
  |exact(QlJ (i:=i) Wa U.2).symm
  |exact(Qfc (i:=i) Wa (Qs3 M G)).symm
theorem KY {s:List (Cu × Cu) × List (Cu × Cu)} (V:Sm s.1) (Y:Sm s.2):Ok Tryz.prog 122 [QnQ s] (.bool (F8 s)):=by
 refine Ok.n7 tfol Tryz.func122 Qyj (QEi Z) ?_;show TW _ _ tf122.body _ _;have hn:=V.1;refine Qd λK C=>Zu Z Z Z (Qb Z (kc1 C Z (Qw (Qd λK C=>Qe Z Z (Qr Z Z Z (QA (ZS V) Z Z (.inr Z) (Zp Z (Qb Z (Qq (g:=8) Z (λM=>?_) (λM=>?_))))))))));rw[M];simp only[qA]at M;refine gn4 Z Z Z Z (Qh Z Z (kc2 C Z Z (Zb Z (Qd λK C=>Qb Z (kc1 C Z (Qv (Qi (Qg Z ?_))))))))
 grind [Ph]
 rw[M];simp only[qA]at M;refine Qc Z (Qe Z Z (Qc Z (Qr Z Z Z (Qc Z (QA (ZS Y) Z Z (.inr Z) (Qc Z (Zp Z (Qh Z Z (kc2 C Z Z (Qs Z (λG=>?_) (λG=>?_)))))))))));rw[G];simp only[qA]at G;refine Qd λK C=>Qb Z (kc1 C Z (Qv (Qi (Qg Z ?_))))
 grind [Ph]
 rw[G];simp only[qA]at G;refine Qp (ks1 Z (Qw (Qd λK C=>Qb Z (kc2 C Z Z (Qu (Q8 (ι:=Nat) (λi=>⟨[(1,.ref 1 0 0),(3,.int .i64 i)],[(1,⟨[[ZB s.1,ZB s.2]],2,79,true⟩)]⟩) (λi=>i<=s.1.length/\(s.1.take i).all (λx=>JG x.1&&JG x.2)=true) (λi=>s.1.length - i) 0 ?_ ?_ ?_))))));exact QM (l:=[1,3]) (lH:=[1]) (kp2 Z Z) (Qa Z Qf) Z Z Z;simp;intro i hI;refine Qw (Qd λK C=>Qb Z (Qe Z Z (Qr Z Z Z (QW Z Z (ZK Z Z (kc3 C Z Z Z (Qs Z (λU=>?_) (λU=>?_))))))));rw[U];simp only[qA]at U;refine Qp (ks2 Z Z (Qw (Qu (Qd λK C=>Qe Z Z (Qr Z Z Z (Qb Z (Qt Z Z Z Wa (QH Wa) Z (Q7 Z Z (QB (cs:=[_,_,_,_,_,_,_]) Z Z Z Z (QA (J2) Z Z (.inr Z) (Zp Z (Qb Z (Qq (g:=29) Z (λT=>?_) (λT=>?_))))))))))))));rw[T];simp only[qA]at T;refine gn4 Z Z Z Z (gn4 Z Z Z Z (Qh Z Z (kc3 C Z Z Z (Zb Z (Qd λK C=>Qb Z (kc1 C Z (Qv (Qm (Qi (QQ (Qm (Qi (Qg Z ?_)))))))))))))
 first
  |exact(Dt (i:=i) M G Wa hI.2).symm
  |exact(SN (i:=i) Wa (.inl T)).symm
  |exact(SN (i:=i) Wa (.inr O)).symm
  |exact(Ph (.inl M)).symm
  |exact(Ph (.inr G)).symm
 rw[T];simp only[qA]at T;refine Qc Z (Qe Z Z (Qc Z (Qr Z Z Z (Qc Z (Qb Z (Qc Z (Qt Z Z Z Wa (QH Wa) Z (Qc Z (Q7 Z Z (Qc Z (QB (cs:=[_,_,_,_,_,_,_]) Z Z Z Z (Qc Z (QA (J2) Z Z (.inr Z) (Qc Z (Zp Z (Qh Z Z (kc3 C Z Z Z (Qs Z (λO=>?_) (λO=>?_)))))))))))))))))));rw[O];simp only[qA]at O;refine Qd λK C=>Qb Z (kc1 C Z (Qv (Qm (Qi (QQ (Qm (Qi (Qg Z ?_))))))))
 first
  |exact(Dt (i:=i) M G Wa hI.2).symm
  |exact(SN (i:=i) Wa (.inl T)).symm
  |exact(SN (i:=i) Wa (.inr O)).symm
  |exact(Ph (.inl M)).symm
  |exact(Ph (.inr G)).symm
 rw[O];simp only[qA]at O;refine Qp (Qk (ks2 Z Z (QJ λK C=>Qb Z (Q2 Z Z Wb (Qb Z (C _ (Qj (i+1) ?_ ?_ ?_)))))));exact QM (l:=[1,3]) (lH:=[1]) (kp2 Z Z) (Qa Z Qf) Z Z Z
 grind [ZW,JG]
 omega;rw[U];simp only[qA]at U;refine Q3 (QF (Qx (QD (QK (QL) (Qd λK C=>Qb Z (kc1 C Z (Qv (Qg Z ?_))))))))
 grind [Dt]
theorem KW {l:List Cu} {c:Cu} (hl:l.length<=9000000) (T:∀x∈l,Cu.sm x) (U:Cu.sm c):Ok Tryz.prog 290 [Tx l,.agg (dCu c)] (Tx (H9 l c)):=by
 refine Ok.n7 tfol Tryz.func290 Qy6 (QEi Z) ?_;show TW _ _ tf290.body _ _;refine Qd λK C=>Zu Z Z Z (Qb Z (kc2 C Z Z (Qd λK C=>Qb Z (kc3 C Z Z Z (Qw (Qu (Q8 (ι:=Nat) (λk=>⟨[(0,Tx l),(3,.ref 3 0 0),(5,.int .i64 k)],[(3,⟨[dCu c],7,190,true⟩)]⟩) (λk=>k<=l.length/\H9 l c=l.take k++H9 (l.drop k) c) (λk=>l.length - k) 0 ?_ ?_ ?_)))))));exact QM (l:=[0,3,5]) (lH:=[3]) (kp3 Z Z Z) (Qa Z Qf) Z Z Z;simp;intro k V;refine Qw (Qd λK C=>mv2 Z Z (QW Z Z (ZK Z Z (Qb Z (Qq (g:=10) Z (λO=>?_) (λO=>?_))))));rw[O];simp only[qA]at O;refine Qc Z (Qb Z (Qc Z (Qb Z (Qc Z (Qt Z Z Z Wa (QH Wa) Z (Qc Z (QY (ds0:=[2,1,0]) (cs:=[_,_,_,_,_,_,_]) Z Z Z Z Z Z (Qc Z (QY (ds0:=[2,1,0]) (cs:=[_,_,_,_,_,_,_]) Z Z Z Z Z Z (Qc Z (Zi (ds0:=[1,0]) (ZL (T _ (QEn Wa)).1 (T _ (QEn Wa)).2 U.1 U.2) Z Z (.inr Z) Z Z (Qc Z (ZK Z Z (Qh Z Z (kc4 C Z Z Z Z (Qs Z (λG=>?_) (λG=>?_)))))))))))))))));rw[G];simp only[qA]at G;refine Qp (ks3 Z Z Z (Qu (QJ λK C=>Qb Z (Q2 Z Z Wb (Qb Z (C _ (Qk (Qj (k+1) ?_ ?_ ?_))))))));exact QM (l:=[0,3,5]) (lH:=[3]) (kp3 Z Z Z) (Qa Z Qf) Z Z Z;exact⟨Wa,QgX Wa G V.2⟩;omega;rw[G];simp only[qA]at G;refine Q3 (QF (Qx (QD (ks3 Z Z Z (Qw (Qd λK C=>mv2 Z Z (QW Z Z (ZK Z Z (Qb Z (Qq (g:=25) Z (λh3=>?_) (λh3=>?_)))))))))));rw[h3];simp only[qA]at h3;refine Qc Z (Qb Z (Qc Z (Qb Z (Qc Z (Qt Z Z Z Wa (QH Wa) Z (Qc Z (QY (ds0:=[2,1,0]) (cs:=[_,_,_,_,_,_,_]) Z Z Z Z Z Z (Qc Z (QY (ds0:=[2,1,0]) (cs:=[_,_,_,_,_,_,_]) Z Z Z Z Z Z (Qc Z (Zi (ds0:=[1,0]) (ZL (T _ (QEn Wa)).1 (T _ (QEn Wa)).2 U.1 U.2) Z Z (.inr Z) Z Z (Qc Z (Yp Z Z (Qh Z Z (kc4 C Z Z Z Z (Qs Z (λM=>?_) (λM=>?_)))))))))))))))));rw[M];simp only[qA]at M;refine Qd λK C=>mv2 Z Z (kc1 C Z (Qv (Qi (ZU Z ?_))));rw[QgW (k:=k) Wa Wf V.2];rfl;rw[M];simp only[qA]at M;refine Qp (ks3 Z Z Z (Qd λK C=>mv2 Z Z (MT Z Z Z Z Wa Wa Wc B7 Z (QeY (ds0:=[5,1,0]) Z Z (λ_ h=>⟨Qk0,h⟩) Z (.inl Z) Wd Wc Wc Z Z (QY (ds0:=[6,5,1,0]) (cs:=[_,_,_,_,_,_,_]) Z Z Z Z Z Z (QZ Z Z (Jg (ds0:=[1,0]) Z Z Wf ⟨_,rfl,rfl,rfl,rfl,rfl⟩ Z Z Wd Z Z Wc Wc Z Z (mv2 Z Z (MT Z Z Z Z Wa Wc Wd B7 Z (Jg (ds0:=[0]) Z Z (by simp[D.ids,D.y4]) ⟨rfl,Qk0,rfl⟩ Z Z Wd Z Z Wc Wc Z Z (Qb Z (kc1 C Z ?_))))))))))));refine Qv (ZU Z ?_);rw[QcT (k:=k) (by first |exact .inl Wa |exact .inr ⟨Wa,by trivial,by trivial⟩) V.2];simp[XX,D.fz,D.x7,Jt,lk,D.can,D.x6,Tx,D.y4,(show∀a b:Nat,a+1+b=a+(b+1) fromλa b=>Wa),QEy (show(l.map dCu).length<=l.length by simp)]<;>rfl
 grind
 rw[O];simp only[qA]at O;refine gn4 Z Z Z Z (gn3 Z Z Z (Qh Z Z (kc4 C Z Z Z Z (Zq Z (Q3 (QF (Qx (QD (ks3 Z Z Z (Qw (Qd λK C=>mv2 Z Z (QW Z Z (ZK Z Z (Qb Z (Qq (g:=25) Z (λY=>?_) (λY=>?_))))))))))))))))
 grind
 rw[Y];simp only[qA]at Y;refine gn4 Z Z Z Z (gn3 Z Z Z (Qh Z Z (kc4 C Z Z Z Z (Zq Z (Qp (ks3 Z Z Z (Qd λK C=>mv2 Z Z (MT Z Z Z Z Wa Wa Wc B7 Z (QeY (ds0:=[5,1,0]) Z Z (λ_ h=>⟨Qk0,h⟩) Z (.inl Z) Wd Wc Wc Z Z (QY (ds0:=[6,5,1,0]) (cs:=[_,_,_,_,_,_,_]) Z Z Z Z Z Z (QZ Z Z (Jg (ds0:=[1,0]) Z Z Wf ⟨_,rfl,rfl,rfl,rfl,rfl⟩ Z Z Wd Z Z Wc Wc Z Z (Qb Z (Qb Z (MT Z Z Z Z Wa Wc Wd B7 Z (Jg (ds0:=[0]) Z Z (by simp[D.ids,D.y4]) ⟨rfl,Qk0,rfl⟩ Z Z Wd Z Z Wc Wc Z Z (Qb Z (kc1 C Z ?_))))))))))))))))));refine Qv (ZU Z ?_);rw[QcT (k:=k) Wa V.2];simp_all [XX,D.fz,D.x7,Jt,lk,D.can,D.x6,Tx,D.y4,QEy,dCu]
theorem XN {l:List (Cu × Cu)} (G:Sm l):Ok Tryz.prog 280 [ZB l] (Tx (Xk l)):=by
 refine Ok.n7 tfol Tryz.func280 Qy1 (QEi Z) ?_;show TW _ _ tf280.body _ _;have O:=G.1;refine Qd λK C=>Qb Z (kc1 C Z (Qd λK C=>QA (J1) Z Z (.inl Z) (QA (Kv) Z Z (.inl Z) (QZ Z Z (Qb Z (kc2 C Z Z (Qw (Qd λK C=>Qb Z (kc3 C Z Z Z (Qu (Q8 (ι:=Nat) (λi=>⟨[(0,ZB l),(3,Tx (Xk (l.take i))),(4,.int .i64 i)],[]⟩) (λi=>i<=l.length) (λi=>l.length - i) 0 ?_ ?_ ?_)))))))))));exact le_trans (G8 7 _ We) (QM (l:=[0,3,4]) (lH:=[]) (kp3 Z Z Z) Qf Z Z Z);omega;intro i T;refine Qw (Qd λK C=>mv2 Z Z (QW Z Z (ZK Z Z (kc4 C Z Z Z Z (Qs Z (λM=>?_) (λM=>?_))))));rw[M];simp only[qA]at M;refine Qp (ks3 Z Z Z (Qw (Qu (QJ λK C=>mv2 Z Z (Qb Z (Qt Z Z Z Wa (QH Wa) Z (Q7 Z Z (QY (ds0:=[7,1,0]) (cs:=[_,_,_,_,_,_,_]) Z Z Z Z Z Z (Zi (ds0:=[1,0]) (KW (QEB (Rf G i).1 Wa) (Rf G i).2 (G.2 _ (QEn Wa)).1) Z Z (.inl Z) Z Z (mv2 Z Z (Qt Z Z Z Wa (QH Wa) Z (Q7 Z Z (QY (ds0:=[1,0]) (cs:=[_,_,_,_,_,_,_]) Z Z Z Z Z Z (Zi (ds0:=[0]) (KW (QEB (Rg _ _) (by grind [Rf])) (Dq (Rf G i).2 (G.2 _ (QEn Wa)).1) (G.2 _ (QEn Wa)).2) Z Z (.inl Z) Z Z (Qb Z (C _ ?_))))))))))))))));refine Qk (ks3 Z Z Z (QJ λK C=>Qb Z (Q2 Z Z Wb (Qb Z (C _ (Qj (i+1) ?_ ?_ ?_))))));exact QM (l:=[0,3,4]) (lH:=[]) (kp3 Z Z Z) Qf (by grind [Qku]) Z Z;omega;omega;rw[M];simp only[qA]at M;refine Q3 (QF (Qx (QD (ks1 Z (Qd λK C=>mv2 Z Z (kc1 C Z (Qv (ZU Z ?_))))))));rw[QEy (Wa:l.length<=i)];rfl
theorem XO {l:List (Cu × Cu)} {x y:Cu} (U:l.length<=9000000) (O:∀s∈l,Cu.sm s.1/\Cu.sm s.2) (hx:Cu.sm x) (T:Cu.sm y):o7 Tryz.prog 282 [.u4 500000 l.length,.agg (dCu x),.agg (dCu y)] [(500000,⟨l.map Nx,14,193,true⟩)] (.u4 500000 (HR l x y).length) [(500000,⟨(HR l x y).map Nx,14,193,true⟩)]:=by
 refine o7.mv tfol Tryz.func282 Qy3 (QEi Z) Z ?_;show TW _ _ tf282.body _ _;refine Qd λK C=>Zu Z Z Z (Zu Z Z Z (Qb Z (kc3 C Z Z Z (Qw (Qd λK C=>Qb Z (QW Z Z (J7 Z Z Wb (Qb Z (kc4 C Z Z Z Z (Qd λK C=>Qb Z (Gw Z Z (Qb Z (Qq (g:=13) Z (λM=>?_) (λM=>?_))))))))))))));rw[M];simp only[qA]at M;refine Qc Z (Qb Z (Qc Z (Qb Z (Qc Z (XW (ds0:=[5,4,2,1,0]) Z Z Z Wd Wa Wa Z Z Z (Qc Z (Qe Z Z (Qc Z (QY (ds0:=[2,1,0]) (cs:=[_,_,_,_,_,_,_]) Z (Xd Z (Q5 Wa Wa)) Z Z Z Z (Qc Z (QY (ds0:=[2,1,0]) (cs:=[_,_,_,_,_,_,_]) Z Z Z Z Z Z (Qc Z (Zi (ds0:=[1,0]) (ZL (O _ (QEn Wa)).2.1 (O _ (QEn Wa)).2.2 hx.1 hx.2) Z Z (.inr Z) Z Z (Qc Z (Yp Z Z (Qh Z Z (kc5 C Z Z Z Z Z (Qs Z (λG=>?_) (λG=>?_)))))))))))))))))));rw[G];simp only[qA]at G;refine Qd λK C=>mv2 Z Z (QB (cs:=[_,_,_,_,_,_,_]) Z Z Z Z (ZE Z Z Z Wd Wa Wa Z (Qe Z Z (Za Z Z (Q5 Wa Wa) Z Z Z Z Z (kc1 C Z (Qd λK C=>mv2 Z Z (kc1 C Z (Qv (Qi (Yz Z ?_ (Tk ?_)))))))))));rw[Bw (i:=((l.length:Int) - 1).toNat) Wa G];simp[TQ,D.fz,D.x7,small,D.can,D.x6];rw[Bw (i:=((l.length:Int) - 1).toNat) Wa G];simp[lk,QFQ,Nx,dCu,setRow,D.y4];rw[G];simp only[qA]at G;refine Qp (ks3 Z Z Z (Qd λK C=>Qb Z (QB (cs:=[_,_,_,_,_,_,_]) Z Z Z Z (QB (cs:=[_,_,_,_,_,_,_]) Z Z Z Z (Zz Z Z (QZ Z Z (Yl Z Z (λ_ h=>YZ Z Z Z h) Z Wd Z Z Z Wc Wc (Qb Z (kc1 C Z (Qv (Yz Z ?_ (Tk ?_))))))))))));rw[Mk (.inr ⟨((l.length:Int) - 1).toNat,Wa,G⟩)];simp[TQ,D.fz,D.x7,small,D.can,D.x6];rw[Mk (.inr ⟨((l.length:Int) - 1).toNat,Wa,G⟩)];simp[lk,Nx,dCu,D.y4];rw[M];simp only[qA]at M;refine gn4 Z Z Z Z (gn4 Z Z Z Z (Qh Z Z (kc5 C Z Z Z Z Z (Zq Z (Qp (ks3 Z Z Z (Qd λK C=>Qb Z (QB (cs:=[_,_,_,_,_,_,_]) Z Z Z Z (QB (cs:=[_,_,_,_,_,_,_]) Z Z Z Z (Zz Z Z (QZ Z Z (Yl Z Z (λ_ h=>YZ Z Z Z h) Z Wd Z Z Z Wc Wc (Qb Z (kc1 C Z (Qv ?_)))))))))))))));have h0:l=[]:=QEV Wa;refine Yz Z ?_ (Tk ?_)
 grind [Mk,TQ,D.fz,D.x7,small,D.can,D.x6]
 (repeat clear C K);simp_all [Mk,lk,Nx,dCu]
theorem Kw {l:List (Cu × Cu)} (M:Sm l):Ok Tryz.prog 286 [ZB l] (.g8 [ZB (PW l),.bool (l.all Fg)]):=by
 refine Ok.n7 tfol Tryz.func286 Qy4 (QEi Z) ?_;show TW _ _ tf286.body _ _;have hn:=M.1;have hc1:=Fc l;refine Qd λK C=>mv2 Z Z (kc1 C Z (Qw (Qd λK C=>Qb Z (kc2 C Z Z (Qu (Q8 (ι:=Nat) (λi=>⟨[(0,ZB l),(4,.int .i64 i)],[]⟩) (λi=>i<=l.length/\(l.take i).all Fg=true) (λi=>l.length - i) 0 ?_ ?_ ?_))))));exact Zn (kp2 Z Z);simp;intro i O;refine Qw (Qd λK C=>mv2 Z Z (QW Z Z (ZK Z Z (kc3 C Z Z Z (Qs Z (λV=>?_) (λV=>?_))))));rw[V];simp only[qA]at V;refine Qp (ks2 Z Z (Qw (Qu (Qd λK C=>mv2 Z Z (Qt Z Z Z Wa (QH Wa) Z (QB (cs:=[_,_,_,_,_,_,_,_,_,_,_,_,_,_]) Z Z Z Z (QA (Y4 (M.at (i:=i) Wa).1.1 (M.at (i:=i) Wa).1.2 (M.at (i:=i) Wa).2.1 (M.at (i:=i) Wa).2.2) Z Z (.inr Z) (Zp Z (kc3 C Z Z Z (Qs Z (λU=>?_) (λU=>?_)))))))))))
 ·rw[U];simp only[qA]at U;refine Qd λK C=>mv2 Z Z (kc2 C Z Z (Qv (Qm (Qi (QQ (Qm (Qi ?_)))))))
  first
   |exact ZD rfl rfl ⟨by rw[PW,if_neg (by rw[JU (i:=i) Wa Wf];simp)];rfl,by rw[JU (i:=i) Wa Wf];rfl⟩
   |(
    have ha:l.all Fg=true:=MW Wa O.2;exact ZD Z Z ⟨by rw[PW,if_pos ha,G.done Wa];simp[XX,D.fz,D.x7,Jt,lk,D.can,D.x6,ZB],by rw[ha];rfl⟩)
 rw[U];simp only[qA]at U;refine Qp (Qk (ks2 Z Z (QJ λK C=>Qb Z (Q2 Z Z Wb (Qb Z (C _ (Qj (i+1) ?_ ?_ ?_)))))));exact Zn (kp2 Z Z);exact⟨Wa,ZW Wa O.2 Wf⟩;omega;rw[V];simp only[qA]at V;refine Q3 (QF (Qx (QD (ks1 Z (Qd λK C=>Qb Z (kc2 C Z Z (Qd λK C=>Qb Z (QA (XN M) Z Z (.inl Z) (Qb Z (kc3 C Z Z Z (Qw (Qd λK C=>Qb Z (kc4 C Z Z Z Z (Qu (Q8 (ι:=Nat × List (Cu × Cu)) (λ⟨i,out⟩=>⟨[(0,ZB l),(5,.u4 5 out.length),(6,Tx (Xk l)),(7,.int .i64 i)],[(5,⟨out.map Nx,14,193,true⟩)]⟩) (λ⟨i,out⟩=>i<=(Xk l).length/\r9 (mIn l) (Xk l) i out) (λ⟨i,out⟩=>(Xk l).length - i) (0,[]) ?_ ?_ ?_)))))))))))))));exact le_trans (Z1 5 5 14 193 Z Z) (QM (l:=[0,5,6,7]) (lH:=[5]) (kp4 Z Z Z Z) (Qa Z Qf) Z Z Z)
 (repeat clear C K);simp_all [r9.zero]
 intro ⟨i,out⟩ O;obtain⟨hI1,G⟩:=O;have hI3:=G.1;dsimp only;refine Qw (Qd λK C=>Qb Z (Q2 Z Z Wb (Qb Z (QW Z Z (ZK Z Z (kc5 C Z Z Z Z Z (Qs Z (λT=>?_) (λT=>?_))))))));rw[T];simp only[qA]at T;refine Qp (ks4 Z Z Z Z (Qw (Qu (Qd λK C=>mv2 Z Z (Qb Z (Qt Z Z Z Wa (QH Wa) Z (QY (ds0:=[0]) (cs:=[_,_,_,_,_,_,_]) Z Z Z Z Z Z (mv2 Z Z (Q2 Z Z Wb (Qt Z Z Z Wa (SB Wa) Z (QY (ds0:=[0]) (cs:=[_,_,_,_,_,_,_]) Z Z Z Z Z Z (Zi (ds0:=[]) (Xn M (Yb M _ (QEn Wa)) (Yb M _ (QEn Wa))) Z Z (.inr Z) Z Z (kc5 C Z Z Z Z Z (Qs Z (λY=>?_) (λY=>?_)))))))))))))));rw[Y];refine QJ λK C=>Qb rfl (Qb rfl (Qb rfl (Qt rfl rfl rfl Wa (QH Wa) rfl (QY (ds0:=[1,0]) (cs:=[_,_,_,_,_,_,_]) rfl rfl rfl rfl rfl rfl (Qb rfl (Qb rfl (Q2 rfl rfl Wb (Qt rfl rfl rfl Wa (SB Wa) rfl (QY (ds0:=[1,0]) (cs:=[_,_,_,_,_,_,_]) rfl rfl rfl rfl rfl rfl (LF (ds0:=[0]) (QfC (k:=5) rfl rfl rfl We rfl We (by simp[D.ids,D.y4,dCu]) ⟨.u4 5 out.length,by simp,by simp[D.ids,D.y4]⟩ rfl rfl (XO Wa G.2.1 (Yb M _ (QEn Wa)) (Yb M _ (QEn Wa)))) (λ_ h=>by cases h) rfl rfl ?_))))))))));refine Qb Z (C _ (Qk (ks4 Z Z Z Z (QJ λK C=>Qb Z (Q2 Z Z Wb (Qb Z (C _ (Qj (i+1,HR out (Xk l)[i] (Xk l)[i+1]) ?_ ?_ ?_))))))));exact le_trans (Qbc (l:=[0,6,7]) (t:=50) (u:=5) 5 (kp3 Z Z Z) Z Z Z Z) (QM (l:=[0,5,6,7]) (lH:=[5]) (kp4 Z Z Z Z) (Qa Z Qf) Z Z Z);exact⟨Wa,G.take (Yb M) Wa Wa⟩;omega;rw[Y];refine Qp (Qk (ks4 Z Z Z Z (QJ λK C=>Qb Z (Q2 Z Z Wb (Qb Z (C _ (Qj (i+1,out) ?_ ?_ ?_)))))));exact QM (l:=[0,5,6,7]) (lH:=[5]) (kp4 Z Z Z Z) (Qa Z Qf) Z Z Z;exact⟨Wa,G.skip Wa Wa⟩;omega
 ·rw[T];simp only[qA]at T;refine Q3 (QF (Qx (QD (ks1 Z (Qd λK C=>mv2 Z Z (Qb Z (kc2 C Z Z (Qv ?_))))))))
  first
   |exact ZD rfl rfl ⟨by rw[PW,if_neg (by rw[JU (i:=i) Wa (by assumption)];simp)];rfl,by rw[JU (i:=i) Wa (by assumption)];rfl⟩
   |(
    have ha:l.all Fg=true:=MW Wa O.2;exact ZD Z Z ⟨by rw[PW,if_pos ha,G.done Wa];simp[XX,D.fz,D.x7,Jt,lk,D.can,D.x6,ZB],by rw[ha];rfl⟩)
variable {a:List (Cu × Cu)}
theorem M1 {b:List (Cu × Cu)} (ha:Sm a) (hb:Sm b) (O:a.length+b.length<=4194304):Ok Tryz.prog 276 [ZB a,ZB b] (ZB (Qox a b)):=by
 refine Ok.n7 tfol Tryz.func276 Qy0 (QEi Z) ?_;show TW _ _ tf276.body _ _;refine Qd λK C=>Qb Z (kc2 C Z Z (Qw (Qd λK C=>Qb Z (QA (ZS ha) Z Z (.inr Z) (Zp Z (Qb Z (Qq (g:=10) Z (λM=>?_) (λM=>?_))))))));rw[M];simp only[qB]at M;refine gn3 Z Z Z (Qh Z Z (kc3 C Z Z Z (Zb Z (Qd λK C=>Qb Z (kc1 C Z (Qv (Qi (ZU Z ?_))))))));rw[Qox,if_neg Wc];rfl;rw[M];simp only[qB]at M;refine Qc Z (Qb Z (Qc Z (QA (ZS hb) Z Z (.inr Z) (Qc Z (Zp Z (Qh Z Z (kc3 C Z Z Z (Qs Z (λG=>?_) (λG=>?_)))))))));rw[G];simp only[qB]at G;refine Qd λK C=>Qb Z (kc1 C Z (Qv (Qi (ZU Z ?_))));rw[Qox,if_neg Wc];rfl;rw[G];simp only[qB]at G;refine Qp (ks2 Z Z (Qd λK C=>Qb Z (GL Z Z (λ_ h=>GE Qdq h) Z (.inl Z) Wd Wc Wc (Qb Z (Yl Z Z (λ_ h=>GE Qdq h) Z Wd Z Z Z Wc Wc ?_)))));apply QeZ [17] Wd;simp[St.m9,St.freeze,rem,D.fz,D.x7,x4.fz,lk,D.n4];exact⟨rfl,rfl⟩;exact Kw (ha.app hb O);rfl;simp[XX,D.fz,D.x7,Jt,D.can,D.x6,ZB];exact .inl Z;refine Qb Z (QN Z Z (QN Z Z (mv2 Z Z (kc1 C Z (Qd λK C=>mv2 Z Z (kc1 C Z (Qv (ZU Z ?_))))))));rw[Qox,if_pos ⟨M,G⟩];rfl
theorem NU (ha:Sm a):Ok Tryz.prog 288 [ZB a] (ZB (TG a)):=by
 refine Ok.n7 tfol Tryz.func288 Qy5 (QEi Z) ?_;show TW _ _ tf288.body _ _;have hn:=ha.1;have U:=Fc a;refine Qd λK C=>Qb Z (kc1 C Z (Qw (Qd λK C=>Qb Z (QA (ZS ha) Z Z (.inr Z) (Zp Z (kc2 C Z Z (Qs Z (λM=>?_) (λM=>?_))))))));rw[M];simp only[qA]at M;refine Qd λK C=>Qb Z (kc1 C Z (Qv (Qi (ZU Z ?_))));rw[TG,if_neg Wc];rfl;rw[M];simp only[qA]at M;refine Qp (ks1 Z (Qd λK C=>Qb Z (kc2 C Z Z (Qd λK C=>Qb Z (QA (XN ha) Z Z (.inl Z) (Qb Z (kc3 C Z Z Z (Qw (Qd λK C=>Qb Z (kc4 C Z Z Z Z (Qu (Q8 (ι:=Nat × List (Cu × Cu)) (λ⟨i,out⟩=>⟨[(0,ZB a),(3,.u4 3 out.length),(4,Tx (Xk a)),(5,.int .i64 i)],[(3,⟨out.map Nx,14,193,true⟩)]⟩) (λ⟨i,out⟩=>i<=(Xk a).length/\r9 (λx y=>!mIn a x y) (Xk a) i out) (λ⟨i,out⟩=>(Xk a).length - i) (0,[]) ?_ ?_ ?_))))))))))));exact le_trans (Z1 3 3 14 193 Z Z) (QM (l:=[0,3,4,5]) (lH:=[3]) (kp4 Z Z Z Z) (Qa Z Qf) Z Z Z)
 (repeat clear C K);simp_all [r9.zero]
 intro ⟨i,out⟩ hI;obtain⟨Y,G⟩:=hI;have V:=G.1;dsimp only;refine Qw (Qd λK C=>Qb Z (Q2 Z Z Wb (Qb Z (QW Z Z (ZK Z Z (kc5 C Z Z Z Z Z (Qs Z (λT=>?_) (λT=>?_))))))));rw[T];simp only[qA]at T;refine Qp (ks4 Z Z Z Z (Qw (Qu (Qd λK C=>mv2 Z Z (Qb Z (Qt Z Z Z Wa (QH Wa) Z (QY (ds0:=[1,0]) (cs:=[_,_,_,_,_,_,_]) Z Z Z Z Z Z (mv2 Z Z (Q2 Z Z Wb (Qt Z Z Z Wa (SB Wa) Z (QY (ds0:=[1,0]) (cs:=[_,_,_,_,_,_,_]) Z Z Z Z Z Z (Zi (ds0:=[0]) (Xn ha (Yb ha _ (QEn Wa)) (Yb ha _ (QEn Wa))) Z Z (.inr Z) Z Z (Zp Z (kc5 C Z Z Z Z Z (Qs Z (λO=>?_) (λO=>?_))))))))))))))));rw[O];simp only[qA]at O;refine QJ λK C=>Qb rfl (Qb rfl (Qb rfl (Qt rfl rfl rfl Wa (QH Wa) rfl (QY (ds0:=[1,0]) (cs:=[_,_,_,_,_,_,_]) rfl rfl rfl rfl rfl rfl (Qb rfl (Qb rfl (Q2 rfl rfl Wb (Qt rfl rfl rfl Wa (SB Wa) rfl (QY (ds0:=[1,0]) (cs:=[_,_,_,_,_,_,_]) rfl rfl rfl rfl rfl rfl (LF (ds0:=[0]) (QfC (k:=3) rfl rfl rfl We rfl We (by simp[D.ids,D.y4,dCu]) ⟨.u4 3 out.length,by simp,by simp[D.ids,D.y4]⟩ rfl rfl (XO Wa G.2.1 (Yb ha _ (QEn Wa)) (Yb ha _ (QEn Wa)))) (λ_ h=>by cases h) rfl rfl ?_))))))))));refine Qb Z (C _ (Qk (ks4 Z Z Z Z (QJ λK C=>Qb Z (Q2 Z Z Wb (Qb Z (C _ (Qj (i+1,HR out (Xk a)[i] (Xk a)[i+1]) ?_ ?_ ?_))))))));exact le_trans (Qbc (l:=[0,4,5]) (t:=40) (u:=3) 3 (kp3 Z Z Z) Z Z Z Z) (QM (l:=[0,3,4,5]) (lH:=[3]) (kp4 Z Z Z Z) (Qa Z Qf) Z Z Z);exact⟨Wa,G.take (Yb ha) Wa Wc⟩;omega;rw[O];simp only[qA]at O;refine Qp (Qk (ks4 Z Z Z Z (QJ λK C=>Qb Z (Q2 Z Z Wb (Qb Z (C _ (Qj (i+1,out) ?_ ?_ ?_)))))));exact QM (l:=[0,3,4,5]) (lH:=[3]) (kp4 Z Z Z Z) (Qa Z Qf) Z Z Z;exact⟨Wa,G.skip Wa Wc⟩;omega
 ·rw[T];simp only[qA]at T;refine Q3 (QF (Qx (QD (ks1 Z (Qd λK C=>mv2 Z Z (kc1 C Z (Qv (ZU Z ?_))))))));rw[TG,if_pos M,G.done Wa];simp[XX,D.fz,D.x7,Jt,lk,D.can,D.x6,ZB]
end Go.Proofs
namespace M25
open Go Go.Abs M3
variable {i:Nat} {s:CC} {u:Int}
structure Zj where
 u:Int
 s:CC
variable {x:Zj}
structure CandT where
 v:Vr
 sh:Int
 ns:List (List Zj)
 bs:List Zj
variable {l:List CandT}
structure XU where
 n:List UInt8
 f:List UInt8
 cs:List CandT
abbrev Ql:=List XU
variable {w:Ql}
def F5 (x:Zj):List D:=[.int .i64 x.u,ZB x.s.1,ZB x.s.2]
def Yg (l:List Zj):D:=.sl (l.map F5)
def Ky (l:List (List Zj)):D:=.sl (l.map λr=>[Yg r])
def Jm (c:CandT):List D:=[.int .i64 c.v.a,.int .i64 c.v.b,.int .i64 c.v.c,.str c.v.p,.str c.v.q,.int .i64 c.sh,Ky c.ns,Yg c.bs]
def G0 (l:List CandT):D:=.sl (l.map Jm)
def Zv (u:XU):List D:=[.str u.n,.str u.f,G0 u.cs]
def Q9 (w:Ql):D:=.agg [.sl (w.map Zv)]
structure XT where
 u:Int
 m:Int
 deriving DecidableEq
structure Kq where
 u:Int
 m:Int
 l:Int
 c:Int
 deriving DecidableEq
structure QeO where
 k:Int
 u:Int
 a:Int
 b:Int
 t:List XT
def QwU (t:XT):List D:=[.int .i64 t.u,.int .i64 t.m]
def Qsx (l:List XT):D:=.sl (l.map QwU)
def QBk (r:QeO):List D:=[.int .i64 r.k,.int .i64 r.u,.int .i64 r.a,.int .i64 r.b,Qsx r.t]
def F4 (l:List QeO):D:=.sl (l.map QBk)
abbrev Qb2 (a b:Int):Int:=Kd .and .i64 a b
abbrev bor (a b:Int):Int:=Kd .or .i64 a b
abbrev Qz5 (a b:Int):Int:=Kd .andNot .i64 a b
def uAt (w:Ql) (u:Int):Option XU:=if u<0 then none else w[u.toNat]?
theorem QiI (h0:0<=u) (h:u<w.length):uAt w u=some (w[u.toNat]'Wa):=by
 (repeat clear hK K);simp_all [uAt]
theorem QiJ (h:u<0\/(w.length:Int)<=u):uAt w u=none:=by
 unfold uAt
 grind
def TE (w:Ql) (u:Int):Int:=match uAt w u with
 |none=>0
 |some x=>2 ^ (min x.cs.length 16+1) - 1
def Qjp (v:Vr):Prop:=v.p.length<=1048576/\v.q.length<=1048576
structure WSm (w:Ql):Prop where
 len:w.length<=48
 cs:∀u∈w,u.cs.length<=16
 vs:∀u∈w,∀c∈u.cs,Qjp c.v
 ns:∀u∈w,∀c∈u.cs,c.ns.length<=1000/\c.bs.length<=1000
 nl:∀u∈w,∀c∈u.cs,∀r∈c.ns,r.length<=1000
 nw:∀u∈w,∀c∈u.cs,∀r∈c.ns,∀x∈r,Sm x.s.1/\Sm x.s.2
 bw:∀u∈w,∀c∈u.cs,∀x∈c.bs,Sm x.s.1/\Sm x.s.2
def Qgu (s:CC) (v:Vr):Bool:=PV s v.a v.b v.c v.p v.q
def HX (s:CC) (l:List CandT):Nat->Int
 |0=>0
 |n+1=>HX s l n+match l[n]? with
  |some c=>if Qgu s c.v=true then 2 ^ (n+1)else 0
  |none=>0
theorem Dv (s:CC) (l:List CandT):∀n,0<=HX s l n/\HX s l n<=2 ^ (n+1) - 2
 |0=>by simp[HX]
 |n+1=>by
  obtain⟨G,C⟩:=Dv s l n
  grind [HX]
theorem BG (h:i<l.length) (hp:Qgu s l[i].v=true):HX s l (i+1)=HX s l i+2 ^ (i+1):=by
 rw[HX,QE8 h];grind
theorem Qc0 (h:i<l.length) (hp:Qgu s l[i].v=false):HX s l (i+1)=HX s l i:=by
 rw[HX,QE8 h];grind
def Qi8 (w:Ql) (x:Zj):Int:=match uAt w x.u with
 |none=>0
 |some un=>HX x.s un.cs (min un.cs.length 16)
theorem Do (h0:0<=x.u) (h:x.u<w.length):Qi8 w x=HX x.s (w[x.u.toNat]'Wa).cs (min (w[x.u.toNat]'Wa).cs.length 16):=by
 rw[Qi8,QiI h0 h]
theorem Dp (h:x.u<0\/(w.length:Int)<=x.u):Qi8 w x=0:=by rw[Qi8,QiJ h]
def Qg0 (w:Ql) (c:List Int) (u:Int):Int:=match uAt w u with
 |none=>0
 |some x=>if(c.length:Int)<=u then 0 else if c.getD u.toNat 0< -1\/((min x.cs.length 16:Nat):Int)<=c.getD u.toNat 0 then 0 else 2 ^ (c.getD u.toNat 0+1).toNat
def Qmf (f:Int) (u:Int):List XT->Int
 |[]=>f
 |t::r=>if t.u=u then t.m else Qmf f u r
def Qow (w:Ql) (l:List XT) (u:Int):Int:=Qmf (TE w u) u l
def inW (w:Ql) (u:Int):Bool:=decide (0<=u)&&decide (u<w.length)
def Qxe (l:List XT) (u:Int):List XT:=l.filter λt=>!decide (t.u=u)
def FM (l:List XT):Nat->List XT
 |0=>[]
 |n+1=>FM l n++l.filter λt=>decide (t.u=((n:Nat):Int))
def QgY (l:List XT):List XT:=FM l 48
def Qxc (r x:QeO):Bool:=decide (x.k=r.k)&&decide (x.u=r.u)&&decide (Qxe x.t r.u=Qxe r.t r.u)
def Qs6 (w:Ql) (r x:QeO):QeO:={x with t:=QgY (⟨r.u,bor (Qow w x.t r.u) (Qow w r.t r.u)⟩::Qxe x.t r.u)}
def Qky (w:Ql) (r:QeO):List QeO->List QeO
 |[]=>[r]
 |x::l=>if Qxc r x=true then Qs6 w r x::l else x::Qky w r l
def Ny (w:Ql) (l:List Kq) (u:Int):Int:=l.foldl (λa s=>if s.u=u/\inW w u=true then s.m else a) (TE w u)
def Qme (l:List Kq):Int:=match l.getLast? with
 |none=>0
 |some s=>s.l
def Qkv (l:List Kq) (u:Int):Bool:=l.any λs=>decide (s.u=u)&&decide (s.c= -1)
def Qxg (w:Ql) (l:List Kq) (inc:List XT):Bool:=inc.all λt=>decide (BA (Ny w l t.u) t.m=2)
def DF (have_:Int->Int):List XT->Int->Int
 |[],at_=>at_
 |t::r,at_=>if BA (have_ t.u) t.m=0 then -1 else if BA (have_ t.u) t.m=1 then(if 0<=at_ then -1 else DF have_ r t.u)else DF have_ r at_
def Qtb (w:Ql) (l:List Kq) (inc:List XT):Int:=DF (Ny w l) inc (-1)
def Qdy (w:Ql) (l:List Kq):Nat->List (List XT)->Int × Int
 |_,[]=>(-1, -1)
 |i,x::r=>if Qxg w l x=true then(i, -1)else if 0<=Qtb w l x then(i,Qtb w l x)else Qdy w l (i+1) r
def Qbl (w:Ql) (db:List (List XT)) (l:List Kq):Int × Int:=Qdy w l 0 db
section
variable {fr:QEg} {H:QEf} {t u:Nat}
end
theorem BB {w:Ql} {c:List Int} {u:Int} (h0:0<=u) (C:u<w.length) (G:u<c.length) (h:¬c[u.toNat]'Wa< -1) (M:¬min (((w[u.toNat]'Wa).cs.length:Nat):Int) 16<=c[u.toNat]'Wa):Qg0 w c u=2 ^ (c[u.toNat]'Wa+1).toNat:=by
 rw[Qg0,QiI h0 C]
 grind
variable {l:List XT}
def yb (w:Ql) (l:List XT):Prop:=l.Pairwise (λa b=>a.u<b.u)/\∀t∈l,0<=t.u/\t.u<w.length
theorem yb.ne (h:yb w l):l.Pairwise (λa b=>a.u≠b.u):=h.1.imp λh=>Wa
theorem Ti {l:List XT} (C:l.Pairwise (λa b=>a.u≠b.u)):∀n,(FM l n).Pairwise (λa b=>a.u<b.u)/\∀t∈FM l n,t∈l/\0<=t.u/\t.u<n
 |0=>⟨List.Pairwise.nil,by simp[FM]⟩
 |n+1=>by
  obtain⟨M,G⟩:=Ti C n;rw[FM]
  grind [List.Pairwise.imp_of_mem]
theorem Qek (G:l.Pairwise (λa b=>a.u≠b.u)) (hb:∀t∈l,0<=t.u/\t.u<w.length):yb w (QgY l):=by
 obtain⟨O,M⟩:=Ti G 48;exact⟨O,λt C=>hb t (M t C).1⟩
theorem Qkm {r x:QeO} (hx:yb w x.t) (h0:0<=r.u) (G:r.u<w.length):yb w (Qs6 w r x).t:=by
 refine Qek (List.pairwise_cons.2 ⟨λt C=>?_,hx.ne.filter _⟩) λt C=>?_;have:=(QFF.1 C).2
 grind
 rcases QEk.1 C with rfl |C
 grind
 exact hx.2 t (QFF.1 C).1
def QlF (w:Ql) (rows:List QeO):Prop:=∀x∈rows,yb w x.t
theorem Qbq {w:Ql} {r:QeO} (hr:yb w r.t) (h0:0<=r.u) (C:r.u<w.length):∀{rows:List QeO},QlF w rows->QlF w (Qky w r rows)
 |[],_=>λx hx=>by
  grind [Qky]
 |y::rows,h=>λx hx=>by
  rw[Qky]at hx;split at hx;rcases QEk.1 hx with rfl |hx
  exact Qkm (h y Wd) h0 C;exact h x Wc;rcases QEk.1 hx with rfl |hx
  exact h x Wd;exact Qbq hr h0 C (λz G=>h z Wc) x hx
variable {k:Nat} {x:Int}
theorem QbR (e:Int):IntKind.i64.wrap e=(BitVec.ofInt 64 e).toInt:=by
 have hb:(BitVec.ofInt 64 e).toInt=if e % 18446744073709551616<9223372036854775808 then e % 18446744073709551616 else e % 18446744073709551616 - 18446744073709551616:=by
  grind
 rw[hb];unfold IntKind.wrap;simp only[IntKind.bits,IntKind.signed,QE7]
 grind
theorem SW (b:BitVec 64):BitVec.ofInt 64 (b.toNat:Int)=b:=by
 simp
theorem Qsa (x y:Int):BitVec.ofInt 64 (Qb2 x y)=BitVec.ofInt 64 x&&& BitVec.ofInt 64 y:=by
 show BitVec.ofInt 64 (IntKind.i64.wrap ((BitVec.ofInt 64 x&&& BitVec.ofInt 64 y).toNat:Int))=_;rw[QbR,BitVec.ofInt_toInt,SW]
theorem QwD (x y:Int):BitVec.ofInt 64 (bor x y)=BitVec.ofInt 64 x|||BitVec.ofInt 64 y:=by
 show BitVec.ofInt 64 (IntKind.i64.wrap ((BitVec.ofInt 64 x|||BitVec.ofInt 64 y).toNat:Int))=_;rw[QbR,BitVec.ofInt_toInt,SW]
theorem Qkl (h:I64 x):IntKind.i64.wrap x=x:=Qn h.1 h.2
theorem QlO (h:I64 x):(BitVec.ofInt 64 x).toInt=x:=by rw[<- QbR,Qkl h]
theorem Qoc (x y:Int):I64 (Qb2 x y):=Qaq _
theorem QsZ (x y:Int):I64 (bor x y):=Qaq _
def tb (x:Int) (i:Nat):Bool:=(BitVec.ofInt 64 x).getLsbD i
theorem Qub (x y:Int) (i:Nat):tb (Qb2 x y) i=(tb x i&&tb y i):=by rw[tb,Qsa,BitVec.getLsbD_and];rfl
theorem Qud (x y:Int) (i:Nat):tb (bor x y) i=(tb x i||tb y i):=by rw[tb,QwD,BitVec.getLsbD_or];rfl
theorem Quc (x:Int) (h:64<=i):tb x i=false:=BitVec.getLsbD_of_ge _ i h
theorem QmJ {y:Int} (hx:I64 x) (C:I64 y) (h:∀i,tb x i=tb y i):x=y:=by
 rw[<- QlO hx,<- QlO C]
 congr 1
 exact BitVec.eq_of_getLsbD_eq λi _=>h i
theorem Cb (i:Nat):tb 0 i=false:=by
 show(BitVec.ofInt 64 0).getLsbD i=false;simp
theorem QaX (hx:I64 x):x=0↔∀i,tb x i=false:=by
 constructor;rintro rfl i;exact Cb i;intro h;exact QmJ hx ⟨Wa,Wa⟩ λi=>by rw[h i,Cb]
theorem Qis (n:Nat) (h:i<64):tb (n:Int) i=n.testBit i:=by
 grind [tb,BitVec.getLsbD_ofNat]
theorem Qit (hk:k<64) (i:Nat):tb ((2:Int) ^ k) i=decide (i=k):=by
 have e:((2 ^ k:Nat):Int)=(2:Int) ^ k:=by simp
 by_cases h:i<64
 rw[<- e,Qis _ h,Nat.testBit_two_pow]
 grind
 grind [Quc]
theorem Qjs {m:Int}:Qb2 x m=0↔∀i,tb x i=true->tb m i=false:=by
 rw[QaX (Qoc x m)];refine forall_congr' λi=>?_;rw[Qub];simp
def Lo (x:Int):Prop:=0<=x/\x<131072
theorem Qb3 (hk:k<64):Qb2 x (2 ^ k)=0↔tb x k=false:=by
 rw[Qjs]
 grind [Qit]
def QrN (w:Ql) (l:List Kq):Prop:=∀s∈l,Lo s.m
structure QrM (w:Ql) (db:List (List XT)) (l:List Kq) (a:Nat) (k:Nat):Prop where
  ha:a<db.length
  hk:k<db[a].length
  eq:Qbl w db l=((a:Int),db[a][k].u)
  one:BA (Ny w l db[a][k].u) db[a][k].m=1
  two:∀j,∀hj:j<db[a].length,j≠k->BA (Ny w l db[a][j].u) db[a][j].m=2
def QBl (w:Ql) (l:List Kq) (t:XT) (c:Int):Kq:=⟨t.u,Qz5 (Ny w l t.u) t.m,Qme l,c⟩
def SmN (n:Nat) (l:List (Cu × Cu)):Prop:=l.length<=n/\∀s∈l,Cu.sm s.1/\Cu.sm s.2
def Qzg (n:Nat) (s:CC):Prop:=SmN n s.1/\SmN n s.2
def Qwq:CC:=([(Z6,Y6)],[(Z6,Y6)])
theorem QlI:Qzg 1 Qwq:=by
 have h:SmN 1 [(Z6,Y6)]:=⟨QEI _,λs C=>by simp only[QEr]at C;subst C;trivial⟩
 trivial
def pe (i:Nat):Nat:=4*2 ^ i
def Qwn (s:CC):Prop:=Qzg 600000 s
def v0:Vr:=⟨0,0,0,[],[]⟩
def VsL (l:List Vr):Prop:=l.Sublist versions\/l=[v0]
def QrU (s:CC):Prop:=Qwn s/\F8 s=true
structure CR where
 v:Vr
 x:D
 y:D
 z:D
def dCR (r:CR):List D:=[.int .i64 r.v.a,.int .i64 r.v.b,.int .i64 r.v.c,.str r.v.p,.str r.v.q,r.x,r.y,r.z]
def Qz1 (zs:List CR):Prop:=VsL (zs.map CR.v)
structure UR where
 n:List UInt8
 f:List UInt8
 k:Nat
 cs:List CR
def dUR (u:UR):List D:=[.str u.n,.str u.f,.u4 u.k u.cs.length]
structure Fam (H:QEf) (kg ku eu ec:Nat) (us:List UR):Prop where
 ne:ku≠kg
 u:∃pr,lk H ku=some ⟨us.map dUR,3,eu,pr⟩
 c:∀y∈us,y.k≠kg/\∃pr,lk H y.k=some ⟨y.cs.map dCR,8,ec,pr⟩
 v:∀y∈us,y.cs.length<=16/\∀z∈y.cs,Qjp z.v
 vs:∀y∈us,Qz1 y.cs
def QlE (us:List UR):Prop:=∀j,∀h:j<us.length,us[j].k=500001+j
def zr (v:Vr) (sh:Int):CR:=⟨v,.int .i64 sh,.u7 [],.u7 []⟩
def QrK (u:UR):Prop:=u.cs.length<=4/\∀z∈u.cs,∃v sh,z=zr v sh/\Qjp v
section
variable {l:List Nat} {fr fr1 fr':QEg} {B:QEf} {kg eg eu ec:Nat} {L:List Int} {J:Int} {us:List UR}
end
def u0 (v:Vr):UR:=⟨[],[],500001,[zr v (-1)]⟩
def names5:List (List UInt8):=[[97,110,116],[98,101,101],[99,111,119],[100,111,103],[101,108,107]]
structure UnitsIn (us:List UR):Prop where
 keys:QlE us
 fresh:∀u∈us,QrK u
 first:∃z rest,us=⟨[],[],500001,[z]⟩::rest
def nmR (r:Nat):List UInt8:=names5.getD (r / 2) []
def ftR (r:Nat):List UInt8:=if r % 2=1 then[102]else[]
def shp (u:UR):List UInt8 × List UInt8 × List Vr:=(u.n,u.f,u.cs.map CR.v)
inductive UL:Nat->List (List UInt8 × List UInt8 × List Vr)->Prop
 |base:UL 0 [([],[],[v0])]
 |snoc {b r:Nat} {l:List (List UInt8 × List UInt8 × List Vr)} {vs:List Vr} (h:UL b l) (hb:b<=r) (hr:r<10) (hf:r % 2=1->2<=l.length) (hc:vs.Sublist versions):UL (r+1) (l++[(nmR r,ftR r,vs)])
 |up {b b':Nat} {l:List (List UInt8 × List UInt8 × List Vr)} (h:UL b l) (hb:b<=b'):UL b' l
section
variable {us:List UR} {eu ec eg:Nat} {L:List Int} {J:Int} {b4:x4}
end
def QrY (n:Nat) (x:Zj):Prop:=0<x.u/\x.u<n/\QrU x.s
structure QlD (n:Nat) (c:CandT):Prop where
 v:Qjp c.v
 nl:c.ns.length<=10
 nr:∀r∈c.ns,(1<=r.length/\r.length<=2)/\∀x∈r,QrY n x
 bl:c.bs.length<=1
 bw:∀x∈c.bs,QrY n x
def Qz7 (c:CandT):CR:=⟨c.v,.int .i64 c.sh,Ky c.ns,Yg c.bs⟩
def Qwj (n:Nat) (z:CR):Prop:=∃c,z=Qz7 c/\QlD n c
def QrJ (z:CR):Prop:=∃v sh,z=zr v sh/\Qjp v
structure Prog (n:Nat) (us:List UR) (i k:Nat):Prop where
 keys:QlE us
 len:us.length=n/\2<=n/\n<=11
 cl:∀u∈us,u.cs.length<=4
 done:∀j,∀hj:j<us.length,∀m,∀hm:m<us[j].cs.length,(j<i\/(j=i/\m<k))->Qwj n us[j].cs[m]
 fresh:∀j,∀hj:j<us.length,∀m,∀hm:m<us[j].cs.length,¬(j<i\/(j=i/\m<k))->QrJ us[j].cs[m]
 ul:∃b,UL b (us.map shp)
def QBX (x:XU):List UInt8 × List UInt8 × List Vr:=(x.n,x.f,x.cs.map CandT.v)
structure WMade (w:Ql):Prop where
 sm:WSm w
 len:2<=w.length/\w.length<=11
 cs:∀u∈w,u.cs.length<=4
 n8:∀u∈w,∀c∈u.cs,QlD w.length c
 ul:∃b,UL b (w.map QBX)
end M25
namespace M25
open Go Go.Abs M3
inductive Qe5 (w:Ql) (db:List (List XT)):List Kq->List Kq->Prop
 |nil (l:List Kq):Qe5 w db l l
 |cons {l x:List Kq} (a k:Nat) (ho:QrM w db l a k) (h:Qe5 w db (l++[QBl w l ((db[a]'ho.ha)[k]'ho.hk) a]) x):Qe5 w db l x
section
variable {w:Ql} {db:List (List XT)}
end
end M25
namespace M25
open Go Go.Abs M3
end M25
namespace M25
open Go Go.Abs M3
structure Good (w:Ql) (l:List Kq):Prop where
 p:QrN w l
 nz:∀u,inW w u=true->Ny w l u≠0
 le:∀u i,tb (Ny w l u) i=true->tb (TE w u) i=true
end M25
namespace M25
open Go Go.Abs M3
end M25
namespace M25
open Go Go.Abs M3
end M25
namespace M25
open Go Go.Abs M3
end M25
namespace M25
open M3
variable {i:Nat} {s:List (Cu × Cu) × List (Cu × Cu)} {x:Cu}
def K6 (e a b c:Int) (p q:List UInt8) (f:Bool):Bool:=!decide (e=0)||(!f&&decide (p=[])&&!(decide (a=0)&&(decide (b=0)&&(decide (c=0)&&(decide (p=[])&&(decide (q=[])&&true))))))
def Ja (x:Cu):Bool:=K6 x.e x.a x.b x.c x.p x.q x.f
theorem Qso {e a b c:Int} {p q:List UInt8} {f:Bool} (h:JO e a b c p q f=true):q=[]:=by
 grind [JO]
theorem D0 (h:x.q=[]):Ja x=JG x:=by
 rw[Ja,JG,K6,PI,SL,h]
 grind
theorem MC (h:JG x=true):Ja x=true:=by
 grind [JG,PI,SL,Ja,K6]
theorem Qtd {l:List (Cu × Cu)} (h:HS l=true) {s:Cu × Cu} (C:s∈l):s.1.q=[]/\s.2.q=[]:=by
 obtain⟨i,hi,rfl⟩:=QFR.1 C;have:=QEs.1 h i (QEE.2 hi);rw[Qbn hi,QEm]at this;have G:=this.1;simp only[Fg,SM,QEm]at G
 grind [Qso]
theorem Rm (hi:s.1.length<=i) (h:(s.1.take i).all (λx=>Ja x.1&&Ja x.2)=true):F8 s=(HS s.1&&HS s.2):=by
 rw[QEy hi]at h;rw[F8];cases C:HS s.1 with
 |false=>rfl
 |true=>
  have:(s.1.all λx=>JG x.1&&JG x.2)=true:=by
   rw[QEs]at h ⊢;intro x hx
   grind [Qtd,D0]
  grind
theorem Rl (hi:i<s.1.length) (h:Ja s.1[i].1=false\/Ja s.1[i].2=false):F8 s=false:=
 SN hi (h.imp (λh=>by grind [MC]) (λh=>by grind [MC]))
open Go Go.Abs
def QBK {α:Type} (p:α->Bool) (l:List α):Int:=match l.findIdx? p with
 |some i=>i
 |none=>-1
structure PathOk (w:Ql) (l:List Kq) (i:Nat) (x:Int):Prop where
 dec:0<=x↔Qkv l i=true
 lo: -1<=x
 left:0<=x->x<16/\Ny w l i=2 ^ (x+1).toNat
theorem Qnu {a:Int} {n:Nat} (C:n<=60) (h0:0<=a) (h:a<2 ^ n):bor a (2 ^ n)=a+2 ^ n:=by
 obtain⟨m,rfl⟩:=Int.eq_ofNat_of_zero_le h0;have hp:((2 ^ n:Nat):Int)=(2:Int) ^ n:=by simp
 have hb:(2:Nat) ^ n<=2 ^ 60:=QFO Wa C;have hm:m<2 ^ n:=Wa;have e:=Nat.two_pow_add_eq_or_of_lt hm 1;rw[Nat.mul_one]at e;have e2:(m:Int)+2 ^ n=((2 ^ n|||m:Nat):Int):=Wa;rw[e2];refine QmJ (QsZ _ _) ⟨Wa,Wa⟩ λi=>?_;rw[Qud]
 by_cases hi:i<64
 rw[Qis _ hi,Qis _ hi,Qit Wa,Nat.testBit_or,Nat.testBit_two_pow,Bool.or_comm]
 grind
 grind [Quc]
end M25
namespace M25
open Go Go.Abs M3
variable {b:Bool} {g:Nat->Int} {i n:Nat} {n0:Int} {u:XU}
structure QrL where
 n:List UInt8
 v:Vr
 s:List UInt8
 k:Int
structure Nn where
 e0:List UInt8
 e1:List UInt8
 e2:List UInt8
 ls:List QrL
structure LSm (l:Nn):Prop where
 len:l.ls.length<=1000
 vs:∀x∈l.ls,Qjp x.v
def Qxd (n:List UInt8) (x:QrL):Bool:=decide (x.n=n)
def Qmd (l:Nn) (n:List UInt8):Int:=QBK (Qxd n) l.ls
def Qmg (x w:Vr):Int:=if Pf x.a x.b x.c x.p x.q w.a w.b w.c w.p w.q=0 then 0 else if Pf x.a x.b x.c x.p x.q w.a w.b w.c w.p w.q=1 then 2 else 4
def Qph (u:XU) (i:Nat) (b:Bool) (n0:Int) (g:Nat->Int):List Int:=
 if i=0\/u.f≠[]\/b=false then List.replicate (u.cs.length+1) 0 else n0::(List.range u.cs.length).map g
theorem QkZ (u:XU) (i:Nat) (b:Bool) (n0:Int) (g:Nat->Int):(Qph u i b n0 g).length=u.cs.length+1:=by grind [Qph]
theorem Qpi (h:i=0\/u.f≠[]\/b=false):Qph u i b n0 g=List.replicate (u.cs.length+1) 0:=if_pos h
theorem Qdp (M:i≠0) (G:u.f=[]) (C:b=true):Qph u i b n0 g=n0::(List.range u.cs.length).map g:=if_neg Wc
def Qua (w:Ql) (g:Nat->XU->List Int) (n:Nat):List (List Int):=(List.range n).map λi=>match w[i]? with
 |some u=>g i u
 |none=>[]
theorem Qld (w:Ql) (g:Nat->XU->List Int) (n:Nat):(Qua w g n).length=n:=by simp[Qua]
theorem QqX {w:Ql} {g:Nat->XU->List Int} (h:i<n) (hw:i<w.length):(Qua w g n)[i]?=some (g i w[i]):=by
 grind [Qua]
def QaN (l:Nn) (u:XU) (p:Nat):Int:=if Qmd l u.n<0 then 1 else match u.cs[p]?,l.ls[(Qmd l u.n).toNat]? with
 |some c,some x=>Qmg c.v x.v
 |_,_=>0
def R7 (l:Nn) (i:Nat) (u:XU):List Int:=Qph u i true 0 (QaN l u)
def Gk (w:Ql) (l:Nn):List (List Int):=Qua w (R7 l) w.length
theorem Qbi (w:Ql) (l:Nn):(Gk w l).length=w.length:=Qld _ _ _
def ofN (t:List (List Int)) (c:List Int):Nat->Int
 |0=>0
 |n+1=>match c[n]?,t[n]? with
  |some x,some r=>if -1<=x/\x<(r.length:Int) - 1 then IntKind.i64.wrap (ofN t c n+(r[(x+1).toNat]?).getD 0)else ofN t c n
  |_,_=>ofN t c n
def mOf (t:List (List Int)) (c:List Int):Int:=ofN t c c.length
theorem QoP {t:List (List Int)} {c:List Int} (G:n<c.length) (C:n<t.length) (h0: -1<=c[n]) (M:c[n]<(t[n].length:Int) - 1):ofN t c (n+1)=IntKind.i64.wrap (ofN t c n+t[n][(c[n]+1).toNat]'Wa):=by
 rw[ofN,QE8 G,QE8 C]
 grind
end M25
namespace M25
open Go Go.Abs M3
structure CapsOk (c:List D):Prop where
 cap:c.all D.w9=true
 arg:∀s:St,c.map (XX s)=c
 fz:∀H,c.map (D.x7 H Jt)=c
 own:(c.all λd=>!d.own)=true
 pure:c.all D.pure=true
end M25
namespace M25
open Go Go.Abs M3
theorem QkX {u:XU} {i:Nat} {b:Bool} {n0:Int} {g:Nat->Int} (M:i≠0) (G:u.f=[]) (C:b=true):(Qph u i b n0 g)[0]?=some n0:=by grind [Qdp]
theorem QkY {u:XU} {i:Nat} {b:Bool} {n0:Int} {g:Nat->Int} (M:i≠0) (G:u.f=[]) (C:b=true) {p:Nat} (hp:p<u.cs.length):(Qph u i b n0 g)[p+1]?=some (g p):=by grind [Qdp]
section
variable {l:Nn} {u:XU} {i v:Nat} {names:List (List UInt8)}
theorem QnJ:(R7 l i u).length=u.cs.length+1:=QkZ ..
end
end M25
namespace M25
open Go Go.Abs M3
structure FewT (t:List (List Int)):Prop where
 len:t.length<=60
 rows:∀r∈t,r.length<=1000
def okN (x:Int):Bool:=decide (x<=1099511627776)&&decide (-1099511627776<=x)
end M25
namespace M25
open Go Go.Abs M3
structure LMade (l:Nn):Prop where
 len:l.ls.length<=4
 vs:∀x∈l.ls,Qjp x.v
end M25
namespace M25
open Go Go.Abs M3
end M25
namespace M25
open Go Go.Abs M3
end M25
namespace M25
open Go Go.Abs M3
end M25
namespace M25
open Go Go.Abs M3
variable {c:List Int} {l:Nn} {u:Nat} {w:Ql}
structure z6 (w:Ql) (c:List Int):Prop where
 len:c.length=w.length
 bd:∀u (h:u<w.length) (hc:u<c.length), -1<=c[u]/\c[u]<w[u].cs.length
theorem z6.at (h:z6 w c) (hu:u<w.length): -1<=c[u]'(by rw[h.len];omega)/\c[u]'(by rw[h.len];omega)<w[u].cs.length:=h.bd u hu _
def k8 (w:Ql) (l:Nn) (c:List Int) (u:Nat):Bool:=match w[u]?,c[u]? with
 |some x,some p=>if u=0\/x.f≠[]\/p<0 then true else decide (QaN l x p.toNat=0)
 |_,_=>true
theorem Qtu (h:u<w.length) (C:u<c.length):k8 w l c u=if u=0\/w[u].f≠[]\/c[u]<0 then true else decide (QaN l w[u] c[u].toNat=0):=by
 grind [k8]
theorem QjI (l:Nn) (u:XU) (p:Nat):0<=QaN l u p/\QaN l u p<=4:=by
 grind [QaN,Qmg]
theorem QjQ (h:z6 w c) (hu:u<w.length):∃x,(R7 l u w[u])[((c[u]'(by rw[h.len];omega))+1).toNat]?=some x/\0<=x/\x<=4/\(x=0↔k8 w l c u=true):=by
 have O:u<c.length:=by rw[h.len];omega
 have hb:=h.at hu;rw[Qtu hu O]
 by_cases hn:u=0\/w[u].f≠[]
 refine⟨0, ?_,Wa,Wa, ?_⟩
 (repeat clear hK K);simp_all [R7,Qpi]
 grind
 have M:u≠0:=λe=>hn (.inl e);have G:w[u].f=[]:=QFL λe=>hn (.inr e)
 by_cases hp:c[u]<0
 refine⟨0, ?_,Wa,Wa, ?_⟩;rw[show(c[u]+1).toNat=0 by omega];exact QkX M G rfl
 grind
 have C:=QjI l w[u] c[u].toNat;refine⟨QaN l w[u] c[u].toNat, ?_,C.1,C.2, ?_⟩;rw[show(c[u]+1).toNat=c[u].toNat+1 by omega];exact QkY M G rfl Wa
 grind
theorem Qmq {w:Ql} {l:Nn} {c:List Int} (hw:WSm w) (h:z6 w c):∀n,n<=w.length->0<=ofN (Gk w l) c n/\ofN (Gk w l) c n<=4*n/\(ofN (Gk w l) c n=0↔(List.range n).all (k8 w l c)=true)
 |0,_=>⟨by simp[ofN],by simp[ofN],by simp[ofN]⟩
 |n+1,hn=>by
  obtain⟨h1,Y,V⟩:=Qmq (l:=l) hw h n Wa;have C:=hw.len;have M:n<c.length:=by rw[h.len];omega
  have G:n<(Gk w l).length:=by grind [Qbi]
  have hr:(Gk w l)[n]=R7 l n w[n]:=by
   have:=QqX (w:=w) (g:=R7 l) (n:=w.length) (i:=n) Wa Wa;rw[QE8 Wc]at this;exact QFD this
  have hb:=h.at (u:=n) Wa;obtain⟨x,hx,U,T,O⟩:=QjQ (l:=l) h (u:=n) Wa;have hlen:(R7 l n w[n]).length=w[n].cs.length+1:=QnJ
  have e:ofN (Gk w l) c (n+1)=ofN (Gk w l) c n+x:=by
   rw[QoP M G hb.1 Wc]
   grind [Qn]
  grind
theorem Pj (hw:WSm w) (h:z6 w c):decide (mOf (Gk w l) c=0)=(List.range w.length).all (k8 w l c):=by
 have:=(Qmq (l:=l) hw h w.length (QEI _)).2.2;rw[mOf,h.len]
 grind
section
variable {w:Ql} {l:Nn} {c:List Int} {v:Nat}
end
end M25
namespace M25
open M3 Go Go.Abs
theorem Ca (s:CC) (l:List CandT) (i:Nat):∀n,n<=16->n<=l.length->tb (HX s l n) i=(decide (0<i/\i<=n)&&match l[i - 1]? with |some c=>Qgu s c.v |none=>false)
 |0,_,_=>by grind [HX,Cb]
 |n+1,h,h'=>by
  obtain⟨b1,b2⟩:=Dv s l n;have C:=Ca s l i n Wa Wa;have G:n<l.length:=Wa;cases hp:Qgu s l[n].v with
  |true=>
   rw[BG G hp,<- Qnu Wa b1 Wa,Qud,C,Qit Wa]
   grind
  |false=>
   rw[Qc0 G hp,C]
   grind
theorem QkC (w:Ql) (x:Zj):Qb2 (Qi8 w x) 1=0:=by
 rw[show(1:Int)=2 ^ 0 from rfl,Qb3 Wa]
 grind [Do,Ca,Dp,Cb]
structure TIn (F m:Int):Prop where
 hF:I64 F
 hm:I64 m
 sub:∀i,tb m i=true->tb F i=true
 nz:m≠0
 nf:m≠F
end M25
namespace M25
end M25
namespace M25
open M3 Go Go.Abs
def Qbh (a b:List (Cu × Cu)):List (Cu × Cu):=if HS a=true/\HS b=true then GJ (λx y=>mIn a x y&&mIn b x y) (Xk (a++b)) []else[]
def Qzr (s:CC) (v:Vr):Bool:=PV s v.a v.b v.c v.p v.q
def Yv (a:CC):Bool:=versions.all λv=>Qzr (Qxf a) v==!Qzr a v
end M25
namespace Go.Proofs
open Go Go.Abs M3 M25
theorem NT {a b:List (Cu × Cu)} (ha:Sm a) (hb:Sm b) (V:a.length+b.length<=4194304):Ok Tryz.prog 271 [ZB a,ZB b] (ZB (Qbh a b)):=by
 refine Ok.n7 tfol Tryz.func271 QyZ (QEi Z) ?_;show TW _ _ tf271.body _ _;have hn:=ha.1;have hn2:=hb.1;have M:=ha.app hb V;have hc1:=Fc (a++b);have hc2:(a++b).length=a.length+b.length:=QEY;refine Qd λK C=>Qb Z (kc2 C Z Z (Qw (Qd λK C=>Qb Z (QA (ZS ha) Z Z (.inr Z) (Zp Z (Qb Z (Qq (g:=11) Z (λT=>?_) (λT=>?_))))))));rw[T];simp only[qA]at T;refine gn3 Z Z Z (Qh Z Z (kc3 C Z Z Z (Zb Z (Qd λK C=>Qb Z (kc1 C Z (Qv (Qi (ZU Z ?_))))))));rw[Qbh,if_neg Wc];rfl;rw[T];simp only[qA]at T;refine Qc Z (Qb Z (Qc Z (QA (ZS hb) Z Z (.inr Z) (Qc Z (Zp Z (Qh Z Z (kc3 C Z Z Z (Qs Z (λO=>?_) (λO=>?_)))))))));rw[O];simp only[qA]at O;refine Qd λK C=>Qb Z (kc1 C Z (Qv (Qi (ZU Z ?_))));rw[Qbh,if_neg Wc];rfl;rw[O];simp only[qA]at O;refine Qp (ks2 Z Z (Qd λK C=>Qb Z (kc3 C Z Z Z (Qd λK C=>Qb Z (GL Z Z (λ_ h=>GE Qdq h) Z (.inl Z) Wd Wc Wc (Qb Z (Yl Z Z (λ_ h=>GE Qdq h) Z Wd Z Z Z Wc Wc ?_)))))));apply QeZ [17] Wd;simp[St.m9,St.freeze,rem,D.fz,D.x7,x4.fz,lk,D.n4];exact⟨rfl,rfl⟩;exact XN (l:=a++b) M;rfl;simp[XX,D.fz,D.x7,Jt,D.can,D.x6,ZB];exact .inl Z;refine Qb Z (kc4 C Z Z Z Z (Qw (Qd λK C=>Qb Z (kc5 C Z Z Z Z Z (Qu (Q8 (ι:=Nat × List (Cu × Cu)) (λ⟨i,out⟩=>⟨[(0,ZB a),(1,ZB b),(5,.u4 5 out.length),(6,Tx (Xk (a++b))),(7,.int .i64 i)],[(5,⟨out.map Nx,14,193,true⟩)]⟩) (λ⟨i,out⟩=>i<=(Xk (a++b)).length/\r9 (λx y=>mIn a x y&&mIn b x y) (Xk (a++b)) i out) (λ⟨i,out⟩=>(Xk (a++b)).length - i) (0,[]) ?_ ?_ ?_))))));exact le_trans (Z1 5 5 14 193 Z Z) (QM (l:=[0,1,5,6,7]) (lH:=[5]) (kp5 Z Z Z Z Z) (Qa Z Qf) Z Z Z)
 (repeat clear C K);simp_all [r9.zero]
 intro ⟨i,out⟩ hI;obtain⟨hI1,G⟩:=hI;have hI3:=G.1;dsimp only;refine Qw (Qd λK C=>Qb Z (Q2 Z Z Wb (Qb Z (QW Z QE (ZK Z Z (kc6 C Z Z Z Z Z Z (Qs Z (λU=>?_) (λU=>?_))))))));rw[U];simp only[qA]at U;refine Qp (ks5 Z Z Z Z Z (Qw (Qu (Qd λK C=>mv2 Z Z (Qb Z (Qt Z Z Z Wa (QH Wa) Z (QY (ds0:=dn 14) (cs:=[_,_,_,_,_,_,_]) Z Z Z Z Z Z (mv2 Z Z (Q2 Z Z Wb (Qt Z Z Z Wa (SB Wa) Z (QY (ds0:=dn 14) (cs:=[_,_,_,_,_,_,_]) Z Z Z Z Z Z (Zi (ds0:=dn 13) (Xn ha (Yb M _ (QEn Wa)) (Yb M _ (QEn Wa))) Z Z (.inr Z) Z Z (Qb Z (Qq (g:=39) Z (λh4=>?_) (λh4=>?_)))))))))))))));rw[h4];refine Qc Z (Qb Z (Qc Z (Qb Z (Qc Z (Qb Z (Qc Z (Qt Z Z Z Wa (QH Wa) Z (Qc Z (QY (ds0:=[1,0]) (cs:=[_,_,_,_,_,_,_]) Z Z Z Z Z Z (Qc Z (Qb Z (Qc Z (Qb Z (Qc Z (Q2 Z Z Wb (Qc Z (Qt Z Z Z Wa (SB Wa) Z (Qc Z (QY (ds0:=[1,0]) (cs:=[_,_,_,_,_,_,_]) Z Z Z Z Z Z (Qc Z (Zi (ds0:=[0]) (Xn hb (Yb M _ (QEn Wa)) (Yb M _ (QEn Wa))) Z Z (.inr Z) Z Z (Qh Z Z (kc6 C Z Z Z Z Z Z (Qs Z (λY=>?_) (λY=>?_)))))))))))))))))))))))));rw[Y];refine QJ λK C=>Qb rfl (Qb rfl (Qb rfl (Qt rfl rfl rfl Wa (QH Wa) rfl (QY (ds0:=[1,0]) (cs:=[_,_,_,_,_,_,_]) rfl rfl rfl rfl rfl rfl (Qb rfl (Qb rfl (Q2 rfl rfl Wb (Qt rfl rfl rfl Wa (SB Wa) rfl (QY (ds0:=[1,0]) (cs:=[_,_,_,_,_,_,_]) rfl rfl rfl rfl rfl rfl (LF (ds0:=[0]) (QfC (k:=5) rfl rfl rfl We rfl We (by simp[D.ids,D.y4,dCu]) ⟨.u4 5 out.length,by simp,by simp[D.ids,D.y4]⟩ rfl rfl (XO Wa G.2.1 (Yb M _ (QEn Wa)) (Yb M _ (QEn Wa)))) (λ_ h=>by cases h) rfl rfl ?_))))))))));refine Qb Z (C _ (Qk (ks5 Z Z Z Z Z (QJ λK C=>Qb Z (Q2 Z Z Wb (Qb Z (C _ (Qj (i+1,HR out (Xk (a++b))[i] (Xk (a++b))[i+1]) ?_ ?_ ?_))))))));exact le_trans (Qbc (l:=[0,1,6,7]) (t:=62) (u:=5) 5 (kp4 Z Z Z Z) Z Z Z Z) (QM (l:=[0,1,5,6,7]) (lH:=[5]) (kp5 Z Z Z Z Z) (Qa Z Qf) Z Z Z);exact⟨Wa,G.take (Yb M) Wa Wc⟩;omega;rw[Y];refine Qp (Qk (ks5 Z Z Z Z Z (QJ λK C=>Qb Z (Q2 Z Z Wb (Qb Z (C _ (Qj (i+1,out) ?_ ?_ ?_)))))));exact QM (l:=[0,1,5,6,7]) (lH:=[5]) (kp5 Z Z Z Z Z) (Qa Z Qf) Z Z Z;exact⟨Wa,G.skip Wa Wc⟩;omega;rw[h4];refine gn4 Z Z Z Z (gn4 Z Z Z Z (gn3 Z Z Z (Qh Z Z (kc6 C Z Z Z Z Z Z (Zq Z (Qp (Qk (ks5 Z Z Z Z Z (QJ λK C=>Qb Z (Q2 Z Z Wb (Qb Z (C _ (Qj (i+1,out) ?_ ?_ ?_)))))))))))));exact QM (l:=[0,1,5,6,7]) (lH:=[5]) (kp5 Z Z Z Z Z) (Qa Z Qf) Z Z Z;exact⟨Wa,G.skip Wa Wc⟩;omega
 ·rw[U];simp only[qA]at U;refine Q3 (QF (Qx (QD (ks1 Z (Qd λK C=>mv2 Z Z (kc1 C Z (Qv (ZU Z ?_))))))));rw[Qbh,if_pos ⟨T,O⟩,G.done Wa];simp[XX,D.fz,D.x7,Jt,lk,D.can,D.x6,ZB]
end Go.Proofs
namespace Go.Abs
open Go
section
variable {fr:QEg} {H:QEf}
end
end Go.Abs
namespace Go.Abs
abbrev gD:D:=.ptr [.int .i64 0,.int .i64 0,.int .i64 0,.str [],.str []]
end Go.Abs
namespace Go.Proofs
open Go Go.Abs M3 M25
variable {a b c:Int} {l:List (Cu × Cu)} {p q:List UInt8}
theorem RZ (M:Sm l):Ok Tryz.prog 157 [ZB l] (.bool (HS l)):=by
 refine Ok.n7 tfol Tryz.func157 Qyz (QEi Z) ?_;show TW _ _ tf157.body _ _;have Y:=M.1;refine Qd λK C=>Qb Z (kc1 C Z (Qw (Qd λK C=>Qb Z (QW Z Z (Qb Z (kc4 C Z Z Z Z (Qu (Q8 (ι:=Nat) (λi=>⟨[(0,ZB l),(5,ZB l),(6,.int .i64 l.length),(7,.int .i64 i)],[]⟩) (λi=>i<=l.length/\(List.range i).all (QoR l)=true) (λi=>l.length - i) 0 ?_ ?_ ?_))))))));exact QM (l:=[0,5,6,7]) (kp4 Z Z Z Z) Qf Wd Z Z;simp;intro i T;refine Qd λK C=>ZK Z Z (kc5 C Z Z Z Z Z (Qw (Qs Z (λV=>?_) (λV=>?_))));rw[V];simp only[qA]at V;refine Qp (ks4 Z Z Z Z (Qw (Qu (Qd λK C=>Qb Z (Qt Z Z Z Wa (QH Wa) Z (QB (cs:=[_,_,_,_,_,_,_,_,_,_,_,_,_,_]) Z Z Z Z (Zk Z (Qb Z (Za Z Z Z Z Z Z Z Z (kc6 C Z Z Z Z Z Z (Qd λK C=>QY (ds0:=dn 18) (cs:=[_,_,_,_,_,_,_,_,_,_,_,_,_,_]) Z Z Z Z Z Z (Zi (ds0:=dn 17) (NQ (M.at (i:=i) Wa).1.1 (M.at (i:=i) Wa).1.2 (M.at (i:=i) Wa).2.1 (M.at (i:=i) Wa).2.2) Z Z (.inr Z) Z Z (Zp Z (Qb Z (Qq (g:=15) Z (λG=>?_) (λG=>?_))))))))))))))));rw[G];simp only[qA]at G;refine gn3 Z Z Z (Qy Z (Qy Z (Qy Z (Qy Z (Qy Z (Qy Z (Qy Z (Qy Z (Qy Z (Qy Z (YN Z (Qh Z Z (kc5 C Z Z Z Z Z (Zb Z (Qd λK C=>Qb Z (kc1 C Z (Qv (Qm (Qi (QQ (Qm (Qi (Qg Z ?_)))))))))))))))))))))))
 first
  |exact(FI T.2 Wa).symm
  |exact(Xa (i:=i) Wa (GC Wa (.inl G))).symm
  |(simp only[K8]at*;exact(Xa (i:=i) Wa (GC Wa (.inr ⟨Wa,O⟩))).symm)
 rw[G];simp only[qA]at G;refine Qc Z (Qb Z (Qc Z (Jh Z Z (Qc Z (Qb Z (Qq (g:=18) Z (λU=>?_) (λU=>?_)))))));rw[U];simp only[qA]at U;refine Qc Z (Qb Z (Qc Z (Qb Z (Qc Z (J7 Z Z Wb (Qc Z (Qt Z Z Z Wa (Q5 Wa Wa) Z (Qc Z (Q7 Z Z (Qc Z (QY (ds0:=dn 4) (cs:=[_,_,_,_,_,_,_]) Z Z Z Z Z Z (Qc Z (Qe Z Z (Qc Z (QY (ds0:=dn 4) (cs:=[_,_,_,_,_,_,_]) Z Z Z Z Z Z (Qc Z (Zi (ds0:=[2,1,0]) (NP (M.at (i:=((i:Int) - 1).toNat) Wa).2.1 (M.at (i:=((i:Int) - 1).toNat) Wa).2.2 (M.at (i:=i) Wa).1.1 (M.at (i:=i) Wa).1.2) Z Z (.inr Z) Z Z (Qc Z (Gw Z Z (Qc Z (Qh Z Z (Qh Z Z (kc5 C Z Z Z Z Z (Qs Z (λO=>?_) (λO=>?_)))))))))))))))))))))))));rw[O];simp only[qA]at O;refine Qd λK C=>Qb Z (kc1 C Z (Qv (Qm (Qi (QQ (Qm (Qi (Qg Z ?_))))))))
 first
  |exact(FI T.2 Wa).symm
  |exact(Xa (i:=i) Wa (GC Wa (.inl G))).symm
  |(simp only[K8]at*;exact(Xa (i:=i) Wa (GC Wa (.inr ⟨Wa,O⟩))).symm)
 rw[O];simp only[qA]at O;refine Qp (Qk (ks4 Z Z Z Z (QJ λK C=>Q2 Z Z Wb (Qb Z (C _ (Qj (i+1) ?_ ?_ ?_))))));exact QM (l:=[0,5,6,7]) (lH:=[]) (kp4 Z Z Z Z) Qf Z Z Z;exact⟨Wa,Mw T.2 (Qc9 Wa G (by(simp only[K8]at*;exact .inr (Int.not_le.1 O))))⟩
 omega;rw[U];simp only[qA]at U;refine gn4 Z Z Z Z (gn4 Z Z Z Z (gn2 Z Z (Qc Z (Qh Z Z (Qh Z Z (kc5 C Z Z Z Z Z (Zq Z (Qp (Qk (ks4 Z Z Z Z (QJ λK C=>Q2 Z Z Wb (Qb Z (C _ (Qj (i+1) ?_ ?_ ?_))))))))))))));exact QM (l:=[0,5,6,7]) (lH:=[]) (kp4 Z Z Z Z) Qf Z Z Z;exact⟨Wa,Mw T.2 (Qc9 Wa G Wa)⟩;omega;rw[V];simp only[qA]at V;refine Q3 (QF (Qx (QD (QK (QL) (Qd λK C=>Qb Z (kc1 C Z (Qv (Qg Z ?_))))))))
 first
  |exact(FI T.2 Wa).symm
  |exact(Xa (i:=i) Wa (GC Wa (.inl G))).symm
  |(simp only[K8]at*;exact(Xa (i:=i) Wa (GC Wa (.inr ⟨Wa,O⟩))).symm)
theorem CM (O:Sm l) (hp:p.length<=1048576) (V:q.length<=1048576):Ok Tryz.prog 121 [ZB l,.agg [.int .i64 a,.int .i64 b,.int .i64 c,.str p,.str q]] (.bool (TF l a b c p q)):=by
 refine Ok.n7 tfol Tryz.func121 Qyi (QEi Z) ?_;show TW _ _ tf121.body _ _;have Y:=O.1;refine Qd λK C=>Zu Z Z Z (Qb Z (kc2 C Z Z (Qw (Qd λK C=>Qb Z (QA (RZ O) Z Z (.inr Z) (Zp Z (kc3 C Z Z Z (Qs Z (λM=>?_) (λM=>?_)))))))));rw[M];simp only[qA]at M;refine Qd λK C=>Qb Z (kc1 C Z (Qv (Qi (Qg Z ?_))))
 grind [Rb]
 rw[M];simp only[qA]at M;refine Qp (ks2 Z Z (Qw (Qd λK C=>Qb Z (QW Z Z (Qb Z (kc4 C Z Z Z Z (Qu (Q8 (ι:=Nat) (λi=>⟨[(3,.ref 3 0 0),(10,ZB l),(11,.int .i64 l.length),(12,.int .i64 i)],[(3,⟨[[.int .i64 a,.int .i64 b,.int .i64 c,.str p,.str q]],5,66,true⟩)]⟩) (λi=>i<=l.length/\(l.take i).any (λs=>SJ s a b c p q)=false) (λi=>l.length - i) 0 ?_ ?_ ?_))))))));exact QM (l:=[3,10,11,12]) (lH:=[3]) (kp4 Z Z Z Z) (Qa Z Qf) Wd Z Z;simp;intro i U;refine Qd λK C=>ZK Z Z (kc5 C Z Z Z Z Z (Qw (Qs Z (λT=>?_) (λT=>?_))));rw[T];simp only[qA]at T;refine Qp (ks4 Z Z Z Z (Qw (Qu (Qd λK C=>Qt Z Z Z Wa (QH Wa) Z (QB (cs:=[_,_,_,_,_,_,_,_,_,_,_,_,_,_]) Z Z Z Z (Zk Z (Za Z Z Z Z Z Z Z Z (kc5 C Z Z Z Z Z (Qd λK C=>QB (cs:=[_,_,_,_,_,_,_,_,_,_,_,_,_,_]) Z Z Z Z (QB (cs:=[_,_,_,_,_]) Z Z Z Z (QA (QaJ (O.at (i:=i) Wa).1.1 (O.at (i:=i) Wa).1.2 (O.at (i:=i) Wa).2.1 (O.at (i:=i) Wa).2.2 hp V) Z Z (.inr Z) (kc5 C Z Z Z Z Z (Qs Z (λG=>?_) (λG=>?_))))))))))))));rw[G];simp only[qA]at G;refine Qd λK C=>Qb Z (kc1 C Z (Qv (Qm (Qi (QQ (Qm (Qi (Qg Z ?_))))))))
 first
  |exact(Ra (i:=i) Wa U.2).symm
  |exact(Rb M).symm
  |exact(QcF M (i:=i) Wa G).symm
 rw[G];simp only[qA]at G;refine Qp (Qk (ks4 Z Z Z Z (QJ λK C=>Q2 Z Z Wb (Qb Z (C _ (Qj (i+1) ?_ ?_ ?_))))));exact QM (l:=[3,10,11,12]) (lH:=[3]) (kp4 Z Z Z Z) (Qa Z Qf) Z Z Z;exact⟨Wa,RM Wa U.2 G⟩;omega;rw[T];simp only[qA]at T;refine Q3 (QF (Qx (QD (QK (QL) (Qd λK C=>Qb Z (kc1 C Z (Qv (Qg Z ?_))))))))
 grind [Ra]
theorem NV {e:Int} {f:Bool}:Ok Tryz.prog 156 [.agg [.int .i64 e,.int .i64 a,.int .i64 b,.int .i64 c,.str p,.str q,.bool f],gD] (.bool (K6 e a b c p q f)):=by
 refine Ok.b9 (ds:=[.agg [.int .i64 e,.int .i64 a,.int .i64 b,.int .i64 c,.str p,.str q,.bool f]]) (dg:=gD) tfol Tryz.func156 Qyy (QEi Z) ?_;show TW _ _ tf156.body _ _;refine Qd λK C=>Zu Z Z Z (Qb Z (kc2 C Z Z (Qd λK C=>Qe Z Z (Qr Z Z Z (Ys Z Z (Qb Z (Qq (g:=6) Z (λO=>?_) (λO=>?_))))))));rw[O];simp only[qB]at O;refine gn4 Z Z Z Z (Qy Z (Qy Z (Qy Z (Qy Z (gn2 Z Z (Qy Z (Qy Z (Qy Z (Qy Z (YN Z (Qh Z Z (Qb Z (kc1 C Z (Qv (Qg Z ?_)))))))))))))))
 grind [K6]
 rw[O];simp only[qB]at O;refine Qc Z (Qe Z Z (Qc Z (Qr Z Z Z (Qc Z (Zp Z (Qc Z (Qb Z (Qq (g:=10) Z (λM=>?_) (λM=>?_)))))))));rw[M];simp only[qB]at M;refine Qc Z (Qe Z Z (Qc Z (Qe Z Z (Qc Z (Qr Z Z Z (Qc Z (HB Z Z (Qc Z (Qh Z Z (Qc Z (Qb Z (Qq (g:=16) Z (λG=>?_) (λG=>?_)))))))))))));rw[G];simp only[qB]at G;refine Qc Z (Qe Z Z (Qc Z (QB (cs:=[_,_,_,_,_]) Z Z Z Z (Qc Z (QB (cs:=[_,_,_,_,_]) Z Z Z Z (Qc Z (QrQ Z Z Z (Qc Z (Qh Z Z (Qh Z Z (Qb Z (kc1 C Z (Qv (Qg Z ?_))))))))))))))
 grind [K6]
 rw[G];simp only[qB]at G;refine gn4 Z Z Z Z (Qc Z (Qh Z Z (Qh Z Z (Qb Z (kc1 C Z (Qv (Qg Z ?_)))))))
 grind [K6]
 rw[M];simp only[qB]at M;refine gn4 Z Z Z Z (Qc Z (Qh Z Z (Qc Z (Qb Z (gn4 Z Z Z Z (Qc Z (Qh Z Z (Qh Z Z (Qb Z (kc1 C Z (Qv (Qg Z ?_))))))))))))
 grind [K6]
variable {s:List (Cu × Cu) × List (Cu × Cu)}
theorem CO (O:Sm s.1) (V:Sm s.2):Ok Tryz.prog 120 [QnQ s,gD] (.bool (F8 s)):=by
 refine Ok.b9 (ds:=[QnQ s]) (dg:=gD) tfol Tryz.func120 Qyh (QEi Z) ?_;show TW _ _ tf120.body _ _;have hn:=O.1;refine Qd λK C=>Zu Z Z Z (Qb Z (kc2 C Z Z (Qw (Qd λK C=>Qe Z Z (Qr Z Z Z (QW Z Z (Qb Z (kc5 C Z Z Z Z Z (Qu (Q8 (ι:=Nat) (λi=>⟨[(1,.ref 1 0 0),(6,ZB s.1),(7,.int .i64 s.1.length),(8,.int .i64 i),(900000,gD)],[(1,⟨[[ZB s.1,ZB s.2]],2,79,true⟩)]⟩) (λi=>i<=s.1.length/\(s.1.take i).all (λx=>Ja x.1&&Ja x.2)=true) (λi=>s.1.length - i) 0 ?_ ?_ ?_))))))))));exact QM (l:=[1,6,7,8,900000]) (lH:=[1]) (kp5 Z Z Z Z Z) (Qa Z Qf) Wd Z Z;simp;intro i Y;refine Qd λK C=>ZK Z Z (kc6 C Z Z Z Z Z Z (Qw (Qs Z (λT=>?_) (λT=>?_))));rw[T];simp only[qA]at T;refine Qp (ks5 Z Z Z Z Z (Qw (Qu (Qd λK C=>Qt Z Z Z Wa (QH Wa) Z (QB (cs:=[_,_,_,_,_,_,_,_,_,_,_,_,_,_]) Z Z Z Z (Zk Z (Za Z Z Z Z Z Z Z Z (kc6 C Z Z Z Z Z Z (Qd λK C=>Qe Z Z (QB (cs:=[_,_,_,_,_,_,_]) Z Z Z Z (QA (NV) Z Z (.inr Z) (Zp Z (Qb Z (Qq (g:=16) Z (λM=>?_) (λM=>?_)))))))))))))));rw[M];simp only[qA]at M;refine gn4 Z Z Z Z (Qh Z Z (kc6 C Z Z Z Z Z Z (Zb Z (Qd λK C=>Qb Z (kc1 C Z (Qv (Qm (Qi (QQ (Qm (Qi (Qg Z ?_))))))))))))
 first
  |exact(Rl (i:=i) Wa (.inl M)).symm
  |exact(Rl (i:=i) Wa (.inr G)).symm
  |(rw[Rm (i:=i) Wa Y.2];simp_all)
 rw[M];simp only[qA]at M;refine Qc Z (Qe Z Z (Qc Z (QB (cs:=[_,_,_,_,_,_,_]) Z Z Z Z (Qc Z (QA (NV) Z Z (.inr Z) (Qc Z (Zp Z (Qh Z Z (kc6 C Z Z Z Z Z Z (Qs Z (λG=>?_) (λG=>?_)))))))))));rw[G];simp only[qA]at G;refine Qd λK C=>Qb Z (kc1 C Z (Qv (Qm (Qi (QQ (Qm (Qi (Qg Z ?_))))))))
 first
  |exact(Rl (i:=i) Wa (.inl M)).symm
  |exact(Rl (i:=i) Wa (.inr G)).symm
  |(rw[Rm (i:=i) Wa Y.2];simp_all)
 rw[G];simp only[qA]at G;refine Qp (Qk (ks5 Z Z Z Z Z (QJ λK C=>Q2 Z Z Wb (Qb Z (C _ (Qj (i+1) ?_ ?_ ?_))))));exact QM (l:=[1,6,7,8,900000]) (lH:=[1]) (kp5 Z Z Z Z Z) (Qa Z Qf) Z Z Z
 grind [ZW,Ja]
 omega;rw[T];simp only[qA]at T;refine Q3 (QF (Qx (QD (ks1 Z (Qd λK C=>Qe Z Z (Qr Z Z Z (QA (RZ O) Z Z (.inr Z) (Qb Z (Qq (g:=26) Z (λU=>?_) (λU=>?_))))))))));rw[U];refine Qc Z (Qe Z Z (Qc Z (Qr Z Z Z (Qc Z (QA (RZ V) Z Z (.inr Z) (Qh Z Z (Qb Z (kc1 C Z (Qv (Qg Z ?_))))))))))
 grind [Rm]
 rw[U];refine gn3 Z Z Z (Qh Z Z (Qb Z (kc1 C Z (Qv (Qg Z ?_)))))
 grind [Rm]
theorem CN (T:Sm s.1) (M:Sm s.2) {a b c:Int} {p q:List UInt8} (hp:p.length<=1048576) (V:q.length<=1048576):Ok Tryz.prog 84 [QnQ s,.agg [.int .i64 a,.int .i64 b,.int .i64 c,.str p,.str q],gD] (.bool (PV s a b c p q)):=by
 refine Ok.b9 (ds:=[QnQ s,.agg [.int .i64 a,.int .i64 b,.int .i64 c,.str p,.str q]]) (dg:=gD) tfol Tryz.func84 QD7 (QEi Z) ?_;show TW _ _ tf84.body _ _;refine Qd λK C=>Zu Z Z Z (Zu Z Z Z (Qb Z (kc3 C Z Z Z (Qw (Qd λK C=>QB (cs:=[_,_]) Z Z Z Z (QA (CO T M) Z Z (.inr Z) (Zp Z (Qb Z (Qq (g:=8) Z (λU=>?_) (λU=>?_))))))))));rw[U];simp only[qB]at U;refine gn3 Z Z Z (Qh Z Z (kc3 C Z Z Z (Zb Z (Qd λK C=>Qb Z (kc1 C Z (Qv (Qi (Qg Z ?_))))))))
 grind [PV]
 rw[U];simp only[qB]at U;refine Qc Z (QB (cs:=[_,_,_,_,_]) Z Z Z Z (Qc Z (QA (YU hp V) Z Z (.inr Z) (Qc Z (Zp Z (Qh Z Z (kc3 C Z Z Z (Qs Z (λO=>?_) (λO=>?_)))))))));rw[O];simp only[qB]at O;refine Qd λK C=>Qb Z (kc1 C Z (Qv (Qi (Qg Z ?_))))
 grind [PV]
 rw[O];simp only[qB]at O;refine Qp (ks2 Z Z (Qw (Qd λK C=>Qe Z Z (Qr Z Z Z (HB Z Z (kc3 C Z Z Z (Qs Z (λG=>?_) (λG=>?_))))))));rw[G];simp only[qB]at G;refine Qd λK C=>Qe Z Z (Qr Z Z Z (QB (cs:=[_,_,_,_,_]) Z Z Z Z (QA (CM T hp V) Z Z (.inr Z) (Qb Z (kc1 C Z (Qv (Qi (Qg Z ?_))))))))
 grind [PV]
 rw[G];simp only[qB]at G;refine Qp (ks2 Z Z (Qd λK C=>Qe Z Z (Qr Z Z Z (QB (cs:=[_,_,_,_,_]) Z Z Z Z (QA (CM M hp V) Z Z (.inr Z) (Qb Z (kc1 C Z (Qv (Qg Z ?_)))))))))
 grind [PV]
end Go.Proofs
namespace M25
open Go Go.Abs M3
def cA (c:List Int) (u:Int):Int:=(c[u.toNat]?).getD (-1)
def mtM (w:Ql) (c:List Int) (x:Zj):Bool:=!decide (Qb2 (Qi8 w x) (Qg0 w c x.u)=0)
def YO (w:Ql) (c:List Int) (row:List Zj):Bool:=row.any (mtM w c)
def Qxv (m:Int) (p:Int):Bool:=decide (0<=p)&&(decide (p<16)&&!decide (Qb2 m (2 ^ (p+1).toNat)=0))
def opN (w:Ql) (l:List Int) (u:Nat):Nat:=match w[u]? with
 |some x=>min x.cs.length ((mPl (Qzw l u) 24).tmod 5).toNat
 |none=>0
structure OrdI (m0:Int) (L:List Int) (s:List Int × Int):Prop where
 nd:s.1.Nodup
 mem:∀p,p∈s.1↔p∈L/\Qxv m0 p=true
 bit:∀p,Qxv s.2 p=true↔Qxv m0 p=true/\p∉s.1
def QBM (w:Ql) (o:XT) (x:Zj):Bool:=decide (x.u=o.u)&&!decide (Qb2 (Qi8 w x) (2*2 ^ o.m.toNat)=0)
theorem QhC (n:Nat):(2:Int)*2 ^ n=2 ^ (n+1):=Wa
structure OffOk (w:Ql) (al c:List Int) (a b:Int) (o:XT):Prop where
 u0:0<=o.u
 u1:o.u<w.length
 no:∀h:o.u.toNat<c.length,c[o.u.toNat]= -1
 p0:0<=o.m
 p1:∀h:o.u.toNat<w.length,o.m<w[o.u.toNat].cs.length
 p2:o.m<16
 al0:0<(al.length:Int)->∃h:o.u.toNat<al.length,¬Qb2 al[o.u.toNat] (2*2 ^ o.m.toNat)=0
 me:b<0->o.u=a
 yg:0<=b->∀hu:a.toNat<w.length,∀hc:a.toNat<c.length,∀hp:c[a.toNat].toNat<w[a.toNat].cs.length,∀hk:b.toNat<w[a.toNat].cs[c[a.toNat].toNat].ns.length,w[a.toNat].cs[c[a.toNat].toNat].ns[b.toNat].any (QBM w o)=true
variable {i:Nat} {α:Type}
theorem FO {l:List α} (h:i<l.length):(l.take (i+1)).length=(l.take i).length+1:=by
 grind
theorem Jb {β:Type} {l:List α} {f:α->β} (h:i<l.length):(l.take (i+1)).map f=(l.take i).map f++[f l[i]]:=by
 grind [List.take_succ_eq_append_getElem]
variable {x:Zj}
structure WIn (w:Ql):Prop where
 nr:∀u∈w,∀c∈u.cs,∀r∈c.ns,∀x∈r,0<=x.u/\x.u<w.length
 bw:∀u∈w,∀c∈u.cs,∀x∈c.bs,0<=x.u/\x.u<w.length
section
variable {w:Ql} {al c:List Int}
theorem HK (C:z6 w c) {u:Nat} (hu:u<c.length): -1<=c[u]/\c[u]<(w[u]'(by rw[<- C.len];omega)).cs.length:=C.bd u (by rw[<- C.len];omega) hu
theorem Qml (hw:WSm w) (C:z6 w c) (h0:0<=x.u) (O:x.u<w.length) (G:x.u.toNat<c.length) (hp:0<=c[x.u.toNat]):mtM w c x= !decide (Qb2 (Qi8 w x) (2*2 ^ c[x.u.toNat].toNat)=0):=by
 obtain⟨b1,b2⟩:=HK C G;have M:=hw.cs _ (QEn (Wa:x.u.toNat<w.length))
 grind [mtM,BB,QhC]
theorem Qha (hw:WSm w) (C:z6 w c) (h0:0<=x.u) (O:x.u<w.length) (G:x.u.toNat<c.length) (hp:¬0<=c[x.u.toNat]):mtM w c x=false:=by
 obtain⟨b1,b2⟩:=HK C G;have M:=hw.cs _ (QEn (Wa:x.u.toNat<w.length));rw[mtM,BB h0 O Wa Wa Wa,show(c[x.u.toNat]+1).toNat=0 by omega];have:=QkC w x
 grind
end
theorem Na {x:Int} {n:Nat} (h:x<n) (h0:0<=x):x.toNat<n:=Wa
variable {c:List Int} {u:Nat} {w:Ql}
def Qzi (n:Int) (u:Nat):Prop:=Kd .and .i64 (n.fdiv (2 ^ min ((u:Nat):Int).toNat IntKind.i64.bits)) 1=0
instance (n:Int) (u:Nat):Decidable (Qzi n u):=by unfold Qzi;infer_instance
structure PartOf (c x:List Int):Prop where
 len:x.length=c.length
 at':∀u (h:u<c.length) (h2:u<x.length),x[u]=c[u]\/x[u]= -1
def Bb (w:Ql) (c:List Int) (u:Nat):Bool:=match w[u]? with
 |some x=>if cA c u<0 then true else match x.cs[(cA c u).toNat]? with
  |some y=>y.ns.all (YO w c)&&!YO w c y.bs
  |none=>true
 |none=>true
def Jd (w:Ql) (c:List Int):Bool:=decide (0<=cA c 0)&&(List.range w.length).all (Bb w c)
theorem Ym (h:u<c.length):cA c (u:Int)=c[u]:=by grind [cA]
theorem Qfr {u:Int} (h:u.toNat<c.length):cA c u=c[u.toNat]:=by grind [cA]
theorem Bc (h:u<c.length) (C:c[u]<0):Bb w c u=true:=by
 unfold Bb;split
 (repeat clear hK K);simp_all [Ym]
 rfl
theorem Sl (hu:u<w.length) (h:u<c.length) (C:¬c[u]<0) (hp:c[u].toNat<w[u].cs.length):Bb w c u=(w[u].cs[c[u].toNat].ns.all (YO w c)&&!YO w c w[u].cs[c[u].toNat].bs):=by
 (repeat clear hK K);simp_all [Bb,Ym,if_neg]
structure Qm3 (n:Nat) (x:Zj):Prop where
 u:0<x.u/\x.u<n
 sm:Sm x.s.1/\Sm x.s.2
 may:F8 x.s=true
structure QrX (n:Nat) (c:CandT):Prop where
 sm:Qjp c.v
 may:Ff c.v.a c.v.b c.v.c c.v.p c.v.q=true
 nl:c.ns.length<=24
 bl:c.bs.length<=24
 rows:∀r∈c.ns,(0<r.length/\r.length<=24)/\∀x∈r,Qm3 n x
 bars:∀x∈c.bs,Qm3 n x
def Gx (a b:XU):Bool:=Op.bytesLess a.n b.n||(decide (a.n=b.n)&&Op.bytesLess a.f b.f)
def Qd2 (a b:Vr):Int:=Pf a.a a.b a.c a.p a.q b.a b.b b.c b.p b.q
structure jf (w:Ql):Prop where
 len:1<=w.length/\w.length<=48
 cl:∀u∈w,u.cs.length<=16
 r0:∀h:0<w.length,w[0].n=[]/\w[0].f=[]/\w[0].cs.length=1
 name:∀i (h:i<w.length),0<i->w[i].n≠[]
 ug:∀i (h:i<w.length),1<i->Gx (w[i - 1]'Wa) w[i]=true
 n8:∀u∈w,∀c∈u.cs,QrX w.length c
 qh:∀u∈w,∀k (h:k<u.cs.length),0<k->Qd2 (u.cs[k - 1]'Wa).v u.cs[k].v<0
structure Qas where
 k:Int
 u:Int
 a:Int
theorem Qg9 {w:Ql} {c:List Int} (hw:WSm w) (C:z6 w c) {x:Zj} (h0:0<=x.u) (G:x.u<w.length) (O:x.u.toNat<c.length) (hp:0<=c[x.u.toNat]) (M:c[x.u.toNat].toNat<(w[x.u.toNat]'Wa).cs.length):mtM w c x=Qgu x.s (w[x.u.toNat]'Wa).cs[c[x.u.toNat].toNat].v:=by
 have T:=hw.cs _ (QEn (Wa:x.u.toNat<w.length));rw[Qml hw C h0 G O hp,QhC];have e:=Do h0 G;have e2:=Ca x.s (w[x.u.toNat]'Wa).cs (c[x.u.toNat].toNat+1) (min (w[x.u.toNat]'Wa).cs.length 16) Wa Wa;rw[decide_eq_true Wa,Nat.add_sub_cancel,QE8 M,QE7]at e2;rw[e]
 grind [Qb3]
variable {n:Nat} {l:List Zj}
structure QlC (c:CandT):Prop where
 v:Qjp c.v
 nl:c.ns.length<=1048576
 bl:c.bs.length<=1048576
 rows:∀r∈c.ns,r.length<=1048576/\∀x∈r,Sm x.s.1/\Sm x.s.2
 bars:∀x∈c.bs,Sm x.s.1/\Sm x.s.2
structure Xc (w:Ql):Prop where
 len:w.length<=1048576
 nm:∀u∈w,u.n.length<=1048576/\u.f.length<=1048576
 cl:∀u∈w,u.cs.length<=1048576
 n8:∀u∈w,∀c∈u.cs,QlC c
def wnR (n:Nat) (x:Zj):Bool:=decide (0<x.u)&&(decide (x.u<n)&&F8 x.s)
def Qaw (n:Nat) (l:List Zj):Bool:=l.all (wnR n)&&(decide (0<l.length)&&decide (l.length<=24))
def cdN (n:Nat) (c:CandT):Bool:=(decide (c.ns.length<=24)&&decide (c.bs.length<=24))&&(c.ns.all (Qaw n)&&c.bs.all (wnR n))
def cdR (n:Nat) (c:CandT):Bool:=Ff c.v.a c.v.b c.v.c c.v.p c.v.q&&cdN n c
theorem QmN {x:Zj} (C:Sm x.s.1/\Sm x.s.2) (h:wnR n x=true):Qm3 n x:=by
 simp only[wnR,QEm,decide_eq_true_eq]at h;exact⟨⟨h.1,h.2.1⟩,C,h.2.2⟩
theorem Qsk {c:CandT} (C:QlC c) (h:cdR n c=true):QrX n c:=by
 simp only[cdR,cdN,Qaw,QEm,decide_eq_true_eq,QEs]at h;obtain⟨U,⟨T,O⟩,G,M⟩:=h;exact⟨C.v,U,T,O,λr hr=>⟨(G r hr).2,λx hx=>QmN ((C.rows r hr).2 x hx) ((G r hr).1 x hx)⟩,λx hx=>QmN (C.bars x hx) (M x hx)⟩
theorem RK {α:Type} {l:List α} {p:α->Bool} (hi:i<l.length) (h:p l[i]=false):l.all p=false:=by
 grind
theorem Qlx (hi:i<l.length) (h:wnR n l[i]=false):Qaw n l=false:=by
 grind [Qaw]
theorem Qap (hi:l.length<=i) (h:(l.take i).all (wnR n)=true):Qaw n l=(decide (0<l.length)&&decide (l.length<=24)):=by
 (repeat clear hK K);simp_all [QEy,Qaw]
structure UOk (w:Ql) (i:Nat):Prop where
 cl:∀h:i<w.length,w[i].cs.length<=16
 r0:∀h:i<w.length,i=0->w[i].n=[]/\w[i].f=[]/\w[i].cs.length=1
 name:∀h:i<w.length,0<i->w[i].n≠[]
 ug:∀h:i<w.length,1<i->Gx (w[i - 1]'Wa) w[i]=true
 n8:∀h:i<w.length,∀k (hk:k<w[i].cs.length),cdR w.length w[i].cs[k]=true/\(0<k->Qd2 (w[i].cs[k - 1]'Wa).v w[i].cs[k].v<0)
theorem QnF {cs:List CandT} {k:Nat} (hk:k<cs.length) (h:∀j (C:j<cs.length),j<k->cdR w.length cs[j]=true/\(0<j->Qd2 (cs[j - 1]'Wa).v cs[j].v<0)) (O:cdR w.length cs[k]=true) (M:0<k->Qd2 (cs[k - 1]'Wa).v cs[k].v<0):
  ∀j (C:j<cs.length),j<k+1->cdR w.length cs[j]=true/\(0<j->Qd2 (cs[j - 1]'Wa).v cs[j].v<0):=λj C G=>by
 grind
noncomputable def uokB (w:Ql) (i:Nat):Bool:=@decide (UOk w i) (Classical.propDecidable _)
theorem Qy9 (h:UOk w i):uokB w i=true:=@decide_eq_true _ (Classical.propDecidable _) h
theorem Qan (h:¬UOk w i):uokB w i=false:=@decide_eq_false _ (Classical.propDecidable _) h
theorem Qul (h:uokB w i=true):UOk w i:=@of_decide_eq_true _ (Classical.propDecidable _) h
theorem Quk (h:uokB w i=false):¬UOk w i:=@of_decide_eq_false _ (Classical.propDecidable _) h
structure v8 (w:Ql):Prop where
 len:1<=w.length/\w.length<=48
 u:∀i,i<w.length->UOk w i
noncomputable def mayB (w:Ql):Bool:=@decide (v8 w) (Classical.propDecidable _)
theorem SO (h:v8 w):mayB w=true:=@decide_eq_true _ (Classical.propDecidable _) h
theorem HV (h:¬v8 w):mayB w=false:=@decide_eq_false _ (Classical.propDecidable _) h
theorem Qg4 (h:mayB w=true):v8 w:=@of_decide_eq_true _ (Classical.propDecidable _) h
theorem v8.val (hr:Xc w) (h:v8 w):jf w where
 len:=h.len
 cl:=λu hu=>by obtain⟨i,hi,rfl⟩:=QFR.1 hu;exact(h.u i hi).cl hi
 r0:=λhi=>(h.u 0 hi).r0 hi rfl
 name:=λi hi=>(h.u i hi).name hi
 ug:=λi hi=>(h.u i hi).ug hi
 n8:=λu hu c C=>by
  obtain⟨i,hi,rfl⟩:=QFR.1 hu;obtain⟨k,hk,rfl⟩:=QFR.1 C;exact Qsk (hr.n8 _ hu _ C) ((h.u i hi).n8 hi k hk).1
 qh:=λu hu k hk h0=>by
  obtain⟨i,hi,rfl⟩:=QFR.1 hu;exact((h.u i hi).n8 hi k hk).2 h0
theorem jf.ud (h:jf w):WSm w where
 len:=h.len.2
 cs:=h.cl
 vs:=λu hu c C=>(h.n8 u hu c C).sm
 ns:=λu hu c C=>⟨QEB (h.n8 u hu c C).nl We,QEB (h.n8 u hu c C).bl We⟩
 nl:=λu hu c C r hr=>QEB ((h.n8 u hu c C).rows r hr).1.2 We
 nw:=λu hu c C r hr x hx=>(((h.n8 u hu c C).rows r hr).2 x hx).sm
 bw:=λu hu c C x hx=>((h.n8 u hu c C).bars x hx).sm
theorem jf.se (h:jf w):WIn w:=
 ⟨λu hu c C r hr x hx=>⟨Int.le_of_lt (((h.n8 u hu c C).rows r hr).2 x hx).u.1,(((h.n8 u hu c C).rows r hr).2 x hx).u.2⟩,λu hu c C x hx=>⟨Int.le_of_lt ((h.n8 u hu c C).bars x hx).u.1,((h.n8 u hu c C).bars x hx).u.2⟩⟩
structure uc (w:Ql) (c:List Int):Prop where
 len:c.length=w.length
 bd:∀i (h:i<w.length) (h2:i<c.length), -1<=c[i]/\c[i]<w[i].cs.length
noncomputable def Qf8 (w:Ql) (c:List Int):Bool:=@decide (uc w c) (Classical.propDecidable _)
theorem QsK (h:uc w c):Qf8 w c=true:=@decide_eq_true _ (Classical.propDecidable _) h
theorem QsJ (h:Qf8 w c=true):uc w c:=@of_decide_eq_true _ (Classical.propDecidable _) h
theorem QiL (h:∀j,j<i->UOk w j) (G:UOk w i):∀j,j<i+1->UOk w j:=λj C=>by
 grind
theorem BP {a b:XU}:Yt [J5 a.n b.n,J5 a.f b.f]<0↔Gx a b=true:=by
 grind [Yt,J5,Gx]
noncomputable def mayC (w:Ql) (c:List Int):Bool:=mayB w&&Qf8 w c
theorem GB (h:v8 w) (C:uc w c):mayC w c=true:=by grind [mayC,SO,QsK]
theorem Fh (h:mayC w c=true):v8 w/\uc w c:=by
 (repeat clear hK K);simp_all [mayC,Qg4,QsJ]
theorem uc.ch (h:uc w c):z6 w c:=⟨h.len,h.bd⟩
def R9 (l:List Bool):D:=.sl (l.map λb=>[.bool b])
end M25
namespace Go.Proofs
open Go Go.Abs M3 M25
variable {c:CandT} {l:List Zj} {n:Nat}
theorem JV {x:Zj} (O:Sm x.s.1/\Sm x.s.2):Ok Tryz.prog 188 [.agg (F5 x),.int .i64 ((n:Nat):Int)] (.bool (wnR n x)):=by
 refine Ok.n7 tfol Tryz.func188 QyH (QEi Z) ?_;show TW _ _ tf188.body _ _;refine Qd λK C=>Zu Z Z Z (Qb Z (kc2 C Z Z (Qd λK C=>Qe Z Z (Qr Z Z Z (Jh Z Z (Qb Z (Qq (g:=8) Z (λM=>?_) (λM=>?_))))))));rw[M];simp only[qB]at M;refine Qc Z (Qe Z Z (Qc Z (Qr Z Z Z (Qc Z (Qb Z (Qc Z (ZK Z Z (Qh Z Z (Qb Z (Qq (g:=14) Z (λG=>?_) (λG=>?_)))))))))));rw[G];simp only[qB]at G;refine Qc Z (Qe Z Z (Qc Z (QB (cs:=[_,_]) Z Z Z Z (Qc Z (QA (KY (s:=x.s) O.1 O.2) Z Z (.inr Z) (Qh Z Z (Qb Z (kc1 C Z (Qv (Qg Z ?_))))))))))
 grind [wnR]
 rw[G];simp only[qB]at G;refine gn3 Z Z Z (Qh Z Z (Qb Z (kc1 C Z (Qv (Qg Z ?_)))))
 grind [wnR]
 rw[M];simp only[qB]at M;refine gn4 Z Z Z Z (Qh Z Z (Qb Z (gn3 Z Z Z (Qh Z Z (Qb Z (kc1 C Z (Qv (Qg Z ?_))))))))
 grind [wnR]
theorem GT (T:l.length<=1048576) (hx:∀x∈l,Sm x.s.1/\Sm x.s.2):Ok Tryz.prog 187 [Yg l,.int .i64 ((n:Nat):Int)] (.bool (Qaw n l)):=by
 refine Ok.n7 tfol Tryz.func187 QyG (QEi Z) ?_;show TW _ _ tf187.body _ _;refine Qd λK C=>Qb Z (kc2 C Z Z (Qw (Qd λK C=>Qb Z (kc3 C Z Z Z (Qu (Q8 (ι:=Nat) (λi=>⟨[(0,Yg l),(1,.int .i64 ((n:Nat):Int)),(5,.int .i64 i)],[]⟩) (λi=>i<=l.length/\(l.take i).all (wnR n)=true) (λi=>l.length - i) 0 ?_ ?_ ?_))))));exact Zn (kp3 Z Z Z);simp;intro i U;refine Qw (Qd λK C=>mv2 Z Z (QW Z QE (ZK Z Z (kc4 C Z Z Z Z (Qs Z (λO=>?_) (λO=>?_))))));rw[O];simp only[qA]at O;refine Qp (ks3 Z Z Z (Qw (Qu (Qd λK C=>mv2 Z Z (Qt Z Z Z Wa (QH Wa) Z (QB (cs:=[_,_,_]) Z Z Z Z (Qb Z (QA (JV (hx _ (QEn (Wa:i<l.length)))) Z Z (.inr Z) (Zp Z (kc4 C Z Z Z Z (Qs Z (λG=>?_) (λG=>?_))))))))))));rw[G];simp only[qA]at G;refine Qd λK C=>Qb Z (kc1 C Z (Qv (Qm (Qi (QQ (Qm (Qi (Qg Z ?_))))))));exact(Qlx Wa G).symm;rw[G];simp only[qA]at G;refine Qp (Qk (ks3 Z Z Z (QJ λK C=>Qb Z (Q2 Z Z Wb (Qb Z (C _ (Qj (i+1) ?_ ?_ ?_)))))));exact Zn (kp3 Z Z Z)
 grind [ZW]
 omega;rw[O];simp only[qA]at O;refine Q3 (QF (Qx (QD (ks1 Z (Qd λK C=>Qb Z (QW Z QE (Jh Z Z (Qb Z (Qq (g:=22) Z (λM=>?_) (λM=>?_))))))))));rw[M];simp only[qA]at M;refine Qc Z (Qb Z (Qc Z (QW Z QE (Qc Z (Cr Z Z (Qh Z Z (Qb Z (kc1 C Z (Qv (Qg Z ?_))))))))))
 grind [Qap]
 rw[M];simp only[qA]at M;refine gn3 Z Z Z (Qh Z Z (Qb Z (kc1 C Z (Qv (Qg Z ?_)))))
 grind [Qap]
theorem FU (G:QlC c):Ok Tryz.prog 146 [.agg (Jm c),.int .i64 ((n:Nat):Int)] (.bool (cdR n c)):=by
 refine Ok.n7 tfol Tryz.func146 Qyo (QEi Z) ?_;show TW _ _ tf146.body _ _;have hnl:=G.nl;have hbl:=G.bl;refine Qd λK C=>Zu Z Z Z (Qb Z (kc2 C Z Z (Qw (Qd λK C=>Qe Z Z (QB (cs:=[_,_,_,_,_]) Z Z Z Z (QA (Z0 G.v.1 G.v.2) Z Z (.inr Z) (Zp Z (Qb Z (Qq (g:=11) Z (λh1=>?_) (λh1=>?_))))))))));rw[h1];simp only[qA]at h1;refine gn4 Z Z Z Z (Qh Z Z (Qb Z (gn4 Z Z Z Z (Qh Z Z (kc3 C Z Z Z (Zb Z (Qd λK C=>Qb Z (kc1 C Z (Qv (Qi (Qg Z ?_)))))))))))
 grind [cdR]
 rw[h1];simp only[qA]at h1;refine Qc Z (Qe Z Z (Qc Z (Qr Z Z Z (Qc Z (QW Z QE (Qc Z (Jh Z Z (Qh Z Z (Qb Z (Qq (g:=17) Z (λY=>?_) (λY=>?_)))))))))));rw[Y];simp only[qA]at Y;refine gn4 Z Z Z Z (Qh Z Z (kc3 C Z Z Z (Zb Z (Qd λK C=>Qb Z (kc1 C Z (Qv (Qi (Qg Z ?_))))))))
 grind [cdR,cdN]
 rw[Y];simp only[qA]at Y;refine Qc Z (Qe Z Z (Qc Z (Qr Z Z Z (Qc Z (QW Z QE (Qc Z (Jh Z Z (Qh Z Z (kc3 C Z Z Z (Qs Z (λV=>?_) (λV=>?_)))))))))));rw[V];simp only[qA]at V;refine Qd λK C=>Qb Z (kc1 C Z (Qv (Qi (Qg Z ?_))))
 grind [cdR,cdN]
 rw[V];simp only[qA]at V;refine Qp (ks2 Z Z (Qw (Qd λK C=>Qb Z (kc3 C Z Z Z (Qu (Q8 (ι:=Nat) (λi=>⟨[(1,.int .i64 ((n:Nat):Int)),(2,.ref 2 0 0),(5,.int .i64 i)],[(2,⟨[[.int .i64 (c).v.a,.int .i64 (c).v.b,.int .i64 (c).v.c,.str (c).v.p,.str (c).v.q,.int .i64 (c).sh,Ky (c).ns,Yg (c).bs]],8,70,true⟩)]⟩) (λi=>i<=c.ns.length/\(c.ns.take i).all (Qaw n)=true) (λi=>c.ns.length - i) 0 ?_ ?_ ?_))))));exact QM (l:=[1,2,5]) (lH:=[2]) (kp3 Z Z Z) (Qa Z Qf) Z Z Z;simp;intro i hI;refine Qw (Qd λK C=>Qb Z (Qe Z Z (Qr Z Z Z (QW Z QE (ZK Z Z (kc4 C Z Z Z Z (Qs Z (λU=>?_) (λU=>?_))))))));rw[U];simp only[qA]at U;refine Qp (ks3 Z Z Z (Qw (Qu (Qd λK C=>Qe Z Z (Qr Z Z Z (Qb Z (Qt Z Z Z Wa (QH Wa) Z (Qr Z Z Z (Qb Z (QA (GT (G.rows _ (QEn (Wa:i<c.ns.length))).1 (G.rows _ (QEn (Wa:i<c.ns.length))).2) Z Z (.inr Z) (Zp Z (kc4 C Z Z Z Z (Qs Z (λT=>?_) (λT=>?_))))))))))))));rw[T];simp only[qA]at T;refine Qd λK C=>Qb Z (kc1 C Z (Qv (Qm (Qi (QQ (Qm (Qi (Qg Z ?_))))))))
 (grind [cdR,cdN])
 rw[T];simp only[qA]at T;refine Qp (Qk (ks3 Z Z Z (QJ λK C=>Qb Z (Q2 Z Z Wb (Qb Z (C _ (Qj (i+1) ?_ ?_ ?_)))))));exact QM (l:=[1,2,5]) (lH:=[2]) (kp3 Z Z Z) (Qa Z Qf) Z Z Z
 grind [ZW]
 omega;rw[U];simp only[qA]at U;refine Q3 (QF (Qx (QD (ks2 Z Z (Qw (Qd λK C=>Qb Z (kc3 C Z Z Z (Qu (Q8 (ι:=Nat) (λk=>⟨[(1,.int .i64 ((n:Nat):Int)),(2,.ref 2 0 0),(6,.int .i64 k)],[(2,⟨[[.int .i64 (c).v.a,.int .i64 (c).v.b,.int .i64 (c).v.c,.str (c).v.p,.str (c).v.q,.int .i64 (c).sh,Ky (c).ns,Yg (c).bs]],8,70,true⟩)]⟩) (λk=>k<=c.bs.length/\(c.bs.take k).all (wnR n)=true) (λk=>c.bs.length - k) 0 ?_ ?_ ?_)))))))));exact QM (l:=[1,2,6]) (lH:=[2]) (kp3 Z Z Z) (Qa Z Qf) Z Z Z;simp;intro k hQ;refine Qw (Qd λK C=>Qb Z (Qe Z Z (Qr Z Z Z (QW Z QE (ZK Z Z (kc4 C Z Z Z Z (Qs Z (λO=>?_) (λO=>?_))))))));rw[O];simp only[qA]at O;refine Qp (ks3 Z Z Z (Qw (Qu (Qd λK C=>Qe Z Z (Qr Z Z Z (Qb Z (Qt Z Z Z Wa (QH Wa) Z (QB (cs:=[_,_,_]) Z Z Z Z (Qb Z (QA (JV (G.bars _ (QEn (Wa:k<c.bs.length)))) Z Z (.inr Z) (Zp Z (kc4 C Z Z Z Z (Qs Z (λM=>?_) (λM=>?_))))))))))))));rw[M];simp only[qA]at M;refine Qd λK C=>Qb Z (kc1 C Z (Qv (Qm (Qi (QQ (Qm (Qi (Qg Z ?_))))))))
 (grind [cdR,cdN])
 rw[M];simp only[qA]at M;refine Qp (Qk (ks3 Z Z Z (QJ λK C=>Qb Z (Q2 Z Z Wb (Qb Z (C _ (Qj (k+1) ?_ ?_ ?_)))))));exact QM (l:=[1,2,6]) (lH:=[2]) (kp3 Z Z Z) (Qa Z Qf) Z Z Z
 grind [ZW]
 omega;rw[O];simp only[qA]at O;refine Q3 (QF (Qx (QD (QK (QL) (Qd λK C=>Qb Z (kc1 C Z (Qv (Qg Z ?_))))))))
 grind [cdR,cdN]
theorem GS {a b:XU}:Ok Tryz.prog 145 [.agg (Zv a),.agg (Zv b)] (.bool (Gx a b)):=by
 refine Ok.n7 tfol Tryz.func145 Qyn (QEi Z) ?_;show TW _ _ tf145.body _ _;refine Qd λK C=>Zu Z Z Z (Zu Z Z Z (Qb Z (kc2 C Z Z (Qd λK C=>Qe Z Z (Qr Z Z Z (Qe Z Z (Qr Z Z Z (Qjl Z Z (Qb Z (Qq (g:=10) Z (λM=>?_) (λM=>?_)))))))))));rw[M];refine gn4 Z Z Z Z (gn2 Z Z (Qy Z (Qy Z (Qy Z (Qy Z (Qy Z (YN Z (Qh Z Z (Qb Z (kc1 C Z (Qv (Qg Z ?_))))))))))))
 grind [Gx]
 rw[M];refine Qc Z (Qe Z Z (Qc Z (Qr Z Z Z (Qc Z (Qe Z Z (Qc Z (Qr Z Z Z (Qc Z (HB Z Z (Qc Z (Qb Z (Qq (g:=16) Z (λG=>?_) (λG=>?_)))))))))))));rw[G];simp only[qB]at G;refine Qc Z (Qe Z Z (Qc Z (Qr Z Z Z (Qc Z (Qe Z Z (Qc Z (Qr Z Z Z (Qc Z (Qjl Z Z (Qc Z (Qh Z Z (Qh Z Z (Qb Z (kc1 C Z (Qv (Qg Z ?_))))))))))))))))
 grind [Gx]
 rw[G];simp only[qB]at G;refine gn4 Z Z Z Z (YN Z (Qc Z (Qh Z Z (Qh Z Z (Qb Z (kc1 C Z (Qv (Qg Z ?_))))))))
 grind [Gx]
theorem NW (V:l.length<=1048576) (hx:∀x∈l,Sm x.s.1/\Sm x.s.2):Ok Tryz.prog 119 [Yg l,.int .i64 ((n:Nat):Int),gD] (.bool (l.all (wnR n))):=by
 refine Ok.b9 (ds:=[Yg l,.int .i64 ((n:Nat):Int)]) (dg:=gD) tfol Tryz.func119 Qyg (QEi Z) ?_;show TW _ _ tf119.body _ _;refine Qd λK C=>Qb Z (kc3 C Z Z Z (Qw (Qd λK C=>Qb Z (QW Z QE (Qb Z (kc5 C Z Z Z Z Z (Qu (Q8 (ι:=Nat) (λi=>⟨[(1,.int .i64 ((n:Nat):Int)),(7,Yg l),(8,.int .i64 l.length),(9,.int .i64 i),(900000,gD)],[]⟩) (λi=>i<=l.length/\(l.take i).all (wnR n)=true) (λi=>l.length - i) 0 ?_ ?_ ?_))))))));exact QM (l:=[1,7,8,9,900000]) (lH:=[]) (kp5 Z Z Z Z Z) Qf Z Z Z;simp;intro i U;refine Qd λK C=>ZK Z Z (kc6 C Z Z Z Z Z Z (Qw (Qs Z (λT=>?_) (λT=>?_))));rw[T];simp only[qA]at T;refine Qp (ks5 Z Z Z Z Z (Qw (Qu (Qd λK C=>Qt Z Z Z Wa (QH Wa) Z (QB (cs:=[_,_,_]) Z Z Z Z (Zk Z (Za Z Z Z Z Z Z Z Z (kc6 C Z Z Z Z Z Z (Qd λK C=>Qe Z Z (Qr Z Z Z (ZK Z Z (Qb Z (Qq (g:=16) Z (λO=>?_) (λO=>?_))))))))))))));rw[O];simp only[qA]at O;refine gn4 Z Z Z Z (Qh Z Z (Qb Z (gn4 Z Z Z Z (Qh Z Z (kc6 C Z Z Z Z Z Z (Zb Z (Qd λK C=>Qb Z (kc1 C Z (Qv (Qm (Qi (QQ (Qm (Qi (Qg Z ?_)))))))))))))))
 first |(exact(RK (i:=i) Wa (by grind [wnR])).symm) |(rw[<- U.2,QEy Wa])
 rw[O];simp only[qA]at O;refine Qc Z (Qe Z Z (Qc Z (Qr Z Z Z (Qc Z (Qb Z (Qc Z (Gw Z Z (Qh Z Z (Qb Z (Qq (g:=22) Z (λM=>?_) (λM=>?_)))))))))));rw[M];simp only[qA]at M;refine gn4 Z Z Z Z (Qh Z Z (kc6 C Z Z Z Z Z Z (Zb Z (Qd λK C=>Qb Z (kc1 C Z (Qv (Qm (Qi (QQ (Qm (Qi (Qg Z ?_))))))))))))
 first |(exact(RK (i:=i) Wa (by grind [wnR])).symm) |(rw[<- U.2,QEy Wa])
 rw[M];simp only[qA]at M;refine Qc Z (Qe Z Z (Qc Z (QB (cs:=[_,_]) Z Z Z Z (Qc Z (QA (CO (s:=l[i].s) (hx _ (QEn (Wa:i<l.length))).1 (hx _ (QEn (Wa:i<l.length))).2) Z Z (.inr Z) (Qc Z (Zp Z (Qh Z Z (kc6 C Z Z Z Z Z Z (Qs Z (λG=>?_) (λG=>?_)))))))))));rw[G];simp only[qA]at G;refine Qd λK C=>Qb Z (kc1 C Z (Qv (Qm (Qi (QQ (Qm (Qi (Qg Z ?_))))))))
 grind [wnR]
 rw[G];simp only[qA]at G;refine Qp (Qk (ks5 Z Z Z Z Z (QJ λK C=>Q2 Z Z Wb (Qb Z (C _ (Qj (i+1) ?_ ?_ ?_))))));exact QM (l:=[1,7,8,9,900000]) (lH:=[]) (kp5 Z Z Z Z Z) Qf Z Z Z
 grind [ZW,wnR]
 omega;rw[T];simp only[qA]at T;refine Q3 (QF (Qx (QD (QK (QL) (Qd λK C=>Qb Z (kc1 C Z (Qv (Qg Z ?_))))))))
 grind
theorem HH (G:QlC c):Ok Tryz.prog 83 [.agg (Jm c),.int .i64 ((n:Nat):Int),gD] (.bool (cdN n c)):=by
 refine Ok.b9 (ds:=[.agg (Jm c),.int .i64 ((n:Nat):Int)]) (dg:=gD) tfol Tryz.func83 QD6 (QEi Z) ?_;show TW _ _ tf83.body _ _;have hnl:=G.nl;have hbl:=G.bl;refine Qd λK C=>Zu Z Z Z (Qb Z (kc3 C Z Z Z (Qw (Qd λK C=>Qe Z Z (Qr Z Z Z (QW Z QE (Jh Z Z (Qb Z (Qq (g:=11) Z (λY=>?_) (λY=>?_))))))))));rw[Y];simp only[qA]at Y;refine gn4 Z Z Z Z (Qh Z Z (kc4 C Z Z Z Z (Zb Z (Qd λK C=>Qb Z (kc1 C Z (Qv (Qi (Qg Z ?_))))))))
 grind [cdN]
 rw[Y];simp only[qA]at Y;refine Qc Z (Qe Z Z (Qc Z (Qr Z Z Z (Qc Z (QW Z QE (Qc Z (Jh Z Z (Qh Z Z (kc4 C Z Z Z Z (Qs Z (λV=>?_) (λV=>?_)))))))))));rw[V];simp only[qA]at V;refine Qd λK C=>Qb Z (kc1 C Z (Qv (Qi (Qg Z ?_))))
 grind [cdN]
 rw[V];simp only[qA]at V;refine Qp (ks3 Z Z Z (Qw (Qd λK C=>Qe Z Z (Qr Z Z Z (QW Z QE (Qb Z (kc6 C Z Z Z Z Z Z (Qu (Q8 (ι:=Nat) (λi=>⟨[(1,.int .i64 ((n:Nat):Int)),(2,.ref 2 0 0),(18,Ky c.ns),(19,.int .i64 c.ns.length),(20,.int .i64 i),(900000,gD)],[(2,⟨[[.int .i64 (c).v.a,.int .i64 (c).v.b,.int .i64 (c).v.c,.str (c).v.p,.str (c).v.q,.int .i64 (c).sh,Ky (c).ns,Yg (c).bs]],8,70,true⟩)]⟩) (λi=>i<=c.ns.length/\(c.ns.take i).all (Qaw n)=true) (λi=>c.ns.length - i) 0 ?_ ?_ ?_)))))))));exact QM (l:=[1,2,18,19,20,900000]) (lH:=[2]) (kp6 Z Z Z Z Z Z) (Qa Z Qf) Z Z Z;simp;intro i hI;refine Qd λK C=>ZK Z Z (kc7 C Z Z Z Z Z Z Z (Qw (Qs Z (λU=>?_) (λU=>?_))));rw[U];simp only[qA]at U;refine Qp (ks6 Z Z Z Z Z Z (Qw (Qu (Qd λK C=>Qt Z Z Z Wa (QH Wa) Z (Qr Z Z Z (Qb Z (kc7 C Z Z Z Z Z Z Z (Qd λK C=>Qb Z (QW Z QE (ZK Z Z (Qb Z (Qq (g:=27) Z (λT=>?_) (λT=>?_)))))))))))));rw[T];simp only[qA]at T;refine gn3 Z Z Z (Qh Z Z (Qb Z (gn4 Z Z Z Z (Qh Z Z (kc7 C Z Z Z Z Z Z Z (Zb Z (Qd λK C=>Qb Z (kc1 C Z (Qv (Qm (Qi (QQ (Qm (Qi (Qg Z ?_)))))))))))))))
 (rw[cdN,RK (p:=Qaw n) (l:=c.ns) (i:=i) Wa (by grind [Qaw])];simp)
 rw[T];simp only[qA]at T;refine Qc Z (Qb Z (Qc Z (QW Z QE (Qc Z (Jh Z Z (Qh Z Z (Qb Z (Qq (g:=32) Z (λO=>?_) (λO=>?_)))))))));rw[O];simp only[qA]at O;refine gn4 Z Z Z Z (Qh Z Z (kc7 C Z Z Z Z Z Z Z (Zb Z (Qd λK C=>Qb Z (kc1 C Z (Qv (Qm (Qi (QQ (Qm (Qi (Qg Z ?_))))))))))))
 (rw[cdN,RK (p:=Qaw n) (l:=c.ns) (i:=i) Wa (by grind [Qaw])];simp)
 rw[O];simp only[qA]at O;refine Qc Z (Qb Z (Qc Z (Qb Z (Qc Z (QA (NW (G.rows _ (QEn (Wa:i<c.ns.length))).1 (G.rows _ (QEn (Wa:i<c.ns.length))).2) Z Z (.inr Z) (Qc Z (Zp Z (Qh Z Z (kc7 C Z Z Z Z Z Z Z (Qs Z (λM=>?_) (λM=>?_)))))))))));rw[M];simp only[qA]at M;refine Qd λK C=>Qb Z (kc1 C Z (Qv (Qm (Qi (QQ (Qm (Qi (Qg Z ?_))))))))
 (rw[cdN,RK (p:=Qaw n) (l:=c.ns) (i:=i) Wa (by grind [Qaw])];simp)
 rw[M];simp only[qA]at M;refine Qp (Qk (ks6 Z Z Z Z Z Z (QJ λK C=>Q2 Z Z Wb (Qb Z (C _ (Qj (i+1) ?_ ?_ ?_))))));exact QM (l:=[1,2,18,19,20,900000]) (lH:=[2]) (kp6 Z Z Z Z Z Z) (Qa Z Qf) Z Z Z
 grind [ZW,Qaw]
 omega;rw[U];simp only[qA]at U;refine Q3 (QF (Qx (QD (ks3 Z Z Z (Qd λK C=>Qe Z Z (Qr Z Z Z (Qb Z (QA (NW G.bl G.bars) Z Z (.inr Z) (Qb Z (kc1 C Z (Qv (Qg Z ?_))))))))))))
 grind [cdN]
theorem LZ {a b:List UInt8} {a' b':List UInt8}:Ok Tryz.prog 80 [.agg [.str a,.str a'],.agg [.str b,.str b']] (.int .i64 (Yt [J5 a b,J5 a' b'])):=by
 refine Ok.n7 tfol Tryz.func80 QD3 (QEi Z) ?_;show TW _ _ tf80.body _ _;refine Qd λK C=>Zu Z Z Z (Zu Z Z Z (Qb Z (kc2 C Z Z (Qd λK C=>Qe Z Z (QG (ds0:=[8,2,1,0]) Z Z Z Z Z (Qe Z Z (QG (ds0:=[8,2,1,0]) Z Z Z Z Z (Zi (ds0:=[2,1,0]) (Xt) Z Z (.inr Z) Z Z (Qe Z Z (QG (ds0:=dn 4) Z Z Z Z Z (Qe Z Z (QG (ds0:=dn 4) Z Z Z Z Z (Zi (ds0:=[2,1,0]) (Xt) Z Z (.inr Z) Z Z (QZ Z Z (Zi (ds0:=[0]) (Pz (l:=[J5 a b,J5 a' b']) Wd) Z Z (.inr Z) Z Z (Qb Z (kc1 C Z (Qv (QR Z ?_)))))))))))))))))));rfl
theorem FV {w:Ql} (hw:Xc w) {i:Nat} (hi:i<w.length):Ok Tryz.prog 99 [Q9 w,.int .i64 ((i:Nat):Int)] (.bool (uokB w i)):=by
 refine Ok.n7 tfol Tryz.func99 QEa (QEi Z) ?_;show TW _ _ tf99.body _ _;have hwl:=hw.len;have hcl:=hw.cl _ (QEn hi);refine Qd λK C=>Zu Z Z Z (Qb Z (kc2 C Z Z (Qd λK C=>Qe Z Z (Qr Z Z Z (Qb Z (Qt Z Z Z Wa (QH Wa) Z (QB (cs:=[_,_,_]) Z Z Z Z (Zk Z (Za Z Z Z Z Z Z Z Z (kc3 C Z Z Z (Qw (Qd λK C=>Qe Z Z (Qr Z Z Z (QW Z QE (Jh Z Z (kc4 C Z Z Z Z (Qs Z (λh1=>?_) (λh1=>?_))))))))))))))))));rw[h1];simp only[qA]at h1;refine Qd λK C=>Qb Z (kc1 C Z (Qv (Qi (Qg Z ?_))));exact(Qan λh=>absurd (h.cl hi) Wa).symm;rw[h1];simp only[qA]at h1;refine Qp (ks3 Z Z Z (HD (ι:=Unit) (λ_=>⟨[(1,.int .i64 ((i:Nat):Int)),(2,.ref 2 0 0),(5,.ref 5 0 0)],[(2,⟨[[.sl ((w).map Zv)]],1,25,true⟩),(5,⟨[Zv (w[i]'hi)],3,58,true⟩)]⟩) (λ_=>(i=0->(w[i]'hi).n=[]/\(w[i]'hi).f=[]/\(w[i]'hi).cs.length=1)) ?_ ?_))
 skip
 refine Qd λK C=>Qb Z (Yp Z Z (Qb Z (Qq (g:=18) Z (λh2=>?_) (λh2=>?_))));rw[h2];simp only[qA]at h2;refine Qc Z (Qe Z Z (Qc Z (Qr Z Z Z (Qc Z (QdQ Z Z (Qc Z (Qb Z (Qq (g:=22) Z (λh3=>?_) (λh3=>?_)))))))));rw[h3];simp only[qA]at h3;refine gn3 Z Z Z (Qc Z (Qh Z Z (Qc Z (Qb Z (gn4 Z Z Z Z (Qc Z (Qh Z Z (Qh Z Z (kc4 C Z Z Z Z (Zb Z (Qd λK C=>Qb Z (kc1 C Z (Qv (YI (Qg Z ?_)))))))))))))));exact(Qan λh=>h3 (h.r0 hi Wa).1).symm;rw[h3];simp only[qA]at h3;refine Qc Z (Qe Z Z (Qc Z (Qr Z Z Z (Qc Z (QdQ Z Z (Qc Z (Qh Z Z (Qc Z (Qb Z (Qq (g:=27) Z (λY=>?_) (λY=>?_)))))))))));rw[Y];simp only[qA]at Y;refine gn4 Z Z Z Z (Qc Z (Qh Z Z (Qh Z Z (kc4 C Z Z Z Z (Zb Z (Qd λK C=>Qb Z (kc1 C Z (Qv (YI (Qg Z ?_))))))))));exact(Qan λh=>Y (h.r0 hi Wa).2.1).symm;rw[Y];simp only[qA]at Y;refine Qc Z (Qe Z Z (Qc Z (Qr Z Z Z (Qc Z (QW Z QE (Qc Z (Ys Z Z (Qc Z (Qh Z Z (Qh Z Z (kc4 C Z Z Z Z (Qs Z (λh5=>?_) (λh5=>?_)))))))))))));rw[h5];simp only[qA]at h5;refine Qd λK C=>Qb Z (kc1 C Z (Qv (YI (Qg Z ?_))));exact(Qan λh=>by have:=(h.r0 hi Wa).2.2;omega).symm
 rw[h5];simp only[qA]at h5;refine Qp (Zl () ?_ ?_);exact QM (l:=[1,2,5]) (lH:=[2,5]) (kp3 Z Z Z) (Qa Z (Qa Z Qf)) Z Z Z
 grind
 rw[h2];simp only[qA]at h2;refine gn4 Z Z Z Z (Qy Z (Qy Z (Qy Z (gn2 Z Z (Qy Z (Qy Z (Qy Z (Qy Z (YN Z (Qh Z Z (kc4 C Z Z Z Z (Zq Z (Qp (Zl () ?_ ?_))))))))))))));exact QM (l:=[1,2,5]) (lH:=[2,5]) (kp3 Z Z Z) (Qa Z (Qa Z Qf)) Z Z Z;omega;intro _ hJ;refine HD (ι:=Unit) (λ_=>⟨[(2,.ref 2 0 0),(5,.ref 5 0 0)],[(2,⟨[[.sl ((w).map Zv)]],1,25,true⟩),(5,⟨[Zv (w[i]'hi)],3,58,true⟩)]⟩) (λ_=>((0<i->(w[i]'hi).n≠[])/\(1<i->Gx (w[i - 1]'Wa) (w[i]'hi)=true))) ?_ ?_
 skip
 refine Qd λK C=>Qb Z (Jh Z Z (Qb Z (Qq (g:=36) Z (λh6=>?_) (λh6=>?_))));rw[h6];simp only[qA]at h6;refine Qc Z (Qe Z Z (Qc Z (QG (ds0:=dn 17) Z Z Z Z Z (Qc Z (HB Z Z (Qh Z Z (Qb Z (Qq (g:=41) Z (λV=>?_) (λV=>?_)))))))));rw[V];simp only[qA]at V;refine gn3 Z Z Z (Qy Z (Qy Z (Qy Z (Qy Z (Qy Z (Qy Z (Qy Z (Qy Z (Qy Z (YN Z (Qh Z Z (kc3 C Z Z Z (Zb Z (Qd λK C=>Qb Z (kc1 C Z (Qv (YI (Qg Z ?_))))))))))))))))));exact(Qan λh=>h.name hi Wa V).symm;rw[V];simp only[qA]at V;refine Qc Z (Qb Z (Qc Z (Jh Z Z (Qc Z (Qb Z (Qq (g:=44) Z (λh8=>?_) (λh8=>?_)))))));rw[h8];simp only[qA]at h8;refine Qc Z (Qe Z Z (Qc Z (QG (ds0:=[6,5,3,2,1,0]) Z Z Z Z Z (Qc Z (Qb Z (Qc Z (J7 Z Z (Qn Wa Wa) (Qc Z (Qt Z Z Z Wa (Q5 Wa Wa) Z (Qc Z (QY (ds0:=dn 4) (cs:=[_,_,_]) Z Z Z Z Z Z (Qc Z (QY (ds0:=dn 4) (cs:=[_,_,_]) Z Z Z Z Z Z (Qc Z (Zi (ds0:=[2,1,0]) (GS) Z Z (.inr Z) Z Z (Qc Z (Zp Z (Qc Z (Qh Z Z (Qh Z Z (kc3 C Z Z Z (Qs Z (λh9=>?_) (λh9=>?_)))))))))))))))))))))));rw[h9];simp only[qA]at h9;refine Qd λK C=>Qb Z (kc1 C Z (Qv (YI (Qg Z ?_))));exact(Qan λh=>by have:=h.ug hi Wa;grind).symm
 rw[h9];simp only[qA]at h9;refine Qp (Zl () ?_ ?_);exact QM (l:=[2,5]) (lH:=[2,5]) (kp2 Z Z) (Qa Z (Qa Z Qf)) Z Z Z
 grind
 rw[h8];simp only[qA]at h8;refine gn4 Z Z Z Z (gn4 Z Z Z Z (YN Z (Qc Z (Qh Z Z (Qh Z Z (kc3 C Z Z Z (Zq Z (Qp (Zl () ?_ ?_)))))))));exact QM (l:=[2,5]) (lH:=[2,5]) (kp2 Z Z) (Qa Z (Qa Z Qf)) Z Z Z
 grind
 rw[h6];simp only[qA]at h6;refine gn3 Z Z Z (Qh Z Z (Qb Z (Qc Z (Qb Z (Qc Z (Jh Z Z (Qc Z (Qb Z (Qq (g:=44) Z (λU=>?_) (λU=>?_))))))))))
 grind
 rw[U];simp only[qA]at U;refine gn4 Z Z Z Z (gn4 Z Z Z Z (YN Z (Qc Z (Qh Z Z (Qh Z Z (kc3 C Z Z Z (Zq Z (Qp (Zl () ?_ ?_)))))))));exact QM (l:=[2,5]) (lH:=[2,5]) (kp2 Z Z) (Qa Z (Qa Z Qf)) Z Z Z;omega;intro _ hJ2;refine Qw (Qd λK C=>Qb Z (kc3 C Z Z Z (Qu (Q8 (ι:=Nat) (λk=>⟨[(2,.ref 2 0 0),(5,.ref 5 0 0),(6,.int .i64 k)],[(2,⟨[[.sl ((w).map Zv)]],1,25,true⟩),(5,⟨[Zv (w[i]'hi)],3,58,true⟩)]⟩) (λk=>k<=(w[i]'hi).cs.length/\(∀j (hj:j<(w[i]'hi).cs.length),j<k->cdR w.length (w[i]'hi).cs[j]=true/\(0<j->Qd2 ((w[i]'hi).cs[j - 1]'Wa).v (w[i]'hi).cs[j].v<0))) (λk=>(w[i]'hi).cs.length - k) 0 ?_ ?_ ?_))));exact QM (l:=[2,5,6]) (lH:=[2,5]) (kp3 Z Z Z) (Qa Z (Qa Z Qf)) Z Z Z;simp;intro k hI;refine Qw (Qd λK C=>Qb Z (Qe Z Z (Qr Z Z Z (QW Z QE (ZK Z Z (kc4 C Z Z Z Z (Qs Z (λT=>?_) (λT=>?_))))))));rw[T];simp only[qA]at T;refine Qp (ks3 Z Z Z (Qw (Qu (Qd λK C=>Qe Z Z (QG (ds0:=[27,26,22,21,20,19,18,17,16,15,14,13,12,11,10,9,8,7,6,5,4,3,2,1,0]) Z Z Z Z Z (Qb Z (Qt Z Z Z Wa (QH Wa) Z (QY (ds0:=dn 23) (cs:=[_,_,_,_,_,_,_,_]) Z Z Z Z Z Z (Qe Z Z (QG (ds0:=dn 24) Z Z Z Z Z (QW Z QE (Zi (ds0:=dn 22) (FU (hw.n8 _ (QEn hi) _ (QEn (Wa:k<(w[i]'hi).cs.length)))) Z Z (.inr Z) Z Z (Zp Z (Qb Z (Qq (g:=73) Z (λO=>?_) (λO=>?_))))))))))))))));rw[O];simp only[qA]at O;refine gn3 Z Z Z (Qy Z (Qy Z (Qy Z (Qy Z (Qy Z (Qy Z (Qy Z (Qy Z (Qy Z (Qy Z (Qy Z (Qy Z (Qy Z (Qy Z (Qy Z (YN Z (Qh Z Z (kc4 C Z Z Z Z (Zb Z (Qd λK C=>Qb Z (kc1 C Z (Qv (Qm (Qi (QQ (Qm (Qi (Qg Z ?_))))))))))))))))))))))))))));exact(Qan λh=>by have:=(h.n8 hi k Wa).1;grind).symm
 rw[O];simp only[qA]at O;refine Qc Z (Qb Z (Qc Z (Jh Z Z (Qc Z (Qb Z (Qq (g:=76) Z (λM=>?_) (λM=>?_)))))));rw[M];simp only[qA]at M;refine Qc Z (Qe Z Z (Qc Z (QG (ds0:=[12,11,10,3,2,1,0]) Z Z Z Z Z (Qc Z (Qb Z (Qc Z (J7 Z Z (Qn Wa Wa) (Qc Z (Qt Z Z Z Wa (Q5 Wa Wa) Z (Qc Z (Q7 Z Z (Qc Z (QY (ds0:=dn 4) (cs:=[_,_,_,_,_]) Z Z Z Z Z Z (Qc Z (Qe Z Z (Qc Z (QG (ds0:=dn 7) Z Z Z Z Z (Qc Z (Qb Z (Qc Z (Qt Z Z Z Wa (QH Wa) Z (Qc Z (Q7 Z Z (Qc Z (QY (ds0:=dn 4) (cs:=[_,_,_,_,_]) Z Z Z Z Z Z (Qc Z (Zi (ds0:=[2,1,0]) (Y2 (hw.n8 _ (QEn hi) _ (QEn Wa)).v.1 (hw.n8 _ (QEn hi) _ (QEn Wa)).v.2 (hw.n8 _ (QEn hi) _ (QEn Wa)).v.1 (hw.n8 _ (QEn hi) _ (QEn Wa)).v.2) Z Z (.inr Z) Z Z (Qc Z (Gw Z Z (Qc Z (Qh Z Z (Qh Z Z (kc4 C Z Z Z Z (Qs Z (λG=>?_) (λG=>?_)))))))))))))))))))))))))))))))))));rw[G];simp only[qA]at G;refine Qd λK C=>Qb Z (kc1 C Z (Qv (Qm (Qi (QQ (Qm (Qi (Qg Z ?_))))))));exact(Qan λh=>by have:=(h.n8 hi k Wa).2 Wa;simp only[show((k:Int) - 1).toNat=k - 1 by omega]at G;grind [Qd2]).symm
 rw[G];simp only[qA]at G;refine Qp (Qk (ks3 Z Z Z (QJ λK C=>Qb Z (Q2 Z Z (Qn Wa Wa) (Qb Z (C _ (Qj (k+1) ?_ ?_ ?_)))))));exact QM (l:=[2,5,6]) (lH:=[2,5]) (kp3 Z Z Z) (Qa Z (Qa Z Qf)) Z Z Z;exact⟨Wa,QnF Wa hI.2 Wa (by(simp_all [Qd2]))⟩;omega;rw[M];simp only[qA]at M;refine gn4 Z Z Z Z (gn4 Z Z Z Z (gn4 Z Z Z Z (gn3 Z Z Z (Qc Z (Qh Z Z (Qh Z Z (kc4 C Z Z Z Z (Zq Z (Qp (Qk (ks3 Z Z Z (QJ λK C=>Qb Z (Q2 Z Z (Qn Wa Wa) (Qb Z (C _ (Qj (k+1) ?_ ?_ ?_))))))))))))))));exact QM (l:=[2,5,6]) (lH:=[2,5]) (kp3 Z Z Z) (Qa Z (Qa Z Qf)) Z Z Z
 grind
 omega;rw[T];simp only[qA]at T;refine Q3 (QF (Qx (QD (QK (QL) (Qd λK C=>Qb Z (kc1 C Z (Qv (Qg Z ?_))))))));exact(Qy9 ⟨λ_=>Wa,λ_=>hJ,λ_=>hJ2.1,λ_=>hJ2.2,λ_ j hj=>hI.2 j hj Wa⟩).symm
theorem YS {w:Ql} (hw:Xc w):Ok Tryz.prog 69 [Q9 w] (.bool (mayB w)):=by
 refine Ok.n7 tfol Tryz.func69 QDU (QEi Z) ?_;show TW _ _ tf69.body _ _;have U:=hw.len;refine Qd λK C=>Zu Z Z Z (Qb Z (kc1 C Z (Qw (Qd λK C=>Qe Z Z (Qr Z Z Z (QW Z QE (ZK Z Z (Qb Z (Qq (g:=8) Z (λT=>?_) (λT=>?_))))))))));rw[T];simp only[qA]at T;refine gn4 Z Z Z Z (Qh Z Z (kc2 C Z Z (Zb Z (Qd λK C=>Qb Z (kc1 C Z (Qv (Qi (Qg Z ?_))))))));exact(HV λh=>by have:=h.len;omega).symm
 rw[T];simp only[qA]at T;refine Qc Z (Qe Z Z (Qc Z (Qr Z Z Z (Qc Z (QW Z QE (Qc Z (Jh Z Z (Qh Z Z (kc2 C Z Z (Qs Z (λO=>?_) (λO=>?_)))))))))));rw[O];simp only[qA]at O;refine Qd λK C=>Qb Z (kc1 C Z (Qv (Qi (Qg Z ?_))));exact(HV λh=>by have:=h.len;omega).symm
 rw[O];simp only[qA]at O;refine Qp (ks1 Z (Qw (Qd λK C=>Qb Z (kc2 C Z Z (Qu (Q8 (ι:=Nat) (λi=>⟨[(1,.ref 1 0 0),(3,.int .i64 i)],[(1,⟨[[.sl ((w).map Zv)]],1,25,true⟩)]⟩) (λi=>i<=w.length/\∀j,j<i->UOk w j) (λi=>w.length - i) 0 ?_ ?_ ?_))))));exact QM (l:=[1,3]) (lH:=[1]) (kp2 Z Z) (Qa Z Qf) Z Z Z;simp;intro i V;refine Qw (Qd λK C=>Qb Z (Qe Z Z (Qr Z Z Z (QW Z QE (ZK Z Z (kc3 C Z Z Z (Qs Z (λM=>?_) (λM=>?_))))))));rw[M];simp only[qA]at M;refine Qp (ks2 Z Z (Qw (Qu (Qd λK C=>QB (cs:=[_]) Z Z Z Z (Qb Z (QA (FV hw (i:=i) Wa) Z Z (.inr Z) (Zp Z (kc3 C Z Z Z (Qs Z (λG=>?_) (λG=>?_))))))))));rw[G];simp only[qA]at G;refine Qd λK C=>Qb Z (kc1 C Z (Qv (Qm (Qi (QQ (Qm (Qi (Qg Z ?_))))))));exact(HV λh=>Quk Wa (h.u i Wa)).symm;rw[G];simp only[qA]at G;refine Qp (Qk (ks2 Z Z (QJ λK C=>Qb Z (Q2 Z Z Wb (Qb Z (C _ (Qj (i+1) ?_ ?_ ?_)))))));exact QM (l:=[1,3]) (lH:=[1]) (kp2 Z Z) (Qa Z Qf) Z Z Z
 grind [Qul]
 omega;rw[M];simp only[qA]at M;refine Q3 (QF (Qx (QD (QK (QL) (Qd λK C=>Qb Z (kc1 C Z (Qv (Qg Z ?_))))))));exact(SO ⟨Wa,λj Y=>V.2 j Wa⟩).symm
theorem Jk {w:Ql} (hw:Xc w):Ok Tryz.prog 51 [Q9 w,gD] (.bool (mayB w)):=by
 refine Ok.b9 (ds:=[Q9 w]) (dg:=gD) tfol Tryz.func51 QDM (QEi Z) ?_;show TW _ _ tf51.body _ _;have hwl:=hw.len;refine Qd λK C=>Zu Z Z Z (Qb Z (kc2 C Z Z (Qd λK C=>Qe Z Z (Qr Z Z Z (QW Z QE (Qb Z (kc3 C Z Z Z (Qw (Qd λK C=>Qb Z (ZK Z Z (Qb Z (Qq (g:=13) Z (λh1=>?_) (λh1=>?_)))))))))))));rw[h1];simp only[qA]at h1;refine gn2 Z Z (Qh Z Z (Qb Z (gn4 Z Z Z Z (gn2 Z Z (Qh Z Z (Qb Z (gn4 Z Z Z Z (gn2 Z Z (Qh Z Z (Qb Z (gn4 Z Z Z Z (gn3 Z Z Z (Qh Z Z (kc4 C Z Z Z Z (Zb Z (Qd λK C=>Qb Z (kc1 C Z (Qv (Qi (Qg Z ?_))))))))))))))))))));exact(HV λh=>by have:=h.len;omega).symm
 rw[h1];simp only[qA]at h1;refine Qc Z (Qb Z (Qc Z (Jh Z Z (Qh Z Z (Qb Z (Qq (g:=17) Z (λh2=>?_) (λh2=>?_)))))));rw[h2];simp only[qA]at h2;refine gn4 Z Z Z Z (gn2 Z Z (Qh Z Z (Qb Z (gn4 Z Z Z Z (gn2 Z Z (Qh Z Z (Qb Z (gn4 Z Z Z Z (gn3 Z Z Z (Qh Z Z (kc4 C Z Z Z Z (Zb Z (Qd λK C=>Qb Z (kc1 C Z (Qv (Qi (Qg Z ?_)))))))))))))))));exact(HV λh=>by have:=h.len;omega).symm
 rw[h2];simp only[qA]at h2;refine Qc Z (Qe Z Z (Qc Z (Qr Z Z Z (Qc Z (Qt Z Z Z Wa (Q5 Wa Wa) Z (Qc Z (Q7 Z Z (Qc Z (Qr Z Z Z (Qc Z (QdQ Z Z (Qh Z Z (Qb Z (Qq (g:=25) Z (λh3=>?_) (λh3=>?_)))))))))))))));rw[h3];simp only[qA]at h3;refine gn4 Z Z Z Z (gn2 Z Z (Qh Z Z (Qb Z (gn4 Z Z Z Z (gn3 Z Z Z (Qh Z Z (kc4 C Z Z Z Z (Zb Z (Qd λK C=>Qb Z (kc1 C Z (Qv (Qi (Qg Z ?_)))))))))))));exact(HV λh=>by have:=(h.u 0 Wa).r0 Wa rfl;grind).symm
 rw[h3];simp only[qA]at h3;refine Qc Z (Qe Z Z (Qc Z (Qr Z Z Z (Qc Z (Qt Z Z Z Wa (Q5 Wa Wa) Z (Qc Z (Q7 Z Z (Qc Z (Qr Z Z Z (Qc Z (QdQ Z Z (Qh Z Z (Qb Z (Qq (g:=33) Z (λh4=>?_) (λh4=>?_)))))))))))))));rw[h4];simp only[qA]at h4;refine gn4 Z Z Z Z (gn3 Z Z Z (Qh Z Z (kc4 C Z Z Z Z (Zb Z (Qd λK C=>Qb Z (kc1 C Z (Qv (Qi (Qg Z ?_)))))))));exact(HV λh=>by have:=(h.u 0 Wa).r0 Wa rfl;grind).symm
 rw[h4];simp only[qA]at h4;refine Qc Z (Qe Z Z (Qc Z (Qr Z Z Z (Qc Z (Qt Z Z Z Wa (Q5 Wa Wa) Z (Qc Z (Q7 Z Z (Qc Z (Qr Z Z Z (Qc Z (QW Z QE (Qc Z (Ys Z Z (Qh Z Z (kc4 C Z Z Z Z (Qs Z (λh5=>?_) (λh5=>?_)))))))))))))))));rw[h5];simp only[qA]at h5;refine Qd λK C=>Qb Z (kc1 C Z (Qv (Qi (Qg Z ?_))));exact(HV λh=>by have:=(h.u 0 Wa).r0 Wa rfl;grind).symm
 rw[h5];simp only[qA]at h5;refine Qp (ks3 Z Z Z (Qw (Qd λK C=>Qe Z Z (Qr Z Z Z (QW Z QE (Qb Z (kc6 C Z Z Z Z Z Z (Qu (Q8 (ι:=Nat) (λi=>⟨[(1,.ref 1 0 0),(3,.int .i64 w.length),(43,.sl (w.map Zv)),(44,.int .i64 w.length),(45,.int .i64 i),(900000,gD)],[(1,⟨[[.sl ((w).map Zv)]],1,25,true⟩)]⟩) (λi=>i<=w.length/\∀j,j<i->UOk w j) (λi=>w.length - i) 0 ?_ ?_ ?_)))))))));exact QM (l:=[1,3,43,44,45,900000]) (lH:=[1]) (kp6 Z Z Z Z Z Z) (Qa Z Qf) Z Z Z;simp;intro i hI;refine Qd λK C=>ZK Z Z (kc7 C Z Z Z Z Z Z Z (Qw (Qs Z (λh6=>?_) (λh6=>?_))));rw[h6];simp only[qA]at h6;refine Qp (ks6 Z Z Z Z Z Z (Qw (Qu (Qd λK C=>Qb Z (Qt Z Z Z Wa (QH Wa) Z (QB (cs:=[_,_,_]) Z Z Z Z (Zk Z (Qb Z (Za Z Z Z Z Z Z Z Z (kc8 C Z Z Z Z Z Z Z Z (HD (ι:=Unit) (λ_=>⟨[(1,.ref 1 0 0),(3,.int .i64 w.length),(5,.ref 5 0 0),(43,.sl (w.map Zv)),(44,.int .i64 w.length),(45,.int .i64 i),(900000,gD)],[(1,⟨[[.sl ((w).map Zv)]],1,25,true⟩),(5,⟨[Zv (w[i]'Wa)],3,58,true⟩)]⟩) (λ_=>((0<i->(w[i]'Wa).n≠[])/\(1<i->Gx (w[i - 1]'Wa) (w[i]'Wa)=true))/\(w[i]'Wa).cs.length<=16) ?_ ?_)))))))))))
 skip
 refine Qd λK C=>Qb Z (Jh Z Z (Qb Z (Qq (g:=52) Z (λh7=>?_) (λh7=>?_))));rw[h7];simp only[qA]at h7;refine Qc Z (Qe Z Z (Qc Z (QG (ds0:=dn 36) Z Z Z Z Z (Qc Z (HB Z Z (Qh Z Z (Qb Z (Qq (g:=57) Z (λh8=>?_) (λh8=>?_)))))))));rw[h8];simp only[qA]at h8;refine gn3 Z Z Z (Qy Z (Qy Z (Qy Z (Qy Z (Qy Z (Qy Z (Qy Z (Qy Z (Qy Z (Qy Z (Qy Z (Qy Z (Qy Z (Qy Z (Qy Z (Qy Z (Qy Z (Qy Z (Qy Z (Qy Z (Qy Z (Qy Z (YN Z (Qh Z Z (Qb Z (gn4 Z Z Z Z (Qh Z Z (kc8 C Z Z Z Z Z Z Z Z (Zb Z (Qd λK C=>Qb Z (kc1 C Z (Qv (YI (Qm (Qi (QQ (Qm (Qi (Qg Z ?_)))))))))))))))))))))))))))))))))))))));exact(HV λh=>(h.u i Wa).name Wa Wa Wa).symm;rw[h8];simp only[qA]at h8;refine Qc Z (Qb Z (Qc Z (Jh Z Z (Qc Z (Qb Z (Qq (g:=60) Z (λh9=>?_) (λh9=>?_)))))));rw[h9];simp only[qA]at h9;refine Qc Z (Qe Z Z (Qc Z (QG (ds0:=[25,24,23,15,9,8,7,6,5,4,3,2,1,0]) Z Z Z Z Z (Qc Z (Qb Z (Qc Z (J7 Z Z (Qn Wa Wa) (Qc Z (Qt Z Z Z Wa (Q5 Wa Wa) Z (Qc Z (Q7 Z Z (Qc Z (QG (ds0:=[15,9,8,7,6,5,4,3,2,1,0]) Z Z Z Z Z (Qc Z (Qe Z Z (Qc Z (QG (ds0:=[18,17,16,15,9,8,7,6,5,4,3,2,1,0]) Z Z Z Z Z (Qc Z (Qb Z (Qc Z (J7 Z Z (Qn Wa Wa) (Qc Z (Qt Z Z Z Wa (Q5 Wa Wa) Z (Qc Z (Q7 Z Z (Qc Z (QG (ds0:=[15,9,8,7,6,5,4,3,2,1,0]) Z Z Z Z Z (Qc Z (Zz Z Z (Qc Z (Qe Z Z (Qc Z (QG (ds0:=dn 11) Z Z Z Z Z (Qc Z (Qe Z Z (Qc Z (QG (ds0:=dn 11) Z Z Z Z Z (Qc Z (Zz Z Z (Qc Z (Zi (ds0:=dn 9) (LZ) Z Z (.inr Z) Z Z (Qc Z (Gw Z Z (Qc Z (Qh Z Z (Qh Z Z (Qb Z (Qq (g:=85) Z (λh10=>?_) (λh10=>?_)))))))))))))))))))))))))))))))))))))))))))))))));rw[h10];simp only[qA]at h10;refine gn4 Z Z Z Z (Qh Z Z (kc8 C Z Z Z Z Z Z Z Z (Zb Z (Qd λK C=>Qb Z (kc1 C Z (Qv (YI (Qm (Qi (QQ (Qm (Qi (Qg Z ?_)))))))))))));exact(HV λh=>by have:=BP.2 ((h.u i Wa).ug Wa Wa);grind).symm
 rw[h10];simp only[qA]at h10;refine Qc Z (Qe Z Z (Qc Z (QG (ds0:=[2,1,0]) Z Z Z Z Z (Qc Z (QW Z QE (Qc Z (Jh Z Z (Qh Z Z (kc8 C Z Z Z Z Z Z Z Z (Qs Z (λh11=>?_) (λh11=>?_)))))))))));rw[h11];simp only[qA]at h11;refine Qd λK C=>Qb Z (kc1 C Z (Qv (YI (Qm (Qi (QQ (Qm (Qi (Qg Z ?_)))))))));exact(HV λh=>by have:=(h.u i Wa).cl Wa;omega).symm
 rw[h11];simp only[qA]at h11;refine Qp (Zl () ?_ ?_);exact QM (l:=[1,3,5,43,44,45,900000]) (lH:=[1,5]) (kp7 Z Z Z Z Z Z Z) (Qa Z (Qa Z Qf)) Z Z Z
 grind [BP]
 rw[h9];simp only[qA]at h9;refine gn4 Z Z Z Z (gn4 Z Z Z Z (gn4 Z Z Z Z (gn4 Z Z Z Z (gn4 Z Z Z Z (gn2 Z Z (Qc Z (Qh Z Z (Qh Z Z (Qb Z (Qc Z (Qe Z Z (Qc Z (QG (ds0:=[2,1,0]) Z Z Z Z Z (Qc Z (QW Z QE (Qc Z (Jh Z Z (Qh Z Z (kc8 C Z Z Z Z Z Z Z Z (Qs Z (λY=>?_) (λY=>?_)))))))))))))))))))));rw[Y];simp only[qA]at Y;refine Qd λK C=>Qb Z (kc1 C Z (Qv (YI (Qm (Qi (QQ (Qm (Qi (Qg Z ?_)))))))));exact(HV λh=>by have:=(h.u i Wa).cl Wa;omega).symm
 rw[Y];simp only[qA]at Y;refine Qp (Zl () ?_ ?_);exact QM (l:=[1,3,5,43,44,45,900000]) (lH:=[1,5]) (kp7 Z Z Z Z Z Z Z) (Qa Z (Qa Z Qf)) Z Z Z
 grind
 rw[h7];simp only[qA]at h7;refine gn3 Z Z Z (Qh Z Z (Qb Z (Qc Z (Qb Z (Qc Z (Jh Z Z (Qc Z (Qb Z (Qq (g:=60) Z (λh13=>?_) (λh13=>?_))))))))))
 grind
 rw[h13];simp only[qA]at h13;refine gn4 Z Z Z Z (gn4 Z Z Z Z (gn4 Z Z Z Z (gn4 Z Z Z Z (gn4 Z Z Z Z (gn2 Z Z (Qc Z (Qh Z Z (Qh Z Z (Qb Z (Qc Z (Qe Z Z (Qc Z (QG (ds0:=[2,1,0]) Z Z Z Z Z (Qc Z (QW Z QE (Qc Z (Jh Z Z (Qh Z Z (kc8 C Z Z Z Z Z Z Z Z (Qs Z (λh16=>?_) (λh16=>?_)))))))))))))))))))))
 (repeat clear C K);simp_all
 rw[h16];simp only[qA]at h16;refine Qp (Zl () ?_ ?_);exact QM (l:=[1,3,5,43,44,45,900000]) (lH:=[1,5]) (kp7 Z Z Z Z Z Z Z) (Qa Z (Qa Z Qf)) Z Z Z;omega;intro _ hJ;refine Qd λK C=>Qe Z Z (Qr Z Z Z (QW Z QE (Qb Z (kc C (GI Z Z Z Z Z Z Z Z Z Z) (Qu (Q8 (ι:=Nat) (λk=>⟨[(1,.ref 1 0 0),(3,.int .i64 w.length),(5,.ref 5 0 0),(43,.sl (w.map Zv)),(44,.int .i64 w.length),(45,.int .i64 i),(92,G0 (w[i]'Wa).cs),(93,.int .i64 (w[i]'Wa).cs.length),(94,.int .i64 k),(900000,gD)],[(1,⟨[[.sl ((w).map Zv)]],1,25,true⟩),(5,⟨[Zv (w[i]'Wa)],3,58,true⟩)]⟩) (λk=>k<=(w[i]'Wa).cs.length/\(∀j (hj:j<(w[i]'Wa).cs.length),j<k->cdR w.length (w[i]'Wa).cs[j]=true/\(0<j->Qd2 ((w[i]'Wa).cs[j - 1]'Wa).v (w[i]'Wa).cs[j].v<0))) (λk=>(w[i]'Wa).cs.length - k) 0 ?_ ?_ ?_))))));exact QM (l:=[1,3,5,43,44,45,92,93,94,900000]) (lH:=[1,5]) (GI Z Z Z Z Z Z Z Z Z Z) (Qa Z (Qa Z Qf)) Z Z Z;simp;intro k hQ;refine Qd λK C=>ZK Z Z (kc C (HA Z Z Z Z Z Z Z Z Z Z Z) (Qw (Qs Z (λV=>?_) (λV=>?_))));rw[V];simp only[qA]at V;refine Qp (QK (GI Z Z Z Z Z Z Z Z Z Z) (Qw (Qu (Qd λK C=>Qb Z (Qt Z Z Z Wa (QH Wa) Z (QB (cs:=[_,_,_,_,_,_,_,_]) Z Z Z Z (Zk Z (Qb Z (Za Z Z Z Z Z Z Z Z (kc C (FD Z Z Z Z Z Z Z Z Z Z Z Z) (Qd λK C=>Qe Z Z (QY (ds0:=dn 25) (cs:=[_,_,_,_,_]) Z Z Z Z Z Z (Zi (ds0:=dn 24) (YU (hw.n8 _ (QEn (Wa:i<w.length)) _ (QEn (Wa:k<(w[i]'Wa).cs.length))).v.1 (hw.n8 _ (QEn (Wa:i<w.length)) _ (QEn (Wa:k<(w[i]'Wa).cs.length))).v.2) Z Z (.inr Z) Z Z (Zp Z (Qb Z (Qq (g:=103) Z (λU=>?_) (λU=>?_)))))))))))))))));rw[U];simp only[qA]at U;refine gn3 Z Z Z (Qy Z (Qy Z (Qy Z (Qy Z (Qy Z (Qy Z (Qy Z (Qy Z (Qy Z (Qy Z (Qy Z (YN Z (Qh Z Z (Qb Z (gn4 Z Z Z Z (Qh Z Z (kc C (HA Z Z Z Z Z Z Z Z Z Z Z) (Zb Z (Qd λK C=>Qb Z (kc1 C Z (Qv (Qm (Qi (QQ (Qm (Qm (Qi (QQ (Qm (Qi (Qg Z ?_)))))))))))))))))))))))))))))));exact(HV λh=>by have:=((h.u i Wa).n8 Wa k Wa).1;rw[cdR,QEm]at this;grind).symm
 rw[U];simp only[qA]at U;refine Qc Z (Qb Z (Qc Z (Jh Z Z (Qc Z (Qb Z (Qq (g:=106) Z (λT=>?_) (λT=>?_)))))));rw[T];simp only[qA]at T;refine Qc Z (Qe Z Z (Qc Z (QG (ds0:=[14,13,12,9,8,7,6,5,4,3,2,1,0]) Z Z Z Z Z (Qc Z (Qb Z (Qc Z (J7 Z Z (Qn Wa Wa) (Qc Z (Qt Z Z Z Wa (Q5 Wa Wa) Z (Qc Z (Q7 Z Z (Qc Z (QY (ds0:=dn 10) (cs:=[_,_,_,_,_]) Z Z Z Z Z Z (Qc Z (Qe Z Z (Qc Z (QY (ds0:=dn 10) (cs:=[_,_,_,_,_]) Z Z Z Z Z Z (Qc Z (Zi (ds0:=dn 9) (Ji (hw.n8 _ (QEn (Wa:i<w.length)) _ (QEn Wa)).v.1 (hw.n8 _ (QEn (Wa:i<w.length)) _ (QEn Wa)).v.2 (hw.n8 _ (QEn (Wa:i<w.length)) _ (QEn Wa)).v.1 (hw.n8 _ (QEn (Wa:i<w.length)) _ (QEn Wa)).v.2) Z Z (.inr Z) Z Z (Qc Z (Gw Z Z (Qc Z (Qh Z Z (Qh Z Z (Qb Z (Qq (g:=120) Z (λO=>?_) (λO=>?_)))))))))))))))))))))))))));rw[O];simp only[qA]at O;refine gn4 Z Z Z Z (Qh Z Z (kc C (HA Z Z Z Z Z Z Z Z Z Z Z) (Zb Z (Qd λK C=>Qb Z (kc1 C Z (Qv (Qm (Qi (QQ (Qm (Qm (Qi (QQ (Qm (Qi (Qg Z ?_))))))))))))))));exact(HV λh=>by have:=((h.u i Wa).n8 Wa k Wa).2 Wa;simp only[show((k:Int) - 1).toNat=k - 1 by omega]at*;grind [Qd2]).symm
 rw[O];simp only[qA]at O;refine Qc Z (QY (ds0:=[2,1,0]) (cs:=[_,_,_,_,_,_,_,_]) Z Z Z Z Z Z (Qc Z (Qb Z (Qc Z (Zi (ds0:=[1,0]) (HH (hw.n8 _ (QEn (Wa:i<w.length)) _ (QEn (Wa:k<(w[i]'Wa).cs.length)))) Z Z (.inr Z) Z Z (Qc Z (Zp Z (Qh Z Z (kc C (HA Z Z Z Z Z Z Z Z Z Z Z) (Qs Z (λM=>?_) (λM=>?_)))))))))));rw[M];simp only[qA]at M;refine Qd λK C=>Qb Z (kc1 C Z (Qv (Qm (Qi (QQ (Qm (Qm (Qi (QQ (Qm (Qi (Qg Z ?_))))))))))));exact(HV λh=>by have:=((h.u i Wa).n8 Wa k Wa).1;rw[cdR,QEm]at this;grind).symm
 rw[M];simp only[qA]at M;refine Qp (Qk (QK (GI Z Z Z Z Z Z Z Z Z Z) (QJ λK C=>Q2 Z Z (Qn Wa Wa) (Qb Z (C _ (Qj (k+1) ?_ ?_ ?_))))));exact QM (l:=[1,3,5,43,44,45,92,93,94,900000]) (lH:=[1,5]) (GI Z Z Z Z Z Z Z Z Z Z) (Qa Z (Qa Z Qf)) Z Z Z;exact⟨Wa,QnF Wa hQ.2 (by rw[cdR,QEm];grind) (by(simp_all [Qd2]))⟩
 omega;rw[T];simp only[qA]at T;refine gn4 Z Z Z Z (gn4 Z Z Z Z (gn3 Z Z Z (Qc Z (Qh Z Z (Qh Z Z (Qb Z (Qc Z (QY (ds0:=[2,1,0]) (cs:=[_,_,_,_,_,_,_,_]) Z Z Z Z Z Z (Qc Z (Qb Z (Qc Z (Zi (ds0:=[1,0]) (HH (hw.n8 _ (QEn (Wa:i<w.length)) _ (QEn (Wa:k<(w[i]'Wa).cs.length)))) Z Z (.inr Z) Z Z (Qc Z (Zp Z (Qh Z Z (kc C (HA Z Z Z Z Z Z Z Z Z Z Z) (Qs Z (λG=>?_) (λG=>?_))))))))))))))))));rw[G];simp only[qA]at G;refine Qd λK C=>Qb Z (kc1 C Z (Qv (Qm (Qi (QQ (Qm (Qm (Qi (QQ (Qm (Qi (Qg Z ?_))))))))))));exact(HV λh=>by have:=((h.u i Wa).n8 Wa k Wa).1;rw[cdR,QEm]at this;grind).symm
 rw[G];simp only[qA]at G;refine Qp (Qk (QK (GI Z Z Z Z Z Z Z Z Z Z) (QJ λK C=>Q2 Z Z (Qn Wa Wa) (Qb Z (C _ (Qj (k+1) ?_ ?_ ?_))))));exact QM (l:=[1,3,5,43,44,45,92,93,94,900000]) (lH:=[1,5]) (GI Z Z Z Z Z Z Z Z Z Z) (Qa Z (Qa Z Qf)) Z Z Z;exact⟨Wa,QnF Wa hQ.2 (by rw[cdR,QEm];grind) Wa⟩
 omega;rw[V];simp only[qA]at V;refine Q3 (QF (Qx (QD (Qk (ks6 Z Z Z Z Z Z (QJ λK C=>Q2 Z Z (Qn Wa Wa) (Qb Z (C _ (Qj (i+1) ?_ ?_ ?_)))))))));exact QM (l:=[1,3,43,44,45,900000]) (lH:=[1]) (kp6 Z Z Z Z Z Z) (Qa Z Qf) Z Z Z;exact⟨Wa,QiL hI.2 ⟨λ_=>hJ.2,λ_ e=>⟨by grind,by grind,by grind⟩,λ_=>hJ.1.1,λ_=>hJ.1.2,λ_ j hj=>hQ.2 j hj Wa⟩⟩;omega;rw[h6];simp only[qA]at h6;refine Q3 (QF (Qx (QD (QK (QL) (Qd λK C=>Qb Z (kc1 C Z (Qv (Qg Z ?_))))))));exact(SO ⟨Wa,λj hj=>hI.2 j Wa⟩).symm
end Go.Proofs
namespace M25
open Go Go.Abs M3
variable {c:List Int} {i j:Nat} {o:List Bool} {w:Ql}
def XE (w:Ql) (c:List Int) (i:Nat):List (List Zj):=match w[i]? with
 |some u=>match u.cs[(cA c i).toNat]? with
  |some y=>y.ns
  |none=>[]
 |none=>[]
inductive Ndd (w:Ql) (c:List Int):Nat->Prop
 |root:0<=cA c 0->Ndd w c 0
 |step {i:Nat} {r:List Zj} {x:Zj}:Ndd w c i->r∈XE w c i->x∈r->mtM w c x=true->Ndd w c x.u.toNat
noncomputable def nddB (w:Ql) (c:List Int) (i:Nat):Bool:=@decide (Ndd w c i) (Classical.propDecidable _)
theorem Dy (h:Ndd w c i):nddB w c i=true:=@decide_eq_true _ (Classical.propDecidable _) h
theorem Qtk (h:¬Ndd w c i):nddB w c i=false:=@decide_eq_false _ (Classical.propDecidable _) h
noncomputable def nddL (w:Ql) (c:List Int):List Bool:=(List.range c.length).map (nddB w c)
noncomputable def tidyM (w:Ql) (c:List Int):List Int:=(List.range c.length).map λi=>if nddB w c i=true then cA c i else -1
noncomputable def tidyR (w:Ql) (c:List Int):List Int:=if mayC w c=true then tidyM w c else[]
def onB (o:List Bool) (i:Nat):Bool:=o.getD i false
def kd (w:Ql) (c:List Int) (o:List Bool) (i:Nat):Prop:=∀r∈XE w c i,∀x∈r,mtM w c x=true->onB o x.u.toNat=true
structure bb (w:Ql) (c:List Int) (o:List Bool):Prop where
 len:o.length=c.length
 snd:∀i,onB o i=true->Ndd w c i
 root:0<=cA c 0->onB o 0=true
theorem BO (h:onB o i=true):i<o.length:=by
 unfold onB at h
 grind
theorem Nj (h:i<o.length):onB o i=o[i]:=by
 unfold onB;grind
theorem bb.done (h:bb w c o) (C:∀i,onB o i=true->kd w c o i):o=nddL w c:=by
 have key:∀i,Ndd w c i->onB o i=true:=λi hi=>by
  induction hi with
  |root h0=>exact h.root h0
  |step _ hr hx hm ih=>exact C _ ih _ hr _ hx hm
 apply QFS;simp[nddL,h.len];intro i G M;simp only[nddL,QFT,List.getElem_range];rw[<- Nj G];cases e:onB o i with
 |true=>exact(Dy (h.snd i e)).symm
 |false=>grind [Qtk]
theorem Yd (hi:i<o.length):onB (o.set i true) j=(decide (i=j)||onB o j):=by
 unfold onB
 grind
theorem bb.put (h:bb w c o) (hi:i<o.length) (G:Ndd w c i):bb w c (o.set i true) where
 len:=by rw[QFU,h.len]
 snd:=λj C=>by
  rw[Yd hi,QFu,decide_eq_true_eq]at C;rcases C with rfl |C
  omega;exact h.snd j C
 root:=λh0=>by rw[Yd hi,h.root h0,QFA]
theorem kd.mono {k:Nat} (hk:k<o.length) (h:kd w c o i):kd w c (o.set k true) i:=λr hr x hx hm=>by
 rw[Yd hk,h r hr x hx hm,QFA]
def Lj (o:List Bool):Nat:=o.countP λb=>!b
theorem Pk:∀{o:List Bool} {i:Nat} (h:i<o.length),o[i]=false->Lj (o.set i true)+1=Lj o
 |b::o,0,h,hb=>by
  grind [Lj]
 |b::o,i+1,h,hb=>by
  simp only[List.getElem_cons_succ]at hb
  grind [Lj]
theorem Fp (hi:i<w.length) (C:i<c.length) (hp:c[i].toNat<w[i].cs.length):XE w c i=w[i].cs[c[i].toNat].ns:=by
 grind [XE,Ym]
theorem Dx (hw:WSm w) (hr:WIn w) (C:z6 w c) (h0:0<c.length) (h:Ndd w c i):∃hi:i<c.length,0<=c[i]:=by
 induction h with
 |root h=>grind [cA]
 | @step i r x _ hr1 hx hm ih=>
  obtain⟨hi,hp⟩:=ih;have G:i<w.length:=by rw[<- C.len];omega
  have hb:=HK C hi;have M:=Na hb.2 hp;rw[Fp G hi M]at hr1;have hu:=hr.nr _ (QEn G) _ (QEn M) r hr1 x hx;have O:x.u.toNat<c.length:=by rw[C.len];omega
  grind [Qha]
structure gb (w:Ql) (c:List Int) (o:List Bool) (q:List Int) (ex:Nat->Prop):Prop where
 nd:bb w c o
 wg:∀v∈q,(0<=v/\v<c.length)/\onB o v.toNat=true
 cl:∀i,onB o i=true->(i:Int)∈q\/ex i\/kd w c o i
 bd:2*Lj o+q.length<=2*o.length
abbrev QS:=List Bool × List Int × Int × Bool
structure QI (w:Ql) (c:List Int) (s:QS):Prop where
 on:s.2.2.2=true->gb w c s.1 s.2.1 (·=s.2.2.1.toNat)/\(0<=s.2.2.1/\s.2.2.1<c.length)/\onB s.1 s.2.2.1.toNat=true
 off:s.2.2.2=false->gb w c s.1 [] (λ_=>False)
def mb (w:Ql) (c:List Int) (o:List Bool) (ns:List (List Zj)) (k:Nat):Prop:=∀k' (h:k'<ns.length),k'<k->∀x∈ns[k'],mtM w c x=true->onB o x.u.toNat=true
def a9 (w:Ql) (c:List Int) (o:List Bool) (r:List Zj) (j:Nat):Prop:=∀j' (h:j'<r.length),j'<j->mtM w c r[j']=true->onB o r[j'].u.toNat=true
structure fe (w:Ql) (c:List Int) (u m:Nat) (ns:List (List Zj)) (k:Nat) (o:List Bool) (q:List Int):Prop where
 inv:gb w c o q (·=u)
 on:onB o u=true
 mu:2*Lj o+q.length<=m
 rows:mb w c o ns k
theorem a9.next {r:List Zj} (h:a9 w c o r j) (O:j<r.length) (T:mtM w c r[j]=true->onB o r[j].u.toNat=true):a9 w c o r (j+1):=λC M G hm=>by
 by_cases e:C=j
 grind
 exact h C M Wa hm
theorem NB (n i:Nat):onB (List.replicate n false) i=false:=by
 unfold onB
 grind
structure SI (w:Ql) (c:List Int) (o0:List Bool) (i:Nat) (o:List Bool):Prop where
 nd:bb w c o
 mono:∀j,onB o0 j=true->onB o j=true
 lh:o=o0\/Lj o+1<=Lj o0
 prev:∀j,j<i->onB o0 j=true->kd w c o j
structure SR (w:Ql) (c:List Int) (o0:List Bool) (i:Nat) (ns:List (List Zj)) (a:Nat) (o:List Bool):Prop where
 si:SI w c o0 i o
 on:onB o i=true
 rows:mb w c o ns a
def QmU (w:Ql) (c:List Int) (o:List Bool):Prop:=∀i,onB o i=true->kd w c o i
structure SK (w:Ql) (c:List Int) (k:Nat) (o:List Bool):Prop where
 nd:bb w c o
 cl:QmU w c o\/k+1+Lj o<=o.length
theorem Jc (w:Ql) (c:List Int):(tidyM w c).length=c.length:=by simp[tidyM]
theorem SQ {i:Nat} (hi:i<(nddL w c).length):(nddL w c)[i]=nddB w c i:=by simp[nddL]
theorem Fr (h:mayC w c=true):tidyR w c=tidyM w c:=if_pos h
end M25
namespace Go.Proofs
open Go Go.Abs M3 M25
def rI (v:Int):List D:=[.int .i64 v]
theorem QhI (l:List Int):∀r∈l.map rI,r.length=1:=λr hr=>by obtain⟨v,_,rfl⟩:=QEw.1 hr;rfl
def rB (b:Bool):List D:=[.bool b]
theorem QhP {α:Type} {x:α} {n k:Int} (h0:0<=k) (h:k<n):(List.replicate n.toNat x)[k.toNat]?=some x:=by
 grind
theorem QdB {o:List Bool} {k:Nat}:(o.map rB).set k [.bool true]=(o.set k true).map rB:=QFQ.symm
theorem Qdj {n:Nat}:List.replicate (n:Int).toNat [D.bool false]=(List.replicate n false).map rB:=by
 rw[QFV];rfl
end Go.Proofs
namespace M25
open Go Go.Abs M3
variable {i:Nat} {k most n:Int} {w:Ql}
def szM (most:Int):List XU->Int->Int
 |[],n=>n
 |u::r,n=>if most.tdiv ((u.cs.length:Int)+1)<n then most else szM most r (n*((u.cs.length:Int)+1))
theorem QmG (h:i<w.length):szM most (w.drop i) n=if most.tdiv ((w[i].cs.length:Int)+1)<n then most else szM most (w.drop (i+1)) (n*((w[i].cs.length:Int)+1)):=by
 rw[QEz h,szM]
theorem QqU (hk:1<=k) (G:1<=n) (h:¬most.tdiv k<n) (hm:1<=most):1<=n*k/\n*k<=most:=by
 have C:n<=most.tdiv k:=Wa;rw[Int.tdiv_eq_ediv_of_nonneg Wa]at C;have T:n*k<=most / k*k:=Int.mul_le_mul_of_nonneg_right C Wa;have O:most / k*k<=most:=Int.ediv_mul_le most Wa;have M:1*1<=n*k:=Int.mul_le_mul G hk Wa Wa;omega
theorem QdL (O:1<=most) (M:most<=9223372036854775807) (hk:1<=k):IntKind.i64.wrap (most.tdiv k)=most.tdiv k:=by
 have G:0<=most.tdiv k:=Int.tdiv_nonneg Wa Wa
 have C:most.tdiv k<=most:=by
  rw[Int.tdiv_eq_ediv_of_nonneg Wa];exact Int.ediv_le_self k Wa
 grind [Qn]
theorem QeI (h:i<w.length) (hm:1<=most) (G:1<=n/\n<=most) (he:szM most w 1=szM most (w.drop i) n) (C:¬most.tdiv ((w[i].cs.length:Int)+1)<n):
  (1<=n*((w[i].cs.length:Int)+1)/\n*((w[i].cs.length:Int)+1)<=most)/\szM most w 1=szM most (w.drop (i+1)) (n*((w[i].cs.length:Int)+1)):=by
 refine⟨QqU Wa G.1 C hm, ?_⟩
 (repeat clear hK K);simp_all [QmG]
theorem QmH (h:i<w.length) (he:szM most w 1=szM most (w.drop i) n) (C:most.tdiv ((w[i].cs.length:Int)+1)<n):szM most w 1=most:=by
 (repeat clear hK K);simp_all [QmG]
theorem Qij (h:w.length<=i) (he:szM most w 1=szM most (w.drop i) n):szM most w 1=n:=by
 grind [List.drop_of_length_le,szM]
noncomputable def szT (w:Ql) (most:Int):Int:=if mayB w=true/\1<=most then szM most w 1 else 0
theorem Qah (h:mayB w=true) (C:1<=most):szT w most=szM most w 1:=if_pos ⟨h,C⟩
theorem Qlb (h:mayB w=false\/most<1):szT w most=0:=if_neg (λq=>by
 grind)
section
variable {w:Ql} {al c:List Int} {order:List (List Int)} {a b:Int}
end
section
variable {w:Ql} {al c:List Int} {order:List (List Int)}
end
section
variable {w:Ql} {al c:List Int}
theorem KA (hw:WSm w) (C:z6 w c) (h0:0<w.length):Jd w c=true↔(0<=c[0]'(by rw[C.len];omega)/\∀u (hu:u<w.length) (O:u<c.length),0<=c[u]->∀hp:c[u].toNat<w[u].cs.length,(w[u].cs[c[u].toNat].ns.all (YO w c)&&!YO w c w[u].cs[c[u].toNat].bs)=true):=by
 have M:0<c.length:=by rw[C.len];omega
 have e0:cA c 0=c[0]:=Ym (u:=0) M;rw[Jd,QEm,decide_eq_true_eq,e0,QEs];refine and_congr_right λ_=>⟨λh u hu O G hp=>?_,λh u hu=>?_⟩;have:=h u (QEE.2 hu)
 grind [Sl]
 have hu:=QEE.1 hu;have O:u<c.length:=by rw[C.len];omega
 by_cases G:c[u]<0
 grind [Bc]
 have hp:=Na (C.bd u hu O).2 Wa
 grind [Sl]
end
variable {r:List Zj} {x:Zj}
def hsL (w:Ql) (x:Zj):List Bool:=match w[x.u.toNat]? with
 |some y=>y.cs.map λk=>Qgu x.s k.v
 |none=>[]
def mtP (w:Ql) (c:List Int) (x:Zj):Bool:=decide (0<=cA c x.u)&&(hsL w x).getD (cA c x.u).toNat false
def mtL (w:Ql) (c:List Int) (l:Nat) (x:Zj):Bool:=decide (x.u<=(l:Int))&&mtP w c x
def Cs (u:Int) (r:List Zj):Int:=r.foldl (λa x=>max a x.u) u
def Qev (w:Ql) (c:List Int) (l u:Nat) (r:List Zj):Bool:=decide ((l:Int)<Cs u r)||r.any (mtL w c l)
def QeF (w:Ql) (c:List Int) (l u:Nat):Bool:=match w[u]? with
 |some y=>(match y.cs[(cA c u).toNat]? with
  |some k=>k.ns.all (Qev w c l u)&&!(k.bs.any (mtL w c l))
  |none=>false)
 |none=>false
def F7 (w:Ql) (c:List Int) (l u:Nat):Bool:=decide (cA c u<0)||QeF w c l u
def XC (w:Ql) (c:List Int) (l:Nat):Bool:=(List.range (l+1)).all (F7 w c l)
def isW (w:Ql) (c:List Int) (l:Nat) (x:Zj):Bool:=decide (x.u=(l:Int))&&(hsL w x).getD (cA c l).toNat false
def Pv (w:Ql) (c:List Int) (l u k:Nat):Bool:=(decide (l<u)||decide (cA c u=(k:Int)))&&match w[u]? with
 |some y=>(match y.cs[k]? with
  |some z=>z.ns.any λr=>r.any (isW w c l)
  |none=>false)
 |none=>false
def Ck (w:Ql) (c:List Int) (l u:Nat):Bool:=match w[u]? with
 |some y=>(List.range y.cs.length).any (Pv w c l u)
 |none=>false
def Pw (w:Ql) (c:List Int) (l:Nat):Bool:=(List.range w.length).any (Ck w c l)
def Y7 (w:Ql) (c:List Int) (l:Nat):Bool:=!(decide (l=0)&&decide (cA c 0<0))&&(XC w c l&&(decide (l=0)||(decide (cA c l<0)||Pw w c l)))
def Zw (hi:Bool) (n:Nat) (j:Nat):Int:=if hi=true then(n:Int) - 1 - j else(j:Int) - 1
noncomputable def listW (w:Ql) (hi:Bool):List Nat->List Int->List (List Int)
 |[],q=>if tidyM w q=q then[q]else[]
 |n::us,q=>(List.range (n+1)).flatMap λj=>if Y7 w (q++[Zw hi n j]) q.length=true then listW w hi us (q++[Zw hi n j])else[]
structure PZ (σ:Type) where
 st:σ->List Int->σ × Bool
 ok:σ->Nat->Prop
 step:∀{s c k},ok s (k+1)->ok (st s c).1 k
 mono:∀{s j k},ok s k->j<=k->ok s j
def YY {σ:Type} (p:PZ σ):σ->List (List Int)->σ × Bool
 |s,[]=>(s,true)
 |s,c::l=>if(p.st s c).2=true then YY p (p.st s c).1 l else((p.st s c).1,false)
theorem MD {σ:Type} (p:PZ σ):∀(s:σ) (a b:List (List Int)),YY p s (a++b)=if(YY p s a).2=true then YY p (YY p s a).1 b else YY p s a
 |s,[],b=>rfl
 |s,c::a,b=>by
  simp only[QFi,YY];split;exact MD p _ a b;rfl
theorem Qdu {σ:Type} (p:PZ σ) (s:σ) (c:List Int):YY p s [c]=p.st s c:=by
 grind [YY]
section
variable {w:Ql} {c c':List Int} {l:Nat}
def AgL (c c':List Int) (l:Nat):Prop:=∀u:Nat,u<=l->cA c (u:Int)=cA c' (u:Int)
theorem Qb6 (c:List Int) (u:Int):cA c u=cA c ((u.toNat:Nat):Int):=by rfl
theorem Qg8 (h:AgL c c' l) (hx:x.u<=l):mtP w c x=mtP w c' x:=by
 have e:cA c x.u=cA c' x.u:=by rw[Qb6 c,Qb6 c'];exact h _ Wa
 grind [mtP]
theorem BI (h:AgL c c' l):mtL w c l=mtL w c' l:=by
 funext x
 unfold mtL
 grind [Qg8]
theorem Qew (h:AgL c c' l):Qev w c l=Qev w c' l:=by
 grind [Qev,BI]
theorem Bq (h:AgL c c' l):XC w c l=XC w c' l:=by
 unfold XC;rw[QFN,QEs,QEs]
 have e:∀u∈List.range (l+1),F7 w c l u=F7 w c' l u:=λu hu=>by
  rw[QEE]at hu;unfold F7 QeF;rw[h u Wa,Qew h,BI h]
 grind
theorem QgG (h:AgL c c' l):isW w c l=isW w c' l:=by
 funext x;unfold isW;rw[h l (QEI _)]
theorem QbN (h:AgL c c' l):Pv w c l=Pv w c' l:=by
 funext u k
 unfold Pv;rw[QgG h]
 by_cases hu:l<u
 grind
 rw[h u Wa]
theorem QbO (h:AgL c c' l):Pw w c l=Pw w c' l:=by
 unfold Pw Ck;rw[QbN h]
theorem S2 (h:AgL c c' l):Y7 w c l=Y7 w c' l:=by
 unfold Y7;rw[show cA c 0=cA c' 0 from h 0 Wa,Bq h,h l (QEI _),QbO h]
theorem Qne {q r:List Int} {i:Int}:AgL (q++i::r) (q++[i]) q.length:=λu hu=>by
 unfold cA
 grind
theorem QsF:∀{a:Int},a<=Cs a r/\∀x∈r,x.u<=Cs a r:=by
 induction r with
 |nil=>intro a;exact⟨Int.le_refl _,λx hx=>by grind⟩
 |cons y r ih=>
  intro a;simp only[Cs,QER];obtain⟨G,C⟩:=ih (a:=max a y.u);simp only[Cs]at G C
  grind
theorem QsG:∀{a b:Int},a<=b->(∀x∈r,x.u<=b)->Cs a r<=b:=by
 induction r with
 |nil=>intro a b h _;exact h
 |cons y r C=>
  intro a b h G;simp only[Cs,QER];exact C Wc λx hx=>G x Wc
theorem Fi (hw:WSm w) (C:z6 w c) (hx:0<=x.u/\x.u<w.length):mtM w c x=mtP w c x:=by
 have M:=C.len;have G:x.u.toNat<c.length:=Wa;have hb:=HK C G;rw[mtP,Qfr G]
 by_cases hp:0<=c[x.u.toNat]
 (repeat clear hK K);simp_all [Qg9,hsL]
 grind [Qha]
theorem Qea (hw:WSm w) (hr:WIn w) (C:z6 w c) (h0:0<w.length) (T:Jd w c=true) (hl:l<w.length):XC w c l=true:=by
 rw[KA hw C h0]at T;obtain⟨_,T⟩:=T;have hcl:=C.len;rw[XC,QEs];intro u hu;rw[QEE]at hu;have G:u<w.length:=Wa;have huc:u<c.length:=Wa;rw[F7,Ym huc,QFu,decide_eq_true_eq]
 by_cases hn:c[u]<0
 omega;right;have hp:=Na (HK C huc).2 Wa;have Y:=T u G huc Wa hp;rw[QeF,QE8 G];simp only[Ym huc,QE8 hp];rw[QEm,QFv,QEs]at Y ⊢;refine⟨λr O=>?_, ?_⟩;have V:=Y.1 r O;rw[YO,QFy]at V;obtain⟨x,hx,hm⟩:=V;have M:=hr.nr _ (QEn G) _ (QEn hp) r O x hx;rw[Qev,QFu,decide_eq_true_eq]
 by_cases hfar:(l:Int)<Cs u r
 omega;right;have:=(QsF (r:=r) (a:=(u:Int))).2 x hx;rw[QFy];exact⟨x,hx,by rw[mtL,decide_eq_true Wa,QE7,<- Fi hw C M];omega⟩
 rw[QFW];intro U;rw[QFy]at U;obtain⟨x,hx,hm⟩:=U;have M:=hr.bw _ (QEn G) _ (QEn hp) x hx;rw[mtL,QEm,<- Fi hw C M]at hm
 grind [YO]
theorem Qei (hw:WSm w) (hr:WIn w) (C:z6 w c) (h0:0<w.length) (hl:l+1=w.length) (V:XC w c l=true) (hc0:0<=cA c 0):Jd w c=true:=by
 have hcl:=C.len;rw[KA hw C h0];refine⟨by grind [Ym],λu O huc hn hp=>?_⟩;rw[XC,QEs]at V;have G:=V u (QEE.2 Wa);rw[F7,Ym huc,QFu,decide_eq_true_eq]at G;rcases G with G |G
 omega;rw[QeF,QE8 O]at G;simp only[Ym huc,QE8 hp]at G;rw[QEm,QFv,QEs]at G ⊢;refine⟨λr U=>?_, ?_⟩;have T:=G.1 r U;have M:=hr.nr _ (QEn O) _ (QEn hp) r U;rw[Qev,QFu,decide_eq_true_eq]at T;rcases T with T |T
 have:=QsG (r:=r) (a:=(u:Int)) (b:=(l:Int)) Wa (λx hx=>by grind);omega;rw[QFy]at T;obtain⟨x,hx,hm⟩:=T;rw[mtL,QEm,<- Fi hw C (M x hx)]at hm
 grind [YO]
 rw[QFW];intro Y;rw[YO,QFy]at Y;obtain⟨x,hx,hm⟩:=Y;have M:=hr.bw _ (QEn O) _ (QEn hp) x hx
 have:w[u].cs[c[u].toNat].bs.any (mtL w c l)=true:=by
  rw[QFy];exact⟨x,hx,by rw[mtL,decide_eq_true Wa,QE7,<- Fi hw C M];omega⟩
 grind
theorem QiA (hw:WSm w) (hr:WIn w) (G:z6 w c) (hl0:0<l) (hl:l<w.length) (hc:0<=cA c l) (Y:tidyM w c=c):Pw w c l=true:=by
 have hcl:=G.len;have O:l<c.length:=Wa
 have h1:nddB w c l=true:=by
  have:(tidyM w c)[l]?=c[l]?:=by rw[Y]
  rw[tidyM,QE4,QE5 O,QE8 O]at this;simp only[QE6,QEl]at this;cases hb:nddB w c l with
  |true=>rfl
  |false=>
   rw[if_neg Wc]at this
   grind [Ym]
 have U:Ndd w c l:=QFL λU=>by grind [Qtk]
 generalize he:l=m at U;cases U with
 |root=>omega
 | @step i r x hi hrr hx hm=>
  obtain⟨M,V⟩:=Dx hw hr G Wa hi;have hp:=Na (HK G M).2 V;have C:i<w.length:=Wa;rw[Fp C M hp]at hrr;have T:=hr.nr _ (QEn C) _ (QEn hp) r hrr x hx;rw[Pw,QFy];refine⟨i,QEE.2 C, ?_⟩;rw[Ck,QE8 C];simp only;rw[QFy];refine⟨c[i].toNat,QEE.2 hp, ?_⟩;rw[Pv,QE8 C];simp only[QE8 hp];rw[QEm,QFu,decide_eq_true_eq,decide_eq_true_eq,Ym M,QFy];refine⟨.inr Wa,r,hrr, ?_⟩;rw[QFy];refine⟨x,hx, ?_⟩;rw[Fi hw G T,mtP,QEm]at hm;have e:x.u=((x.u.toNat:Nat):Int):=Wa;rw[isW,decide_eq_true e,QE7,<- Qb6]
  grind
end
end M25
namespace M25
open Go Go.Abs M3
variable {i:Int} {q r:List Int} {w:Ql} {α β:Type}
def Z9:List Nat->List (List Int)
 |[]=>[[]]
 |n::us=>(List.range (n+1)).flatMap λj=>(Z9 us).map λr=>Zw false n j::r
def YF (w:Ql):List Nat:=w.map λu=>u.cs.length
noncomputable def goodM (w:Ql) (c:List Int):Bool:=Jd w c&&@decide (tidyM w c=c) (Classical.propDecidable _)
theorem KZ {c:List Int}:goodM w c=true↔Jd w c=true/\tidyM w c=c:=by
 rw[goodM,QEm];simp
theorem QaO {n j:Nat} (h:j<n+1): -1<=Zw false n j/\Zw false n j<n:=by
 unfold Zw;omega
theorem C3:∀{us:List Nat} {r:List Int},r∈Z9 us->r.length=us.length/\∀i (h:i<r.length) (O:i<us.length), -1<=r[i]/\r[i]<us[i]
 |[],r,h=>by simp[Z9]at h;simp_all
 |n::us,r,h=>by
  simp only[Z9,QEp,QEw,QEE]at h;obtain⟨j,G,T,C,rfl⟩:=h;obtain⟨U,O⟩:=C3 C;refine⟨by grind,λi hi M=>?_⟩;cases i with
  |zero=>exact QaO G
  |succ i=>grind
structure va (w:Ql) (q:List Int):Prop where
 len:q.length<=w.length
 bd:∀u (h:u<q.length) (h2:u<w.length), -1<=q[u]/\q[u]<w[u].cs.length
 inv:q≠[]->XC w q (q.length - 1)=true/\0<=cA q 0
theorem va.nil (w:Ql):va w []:=⟨QEu _,λu h=>by grind,λh=>absurd rfl h⟩
theorem Qsb {u:Nat} (h:u<q.length):cA (q++r) (u:Int)=cA q (u:Int):=by
 unfold cA;grind
theorem va.push (h:va w q) (M:q.length<w.length) (hi: -1<=i/\i<w[q.length].cs.length) (hp:Y7 w (q++[i]) q.length=true):va w (q++[i]) where
 len:=by grind
 bd:=λu O G=>by
  rw[List.getElem_append];split;rename_i e;exact h.bd u e G
  grind
 inv:=λ_=>by
  simp only[Y7,QEm,QFv,QEv,decide_eq_false_iff_not]at hp;refine⟨by grind, ?_⟩
  by_cases e:q=[]
  grind
  have C:0<q.length:=by
   grind
  rw[show cA (q++[i]) 0=cA q 0 from Qsb (u:=0) C];exact(h.inv e).2
theorem Qhf {i:Nat} (h:i<w.length):(YF w).drop i=w[i].cs.length::(YF w).drop (i+1):=by
 grind [List.drop_eq_getElem_cons,YF]
theorem C8 (C:va w q) (hr:r∈Z9 ((YF w).drop q.length)):z6 w (q++r):=by
 obtain⟨M,U⟩:=C3 hr;have O:=C.len;have G:((YF w).drop q.length).length=w.length - q.length:=by simp[YF]
 rw[G]at M;refine⟨by grind,λu hu T=>?_⟩;rw[List.getElem_append];split;rename_i e;exact C.bd u e hu
 grind [YF]
theorem Qf5 {l:List α} {p:α->Bool} (h:∀x∈l,p x=false):l.filter p=[]:=by
 (repeat clear hK K);simp_all
theorem Sk {l:List α} {f:α->List β} {p:β->Bool}:(l.flatMap f).filter p=l.flatMap λx=>(f x).filter p:=by
 induction l with
 |nil=>rfl
 |cons x l ih=>grind
theorem Ng {l:List α} {f g:α->List β} (h:∀x∈l,f x=g x):l.flatMap f=l.flatMap g:=by
 induction l with
 |nil=>rfl
 |cons x l ih=>grind
theorem BC {γ:Type} {l:List α} {f:α->List β} {g:β->γ}:(l.flatMap f).map g=l.flatMap λx=>(f x).map g:=by
 induction l with
 |nil=>rfl
 |cons x l ih=>grind
section
variable {w:Ql} (hw:WSm w) (hr:WIn w) (h0:0<w.length)
include hw hr h0
theorem Qnl (C:z6 w (q++i::r)) (hp:Y7 w (q++[i]) q.length=false):goodM w (q++i::r)=false:=by
 rw[QFW];intro G;rw[KZ]at G;obtain⟨O,V⟩:=G;have T:=C.len;have M:q.length<w.length:=by grind
 have U:0<=cA (q++i::r) 0:=by
  have Y:=O
  (repeat clear hK K);simp_all [Jd]
 have:Y7 w (q++i::r) q.length=true:=by
  simp only[Y7,QEm,QFv,QEv,decide_eq_false_iff_not,QFu,decide_eq_true_eq]
  grind [Qea,QiA]
 grind [S2,Qne]
theorem Bt:∀(us:List Nat) (q:List Int),us=(YF w).drop q.length->va w q->listW w false us q=((Z9 us).map (q++·)).filter (goodM w)
 |[],q,C,G=>by
  have hl:q.length=w.length:=by
   have:=congrArg List.length C;simp[YF]at this;have:=G.len;omega
  have V:z6 w q:=by
   have:=C8 G (r:=[]) (by grind [Z9])
   grind
  have O:q≠[]:=by grind
  obtain⟨h1,h2⟩:=G.inv O
  grind [Qei,listW,Z9,KZ]
 |n::us,q,C,G=>by
  have M:q.length<w.length:=by
   have:=congrArg List.length C
   grind [YF]
  have e1:=Qhf M;rw[e1,QFE]at C;obtain⟨rfl,C⟩:=C;simp only[listW,Z9];rw[BC,Sk];refine Ng λj T=>?_;rw[QEE]at T;have hb:=QaO T;rw[QFH]
  have e2:((q++·)∘λr=>Zw false w[q.length].cs.length j::r)=((q++[Zw false w[q.length].cs.length j])++·):=by
   grind
  rw[e2];split;rename_i hp;exact Bt us _ Wc (G.push M hb hp);rename_i hp;rw[Qf5];intro c Y;obtain⟨r,U,rfl⟩:=QEw.1 Y;have e3:(q++[Zw false w[q.length].cs.length j])++r=q++Zw false w[q.length].cs.length j::r:=by simp
  simp only[e3];refine Qnl hw hr h0 ?_ Wc;refine C8 G ?_;rw[e1];simp only[Z9,QEp,QEw,QEE]
  grind
end
end M25
namespace Go.Proofs
open Go Go.Abs M3 M25
theorem Xw {w:Ql} (hw:Xc w) {most:Int} (hm:most<=9223372036854775807):Ok Tryz.prog 33 [Q9 w,.int .i64 most] (.int .i64 (szT w most)):=by
 refine Ok.n7 tfol Tryz.func33 QDC (QEi Z) ?_;show TW _ _ tf33.body _ _;have V:=hw.len;refine Qd λK C=>Zu Z Z Z (Qb Z (kc2 C Z Z (Qw (Qd λK C=>QB (cs:=[_]) Z Z Z Z (QA (YS hw) Z Z (.inr Z) (Zp Z (Qb Z (Qq (g:=11) Z (λU=>?_) (λU=>?_)))))))));rw[U];simp only[qA]at U;refine gn2 Z Z (Qh Z Z (kc3 C Z Z Z (Zb Z (Qd λK C=>Qb Z (kc1 C Z (Qv (Qi (QR Z ?_))))))))
 grind [Qlb]
 rw[U];simp only[qA]at U;refine Qc Z (Qb Z (Qc Z (ZK Z Z (Qh Z Z (kc3 C Z Z Z (Qs Z (λT=>?_) (λT=>?_)))))));rw[T];simp only[qA]at T;refine Qd λK C=>Qb Z (kc1 C Z (Qv (Qi (QR Z ?_))))
 grind [Qlb]
 rw[T];simp only[qA]at T;refine Qp (ks2 Z Z (Qd λK C=>Qb Z (kc3 C Z Z Z (Qw (Qd λK C=>Qb Z (kc4 C Z Z Z Z (Qu (Q8 (ι:=Nat × Int) (λk=>⟨[(1,.int .i64 most),(2,.ref 2 0 0),(5,.int .i64 k.2),(6,.int .i64 k.1)],[(2,⟨[[.sl ((w).map Zv)]],1,25,true⟩)]⟩) (λk=>k.1<=w.length/\(1<=k.2/\k.2<=most)/\szM most w 1=szM most (w.drop k.1) k.2) (λk=>w.length - k.1) (0,1) ?_ ?_ ?_))))))));exact QM (l:=[1,2,5,6]) (lH:=[2]) (kp4 Z Z Z Z) (Qa Z Qf) Z Z Z
 grind
 intro k G;have Y:=λ(h:k.1<w.length)=>hw.cl _ (QEn h);refine Qw (Qd λK C=>Qb Z (Qe Z Z (Qr Z Z Z (QW Z QE (ZK Z Z (kc5 C Z Z Z Z Z (Qs Z (λO=>?_) (λO=>?_))))))));rw[O];simp only[qA]at O;refine Qp (ks4 Z Z Z Z (Qw (Qu (Qd λK C=>Qe Z Z (Qr Z Z Z (Qb Z (Qt Z Z Z Wa (QH Wa) Z (Q7 Z Z (Qr Z Z Z (QW Z QE (Q2 Z Z ((Qn Wa Wc).trans (Int.add_comm _ _)) (Qb Z (kc5 C Z Z Z Z Z (Qw (Qd λK C=>mv2 Z Z (Qb Z (QrT Z Z Wa (QdL Wa hm Wa) (Jh Z Z (kc6 C Z Z Z Z Z Z (Qs Z (λM=>?_) (λM=>?_)))))))))))))))))))));rw[M];simp only[qA]at M;refine Qd λK C=>mv2 Z Z (kc1 C Z (Qv (Qi (Qm (Qi (QQ (Qm (Qi (QR Z ?_)))))))))
 grind [Qah,QmH]
 rw[M];simp only[qA]at M;refine Qp (ks5 Z Z Z Z Z (QJ λK C=>mv2 Z Z (Qe3 Z Z (Qn (by have:=(QeI Wa Wa G.2.1 G.2.2 Wa).1;omega) (by have:=(QeI Wa Wa G.2.1 G.2.2 Wa).1;omega)) (Qb Z (C _ ?_)))))
 refine Qk (ks4 Z Z Z Z (QJ λK C=>Qb Z (Q2 Z Z (Qn Wa Wa) (Qb Z (C _ (Qj (k.1+1,k.2*(((w[k.1]'Wa).cs.length:Int)+1)) ?_ ?_ ?_))))));exact QM (l:=[1,2,5,6]) (lH:=[2]) (kp4 Z Z Z Z) (Qa Z Qf) Z Z Z;exact⟨Wa,QeI Wa Wa G.2.1 G.2.2 Wa⟩;omega;rw[O];simp only[qA]at O;refine Q3 (QF (Qx (QD (ks1 Z (Qd λK C=>mv2 Z Z (kc1 C Z (Qv (QR Z ?_))))))))
 grind [Qah,Qij]
end Go.Proofs
namespace M25
open Go Go.Abs M3
def dWk (w:Ql) (x:Zj):List D:=[.int .i64 x.u,R9 (hsL w x)]
def Tz (w:Ql) (r:List Zj):D:=.sl (r.map (dWk w))
def QfS (w:Ql) (k:CandT):List D:=[.sl (k.ns.map λr=>[Tz w r]),Tz w k.bs]
def Hk (w:Ql) (u:XU):D:=.sl (u.cs.map (QfS w))
def ZQ (w:Ql):D:=.sl (w.map λu=>[Hk w u])
section
variable {w:Ql} {x:Zj}
end
end M25
namespace M25
open Go Go.Abs M3
section
variable {w:Ql} {c:List Int} {l:Nat} {x:Zj}
section
variable {u:Nat} (hu:u<w.length) (huc:u<c.length) (hk:c[u].toNat<w[u].cs.length)
include hu huc hk
end
section
variable {u:Nat} (hu:u<w.length)
include hu
end
structure BQ (w:Ql) (c:List Int) (o:List Bool) (q:List Int) (i:Nat):Prop where
 nd:bb w c o
 nh:q.length+Lj o=c.length
 on:∀j (h:j<q.length),0<=q[j]/\onB o q[j].toNat=true
 all:∀u:Nat,onB o u=true->∃j,∃h:j<q.length,q[j]=(u:Int)
 cl:∀j (h:j<q.length),j<i->kd w c o q[j].toNat
structure vf (w:Ql) (c:List Int) (o:List Bool) (q:List Int) (i:Nat) (u:Int) (ns:List (List Zj)) (k:Nat):Prop where
 b:BQ w c o q i
 hi:i<q.length
 cur:q[i]=u
 rows:mb w c o ns k
end
end M25
namespace Go.Abs
open Go
variable {d:D}
mutual
def D.wk:D->D->Bool
 | .undef,.undef=>true
 | .top,.top=>true
 | .int k n,.int j m=>decide (k=j)&&decide (n=m)
 | .bool a,.bool b=>decide (a=b)
 | .str a,.str b=>decide (a=b)
 | .sl a,.sl b=>wkR a b
 | .u7 a,.sl b=>wkR a b
 | .u7 a,.u7 b=>wkR a b
 | .ptr a,.ptr b=>wkL a b
 | .agg a,.agg b=>wkL a b
 |d,.z7=>d.l5
 |_,_=>false
def wkR:List (List D)->List (List D)->Bool
 |[],[]=>true
 |a::az,b::bs=>wkL a b&&wkR az bs
 |_,_=>false
def wkL:List D->List D->Bool
 |[],[]=>true
 |a::az,b::bs=>a.wk b&&wkL az bs
 |_,_=>false
end
theorem QiZ {C:D} (h:d.wk C=true) (G:d.l5=true):C.l5=true:=by
 cases d<;>cases C<;>first |rfl |omega |trivial
theorem QbQ:∀{a b:List D},wkL a b=true->a.length=b.length
 |[],[],_=>rfl
 |_::az,_::bs,h=>by
  simp only[wkL,QEm]at h;simp[QbQ h.2]
 |[],_::_,h=>by trivial
 |_::_,[],h=>by trivial
theorem Cm:∀{a b:List (List D)},wkR a b=true->a.length=b.length
 |[],[],_=>rfl
 |_::az,_::bs,h=>by
  simp only[wkR,QEm]at h;simp[Cm h.2]
 |[],_::_,h=>by trivial
 |_::_,[],h=>by trivial
theorem Cl {l0:Nat}:∀{a b:List (List D)},wkR a b=true->(∀r∈a,r.length=l0)->∀r∈b,r.length=l0
 |[],[],_,_,r,hr=>by grind
 |x::az,y::bs,h,hl,r,hr=>by
  simp only[wkR,QEm]at h;rcases QEk.1 hr with rfl |hr
  rw[<- QbQ h.1];grind;exact Cl h.2 (λr hr=>hl r Wc) r hr
 |[],_::_,h,_,_,_=>by trivial
 |_::_,[],h,_,_,_=>by grind
section
variable {K:Kn}
mutual
theorem Qi0:∀(d C:D) (v:Value),d.wk C=true->s4 K d v->s4 K C v
 | .int k n,C,v,h,e=>by
  cases C<;>simp only[D.wk,QEm,decide_eq_true_eq,QEq]at h
  exact s4.cell e rfl
  grind
 | .bool b,C,v,h,e=>by
  cases C<;>simp only[D.wk,decide_eq_true_eq,QEq]at h
  exact s4.cell e rfl
  grind
 | .str b,C,v,h,e=>by
  cases C<;>simp only[D.wk,decide_eq_true_eq,QEq]at h
  exact s4.cell e rfl
  grind
 | .sl rows,C,v,h,e=>by
  cases C<;>simp only[D.wk,QEq]at h
  exact s4.cell e rfl;rename_i G;simp only[s4]at e ⊢;obtain⟨a,cap,M,T,U⟩:=e;rw[Cm h]at M T;refine⟨a,cap,M,T,U.imp (λY=>?_) ?_⟩
  grind [wkR]
  rintro⟨b,off,l0,g1,g2,V⟩;exact⟨b,off,l0,g1,Cl h g2,Co b off rows G h V⟩
 | .u7 rows,C,v,h,e=>by
  cases C<;>simp only[D.wk,QEq]at h
  exact s4.cell e rfl;rename_i G;simp only[s4]at e ⊢;obtain⟨a,M,U⟩:=e;rw[Cm h]at M;refine⟨a,_,M,QEI _,U.imp (λY=>?_) ?_⟩
  grind [wkR]
  rintro⟨b,off,l0,g1,g2,V⟩;exact⟨b,off,l0,g1,Cl h g2,Co b off rows G h V⟩;rename_i G;simp only[s4]at e ⊢;obtain⟨a,M,U⟩:=e;rw[Cm h]at M;refine⟨a,M,U.imp (λY=>?_) ?_⟩
  grind [wkR]
  rintro⟨b,off,l0,g1,g2,V⟩;exact⟨b,off,l0,g1,Cl h g2,Co b off rows G h V⟩
 | .ptr cs,C,v,h,e=>by
  cases C<;>simp only[D.wk,QEq]at h
  exact s4.cell e rfl;rename_i O;simp only[s4]at e ⊢;obtain⟨b,off,M,T⟩:=e;exact⟨b,off,M,QbP b off cs O h T⟩
 | .agg cs,C,v,h,e=>by
  cases C<;>simp only[D.wk,QEq]at h
  trivial;rename_i O;simp only[s4]at e ⊢;obtain⟨vs,M,T⟩:=e;exact⟨vs,M,QiY cs O vs h T⟩
 | .undef,C,v,h,e=>by
  cases C<;>simp only[D.wk,QEq]at h
  omega;trivial
 | .top,C,v,h,e=>by
  cases C<;>simp only[D.wk,QEq]at h
  omega;trivial
 | .z7,C,v,h,e=>by
  grind [D.wk]
 | .u4 ..,C,v,h,e=>by trivial
 | .la ..,C,v,h,e=>by trivial
 | .ref ..,C,v,h,e=>by trivial
 | .w8 ..,C,v,h,e=>by trivial
 | .g8 ds,C,v,h,e=>by
  grind [D.wk,D.l5]
 | .ia cs x,C,v,h,e=>by
  grind [D.wk,D.l5]
 | .k9 f caps,C,v,h,e=>by
  cases C<;>simp only[D.wk,QEq]at h
  exact s4.cell e rfl
 | .pe f caps,C,v,h,e=>by
  cases C<;>simp only[D.wk,QEq]at h
  exact s4.cell e rfl
 | .val x,C,v,h,e=>by
  cases C<;>simp only[D.wk,QEq]at h
  exact s4.cell e rfl
theorem Co (b:Nat):∀(off:Nat) (rs C:List (List D)),wkR rs C=true->j6 K b off rs->j6 K b off C
 |_,[],[],_,_=>Wa
 |off,r::rs,G::C,h,e=>by
  simp only[wkR,QEm]at h;simp only[j6]at e ⊢;rw[<- QbQ h.1];exact⟨QbP b off r G h.1 e.1,Co b _ rs C h.2 e.2⟩
 |_,[],_::_,h,_=>by trivial
 |_,_::_,[],h,_=>by trivial
theorem QbP (b:Nat):∀(off:Nat) (ds ds':List D),wkL ds ds'=true->o5 K b off ds->o5 K b off ds'
 |_,[],[],_,_=>Wa
 |off,d::ds,T::ds',h,e=>by
  simp only[wkL,QEm]at h;simp only[o5]at e ⊢;obtain⟨⟨O,x,M,G⟩,C⟩:=e;exact⟨⟨QiZ h.1 O,x,M,Qi0 d T x h.1 G⟩,QbP b _ ds ds' h.2 C⟩
 |_,[],_::_,h,_=>by trivial
 |_,_::_,[],h,_=>by trivial
theorem QiY:∀(ds ds':List D) (vs:List Value),wkL ds ds'=true->l6 K ds vs->l6 K ds' vs
 |[],[],vs,_,e=>e
 |d::ds,C::ds',v::vs,h,e=>by
  simp only[wkL,QEm]at h;simp only[l6]at e ⊢;exact⟨⟨QiZ h.1 e.1.1,Qi0 d C v h.1 e.1.2⟩,QiY ds ds' vs h.2 e.2⟩
 |d::ds,C::ds',[],_,e=>by trivial
 |[],_::_,_,h,_=>by trivial
 |_::_,[],_,h,_=>by trivial
end
theorem Qrd:∀{ds ds':List D} {vs:List Value},wkL ds ds'=true->x5 K ds vs->x5 K ds' vs
 |[],[],_,_,e=>e
 |d::ds,C::ds',v::vs,h,e=>by
  simp only[wkL,QEm]at h;simp only[x5]at e ⊢;exact⟨Qi0 d C v h.1 e.1,Qrd h.2 e.2⟩
 |d::ds,C::ds',[],_,e=>by trivial
 |[],_::_,_,h,_=>by trivial
 |_::_,[],_,h,_=>by trivial
end
theorem Ok.td {P:Program} {f:Nat} {ds ds':List D} (h:Ok P f ds' d) (hw:wkL ds ds'=true):Ok P f ds d:=
 ⟨h.1,λK w vs hk C=>h.2 K w vs hk (Qrd hw C)⟩
section
variable {P:Program} {fr:QEg} {H:QEf} {r:List u3} {K:St->Prop} {t t0:Nat} {rows:List (List D)}
end
end Go.Abs
namespace Go.Proofs
open Go Go.Abs M3 M25
def rL (c:List Int):List D:=[Q0 c]
abbrev HW (h cu wk:Nat) (w:Ql) (c:List Int) (hb:Bool) (f:Nat) (ps:List D) (b1 b2:x4):QEf:=
 [(500001,b1),(h,b2),(cu,⟨c.map rI,1,3,true⟩),(wk,⟨[[ZQ w,.u4 cu c.length,.bool hb,.w8 f h ps]],4,179,false⟩)]
end Go.Proofs
namespace Go.Abs
open Go
variable {d:D}
theorem Qgb {g g':Gh} {v:Value} (h:d.v9=true) (C:z4 g d v):z4 g' d v:=by
 cases d<;>simp only[D.v9,QEq]at h<;>exact C
theorem Qgc (h:d.v9=true):d.y4=[]:=by
 cases d<;>simp only[D.v9,QEq]at h<;>rfl
theorem TZ {g g':Gh} {c:Array Value}:∀{off:Nat} {ds:List D},(∀d∈ds,d.v9=true)->j5 g c off ds->j5 g' c off ds
 |_,[],_,_=>by trivial
 |off,d::ds,hf,h=>by
  simp only[j5]at h ⊢;obtain⟨⟨O,x,M,G⟩,C⟩:=h;exact⟨⟨O,x,M,Qgb (hf d Wd) G⟩,TZ (λy T=>hf y Wc) C⟩
theorem B9 {g g':Gh} {c:Array Value}:∀{off:Nat} {rs:List (List D)},(∀r∈rs,∀d∈r,d.v9=true)->s5 g c off rs->s5 g' c off rs
 |_,[],_,_=>by trivial
 |off,r::rs,hf,h=>by
  simp only[s5]at h ⊢;exact⟨TZ (hf r Wd) h.1,B9 (λy C=>hf y Wc) h.2⟩
theorem o7.gg {P:Program} {f:Nat} {ds ds':List D} {H:QEf} {k m:Nat} {b:x4} (n:Nat) (h:o7 P f ds' [] (.u4 k m) [(k,b)]) (hds:ds.map (D.mc H n)=ds') (hp:ds.all D.ad=true) (hf:∀r∈b.rows,∀d∈r,d.v9=true) (hk:k<1000000) (hn:lk H k=none):o7 P f ds H (.u4 k m) ((k,b)::H):=by
 refine⟨h.1,λg w vs C O hids=>?_⟩;subst hds
 have hA:∀{ds:List D} {vs:List Value},x5 (Fq w) ds vs->g9 (⟨Fq w,g.β,g.σ⟩:Gh) ds vs:=by
  intro ds
  induction ds with
  |nil=>intro vs hh;cases vs with
   |nil=>trivial
   |cons v vs=>trivial
  |cons d ds ih=>intro vs hh;cases vs with
   |nil=>trivial
   |cons v vs=>
    simp only[x5]at hh;exact⟨a7.of hh.1,ih hh.2⟩
 have hids':∀x∈ds.map (D.mc H n),∀j∈x.ids,(lk ([]:QEf) j).isSome=true:=by
  intro x hx j G;exfalso
  have key:∀{ds:List D} {vs:List Value},x5 (Fq w) ds vs->∀x∈ds,x.ids=[]:=by
   intro ds
   induction ds with
   |nil=>simp
   |cons d ds ih=>
    intro vs hh x hx;cases vs with
    |nil=>trivial
    |cons v vs=>
     simp only[x5]at hh;rcases QEk.1 hx with rfl |hx
     grind [Jq]
     grind
  rw[key (P5 C n O hp) x hx]at G
  grind
 refine(h.2 ⟨Fq w,g.β,g.σ⟩ w vs ⟨(λ_ _ h=>by cases h),(λ_ _ h=>by cases h),(λ_ _ _ _ _ _ _ h=>by cases h),Ru w⟩ (hA (P5 C n O hp)) hids').mono λe w' ⟨v,g',he,hv,hr',hsz,hfr,hfx,hkeep,hnew⟩=>?_;have hno:∀B,¬MR (⟨Fq w,g.β,g.σ⟩:Gh) [] B:=λB ⟨_,_,h,_⟩=>by cases h
 have hold:∀B,B<w.heap.size->w'.heap[B]?=w.heap[B]?:=λB hB=>(hfr B hB (hno B)).1
 have M:∀B e,g'.β k=some (B,e)->w.heap.size<=B:=λB e hβ=>by
  rcases hnew k B e hk (by rw[Qz,if_pos rfl];rfl) hβ with h |⟨_,_,_,h,_⟩
  omega;trivial
 obtain⟨T,guK,guβ,guσ⟩:∃T:Gh,(∀B,T.K B=if B<w.heap.size then g.K B else g'.K B)/\(∀j,T.β j=if j=k then g'.β k else g.β j)/\∀j,T.σ j=if j=k then g'.σ k else g.σ j:=
  ⟨⟨λB=>if B<w.heap.size then g.K B else g'.K B,λj=>if j=k then g'.β k else g.β j,λj=>if j=k then g'.σ k else g.σ j⟩,λ_=>rfl,λ_=>rfl,λ_=>rfl⟩
 have hkk:T.β k=g'.β k/\T.σ k=g'.σ k:=by grind
 have Y:∀j,j≠k->T.β j=g.β j/\T.σ j=g.σ j:=λj G=>by grind
 have V:∀j x,lk H j=some x->j≠k:=λj x h e=>by grind
 have hb0:=hr'.bx k b (by rw[Qz,if_pos rfl]);refine⟨v,T,he, ?_,⟨λj x G i hi=>?_,λj x G=>?_,λj j' x x' B e e' h1 h2 h3 h4=>?_,λB o y hy=>?_⟩,hsz,λB hB _=>⟨hold B hB,by grind⟩,hfx,λj G hs=>?_,λj B e G hs hβ=>?_⟩;have hv':z4 g' (.u4 k m) v:=hv;show z4 T (.u4 k m) v
 grind [z4,Gh.gone]
 rw[Qz]at G;split at G
 grind [x4.ids,Qgc]
 rw[Qz];split;rfl;exact C.x9 j x G i hi;rw[Qz]at G;split at G;rename_i e0;cases G;subst e0;obtain⟨b1,b2,b3⟩:=hb0;rcases b3 with⟨x1,⟨y1,y2⟩ |⟨i1,i2,i3,sv,p,B,i4,i5,i6,i7,i8,i9⟩⟩ |⟨h4,B,c,h5,h6,h7,h8,h9,h10⟩
 exact⟨b1,b2,.inl ⟨x1,.inl ⟨by grind,by grind⟩⟩⟩;have:=M B _ i5;exact⟨b1,b2,.inl ⟨x1,.inr ⟨i1,i2,i3,sv,p,B,i4,by grind,i6,λo=>by simp_all [if_neg],i8,by grind⟩⟩⟩;have:=M B _ h5;exact⟨b1,b2,.inr ⟨h4,B,c,by grind,h6,by grind,by grind [B9],λo=>by simp_all [if_neg],h10⟩⟩;have U:=V j x G;refine(C.bx j x G).move (Y j U) (λr hr d hd i hi=>?_) (λB o y hy=>?_) λB e hβ=>⟨hold B ((C.bx j x G).nb hβ).1,λo ho=>by rw[guK,if_pos ((C.bx j x G).nb hβ).1];omega,λ_=>.inl (QEu _)⟩
 have:=C.y4 G r hr d hd i hi
 grind
 rw[guK,if_pos (C.kr.lt hy)];omega
 have sep:∀j x B e e',lk H j=some x->g'.β k=some (B,e)->g.β j=some (B,e')->False:=λj x B e e' h1 h2 h3=>by
  have:=M B e h2;have:=((C.bx j x h1).nb h3).1;omega
 rw[Qz]at h1 h2;split at h1
 grind
 have G:=V j x h1;rw[(Y j G).1]at h3;split at h2
 grind
 have:=V j' x' h2;rw[(Y j' this).1]at h4;exact C.inj j j' x x' B e e' h1 h2 h3 h4;rw[guK]at hy;split at hy;rename_i hB;obtain⟨c,e,f,q1,q2⟩:=C.kr B o y hy
 grind
 exact hr'.kr B o y hy;have U:j≠k:=Wa
 (repeat clear hK K);simp_all [Qz,Ne.symm]
 by_cases U:j=k
 grind
 rw[Qz,if_neg (Ne.symm U)]at hs
 grind
theorem QzL {a b:Nat} (ha:a<1000000) (hb:b<1000000):Rn (Qmx a b) (Qmx a b) where
 inv k:=by grind [Qmx]
 small k:=by grind [Qmx]
end Go.Abs
namespace Go.Proofs
open Go Go.Abs M3 M25
theorem X7 {ρ:Nat->Nat} {c:List Int}:(c.map rI).map (λr=>r.map (D.y6 ρ))=c.map rI:=by simp[rI,D.y6,Function.comp]
structure s9 {σ:Type} (w:Ql) (hb:Bool) (p:PZ σ) (B1 B2:σ->x4) (f:Nat) (ps:List D):Prop where
 p1:∀s,(B1 s).pr=true
 s1:∀s,∀r∈(B1 s).rows,∀d∈r,d.y4=[]
 s2:∀s,∀r∈(B2 s).rows,∀d∈r,∀j∈d.y4,j=500001
 cap:ps.all D.w9=true
 u5:∀ρ:Nat->Nat,(ps.map λd=>(d.u5 ρ).can)=ps
 ids:∀d∈ps,d.ids=[]
 ok:∀s cur c,p.ok s 1->o7 Tryz.prog f (Q0 c::.ref 2000006 0 0::ps) (HW 2000006 2500003 2500000 w cur hb f ps (B1 s) (B2 s)) (.bool (p.st s c).2) (HW 2000006 2500003 2500000 w cur hb f ps (B1 (p.st s c).1) (B2 (p.st s c).1))
section
variable {σ:Type} {w:Ql} {hb:Bool} {p:PZ σ} {B1 B2:σ->x4} {f:Nat} {ps:List D} (hp:s9 w hb p B1 B2 f ps)
include hp
omit hp in
omit hp in
end
end Go.Proofs
namespace M25
open Go Go.Abs M3
section
variable {σ:Type} {p:PZ σ} {F:Nat->List (List Int)} {s s':σ} {j n:Nat}
theorem DX (h:YY p s ((List.range j).flatMap F)=(s',true)):YY p s ((List.range (j+1)).flatMap F)=YY p s' (F j):=by
 rw[QFX,List.flatMap_append,MD,h,if_pos rfl];simp
theorem S7 (h:j<n):List.range n=List.range (j+1)++(List.range' (j+1) (n - (j+1))):=by
 rw[QFw,QFw];have:=List.range'_append_1 (s:=0) (m:=j+1) (n:=n - (j+1))
 grind
theorem DY (C:j<n) (h:YY p s ((List.range j).flatMap F)=(s',true)) (G:(YY p s' (F j)).2=false):YY p s ((List.range n).flatMap F)=YY p s' (F j):=by
 rw[S7 C,List.flatMap_append,MD,DX h,if_neg Wc]
end
section
variable {w:Ql} {c q:List Int} {l:Nat} {x:Int}
end
end M25
namespace Go.Proofs
open Go Go.Abs M3 M25
def pA (most:Int):PZ (List (List Int)) where
 st s c:=if most<=s.length then(s,false)else(s++[c],true)
 ok s k:=s.length+k<=1048576
 step {s c k} h:=by
  grind
 mono {s j k} h hj:=by
  omega
def F4 (l:List (List Int)):D:=.sl (l.map rL)
noncomputable def allW (w:Ql):List (List Int):=listW w false (YF w) []
theorem LL {fr:QEg} {H:QEf} {k n:Nat} {b:x4} {rows:List (List D)} (h:lk H k=some b) (hp:b.pr=true) (C:n=b.rows.length) (e:b.rows=rows):XX ⟨fr,H⟩ (.u4 k n)=.sl rows:=by
 grind [XX,D.fz,D.x7,Jt,D.can,D.x6]
end Go.Proofs
namespace M25
open Go Go.Abs M3
end M25
namespace Go.Abs
open Go
section
variable {P:Program} {nt:Nat} {E:Env}
end
end Go.Abs
namespace Go.Proofs
open Go Go.Abs M3 M25
def QrI (w:Ql):Prop:=allW w=(Z9 (YF w)).filter (goodM w)
theorem Qfb {w:Ql} (hw:WSm w) (hr:WIn w) (h0:0<w.length):QrI w:=by
 (repeat clear hK K);simp_all [Bt,va.nil,allW,QrI]
section
variable {w:Ql} {t:Nat} {most:Int}
end
end Go.Proofs
namespace Go.Proofs
open Go Go.Abs M3 M25
noncomputable def chW (w:Ql):List (List Int):=if mayB w=true then allW w else[]
variable {w:Ql}
theorem Tw (h:v8 w):chW w=allW w:=if_pos (SO h)
theorem CW (h:¬v8 w):chW w=[]:=if_neg (by grind [HV])
section
variable {w:Ql} (hwr:Xc w)
include hwr
theorem Nz (hm:v8 w):QrI w:=by
 have C:=hm.val hwr;exact Qfb C.ud C.se C.len.1
end
end Go.Proofs
namespace Go.Proofs
open Go Go.Abs M3 M25
section
variable {P:Program} {dr:Dr} {op:s6} {dst:Option Nat} {r:List u3} {s s':St} {K:St->Prop} {t:Nat} {b:Bool}
end
noncomputable def okS (w:Ql) (x:Int):Bool:=decide (x=0)&&decide (szT w 601<=600)
end Go.Proofs
namespace M25
open Go Go.Abs M3
section
variable {w:Ql} {c:List Int}
end
end M25
namespace Go.Abs
open Go
def QzN:List (List UInt8):=[[111,110,101],[116,119,111]]
def Qik:List (List UInt8):=[]::QzN
def tName:List (List UInt8):=[[97,112,112],[98],[99],[100],[101,45,50]]
def tWord:List (List UInt8):=[[120],[121],[122],[119,95,49]]
def tOpt:List (List UInt8):=[]::tWord
def QqV:List (List UInt8):=[[100,101,102,97,117,108,116],[120],[121],[122]]
def tKey:List (List UInt8):=[[111,115],[97,114,99,104],[97,98,105]]
def tSign:List (List UInt8):=[[32,61,32],[32,33,61,32]]
def QbH:List (List UInt8):=[]::tKey.flatMap λk=>tSign.flatMap λs=>tWord.map λw=>k++s++w
def QbG:List (List UInt8):=tOpt.map (λw=>63::w)++tName.map (λn=>n++[47,120])++[[120],[121],[122]]
def pB (lo hi:Int):Tp:=.i .i64 lo hi
def tI:Tp:=.i .i64 (-9223372036854775808) 9223372036854775807
def QeW:List Tp:=[tI,tI,tI,.s 40,.s 40]
def KP:List Tp:=QeW
def QhK:List Tp:=[.c tName,.s 7,.l [.c QqV] 2,.b]
def QkP:List Tp:=[.l QhK 2,.c QbH,.c tOpt]
def QzE:List Tp:=[.c tName,.s 7,.c QbH]
def Qbr:List Tp:=[.c QqV,.l [.c QbG] 5]
def QtB:Tp:=.i .u64 0 18446744073709551615
def Qxw:List Tp:=.c tName::QeW
def Tu:List Tp:=Qxw++[.l QkP 2,.l QzE 1,.l Qbr 4]
def BZ:List Tp:=Tu++[QtB,.b]
def H5:List Tp:=[.c Qik,.l BZ 4]
def QhJ:List Tp:=[.c tName,.c QzN]
def QtH:List Tp:=[.c tName,.s 7]
def Qen:List Tp:=Tu++[.l QhJ 1,.l QtH 1]
def S6:List Tp:=[.c tOpt,.c tOpt,.c tOpt]
def opV:Nat->List Tp->List Vl
 |_,[]=>[]
 |n,t::ts=>match t with
  | .l row _=>.ll row n 0::opV (n+1) ts
  |t=>.ty t::opV n ts
def Qtw:Nat->List Tp->List Cn
 |_,[]=>[]
 |n,t::ts=>match t with
  | .l _ k=>(0,n,0)::(n,0,(k:Int))::Qtw (n+1) ts
  |_=>Qtw n ts
def opN (ts:List Tp):Nat:=(ts.filter λt=>match t with
 | .l _ _=>true
 |_=>false).length
def tyV (r:List Tp):List Vl:=r.map Vl.ty
def TH:List Tp:=[pB (-1) 1]++KP++[.b]
def ZG:List Tp:=TH++TH
def Qpb:List Tp:=[.l ZG 1000000,.l ZG 1000000]
def QkQ:List Tp:=[.l ZG 10000000,.l ZG 10000000]
def F9:List Tp:=[.s 100,.s 100]
def PP:List Tp:=F9++Qpb
def NE:List Tp:=[pB 0 9,pB 0 3]++KP
def Qbs:List Tp:=pB (-1) 1000::Qpb
def QkO:List Tp:=QeW++[pB (-1) 9,.l [.l Qbs 4] 24,.l Qbs 24]
def Qep:List Tp:=[.s 100,.s 100,.l QkO 20]
inductive Pm where
 |v (v:Vl)
 |s (row:List Tp)
 |l (row:List Tp) (k:Nat)
 |t (k:Nat)
 |i (lo hi:Int)
 |u (ts:List Tp)
 |e (row:List Tp) (k:Nat)
def pms:Nat->List Pm->List Vl × List Cn × Nat
 |n,[]=>([],[],n)
 |n,p::ps=>match p with
  | .v v=>(match pms n ps with
   |(a,c,m)=>(v::a,c,m))
  | .s row=>(match pms (n+opN row) ps with
   |(a,c,m)=>(.aa (opV n row)::a,Qtw n row++c,m))
  | .l row k=>(match pms (n+1) ps with
   |(a,c,m)=>(.ll row n 0::a,(0,n,0)::(n,0,(k:Int))::c,m))
  | .t k=>(match pms (n+1) ps with
   |(a,c,m)=>(.ss n 0::a,(0,n,0)::(n,0,(k:Int))::c,m))
  | .i lo hi=>(match pms (n+1) ps with
   |(a,c,m)=>(.nn .i64 n 0::a,(0,n, -lo)::(n,0,hi)::c,m))
  | .u row=>(match pms (n+1) ps with
   |(a,c,m)=>(.ll row n 0::a,(0,n,0)::c,m))
  | .e row k=>(match pms (n+1) ps with
   |(a,c,m)=>(.ll row n 0::a,(0,n, -(k:Int))::(n,0,(k:Int))::c,m))
def MP (ps:List Pm) (more:List Cn) (rv:Nat->Vl) (k:Nat) (rc:Nat->List Cn):Ct:=
 match pms 1 ps with
 |(a,c,n)=>⟨a,n,more++c,rv n,n+k,rc n⟩
def cIn (x:Nat) (lo hi:Int):List Cn:=[(0,x, -lo),(x,0,hi)]
def Qrn:Vl:=.ii .i64
def anX (ox:List (Nat × Option Nat × Bool)) (l:List (Nat × (Nat->Hd))) (un:Nat):An:={hd:=λb=>(lk l b).map λg a=>g a.nx,un:=un,nj:=[],ox:=ox}
def Qsq (bx:List Nat) (b i:Nat) (lo:Int) (y:Nat) (c:Int):Nat × (Nat->Hd):=(b,λn=>⟨[(i,.nn .i64 n 0)],bx,[],[(0,n, -lo),(n,y,c)],1,(y,c),(n,0)⟩)
def QnN (b i:Nat) (lo:Int) (y:Nat) (c:Int):Nat × (Nat->Hd):=(b,λn=>⟨[(i,.nn .i64 n 0)],[],[],[(0,n, -lo),(n,y,c)],1,(y,c),(n,0)⟩)
def ZI (l:List (Nat × (Nat->Hd))) (un:Nat):An:={hd:=λb=>(lk l b).map λg a=>g a.nx,un:=un,nj:=[]}
def anJ (l:List (Nat × (Nat->Hd))) (un:Nat) (nj:List Nat):An:={hd:=λb=>(lk l b).map λg a=>g a.nx,un:=un,nj:=nj}
def Qii (a:AS) (t:Nat):Nat × Int:=
 match lk a.fr t with
 |some (.oo _ x o)=>(x,o)
 |some (.ll _ x o)=>(x,o)
 |some (.nn _ x o)=>(x,o)
 |some (.ss x o)=>(x,o)
 |some (.fl rows)=>(0,rows.length)
 |_=>(0,0)
def Qsr (b i:Nat) (lo:Int) (j:Nat):Nat × (AS->Hd):=(b,λa=>match Qii a j with
 |(y,c)=>⟨[(i,.nn .i64 a.nx 0)],a.H.map Prod.fst,[],[(0,a.nx, -lo),(a.nx,y,c)],1,(y,c),(a.nx,0)⟩)
def anS (ox:List (Nat × Option Nat × Bool)) (l:List (Nat × (AS->Hd))) (un:Nat) (nj:List Nat):An:={hd:=λb=>lk l b,un:=un,nj:=nj,ox:=ox}
end Go.Abs
namespace M25
open Go Go.Abs M3
variable {d:D} {n:Nat} {rows:List (List D)}
theorem Qur {b:List (List D)} (h:isL d rows) (hw:wkR rows b=true):d.wk (.sl b)=true:=by
 rcases h with rfl |rfl<;>simpa [D.wk]using hw
theorem QiS {α:Type} {row:List Tp} {f:α->List D} {p:α->Prop} (h:∀r,Tp.n6 row r->∃a,wkL r (f a)=true/\p a):∀rows:List (List D),(∀r∈rows,Tp.n6 row r)->∃l:List α,wkR rows (l.map f)=true/\l.length=rows.length/\∀a∈l,p a
 |[],_=>⟨[],rfl,rfl,by simp⟩
 |r::rows,hr=>by
  obtain⟨a,U,T⟩:=h r (hr r Wd);obtain⟨l,O,M,G⟩:=QiS h rows λr C=>hr r Wc;exact⟨a::l,by grind [wkR],by grind,λx hx=>by grind⟩
theorem Qao {α:Type} {row:List Tp} {f:α->List D} {p:α->Prop} (h:∀r,Tp.n6 row r->∃a,wkL r (f a)=true/\p a) (hd:(Tp.l row n).has d):∃l:List α,d.wk (.sl (l.map f))=true/\l.length<=n/\∀a∈l,p a:=by
 obtain⟨rows,h0,T,C⟩:=hd;obtain⟨l,O,M,G⟩:=QiS h rows C
 grind [Qur]
theorem Quq {r:List D} (h:Tp.n6 TH r):∃c:Cu,r=dCu c/\Cu.sm c:=by
 obtain⟨d1,r1,rfl,⟨e,rfl,_⟩,d2,r2,rfl,⟨a,rfl,_⟩,d3,T,rfl,⟨b,rfl,_⟩,d4,O,rfl,⟨c,rfl,_⟩,d5,M,rfl,⟨p,rfl,hp⟩,d6,G,rfl,⟨q,rfl,U⟩,d7,C,rfl,⟨f,rfl⟩,rfl⟩:=h;exact⟨⟨e,a,b,c,p,q,f⟩,rfl,by grind,by grind⟩
theorem Quo:∀{a b:List Tp} {r:List D},Tp.n6 (a++b) r->∃x y,r=x++y/\Tp.n6 a x/\Tp.n6 b y
 |[],b,r,h=>⟨[],r,rfl,rfl,h⟩
 |t::a,b,r,h=>by
  obtain⟨d,T,rfl,O,M⟩:=h;obtain⟨x,y,rfl,G,C⟩:=Quo M;exact⟨d::x,y,rfl,⟨d,x,rfl,O,G⟩,C⟩
theorem Qus (r:List D) (h:Tp.n6 ZG r):∃s:Cu × Cu,wkL r (Nx s)=true/\Cu.sm s.1/\Cu.sm s.2:=by
 obtain⟨x,y,rfl,O,M⟩:=Quo h;obtain⟨c,rfl,G⟩:=Quq O;obtain⟨d,rfl,C⟩:=Quq M;exact⟨(c,d),by simp[Nx,dCu,wkL,D.wk],G,C⟩
theorem QiT (M:n<=1048576) (h:(Tp.l ZG n).has d):∃l:List (Cu × Cu),d.wk (ZB l)=true/\Sm l:=by
 obtain⟨l,G,O,C⟩:=Qao Qus h;exact⟨l,G,Wa,C⟩
theorem QmL (r:List D) (h:Tp.n6 Qbs r):∃x:Zj,wkL r (F5 x)=true/\Sm x.s.1/\Sm x.s.2:=by
 obtain⟨_,_,rfl,⟨n,rfl,_⟩,d1,_,rfl,O,d2,_,rfl,M,rfl⟩:=h;obtain⟨a,U,G⟩:=QiT We O;obtain⟨b,T,C⟩:=QiT We M;exact⟨⟨n,(a,b)⟩,by grind [F5,wkL,D.wk],G,C⟩
theorem Quu (r:List D) (h:Tp.n6 [.l Qbs 4] r):∃l:List Zj,wkL r [Yg l]=true/\l.length<=1048576/\∀x∈l,Sm x.s.1/\Sm x.s.2:=by
 obtain⟨d,_,rfl,C,rfl⟩:=h;obtain⟨l,O,M,G⟩:=Qao QmL C
 grind [wkL,Yg]
def Qrj (c:CandT):Prop:=c.ns.length<=24/\c.bs.length<=24
theorem Qup (r:List D) (h:Tp.n6 QkO r):∃c:CandT,wkL r (Jm c)=true/\QlC c/\Qrj c:=by
 obtain⟨_,_,rfl,⟨a,rfl,_⟩,_,_,rfl,⟨b,rfl,_⟩,_,_,rfl,⟨c,rfl,_⟩,_,_,rfl,⟨p,rfl,hp⟩,_,_,rfl,⟨q,rfl,V⟩,_,_,rfl,⟨s,rfl,_⟩,d1,_,rfl,U,d2,_,rfl,T,rfl⟩:=h;obtain⟨ns,h3,O,M⟩:=Qao Quu U;obtain⟨bs,Y,G,C⟩:=Qao QmL T;refine⟨⟨⟨a,b,c,p,q⟩,s,ns,bs⟩, ?_,⟨⟨by grind,by grind⟩,by grind,by grind,M,C⟩,O,G⟩
 (repeat clear hK K);simp_all [Ky,Yg,Jm,wkL,D.wk]
theorem Qut (r:List D) (h:Tp.n6 Qep r):∃u:XU,wkL r (Zv u)=true/\(u.n.length<=1048576/\u.f.length<=1048576)/\u.cs.length<=1048576/\∀c∈u.cs,QlC c/\Qrj c:=by
 obtain⟨_,_,rfl,⟨n,rfl,M⟩,_,_,rfl,⟨f,rfl,O⟩,d,_,rfl,G,rfl⟩:=h;obtain⟨cs,U,T,C⟩:=Qao Qup G;refine⟨⟨n,f,cs⟩, ?_,⟨by grind,by grind⟩,by grind,C⟩
 grind [G0,Zv,wkL,D.wk]
theorem Qrb (h0:isL d rows) (T:rows.length<=1048576) (h:∀r∈rows,Tp.n6 Qep r):∃w:Ql,d.wk (.sl (w.map Zv))=true/\w.length=rows.length/\Xc w/\∀u∈w,∀c∈u.cs,Qrj c:=by
 obtain⟨w,O,M,C⟩:=QiS Qut rows h;exact⟨w,Qur h0 O,M,⟨Wa,λu hu=>(C u hu).1,λu hu=>(C u hu).2.1,λu hu c G=>((C u hu).2.2 c G).1⟩,λu hu c G=>((C u hu).2.2 c G).2⟩
theorem Qtv {P:Program} {f:Nat} {ds:List D} {a b a' b':D} (h:Ok P f ds (.g8 [a,b])) (ha:a.wk a'=true) (hb:b.wk b'=true):Ok P f ds (.g8 [a',b']):=by
 refine⟨h.1,λK w vs hk C=>(h.2 K w vs hk C).mono λe w' ⟨v,K',he,hr,rest⟩=>⟨v,K',he, ?_,rest⟩⟩;simp only[s4]at hr ⊢;obtain⟨us,M,G⟩:=hr;exact⟨us,M,Qrd (by grind [wkL]) G⟩
section
variable {b:Bool} {z:Int} {w:Ql} {i:Nat} {c:List Int}
end
end M25
namespace Go.Abs
open Go
theorem Zc.zh {P:Program} {f:Nat} {fn:Func} {tf:o6} {orc:Nat->AS->Option Out} {tb:Tb} {an:An} {c:Zc} (T:∀(id:Nat) (x:z5) (a:AS) (o:Out) (ν:List Int) (s:St),(id,x)∈Hf tf.body->orc id a=some o->a.ok ν s->TX P tf.nt x (y9 ν o) s) (O:tb.ok P) (G:tb.fg P) (hm:P.follows .mixedOrders=true) (hf:P.funcs[f]?=some fn) (hp:QT P fn=some tf.erase) (hn:Nat.ble c.az.length tf.nt=true)
 (he:((QrD an.oy ⟨MQ 0 c.az,c.bs,c.cs,c.nx⟩).all λa=>match JL orc tb an tf.body none a with
 |some outs=>outs.all (Qf8 c tf.rs)
 |none=>false)=true) (M:zcB c=true) (hg:Gz f=[]:=by rfl):c.ok P f:=λμ ds H h1 h2 h3 h4 h5=>by
 have ha:(⟨MQ 0 c.az,c.bs,c.cs,c.nx⟩:AS).ok μ ⟨MQ 0 ds,H⟩:=⟨QaU h4,h5,h3,h1,h2⟩;obtain⟨a0,V,ha⟩:=Qho (l:=an.oy) ha;have he:=QEs.1 he a0 V;split at he
 case h_2=>grind
 rename_i outs Y;have ho:=he;have hx:=Y9 (P:=P) (nt:=tf.nt) T O G (λ_ h=>h) ha Y
 obtain⟨d,H',⟨g,q1,q2,q3,q4⟩,q5⟩:=o7.fh (R:=λd H'=>∃g,(μ++g).length=c.mx/\k8 (μ++g) c.rc/\c.rv.has (μ++g) d/\RL (Bx.has (μ++g)) c.rb H') hm hf hp (by rw[YH h4];simp_all)
  (Y1 (λe s ⟨a,U,f2,h6⟩=>by
   obtain⟨d,H',s2,w1,w2,w3,w4⟩:=Qn0 h6 h1 M (QEs.1 ho _ U);refine⟨d,H',s2,w1,w2,λk hk1 C=>?_,w3,w4⟩;obtain⟨g,_,_,_,w5⟩:=w2;rw[RL.isSome h5 k]at C;rw[RL.isSome w5 k];obtain⟨bx,hb⟩:=QEo.1 C;simp only[zcB,QEm]at M;have:=QEs.1 M.2 (k,bx) (ZJ hb)
   (repeat clear hK K);simp_all [QFI]) hx) hg
 grind
def zcP (P:Program) (tb:Tb) (an:An) (c:Zc) (f:Nat):Bool:=
 match P.funcs[f]? with
 |some fn=>(match QT P fn with
  |some af=>(match tfN af with
   |tf=>(Nat.ble c.az.length tf.nt&&zcB c)&&((QrD an.oy ⟨MQ 0 c.az,c.bs,c.cs,c.nx⟩).all λa=>match Qd3 tb an tf.body none a with
    |some outs=>outs.all (Qf8 c tf.rs)
    |none=>false))
  |none=>false)
 |none=>false
theorem Zc.wh {P:Program} {f:Nat} {tb:Tb} {c:Zc} (an:An) (G:tb.ok P) (C:tb.fg P) (hm:P.follows .mixedOrders=true) (hb:zcP P tb an c f=true) (M:Gz f=[]:=by rfl):c.ok P f:=by
 unfold zcP at hb;split at hb;rename_i fn e1;split at hb;rename_i af e2;simp only[QEm]at hb;obtain⟨⟨U,T⟩,O⟩:=hb;exact Zc.zh (orc:=λ_ _=>none) (λ_ _ _ _ _ _ _ h _=>by cases h) G C hm e1 (by grind [MK]) U O T M
 grind
 grind
structure Sp where
 f:Nat
 ct:Ct
 an:An
 ow:List Nat:=[]
 z:Option Zc:=none
def tbS (g:Nat->List Ct):List Sp->Nat->List Ct
 |[],f=>g f
 |s::l,f=>match s.z with
  |none=>if Nat.beq f s.f=true then s.ct::tbS g l f else tbS g l f
  |some _=>tbS g l f
def zbS (g:Nat->List Zc):List Sp->Nat->List Zc
 |[],f=>g f
 |s::l,f=>match s.z with
  |none=>zbS g l f
  |some z=>if Nat.beq f s.f=true then z::zbS g l f else zbS g l f
def QuC (P:Program) (g:Nat->List Ct) (gz:Nat->List Zc) (l:List Sp) (s:Sp):Bool:=
 (match s.z with
 |none=>ctP P ⟨tbS g l,s.ow,zbS gz l⟩ s.an s.ct s.f
 |some z=>zcP P ⟨tbS g l,s.ow,zbS gz l⟩ s.an z s.f)&&(Gz s.f).isEmpty
def Yo (P:Program) (g:Nat->List Ct) (gz:Nat->List Zc):List Sp->Bool
 |[]=>true
 |s::l=>Yo P g gz l&&QuC P g gz l s
theorem QdE {P:Program} {g:Nat->List Ct} {gz:Nat->List Zc} (hm:P.follows .mixedOrders=true) (M:∀f,∀c∈g f,c.ok P f) (G:∀f,∀c∈gz f,c.ok P f):∀{l:List Sp},Yo P g gz l=true->(∀f,∀c∈tbS g l f,c.ok P f)/\∀f,∀c∈zbS gz l f,c.ok P f
 |[],_=>⟨λf c C=>M f c C,λf c C=>G f c C⟩
 |s::l,h=>by
  simp only[Yo,QuC,QEm]at h;obtain⟨V,T,O⟩:=h;obtain⟨i1,i2⟩:=QdE hm M G V;obtain⟨f0,ct,an,ow,z⟩:=s;cases z with
  |none=>
   have U:ct.ok P f0:=Ct.wh an (tb:=⟨tbS g l,ow,zbS gz l⟩) (λf c C=>i1 f c C) (λf c C=>i2 f c C) hm T (QFs.1 O);refine⟨λf c C=>?_,λf c C=>i2 f c C⟩;simp only[tbS]at C;split at C;rename_i e;have e:=QFG e
   grind
   grind
  |some z=>
   have U:z.ok P f0:=Zc.wh an (tb:=⟨tbS g l,ow,zbS gz l⟩) (λf c C=>i1 f c C) (λf c C=>i2 f c C) hm T (QFs.1 O);refine⟨λf c C=>i1 f c C,λf c C=>?_⟩;simp only[zbS]at C;split at C;rename_i e;have e:=QFG e
   grind
   grind
def Yv (P:Program) (g:Nat->List Ct) (gz:Nat->List Zc):Nat->List Sp->Bool
 |0,_=>true
 |_,[]=>true
 |n+1,s::l=>Yv P g gz n l&&QuC P g gz l s
theorem QfM {P:Program} {g:Nat->List Ct} {gz:Nat->List Zc}:∀{n:Nat} {l m:List Sp},l.length=n->Yv P g gz n (l++m)=true->Yo P g gz m=true->Yo P g gz (l++m)=true
 |0,[],m,_,_,h=>h
 |n+1,s::l,m,hn,h,hm=>by
  rw[QFi]at h ⊢;simp only[Yv,QEm]at h;simp only[Yo,QEm];exact⟨QfM Wc h.1 hm,h.2⟩
end Go.Abs
namespace Go.Proofs
open Go Go.Abs
def ty (t:Tp):Vl:=.ty t
def tb:Vl:=ty .b
def QbF:Vl:=ty (pB 0 40)
def pL:Pm:=.u [tI]
def pc (t:List (List UInt8)):Pm:=.v (ty (.c t))
def c0 (ps:List Pm) (rv:Vl):Ct:=MP ps [] (λ_=>rv) 0 (λ_=>[])
def cPl (ps:List Pm) (x:Nat):Ct:=MP ps [] (λn=>.nn .i64 n 0) 1 (λn=>[(0,n,1),(n,x, -1)])
def pI:Pm:=.i (-9223372036854775808) 9223372036854775807
def cL (ps:List Pm) (row:List Tp) (bd:Nat->List Cn):Ct:=MP ps [] (λn=>.ll row n 0) 1 (λn=>(0,n,0)::bd n)
def cLk (ps:List Pm) (row:List Tp) (k:Nat):Ct:=cL ps row (λn=>[(n,0,(k:Int))])
def cS (ps:List Pm) (row:List Tp):Ct:=MP ps [] (λn=>.aa (opV n row)) (opN row) (λn=>Qtw n row)
def nm:Pm:=.v (ty (.s 100))
def cLa (p q:Nat):Ct:=cLk [.l ZG p,.l ZG q] ZG (2*(p+q)+1)
def cLn (p:Nat):Ct:=cLk [.l ZG p] ZG (2*p+1)
def cLm (p:Nat):Ct:=MP [.l ZG p] [] (λn=>.uu [.ll ZG n 0,tb]) 1 (λn=>cIn n 0 ((2*p+1:Nat):Int))
def Qdf:List Tp:=[.s 100]++KP
def Qeo:List Tp:=Tu++[pB (-1) 9]
def yZ:Vl:=.aa ([.ll Qen 1 0,.ll H5 2 0]++tyV S6++[.ll Qdf 3 0,.ll QhJ 4 0,.rr 1000000 0])
def yC:List Cn:=cIn 1 1 1++cIn 2 1 1++cIn 3 0 0++cIn 4 0 4
def bZ (n:Nat):List (Nat × Bx):=[(1000000,.cc [.oo 500000 n 0,.oo 500001 n 0] 125 false),(500000,.ww [.s 100] n 0 1 9),(500001,.ww [.l Qeo 10] n 0 1 228)]
def Qrg (b:Nat) (ps:List Vl) (m:Nat) (cs:List Cn) (rv:Nat->Vl) (k:Nat) (rc:Nat->List Cn):Zc:=⟨yZ::ps,6+m,yC++cs++cIn (5+m) 0 b,bZ (5+m),rv (6+m),6+m+k,rc (6+m),bZ (5+m)⟩
def Qi4 (b d:Nat) (ps:List Vl) (m:Nat) (cs:List Cn) (rv:Nat->Vl) (k:Nat) (rc:Nat->List Cn):Zc:=⟨yZ::ps,6+m,yC++cs++cIn (5+m) 0 b,bZ (5+m),rv (6+m),7+m+k,[(5+m,6+m+k,0),(6+m+k,5+m,(d:Int))]++rc (6+m),bZ (6+m+k)⟩
def QEd (b e:Nat) (ps:List Vl) (m:Nat) (cs:List Cn) (rv:Nat->Vl) (k:Nat) (rc:Nat->List Cn):Zc:=⟨yZ::ps,6+m,yC++cs++cIn (5+m) 0 b,bZ (5+m),rv (6+m),7+m+k,cIn (6+m+k) 0 e++rc (6+m),bZ (6+m+k)⟩
def QBm (a:AS) (s t:Nat):Int:=
 match Qii a s,Qii a t with
 |(x,o),(y,u)=>match(List.range 60).find? λ(c:Nat)=>Ju a.cs x o y (u+(c:Int))with
  |some c=>c
  |none=>0
def QEe (ps:List Pm) (rv:Nat->Vl) (k:Nat) (rc:Nat->List Cn) (rb:Nat->List (Nat × Bx)):Zc:=
 match pms 1 ps with
 |(a,c,n)=>⟨a,n,c,[],rv n,n+k,rc n,rb n⟩
def yB:List Nat:=[1000000,500000,500001]
def QzG (m:Nat):List Tp:=[.c Qik,.lq BZ m]
def shP (m:Nat):Pm:=.e (QzG m) 1
def Qfs (m:Nat):Ct:=MP [.s (QzG m),nm] [] (λn=>.ll [pB 0 (m - 1)] n 0) 1 (λn=>cIn n 0 m)
def Qft (m:Nat):Ct:=MP [shP m,.l QhJ 4,nm] [] (λn=>.uu [.nn .i64 n 0,.ll [pB 0 (m - 1)] (n+1) 0,.nn .i64 (n+2) 0]) 3 (λn=>[(n,n+2,0)]++cIn n 0 3++cIn (n+1) 0 m++cIn (n+2) 0 40)
def ghW (a:AS) (t:Nat) (c:Int):Nat:=
 match a.cs.find? λk=>Nat.beq k.1 (Qii a t).1&&(decide (k.2.2=c)&&!Nat.beq k.2.1 0)with
 |some k=>k.2.1
 |none=>0
def hdO (b i j o k:Nat) (row:List Tp) (l0 et:Nat):Nat × (AS->Hd):=(b,λa=>match Qii a j with
 |(y,c)=>⟨[(o,.oo k a.nx 0),(i,.nn .i64 (a.nx+1) 0)],a.H.map Prod.fst,[(k,.ww row a.nx 0 l0 et)],[(0,a.nx,0),(a.nx,a.nx+1,0),(0,a.nx+1,0),(a.nx+1,y,c)],2,(y,c),(a.nx+1,0)⟩)
def hdG (b i j o k:Nat) (row:List Tp) (l0 et:Nat):Nat × (AS->Hd):=(b,λa=>match Qii a j with
 |(y,c)=>⟨[(o,.oo k a.nx 0),(i,.nn .i64 (a.nx+1) 0)],a.H.map Prod.fst,[(k,.ww row a.nx 0 l0 et)],[(0,a.nx,0),(0,a.nx+1,0),(a.nx+1,y,c)],2,(y,c),(a.nx+1,0)⟩)
def QzM (a:AS) (i:Nat):Nat × Int:=
 match lk a.H 1,lk a.fr i with
 |some (.cc (.fx rows::_) _ _),some (.nn _ _ n)=>(match rows[n.toNat]? with
  |some (.ll _ x o::_)=>(x,o)
  |_=>(0,0))
 |_,_=>(0,0)
def QBF:Nat × (AS->Hd):=(2,λa=>match QzM a 3 with
 |(y,c)=>⟨[(4,.nn .i64 a.nx 0)],a.H.map Prod.fst,[],[(0,a.nx,0),(a.nx,y,c)],1,(y,c),(a.nx,0)⟩)
def QBG:Nat × (AS->Hd):=(2,λa=>match QzM a 4 with
 |(y,c)=>⟨[(3,.ss a.nx 0),(5,.nn .i64 (a.nx+1) 0)],a.H.map Prod.fst,[],[(0,a.nx,0),(0,a.nx+1,0),(a.nx+1,y,c)],2,(y,c),(a.nx+1,0)⟩)
def QBE:Nat × (AS->Hd):=(0,λa=>match Qii a 5 with
 |(y,c)=>⟨[(6,.nn .i64 a.nx 0)],[2],[(4,.cc [.oo 55 (a.nx+1) 0] 287 false),(55,.ww [.l NE 8] (a.nx+1) 0 1 311)],[(0,a.nx+1,0),(a.nx+1,a.nx,0),(0,a.nx,0),(a.nx,y,c)],2,(y,c),(a.nx,0)⟩)
def hdW:Nat × (AS->Hd):=(0,λa=>match Qii a 5 with
 |(y,c)=>⟨[(6,.bf [(0,0,7),(0,y,c - 1)] []),(7,.nn .i64 a.nx 0)],[1,2],[(4,.cc [.oo 50 (a.nx+1) 0] 25 false),(50,.ww Qep (a.nx+1) 0 3 58)]++bZ (a.nx+2),[(a.nx,a.nx+1,0),(a.nx+1,a.nx,0),(0,a.nx,0),(a.nx,y,c),(0,a.nx+2,0)],3,(y,c),(a.nx,0)⟩)
def QB8 (a:AS):Nat:=match lk a.H 500000 with
 |some (.ww _ x _ _ _)=>x
 |_=>0
def hdR (b i j:Nat):Nat × (AS->Hd):=(b,λa=>match Qii a j,QBm a 4 5 with
 |(y,c),d=>⟨[(4,.ll F9 a.nx 0),(5,.oo 55 (a.nx+1) 0),(i,.nn .i64 (a.nx+2) 0)],1::yB,[(55,.ww F9 (a.nx+1) 0 2 170)],[(0,a.nx+2,0),(a.nx+2,y,c),(a.nx,a.nx+1,d),(a.nx+1,a.nx, -d),(0,a.nx+1,0)],3,(y,c),(a.nx+2,0)⟩)
def cNo:Ct:=⟨[],1,[],.dd .undef,1,[]⟩
def spG:Nat->List Ct:=λf=>
 if Nat.beq f 35=true then[⟨[ty tI,.nn .i64 1 0],2,[(0,1, -1),(1,0,1000)],.nn .i64 2 0,3,[(0,2,0),(2,1, -1)]⟩]else
 if Nat.beq f 128=true then[c0 [.v (.aa (tyV [pB 2 2,pB 3 3,pB 0 2,pB 0 1,pB 0 0,.c [[]],.c [[]]]))] (ty (.s 7)),c0 [.v (.aa (tyV [pB 1 1,pB 3 3,pB 0 2,pB 0 1,pB 0 0,.c [[]],.c [[]]]))] (ty (.s 7)),c0 [.v (.aa (tyV [pB 3 3,pB 3 3,pB 0 2,pB 0 1,pB 0 0,.c [[]],.c [[]]]))] (ty (.s 7)),c0 [.v (.aa (tyV [pB 6 6,pB 3 3,pB 0 2,pB 0 1,pB 0 0,.c [[]],.c [[]]]))] (ty (.s 7)),c0 [.v (.aa (tyV [pB 7 7,pB 3 3,pB 0 2,pB 0 1,pB 0 0,.c [[]],.c [[]]]))] (ty (.s 7))]else
 if Nat.beq f 232=true then[c0 [pc QbH] tb]else
 if Nat.beq f 271=true then[cLa 1 3,cLa 9 3,cLa 25 3,cLa 57 3,cLa 121 3,cLa 249 3,cLa 505 3,cLa 1017 3,cLa 2041 765,cLa 1 1000000,cLa 2000003 1000000]else
 if Nat.beq f 276=true then[cLa 0 1,cLa 3 1,cLa 9 1,cLa 21 1,cLa 45 1,cLa 93 1,cLa 189 1,cLa 381 1,cLa 0 5613,cLa 11227 5613,cLa 33681 5613,cLa 78589 5613,cLa 168405 5613,cLa 348037 5613]else
 if Nat.beq f 288=true then[cLn 1]else
 if Nat.beq f 286=true then[cLm 2041]else
 if Nat.beq f 184=true then[c0 [pc QbH,.s S6] tb]else
 []
def noZ:Nat->List Zc:=λ_=>[]
def sp0:List Sp:=[⟨50,MP [pL,pI,.i 1 1000] [] (λn=>.nn .i64 n 0) 1 (λn=>[(0,n,0),(n,3, -1)]),ZI [] 14,[],none⟩,
 ⟨79,c0 [pL,pI] (ty tI),ZI [] 14,[],none⟩]
def sp1:List Sp:=[⟨88,c0 [.v (ty tI)] (ty (.c tName)),ZI [] 14,[],none⟩,
 ⟨68,c0 [.v (ty tI)] (ty (.c tWord)),ZI [] 14,[],none⟩]++sp0
def sp2:List Sp:=[⟨126,c0 [pL,.i 0 9000] (ty (.c QbH)),ZI [] 14,[],none⟩,
 ⟨32,c0 [pL,.i 0 9000] (.aa (tyV S6)),ZI [] 14,[],none⟩]++sp1
def sp3:List Sp:=[⟨136,c0 [.v (ty (.i .u8 0 255))] tb,ZI [] 14,[],none⟩,
 ⟨135,c0 [.v (ty (.i .u8 0 255))] tb,ZI [] 14,[],none⟩]++sp2
def sp4:List Sp:=[⟨230,c0 [.v (ty QtB)] (ty (.s 49)),ZI [] 23,[],none⟩,
 ⟨199,c0 [.t 100000] (.uu [ty (pB 0 9999),tb]),ZI [] 14,[],none⟩]++sp3
def sp5:List Sp:=[⟨197,cL [.t 100,.v (ty (.i .u8 0 255))] [.s 100] (λn=>[(0,n, -1),(n,1,1)]),ZI [(0,λn=>⟨[(5,.oo 25 n 0),(6,.nn .i64 (n+1) 0),(7,.nn .i64 (n+2) 0)],[],[(25,.ww [.s 100] n 0 1 9)],[(0,n,0),(n,n+2,0),(0,n+1,0),(n+1,n+2,0),(0,n+2,0),(n+2,1,0)],3,(1,0),(n+2,0)⟩)] 14 |> λa=>{a with nj:=[1,999]},[],none⟩,
 ⟨202,c0 [.v (ty tI)] (ty (.s 50)),ZI [] 14,[],none⟩]++sp4
def sp6:List Sp:=[⟨200,c0 [.t 100000] tb,ZI [QnN 0 3 0 1 0] 14,[],none⟩,
 ⟨197,cL [.t 7,.v (ty (.i .u8 0 255))] [.s 7] (λn=>[(0,n, -1),(n,1,1)]),ZI [(0,λn=>⟨[(5,.oo 25 n 0),(6,.nn .i64 (n+1) 0),(7,.nn .i64 (n+2) 0)],[],[(25,.ww [.s 7] n 0 1 9)],[(0,n,0),(n,n+2,0),(0,n+1,0),(n+1,n+2,0),(0,n+2,0),(n+2,1,0)],3,(1,0),(n+2,0)⟩)] 14 |> λa=>{a with nj:=[1,999]},[],none⟩]++sp5
def sp7:List Sp:=[⟨162,c0 [.t 100,.v tb] tb,ZI [] 14,[],none⟩,
 ⟨198,c0 [.t 100000] tb,ZI [QnN 0 3 0 1 0] 14,[],none⟩]++sp6
def sp8:List Sp:=[⟨123,c0 [.s KP] tb,ZI [] 14,[],none⟩,
 ⟨161,c0 [.v (ty tI)] tb,ZI [] 14,[],none⟩]++sp7
def sp9:List Sp:=[⟨253,c0 [.v (ty (.s 1000)),.v (ty (.s 1000))] (ty (pB (-1) 1)),ZI [] 14,[],none⟩,
 ⟨189,c0 [.v (ty tI),.v (ty tI)] (ty (pB (-1) 1)),ZI [] 14,[],none⟩]++sp8
def Qu6:List Sp:=[⟨190,c0 [.v (ty (.s 100)),.v (ty (.s 100))] (ty (pB (-1) 1)),ZI [(1,λn=>⟨[(7,.nn .i64 n 0)],[],[],[(0,n,0),(n,n - 3,0)],1,(n - 3,0),(n,0)⟩)] 14,[],none⟩,
 ⟨227,c0 [.v (ty (.s 1000)),.v (ty (.s 1000))] (ty (pB (-1) 1)),ZI [] 14,[],none⟩]++sp9
def Qu7:List Sp:=[⟨236,c0 [.s QeW] (ty (.s 200)),ZI [] 14,[],none⟩,
 ⟨147,c0 [.s KP,.s KP] (ty (pB (-1) 1)),ZI [] 14,[],none⟩]++Qu6
def Qu8:List Sp:=[⟨243,c0 [.s KP] (.aa (tyV KP)),ZI [] 14,[],none⟩,
 ⟨208,c0 [.s QeW] (ty (.s 300)),ZI [] 14,[],none⟩]++Qu7
def Qu9:List Sp:=[⟨244,c0 [.s QeW] (.uu [.aa (tyV KP),tb]),ZI [] 14,[],none⟩,
 ⟨260,c0 [.s QeW,.v (ty tI)] (.uu [.aa (tyV KP),tb]),ZI [] 14,[],none⟩]++Qu8
def Qva:List Sp:=[⟨166,c0 [.s NE] tb,ZI [] 14,[],none⟩,
 ⟨168,c0 [.l [.s 100] 10,.v (ty (.i .u8 0 255))] (ty (.s 2000)),ZI [] 14,[],none⟩]++Qu9
def Qvb:List Sp:=[⟨167,⟨[.aa ([ty (pB 0 9),.nn .i64 1 0]++tyV KP)],2,cIn 1 0 3,.ll [.s 50] 1 0,2,[]⟩,ZI [] 14,[],none⟩,
 ⟨169,c0 [.v (ty tI)] (ty (.s 2)),ZI [] 14,[],none⟩]++Qva
def Qvc:List Sp:=[⟨128,⟨[.aa ([ty (pB 0 9),.nn .i64 1 0]++tyV KP)],2,cIn 1 0 3,ty (.s 3000),2,[]⟩,ZI [] 14,[],none⟩,
 ⟨89,c0 [pL,.i 0 9000] (ty (.s 7)),ZI [] 14,[],none⟩]++Qvb
def Qvd:List Sp:=[⟨125,cS [pL,.i 0 7000,.i 0 5] QkP,ZI [] 14,[],none⟩,
 ⟨164,cS [pL,.i 0 8000,.i 0 5,.v tb] QhK,ZI [] 14,[],none⟩]++Qvc
def Qve:List Sp:=[⟨127,cLk [pL,.i 0 7000,.s Tu] Qbr 4,ZI [] 14,[],none⟩,
 ⟨165,cL [.l [.c QbG] 10,pc QbG] [.c QbG] (λn=>[(n,1,1)]),ZI [QnN 0 5 0 1 0] 14,[],none⟩]++Qvd
def Qvf:List Sp:=[⟨95,c0 [.t 100000] tb,ZI [QnN 0 3 0 1 0] 14,[],none⟩,
 ⟨87,cS [pL,.i 0 6000,.i 0 5] Tu,ZI [] 14,[],none⟩]++Qve
def Qvg:List Sp:=[⟨256,c0 [.l [.s 100000] 10] tb,ZI [] 14,[],none⟩,
 ⟨134,c0 [.t 100000] tb,ZI [QnN 0 3 1 1 0] 14,[],none⟩]++Qvf
def Qvh:List Sp:=[⟨195,c0 [.s TH,.s TH] (ty (pB (-1) 1)),ZI [] 14,[],none⟩,
 ⟨229,c0 [.s TH] tb,ZI [] 14,[],none⟩]++Qvg
def Qvi:List Sp:=[⟨194,c0 [.s ZG] tb,ZI [] 14,[],none⟩,
 ⟨201,c0 [.s TH,.s KP] tb,ZI [] 14,[],none⟩]++Qvh
def Qvj:List Sp:=[⟨108,c0 [] (.aa (tyV TH)),ZI [] 14,[],none⟩,
 ⟨163,c0 [.s ZG,.s KP] tb,ZI [] 14,[],none⟩]++Qvi
def Qvk:List Sp:=[⟨214,c0 [.s KP] (.aa (tyV TH)),ZI [] 14,[],none⟩,
 ⟨109,c0 [] (.aa (tyV TH)),ZI [] 14,[],none⟩]++Qvj
def Qvl:List Sp:=[⟨159,c0 [.l ZG 10000000] tb,ZI [QnN 0 3 0 1 0] 14,[],none⟩,
 ⟨215,c0 [.s KP] (.aa (tyV TH)),ZI [] 14,[],none⟩]++Qvk
def Qvm:List Sp:=[⟨196,c0 [.s KP] tb,ZI [] 14,[],none⟩,
 ⟨124,c0 [.l ZG 10000000,.s KP] tb,ZI [Qsq [3] 0 5 0 1 0] 14,[],none⟩]++Qvl
def Qvn:List Sp:=[⟨122,c0 [.s QkQ] tb,ZI [Qsq [1] 0 3 0 1 0] 14,[],none⟩,
 ⟨160,c0 [.s TH] tb,ZI [] 14,[],none⟩]++Qvm
def Qvo:List Sp:=[⟨213,c0 [] (.aa [.ll ZG 0 0,.ll ZG 0 0]),ZI [] 14,[],none⟩,
 ⟨86,c0 [.s QkQ,.s KP] tb,ZI [] 14,[],none⟩]++Qvn
def Qvp:List Sp:=[⟨47,cS [] [.l ZG 1,.l ZG 1],ZI [] 14,[],none⟩,
 ⟨78,MP [] [] (λn=>.ll ZG n 0) 1 (λn=>cIn n 0 1),ZI [] 14,[],none⟩]++Qvo
def Qvq:List Sp:=[⟨217,c0 [.s QeW] (.aa (tyV TH)),ZI [] 14,[],none⟩,
 ⟨216,c0 [.s QeW] (.aa (tyV TH)),ZI [] 14,[],none⟩]++Qvp
def Qvr:List Sp:=[⟨203,c0 [.v (.ii .u64),.v (ty (.i .u64 0 13))] (ty QtB),ZI [] 14,[],none⟩,
 ⟨178,cS [.s QeW] Qpb,ZI [] 14,[],none⟩]++Qvq
def Qvs:List Sp:=[⟨182,c0 [.t 100] (.uu [ty (pB 0 3),ty (.s 100),ty (.s 100)]),ZI [] 14,[],none⟩,
 ⟨171,c0 [.l [.i .u8 0 255] 1000000] (ty QtB),ZI [(0,λn=>⟨[(3,.ii .u64),(4,.nn .i64 n 0)],[],[],[(0,n,0),(n,1,0)],1,(1,0),(n,0)⟩)] 14,[],none⟩]++Qvr
def Qvt:List Sp:=[⟨179,c0 [.l Qbr 8,.v (ty (.s 100000))] tb,ZI [] 14,[],none⟩,
 ⟨218,cPl [.l Qbr 8,.v (ty (.s 100000))] 1,ZI [] 14,[],none⟩]++Qvs
def Qvu:List Sp:=[⟨206,c0 [.l Qbr 8] tb,ZI [] 14,[],none⟩,
 ⟨233,c0 [.l Qbr 8,.l [.c QbG] 8] tb,ZI [] 14,[],none⟩]++Qvt
def Qvv:List Sp:=[⟨272,MP [.t 100,.t 100] [] (λ_=>.bf [(2,1,0)] []) 0 (λ_=>[]),ZI [] 14,[],none⟩,
 ⟨181,cLk [.l Qbr 8,.v (ty (.s 100000))] [.c QbG] 5,ZI [] 14,[],none⟩]++Qvu
def Qvw:List Sp:=[⟨259,MP [.l [.s 100] 101] [] (λ_=>.uu [.aa (tyV KP),.bf [(1,0,3)] []]) 0 (λ_=>[]),ZI [] 14,[],none⟩,
 ⟨257,MP [.t 7] [] (λn=>.uu [ty (pB 1 9),.ss n 0]) 1 (λn=>[(0,n,0),(n,1,0)]),ZI [] 14,[],none⟩]++Qvv
def Qvx:List Sp:=[⟨238,c0 [.t 7] (.uu [.aa (tyV NE),QbF]),ZI [] 14,[],none⟩,
 ⟨258,MP [.t 7] [] (λn=>.uu [.ss n 0,.ss (n+1) 0]) 2 (λn=>[(0,n,0),(n,1,0),(0,n+1,0),(n+1,1,0)]),ZI [] 14,[],none⟩]++Qvw
def Qvy:List Sp:=[⟨239,c0 [.t 7] (ty (.s 7)),ZI [] 14,[],none⟩,
 ⟨237,cL [.t 7] [.s 7] (λn=>cIn n 1 8),{ZI [(0,λn=>⟨[(3,.oo 35 n 0),(4,.nn .i64 (n+1) 0),(5,.nn .i64 (n+2) 0)],[],[(35,.ww [.s 7] n 0 1 9)],[(0,n,0),(n,n+2,0),(0,n+1,0),(n+1,n+2,1),(n+1,1,0),(0,n+2,0),(n+2,1,0)],3,(1,0),(n+2,0)⟩)] 14 with nj:=[1,999]},[],none⟩]++Qvx
def sp39:List Sp:=[⟨241,c0 [.s [.l [.l NE 8] 6]] (ty (.s 1000000)),{anS [(0,some 0,true)] [QBG] 14 [3,999]with gh:=λb a=>if Nat.beq b 2=true then some ((Qii a 3).1,a.nx+1,3010,[(a.nx,a.nx+2,(Qii a 3).2)])else none},[],none⟩,
 ⟨240,c0 [.s [.l [.l NE 8] 8]] (.bf [(1,0,6)] []),anS [(0,some 0,true)] [QBF] 14 [],[],none⟩]++Qvy
def Qvz:List Sp:=[⟨212,c0 [.s [.l [.l NE 8] 8]] (ty (.s 1000000)),ZI [] 14,[],none⟩,
 ⟨242,c0 [.s [.l [.l NE 8] 8]] (.bf [(1,0,6)] []),ZI [] 14,[],none⟩]++sp39
def QvA:List Sp:=[⟨175,c0 [.t 7] tb,ZI [] 14,[],none⟩,
 ⟨211,MP [.t 7] [] (λn=>.uu [.aa [.ll [.l NE 8] n 0],QbF]) 1 (λn=>cIn n 0 8),anS [] [QBE,hdO 2 9 8 7 50 NE 7 211] 14 [],[],none⟩]++Qvz
def QvB:List Sp:=[⟨293,c0 [.s NE] (ty (pB 0 2)),ZI [] 14,[],none⟩,
 ⟨292,c0 [.s QeW,.v (ty (pB (-1) 2))] (.aa (tyV TH)),ZI [] 14,[],none⟩]++QvA
def QvC:List Sp:=[⟨277,cLk [.s NE] ZG 3,ZI [] 14,[],none⟩,
 ⟨287,c0 [.s NE] (.uu [.aa (tyV TH),.aa (tyV TH)]),ZI [] 14,[],none⟩]++QvB
def QvD:List Sp:=[⟨289,c0 [.s TH] (.aa (tyV TH)),ZI [] 14,[],none⟩,
 ⟨278,cLk [.s NE] ZG 1,ZI [] 14,[],none⟩]++QvC
def QvE:List Sp:=[⟨268,cS [.l NE 8] [.l ZG 5613,.l ZG 5613],ZI [] 14,[],none⟩,
 ⟨279,MP [.l ZG 2041,.l ZG 5613] [] (λn=>.uu [.aa [.ll ZG n 0,.ll ZG (n+1) 0],tb]) 2 (λn=>cIn n 0 4083++cIn (n+1) 0 5613),{ZI [(0,λn=>⟨[(6,.oo 44 n 0),(7,.nn .i64 (n+1) 0)],[4],[(44,.ww ZG n 0 14 193)],[(0,n,0),(n,n+1,0),(0,n+1,0),(n+1,1,0)],2,(1,0),(n+1,0)⟩)] 14 with nj:=[1,999]},[],none⟩]++QvD
def QvF:List Sp:=[⟨267,cS [.s [.l ZG 168405,.l ZG 168405],.s [.l ZG 5613,.l ZG 5613]] [.l ZG 348037,.l ZG 348037],ZI [] 14,[],none⟩,
 ⟨267,cS [.s [.l ZG 348037,.l ZG 348037],.s [.l ZG 5613,.l ZG 5613]] [.l ZG 707301,.l ZG 707301],ZI [] 14,[],none⟩]++QvE
def QvG:List Sp:=[⟨267,cS [.s [.l ZG 33681,.l ZG 33681],.s [.l ZG 5613,.l ZG 5613]] [.l ZG 78589,.l ZG 78589],ZI [] 14,[],none⟩,
 ⟨267,cS [.s [.l ZG 78589,.l ZG 78589],.s [.l ZG 5613,.l ZG 5613]] [.l ZG 168405,.l ZG 168405],ZI [] 14,[],none⟩]++QvF
def QvH:List Sp:=[⟨267,cS [.s [.l ZG 0,.l ZG 0],.s [.l ZG 5613,.l ZG 5613]] [.l ZG 11227,.l ZG 11227],ZI [] 14,[],none⟩,
 ⟨267,cS [.s [.l ZG 11227,.l ZG 11227],.s [.l ZG 5613,.l ZG 5613]] [.l ZG 33681,.l ZG 33681],ZI [] 14,[],none⟩]++QvG
def QvI:List Sp:=[⟨222,MP [.t 7] [] (λn=>.uu [.aa [.ll ZG n 0,.ll ZG (n+1) 0],QbF]) 2 (λn=>cIn n 0 1000000++cIn (n+1) 0 1000000),ZI [] 14,[],none⟩,
 ⟨249,cS [.s [.l [.l NE 8] 8]] Qpb,ZI [] 14,[],none⟩]++QvH
def QvJ:List Sp:=[⟨252,cS [.s [.l ZG 1,.l ZG 1],.s Qpb] [.l ZG 2000003,.l ZG 2000003],ZI [] 14,[],none⟩,
 ⟨252,cS [.s [.l ZG 2000003,.l ZG 2000003],.s Qpb] [.l ZG 6000007,.l ZG 6000007],ZI [] 14,[],none⟩]++QvI
def QvK:List Sp:=[⟨231,c0 [.s Tu,.s QhK,.v tb] QbF,ZI [] 14,[],none⟩,
 ⟨254,c0 [.l [.c QqV] 6,.v tb] tb,ZI [] 14,[],none⟩]++QvJ
def QvL:List Sp:=[⟨205,c0 [.s Tu,.s QzE] QbF,ZI [] 14,[],none⟩,
 ⟨204,c0 [.s Tu,.s QkP] QbF,ZI [] 14,[],none⟩]++QvK
def QvM:List Sp:=[⟨235,c0 [.s Tu,.v (ty (.s 100))] tb,anX [(0,some 6,true)] [] 14,[],none⟩,
 ⟨234,c0 [.s Tu,.v (ty (.s 100))] tb,ZI [] 14,[],none⟩]++QvL
def QvN:List Sp:=[⟨173,c0 [.s Tu] (.uu [QbF,Qrn]),ZI [] 14,[],none⟩,
 ⟨207,c0 [.s Tu,.l [.c QbG] 6] QbF,ZI [] 14,[],none⟩]++QvM
def QvO:List Sp:=[⟨210,c0 [.v (ty (.s 1000))] (ty (.s 1100)),ZI [] 14,[],none⟩,
 ⟨209,c0 [.s QhK] (ty (.s 3000)),ZI [] 14,[],none⟩]++QvN
def QvP:List Sp:=[⟨131,c0 [.s Tu] (.uu [QbF,Qrn]),ZI [] 14,[],none⟩,
 ⟨174,c0 [.s Tu] (ty (.s 100000)),anX [(0,some 6,true)] [] 14,[122],none⟩]++QvO
def QvQ:List Sp:=[⟨129,MP [.s Tu] [] (λn=>.uu [.ty QtB,.nn .i64 n 0]) 1 (λn=>cIn n 0 40),ZI [] 14,[],none⟩,
 ⟨170,c0 [.s Tu] (.uu [ty (.s 100000),QbF]),ZI [] 14,[],none⟩]++QvP
def QvR:List Sp:=[⟨130,cPl [.l BZ 10,nm,.s QeW] 1,ZI [] 14,[],none⟩,
 ⟨172,c0 [.s KP,.s KP] tb,ZI [] 14,[],none⟩]++QvQ
def QvS:List Sp:=[⟨90,cNo,ZI [] 14,[],some (QEe [.s H5,.s Tu] (λn=>.tp [.ty (.c Qik),.oo 500000 n 0] (.ei .i64 0 40 [(0,n, -1)])) 1 (λn=>[(0,n,0),(n,1,1)]) (λn=>[(500000,.ww BZ n 0 11 157)]))⟩,
 ⟨93,c0 [.s [.c Qik,.l BZ 10]] tb,ZI [] 14,[],none⟩]++QvR
def QvT:List Sp:=[⟨60,cS [pL,.i 0 4000,.i 0 5] Qen,ZI [] 14,[],none⟩,
 ⟨61,cS [pL,.i 0 4000,pc Qik,.i 4 4] H5,ZI [] 14,[],none⟩]++QvS
def QvU:List Sp:=[⟨251,Qfs 0,anS [] [Qsr 2 7 0 5] 14 [],[],none⟩,
 ⟨30,MP [pL,.i 0 1000] [] (λ_=>.uu [.ll Qen 0 1,.ll H5 0 1]) 0 (λ_=>[]),ZI [] 14,[],none⟩]++QvT
def QvV:List Sp:=[⟨251,Qfs 2,anS [] [Qsr 2 7 0 5] 14 [],[],none⟩,
 ⟨251,Qfs 1,anS [] [Qsr 2 7 0 5] 14 [],[],none⟩]++QvU
def QvW:List Sp:=[⟨251,Qfs 4,anS [] [Qsr 2 7 0 5] 14 [],[],none⟩,
 ⟨251,Qfs 3,anS [] [Qsr 2 7 0 5] 14 [],[],none⟩]++QvV
def QvX:List Sp:=[⟨66,cPl [.l H5 4,nm] 1,ZI [] 14,[],none⟩,
 ⟨94,cPl [.l H5 4,nm] 1,ZI [] 14,[],none⟩]++QvW
def QvY:List Sp:=[⟨269,c0 [.l QhJ 4] tb,ZI [] 14,[],none⟩,
 ⟨63,c0 [.l H5 4] tb,ZI [] 14,[],none⟩]++QvX
def QvZ:List Sp:=[⟨250,MP [.e H5 1,.l QhJ 4,nm] [] (λn=>.uu [.nn .i64 n 0,.nn .i64 (n+1) 0]) 2 (λn=>[(n,n+1,0)]++cIn n 0 3++cIn (n+1) 0 40),ZI [] 14,[],none⟩,
 ⟨270,c0 [.s H5,nm] tb,ZI [] 14,[],none⟩]++QvY
def Qv0:List Sp:=[⟨133,c0 [.l QtH 4] (.uu [QbF,Qrn]),ZI [] 14,[],none⟩,
 ⟨132,c0 [.l QhJ 4] (.uu [QbF,Qrn]),ZI [] 14,[],none⟩]++QvZ
def Qv1:List Sp:=[⟨92,cPl [.l Qen 4,nm] 1,ZI [] 14,[],none⟩,
 ⟨91,c0 [.s Qen] (.uu [QbF,Qrn]),ZI [] 14,[],none⟩]++Qv0
def Qv2:List Sp:=[⟨223,cPl [.l Qen 4,nm] 1,ZI [] 14,[],none⟩,
 ⟨62,MP [.l Qen 4] [] (λn=>.uu [.nn .i64 n 0,Qrn]) 1 (λn=>cIn n 0 40),ZI [] 14,[],none⟩]++Qv1
def Qv3:List Sp:=[⟨65,MP [.l Qen 2] [] (λn=>.uu [.ll QhJ n 0,.nn .i64 (n+1) 0]) 2 (λn=>cIn n 0 4++cIn (n+1) 0 40),anX [(0,none,true)] [] 14,[],none⟩,
 ⟨96,MP [.l QhJ 4,.s QhJ] [] (λn=>.uu [.ll QhJ n 0,tb]) 1 (λn=>[(0,n,0),(n,1,1)]),ZI [Qsq [3] 0 6 0 1 0] 14,[],none⟩]++Qv2
def Qv4:List Sp:=[⟨64,c0 [.s S6] tb,ZI [] 14,[],none⟩,
 ⟨225,MP [.l Qen 2,nm] [] (λn=>.uu [.aa (opV n QkQ),QbF]) 2 (λn=>Qtw n QkQ),anX [(0,none,true)] [] 14,[],none⟩]++Qv3
def Qv5:List Sp:=[⟨245,cL [.s QhK] F9 (λn=>cIn n 1 4),{anJ [] 14 [0,1,2,999]with vb:=true},[],none⟩,
 ⟨185,cS [.t 7] Qpb,ZI [] 14,[],none⟩]++Qv4
def Qv6:List Sp:=[⟨180,cLk [.s Tu,.s S6,nm] [.l PP 4] 14,ZI [] 14,[],none⟩,
 ⟨219,cLk [.s QkP] [.l PP 4] 6,ZI [] 14,[],none⟩]++Qv5
def Qv7:List Sp:=[⟨142,cLk [.s Tu,.s S6,nm] [.l PP 4] 90,ZI [] 14,[28],none⟩,
 ⟨183,cLk [.s Tu,.s S6,nm,nm] [.l PP 4] 14,ZI [] 14,[],none⟩]++Qv6
def Qv8:List Sp:=[⟨138,cL [.l F9 10000,.s F9] F9 (λn=>[(0,n, -1),(1,n,0),(n,1,1)]),ZI [Qsq [3] 0 5 0 1 0] 14,[],none⟩,
 ⟨176,c0 [.s F9,.s F9] tb,ZI [] 14,[],none⟩]++Qv7
def Qv9:List Sp:=[⟨139,cL [.l F9 900,.l [.l PP 4] 90] [.l Qbs 4] (λn=>[(n,2,0)]),ZI [(0,λn=>⟨[(5,.oo 37 n 0),(13,.nn .i64 (n+1) 0)],[],[(37,.ww [.l Qbs 4] n 0 1 68)],[(0,n,0),(n,n+1,0),(0,n+1,0),(n+1,2,0)],2,(2,0),(n+1,0)⟩)] 14,[],none⟩,
 ⟨177,cPl [.l F9 1000,.s F9] 1,ZI [Qsq [3] 0 5 0 1 0] 14,[],none⟩]++Qv8
def Qwa:List Sp:=[⟨226,cNo,ZI [] 14,[],some (Qrg 3000 [.aa (tyV Tu)] 0 [] (λ_=>tb) 0 (λ_=>[]))⟩,
 ⟨143,cLk [.l F9 900,.s Tu,.s S6] Qbs 2,ZI [] 14,[],none⟩]++Qv9
def Qwb:List Sp:=[⟨224,Qft 0,ZI [] 14,[],none⟩,
 ⟨140,cNo,ZI [] 14,[],some (Qrg 3000 [] 0 [] (λn=>.ll [.l PP 4] n 0) 1 (λn=>cIn n 0 2))⟩]++Qwa
def Qwc:List Sp:=[⟨224,Qft 2,ZI [] 14,[],none⟩,
 ⟨224,Qft 1,ZI [] 14,[],none⟩]++Qwb
def Qwd:List Sp:=[⟨224,Qft 4,ZI [] 14,[],none⟩,
 ⟨224,Qft 3,ZI [] 14,[],none⟩]++Qwc
def Qwe:List Sp:=[⟨144,cNo,{ZI [(0,λn=>⟨[(5,.nn .i64 n 0)],2::yB,[],[(0,n,0),(n,5,0)],1,(5,0),(n,0)⟩)] 14 with nj:=[0,1,2,999]},[],some (Qi4 3000 1 [ty (.s 100)] 0 [] (λn=>.ll Qeo n 0) 1 (λn=>cIn n 0 10))⟩,
 ⟨186,cNo,{anS [] [hdO 0 12 7 11 89 Qeo 10 231] 14 [1,999]with oy:=[(0,1,1)]},[],some (Qrg 3000 [ty (.s 100)] 0 [] (λn=>.ll Qeo n 0) 1 (λn=>cIn n 0 10))⟩]++Qwd
def Qwf:List Sp:=[⟨137,cNo,{anS [] [hdG 0 17 16 5 29 [.l PP 4] 1 222] 14 []with gh:=λ_ a=>some (0,a.nx+1,90,[(a.nx,a.nx+2,0)])},[],some (Qi4 1000 1 [.aa (tyV F9)] 0 [] (λn=>.ll [.l PP 4] n 0) 1 (λn=>cIn n 0 900))⟩,
 ⟨141,cNo,anS [] [hdO 0 7 6 5 38 Qeo 10 231] 14 [1,999],[],some (Qi4 2000 1 [.aa (tyV F9)] 0 [] (λn=>.ll Qeo n 0) 1 (λn=>cIn n 0 10))⟩]++Qwe
def QxK:List Sp:=[⟨98,cNo,anS [] [hdO 0 25 24 8 67 QkO 8 70] 14 [],[],some (Qi4 1000 2 [.ll F9 5 0,.aa (tyV F9)] 1 (cIn 5 0 48) (λn=>.uu [.ll QkO n 0,tb]) 1 (λn=>cIn n 0 16))⟩]++Qwf
def spA:List Sp:=QxK
def zR:Zc:=Qi4 900 50 [] 0 [] (λn=>.uu [.ll F9 n 0,.bf [(0,n, -1)] []]) 1 (λn=>cIn n 0 48)
def anR:An:={anS [] [hdR 2 28 26,hdR 4 34 32] 50 [3,5,999]with gh:=λb a=>if Nat.beq b 2=true then some (0,a.nx+2,4,[(a.nx,a.nx+3,48)])else if Nat.beq b 4=true then some (ghW a 4 48,a.nx+2,1,[(a.nx,a.nx+3,48)])else none}
def tbR:Tb:=⟨tbS spG spA,[15,23],zbS noZ spA⟩
def spZ:Nat->List Zc:=λf=>if Nat.beq f 97=true then zR::zbS noZ spA f else zbS noZ spA f
def spH:Nat->List Ct:=tbS spG spA
def sq:List Sp:=[⟨31,MP [.e Qen 1,.e H5 1,.s S6,.e Qdf 0] [] (λn=>.uu [.aa [.ll Qep n 0],.ei .i64 0 40 [(0,n, -1)]]) 1 (λn=>cIn n 0 48),ZI [] 14,[],none⟩,
 ⟨67,cNo,{anS [] [hdW] 14 [0,999]with gh:=λ_ a=>some (QB8 a,a.nx,2,[(a.nx+2,a.nx+3,0)])},[],some (QEd 10 1000 [] 0 [] (λn=>.uu [.aa [.ll Qep n 0],.bf [(0,n, -1)] []]) 1 (λn=>cIn n 0 48))⟩]
end Go.Proofs
