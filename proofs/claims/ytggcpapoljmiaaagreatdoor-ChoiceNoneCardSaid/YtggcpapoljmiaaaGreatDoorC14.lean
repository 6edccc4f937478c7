/- Part 14 of the means of the proof: a verified evaluator and contracts of functions. -/
import Derived.Test.YtggcpapoljmiaaaGreatDoorC6
import Derived.Test.YtggcpapoljmiaaaGreatDoorC4
set_option maxRecDepth 4000
set_option maxHeartbeats 4000000
set_option linter.unusedSimpArgs false
set_option linter.unusedVariables false
set_option linter.unusedSectionVars false
namespace Go.Proofs
open Go Go.Abs
set_option maxRecDepth 100000
set_option maxHeartbeats 0
def Qw7:List Nat:=[123,128,136,161,162,166,167,168,169,197,198,199,200,202,230]
def prE (P:Program) (n:Nat):Bool:=(spG 128).all λc=>ctE P Qw7 n c 128
theorem Qqg:prE Tryz.prog 60=true:=by decide+kernel
theorem Qpt (hm:Tryz.prog.follows .mixedOrders=true):∀c∈spG 128,c.ok Tryz.prog 128:=λc C=>Ct.ni hm (QzX.1 Qqg c C)
def rIs:List Tp:=[pB 1 1,pB 0 0,pB 0 0,pB 0 2,.c tWord]
def Qv7:List Tp:=[pB 2 2,pB 0 0,pB 0 0,pB 0 0,.c [[]]]
def shM (i:Nat):List (List Tp):=if Nat.beq i 0=true then[]else if Nat.beq i 1=true then[rIs]else[rIs,Qv7]
def fxM (i:Nat):Vl:=.fx ((shM i).map λr=>r.map Vl.ty)
def tW1 (s:List UInt8):List (List UInt8):=tKey.flatMap λk=>tWord.map λw=>k++s++w
def Qi3 (i:Nat):List (List UInt8):=if Nat.beq i 0=true then[[]]else if Nat.beq i 1=true then tW1 [32,61,32]else tW1 [32,33,61,32]
def Qof (i:Nat):Ct:=c0 [pc (Qi3 i)] (.uu [.aa [fxM i],Dj])
def QcS (i:Nat):Ct:=c0 [.v (.aa [fxM i])] tb
def Qog (i:Nat):Ct:=c0 [.v (.aa [fxM i])] (ty (.s 300))
def fsW:List Nat:=[220,246,247,261,262,263,264,265,273,274,275,283,284,285,291,197,95,135,136,255]
def gW:Nat->List Ct:=λf=>if Nat.beq f 220=true then[Qof 0,Qof 1,Qof 2]else if Nat.beq f 247=true then[QcS 0,QcS 1,QcS 2]else if Nat.beq f 255=true then[Qog 0,Qog 1,Qog 2]else[]
def an0:An:=Zp [] 14
def QhH (i:Nat):Ct:=c0 [pc (Qi3 i)] tb
def QhG (i:Nat):Ct:=c0 [pc (Qi3 i),.s GN] tb
def spW:List Sp:=[⟨184,QhG 0,an0,[],none⟩,⟨184,QhG 1,an0,[],none⟩,⟨184,QhG 2,an0,[],none⟩,⟨232,QhH 0,an0,[],none⟩,⟨232,QhH 1,an0,[],none⟩,⟨232,QhH 2,an0,[],none⟩,
 ⟨221,c0 [.v (.aa [fxM 0]),.s GN] (ty (pB 0 2)),an0,[],none⟩,⟨221,c0 [.v (.aa [fxM 1]),.s GN] (ty (pB 0 2)),an0,[],none⟩,⟨221,c0 [.v (.aa [fxM 2]),.s GN] (ty (pB 0 2)),an0,[],none⟩,
 ⟨248,c0 [.v (.aa [fxM 1]),.s GN] (.ll [pB 0 2] 0 1),an0,[],none⟩,⟨248,c0 [.v (.aa [fxM 2]),.s GN] (.ll [pB 0 2] 0 2),an0,[],none⟩,
 ⟨266,c0 [.s rIs,.l [pB 0 2] 2,.s GN] (ty (pB 0 2)),an0,[],none⟩,⟨266,c0 [.s Qv7,.e [pB 0 2] 1,.s GN] (ty (pB 0 2)),an0,[],none⟩,
 ⟨64,c0 [.s GN] tb,an0,[],none⟩,⟨95,c0 [.t 100000] tb,Zp [Qlw 0 3 0 1 0] 14,[],none⟩,⟨136,c0 [.v (ty (.i .u8 0 255))] tb,an0,[],none⟩,⟨135,c0 [.v (ty (.i .u8 0 255))] tb,an0,[],none⟩]
theorem QqI:YV Tryz.prog gW noZ spW=true:=by decide+kernel
def fsR:List Nat:=[175,123,128,136,161,162,166,167,168,169,197,198,199,200,202,211,212,230,237,238,239,240,241,242,257,258,259,272]
def Bo (i:Nat):List (List UInt8):=(tRange.drop (4*i)).take 4
end Go.Proofs
