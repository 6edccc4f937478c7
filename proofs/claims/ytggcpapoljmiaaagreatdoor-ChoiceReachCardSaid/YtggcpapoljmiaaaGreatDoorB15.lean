/- Part 15 of the means of the proof: a verified evaluator and contracts of functions. -/
import Derived.Test.YtggcpapoljmiaaaGreatDoorB10
set_option maxRecDepth 4000
set_option maxHeartbeats 4000000
set_option linter.unusedSimpArgs false
set_option linter.unusedVariables false
set_option linter.unusedSectionVars false
namespace Go.Proofs
open Go Go.Abs
set_option maxRecDepth 100000
set_option maxHeartbeats 0
def rIs:List Tp:=[pB 1 1,pB 0 0,pB 0 0,pB 0 2,.c tWord]
def Qwn:List Tp:=[pB 2 2,pB 0 0,pB 0 0,pB 0 0,.c [[]]]
def shM (i:Nat):List (List Tp):=if Nat.beq i 0=true then[]else if Nat.beq i 1=true then[rIs]else[rIs,Qwn]
def fxM (i:Nat):Vl:=.fx ((shM i).map λr=>r.map Vl.ty)
def tW1 (s:List UInt8):List (List UInt8):=tKey.flatMap λk=>tWord.map λw=>k++s++w
def Qjn (i:Nat):List (List UInt8):=if Nat.beq i 0=true then[[]]else if Nat.beq i 1=true then tW1 [32,61,32]else tW1 [32,33,61,32]
def Qou (i:Nat):Ct:=c0 [pc (Qjn i)] (.uu [.aa [fxM i],QaZ])
def Qdi (i:Nat):Ct:=c0 [.v (.aa [fxM i])] tb
def Qov (i:Nat):Ct:=c0 [.v (.aa [fxM i])] (ty (.s 300))
def fsW:List Nat:=[220,246,247,261,262,263,264,265,273,274,275,283,284,285,291,197,95,135,136,255]
def gW:Nat->List Ct:=λf=>if Nat.beq f 220=true then[Qou 0,Qou 1,Qou 2]else if Nat.beq f 247=true then[Qdi 0,Qdi 1,Qdi 2]else if Nat.beq f 255=true then[Qov 0,Qov 1,Qov 2]else[]
def an0:An:=Zr [] 14
def Qh2 (i:Nat):Ct:=c0 [pc (Qjn i)] tb
def Qh1 (i:Nat):Ct:=c0 [pc (Qjn i),.s GS] tb
def spW:List Sp:=[⟨184,Qh1 0,an0,[],none⟩,⟨184,Qh1 1,an0,[],none⟩,⟨184,Qh1 2,an0,[],none⟩,⟨232,Qh2 0,an0,[],none⟩,⟨232,Qh2 1,an0,[],none⟩,⟨232,Qh2 2,an0,[],none⟩,
 ⟨221,c0 [.v (.aa [fxM 0]),.s GS] (ty (pB 0 2)),an0,[],none⟩,⟨221,c0 [.v (.aa [fxM 1]),.s GS] (ty (pB 0 2)),an0,[],none⟩,⟨221,c0 [.v (.aa [fxM 2]),.s GS] (ty (pB 0 2)),an0,[],none⟩,
 ⟨248,c0 [.v (.aa [fxM 1]),.s GS] (.ll [pB 0 2] 0 1),an0,[],none⟩,⟨248,c0 [.v (.aa [fxM 2]),.s GS] (.ll [pB 0 2] 0 2),an0,[],none⟩,
 ⟨266,c0 [.s rIs,.l [pB 0 2] 2,.s GS] (ty (pB 0 2)),an0,[],none⟩,⟨266,c0 [.s Qwn,.e [pB 0 2] 1,.s GS] (ty (pB 0 2)),an0,[],none⟩,
 ⟨64,c0 [.s GS] tb,an0,[],none⟩,⟨95,c0 [.t 100000] tb,Zr [QlO 0 3 0 1 0] 14,[],none⟩,⟨136,c0 [.v (ty (.i .u8 0 255))] tb,an0,[],none⟩,⟨135,c0 [.v (ty (.i .u8 0 255))] tb,an0,[],none⟩]
theorem QqU:YW Tryz.prog gW noZ spW=true:=by decide+kernel
def fsR:List Nat:=[175,123,128,136,161,162,166,167,168,169,197,198,199,200,202,211,212,230,237,238,239,240,241,242,257,258,259,272]
def BM (i:Nat):List (List UInt8):=(tRange.drop (4*i)).take 4
end Go.Proofs
