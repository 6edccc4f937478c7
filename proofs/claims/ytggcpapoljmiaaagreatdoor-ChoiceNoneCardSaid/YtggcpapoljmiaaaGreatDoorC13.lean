/- Part 13 of the means of the proof: a verified evaluator and contracts of functions. -/
import Derived.Test.YtggcpapoljmiaaaGreatDoorC11
import Derived.Test.YtggcpapoljmiaaaGreatDoorC12
set_option maxRecDepth 4000
set_option maxHeartbeats 4000000
set_option linter.unusedSimpArgs false
set_option linter.unusedVariables false
set_option linter.unusedSectionVars false
namespace Go.Proofs
open Go Go.Abs
theorem QN {P:Program} {g:Nat->List Ct} {gz:Nat->List Zc} {n:Nat} {a l m:List Sp} (ha:a=l++m) (C:l.length=n) (h:Xm P g gz n a=true) (hm:YV P g gz m=true):YV P g gz a=true:=by
 subst ha;exact Qee C h hm
theorem cs0:YV Tryz.prog spG noZ sp0=true:=QN (m:=[]) (QAj _).symm rfl Qqx rfl
theorem cs1:YV Tryz.prog spG noZ sp1=true:=QN (m:=sp0) rfl rfl Qqy cs0
theorem cs2:YV Tryz.prog spG noZ sp2=true:=QN (m:=sp1) rfl rfl Qqz cs1
theorem cs3:YV Tryz.prog spG noZ sp3=true:=QN (m:=sp2) rfl rfl QqA cs2
theorem cs4:YV Tryz.prog spG noZ sp4=true:=QN (m:=sp3) rfl rfl QqB cs3
theorem cs5:YV Tryz.prog spG noZ sp5=true:=QN (m:=sp4) rfl rfl QqC cs4
theorem cs6:YV Tryz.prog spG noZ sp6=true:=QN (m:=sp5) rfl rfl QqD cs5
theorem cs7:YV Tryz.prog spG noZ sp7=true:=QN (m:=sp6) rfl rfl QqE cs6
theorem cs8:YV Tryz.prog spG noZ sp8=true:=QN (m:=sp7) rfl rfl QqF cs7
theorem cs9:YV Tryz.prog spG noZ sp9=true:=QN (m:=sp8) rfl rfl QqG cs8
theorem Qwn:YV Tryz.prog spG noZ QrB=true:=QN (m:=sp9) rfl rfl Qm4 cs9
theorem Qwo:YV Tryz.prog spG noZ QrC=true:=QN (m:=QrB) rfl rfl Qm5 Qwn
theorem Qwp:YV Tryz.prog spG noZ QrD=true:=QN (m:=QrC) rfl rfl Qm6 Qwo
theorem Qwq:YV Tryz.prog spG noZ QrE=true:=QN (m:=QrD) rfl rfl Qm7 Qwp
theorem Qwr:YV Tryz.prog spG noZ QrF=true:=QN (m:=QrE) rfl rfl Qm8 Qwq
theorem Qws:YV Tryz.prog spG noZ QrG=true:=QN (m:=QrF) rfl rfl Qm9 Qwr
theorem Qwt:YV Tryz.prog spG noZ QrH=true:=QN (m:=QrG) rfl rfl Qna Qws
theorem Qwu:YV Tryz.prog spG noZ QrI=true:=QN (m:=QrH) rfl rfl Qnb Qwt
theorem Qwv:YV Tryz.prog spG noZ QrJ=true:=QN (m:=QrI) rfl rfl Qnc Qwu
theorem Qww:YV Tryz.prog spG noZ QrK=true:=QN (m:=QrJ) rfl rfl Qnd Qwv
theorem Qwx:YV Tryz.prog spG noZ QrL=true:=QN (m:=QrK) rfl rfl Qne Qww
theorem Qwy:YV Tryz.prog spG noZ QrM=true:=QN (m:=QrL) rfl rfl Qnf Qwx
theorem Qwz:YV Tryz.prog spG noZ QrN=true:=QN (m:=QrM) rfl rfl Qng Qwy
theorem QwA:YV Tryz.prog spG noZ QrO=true:=QN (m:=QrN) rfl rfl Qnh Qwz
theorem QwB:YV Tryz.prog spG noZ QrP=true:=QN (m:=QrO) rfl rfl Qni QwA
theorem QwC:YV Tryz.prog spG noZ QrQ=true:=QN (m:=QrP) rfl rfl Qnj QwB
theorem QwD:YV Tryz.prog spG noZ QrR=true:=QN (m:=QrQ) rfl rfl Qnk QwC
theorem QwE:YV Tryz.prog spG noZ QrS=true:=QN (m:=QrR) rfl rfl Qnl QwD
theorem QwF:YV Tryz.prog spG noZ QrT=true:=QN (m:=QrS) rfl rfl Qnm QwE
theorem QwG:YV Tryz.prog spG noZ QrU=true:=QN (m:=QrT) rfl rfl Qnn QwF
theorem QwH:YV Tryz.prog spG noZ QrV=true:=QN (m:=QrU) rfl rfl Qno QwG
theorem QwI:YV Tryz.prog spG noZ QrW=true:=QN (m:=QrV) rfl rfl Qnp QwH
theorem QwJ:YV Tryz.prog spG noZ QrX=true:=QN (m:=QrW) rfl rfl Qnq QwI
theorem QwK:YV Tryz.prog spG noZ QrY=true:=QN (m:=QrX) rfl rfl Qnr QwJ
theorem QwL:YV Tryz.prog spG noZ QrZ=true:=QN (m:=QrY) rfl rfl Qns QwK
theorem QwM:YV Tryz.prog spG noZ Qr0=true:=QN (m:=QrZ) rfl rfl Qnt QwL
theorem QwN:YV Tryz.prog spG noZ Qr1=true:=QN (m:=Qr0) rfl rfl Qnu QwM
theorem QwO:YV Tryz.prog spG noZ Qr2=true:=QN (m:=Qr1) rfl rfl Qnv QwN
theorem QwP:YV Tryz.prog spG noZ Qr3=true:=QN (m:=Qr2) rfl rfl Qnw QwO
theorem QwQ:YV Tryz.prog spG noZ Qr4=true:=QN (m:=Qr3) rfl rfl Qnx QwP
theorem QwR:YV Tryz.prog spG noZ Qr5=true:=QN (m:=Qr4) rfl rfl Qny QwQ
theorem QwS:YV Tryz.prog spG noZ Qr6=true:=QN (m:=Qr5) rfl rfl Qnz QwR
theorem QwT:YV Tryz.prog spG noZ Qr7=true:=QN (m:=Qr6) rfl rfl QnA QwS
theorem QwU:YV Tryz.prog spG noZ Qr8=true:=QN (m:=Qr7) rfl rfl QnB QwT
theorem QwV:YV Tryz.prog spG noZ Qr9=true:=QN (m:=Qr8) rfl rfl QnC QwU
theorem QwW:YV Tryz.prog spG noZ Qsa=true:=QN (m:=Qr9) rfl rfl QnD QwV
theorem QwX:YV Tryz.prog spG noZ Qsb=true:=QN (m:=Qsa) rfl rfl QnE QwW
theorem QwY:YV Tryz.prog spG noZ Qsc=true:=QN (m:=Qsb) rfl rfl QnF QwX
theorem QwZ:YV Tryz.prog spG noZ Qsd=true:=QN (m:=Qsc) rfl rfl QnG QwY
theorem Qw0:YV Tryz.prog spG noZ Qse=true:=QN (m:=Qsd) rfl rfl QnH QwZ
theorem Qw1:YV Tryz.prog spG noZ QtW=true:=QN (m:=Qse) rfl rfl QnI Qw0
theorem Qjq (hm:Tryz.prog.follows .mixedOrders=true) (C:∀f,∀c∈spG f,c.ok Tryz.prog f):∀f,∀c∈tbS spG spA f,c.ok Tryz.prog f:=(QgC hm C (gz:=noZ) (λ_ _ h=>by cases h) Qw1).1
end Go.Proofs
