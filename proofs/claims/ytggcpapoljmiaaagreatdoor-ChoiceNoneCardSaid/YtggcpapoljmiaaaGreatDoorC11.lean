/- Part 11 of the means of the proof: a verified evaluator and contracts of functions. -/
import Derived.Test.YtggcpapoljmiaaaGreatDoorC6
namespace Go.Proofs
open Go Go.Abs
set_option maxRecDepth 100000
set_option maxHeartbeats 0
theorem Qqx:Xm Tryz.prog spG noZ 2 sp0=true:=by decide+kernel
theorem Qqy:Xm Tryz.prog spG noZ 2 sp1=true:=by decide+kernel
theorem Qqz:Xm Tryz.prog spG noZ 2 sp2=true:=by decide+kernel
theorem QqA:Xm Tryz.prog spG noZ 2 sp3=true:=by decide+kernel
theorem QqB:Xm Tryz.prog spG noZ 2 sp4=true:=by decide+kernel
theorem QqC:Xm Tryz.prog spG noZ 2 sp5=true:=by decide+kernel
theorem QqD:Xm Tryz.prog spG noZ 2 sp6=true:=by decide+kernel
theorem QqE:Xm Tryz.prog spG noZ 2 sp7=true:=by decide+kernel
theorem QqF:Xm Tryz.prog spG noZ 2 sp8=true:=by decide+kernel
theorem QqG:Xm Tryz.prog spG noZ 2 sp9=true:=by decide+kernel
theorem Qm4:Xm Tryz.prog spG noZ 2 QrB=true:=by decide+kernel
theorem Qm5:Xm Tryz.prog spG noZ 2 QrC=true:=by decide+kernel
theorem Qm6:Xm Tryz.prog spG noZ 2 QrD=true:=by decide+kernel
theorem Qm7:Xm Tryz.prog spG noZ 2 QrE=true:=by decide+kernel
theorem Qm8:Xm Tryz.prog spG noZ 2 QrF=true:=by decide+kernel
theorem Qm9:Xm Tryz.prog spG noZ 2 QrG=true:=by decide+kernel
theorem Qna:Xm Tryz.prog spG noZ 2 QrH=true:=by decide+kernel
theorem Qnb:Xm Tryz.prog spG noZ 2 QrI=true:=by decide+kernel
theorem Qnc:Xm Tryz.prog spG noZ 2 QrJ=true:=by decide+kernel
theorem Qnd:Xm Tryz.prog spG noZ 2 QrK=true:=by decide+kernel
theorem Qne:Xm Tryz.prog spG noZ 2 QrL=true:=by decide+kernel
theorem Qnf:Xm Tryz.prog spG noZ 2 QrM=true:=by decide+kernel
theorem Qng:Xm Tryz.prog spG noZ 2 QrN=true:=by decide+kernel
theorem Qnh:Xm Tryz.prog spG noZ 2 QrO=true:=by decide+kernel
theorem Qni:Xm Tryz.prog spG noZ 2 QrP=true:=by decide+kernel
theorem Qnj:Xm Tryz.prog spG noZ 2 QrQ=true:=by decide+kernel
theorem Qnk:Xm Tryz.prog spG noZ 2 QrR=true:=by decide+kernel
theorem Qnl:Xm Tryz.prog spG noZ 2 QrS=true:=by decide+kernel
theorem Qnm:Xm Tryz.prog spG noZ 2 QrT=true:=by decide+kernel
theorem Qnn:Xm Tryz.prog spG noZ 2 QrU=true:=by decide+kernel
theorem Qno:Xm Tryz.prog spG noZ 2 QrV=true:=by decide+kernel
theorem Qnp:Xm Tryz.prog spG noZ 2 QrW=true:=by decide+kernel
theorem Qnq:Xm Tryz.prog spG noZ 2 QrX=true:=by decide+kernel
theorem Qnr:Xm Tryz.prog spG noZ 2 QrY=true:=by decide+kernel
theorem Qns:Xm Tryz.prog spG noZ 2 QrZ=true:=by decide+kernel
theorem Qnt:Xm Tryz.prog spG noZ 2 Qr0=true:=by decide+kernel
theorem Qnu:Xm Tryz.prog spG noZ 2 Qr1=true:=by decide+kernel
theorem Qnv:Xm Tryz.prog spG noZ 2 Qr2=true:=by decide+kernel
theorem Qnw:Xm Tryz.prog spG noZ 2 Qr3=true:=by decide+kernel
theorem Qnx:Xm Tryz.prog spG noZ 2 Qr4=true:=by decide+kernel
theorem Qny:Xm Tryz.prog spG noZ 2 Qr5=true:=by decide+kernel
theorem Qnz:Xm Tryz.prog spG noZ 2 Qr6=true:=by decide+kernel
theorem QnA:Xm Tryz.prog spG noZ 2 Qr7=true:=by decide+kernel
theorem QnB:Xm Tryz.prog spG noZ 2 Qr8=true:=by decide+kernel
theorem QnC:Xm Tryz.prog spG noZ 2 Qr9=true:=by decide+kernel
end Go.Proofs
