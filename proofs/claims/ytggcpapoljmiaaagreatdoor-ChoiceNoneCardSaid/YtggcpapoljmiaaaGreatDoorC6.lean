/- Part 6 of the means of the proof: a verified evaluator and contracts of functions. -/
import Derived.Test.YtggcpapoljmiaaaGreatDoorC4
import Derived.Test.YtggcpapoljmiaaaGreatDoorProg
set_option maxRecDepth 4000
set_option maxHeartbeats 4000000
set_option linter.unusedSimpArgs false
set_option linter.unusedVariables false
set_option linter.unusedSectionVars false
namespace Go.Proofs
open Go Go.Abs
def ty (t:Tp):Vl:=.ty t
def tb:Vl:=ty .b
def Dj:Vl:=ty (pB 0 40)
def pL:Pm:=.u [tI]
def pc (t:List (List UInt8)):Pm:=.v (ty (.c t))
def c0 (ps:List Pm) (rv:Vl):Ct:=S4 ps [] (λ_=>rv) 0 (λ_=>[])
def cPl (ps:List Pm) (x:Nat):Ct:=S4 ps [] (λn=>.nn .i64 n 0) 1 (λn=>[(0,n,1),(n,x, -1)])
def pI:Pm:=.i (-9223372036854775808) 9223372036854775807
def cL (ps:List Pm) (row:List Tp) (bd:Nat->List Cn):Ct:=S4 ps [] (λn=>.ll row n 0) 1 (λn=>(0,n,0)::bd n)
def cLk (ps:List Pm) (row:List Tp) (k:Nat):Ct:=cL ps row (λn=>[(n,0,(k:Int))])
def cS (ps:List Pm) (row:List Tp):Ct:=S4 ps [] (λn=>.aa (opV n row)) (opN row) (λn=>CO n row)
def nm:Pm:=.v (ty (.s 100))
def cLa (p q:Nat):Ct:=cLk [.l Yo p,.l Yo q] Yo (2*(p+q)+1)
def QzJ (ps:List Pm) (rv:Nat->Vl) (k:Nat) (rc:Nat->List Cn) (rb:Nat->List (Nat × Bx)):Zc:=
 match pms 1 ps with
 |(a,c,n)=>⟨a,n,c,[],rv n,n+k,rc n,rb n⟩
def cNo:Ct:=⟨[],1,[],.dd .undef,1,[]⟩
def spG:Nat->List Ct:=λf=>
 if Nat.beq f 35=true then[⟨[ty tI,.nn .i64 1 0],2,[(0,1, -1),(1,0,1000)],.nn .i64 2 0,3,[(0,2,0),(2,1, -1)]⟩]else
 if Nat.beq f 128=true then[c0 [.v (.aa (tyV [pB 2 2,pB 3 3,pB 0 2,pB 0 1,pB 0 0,.c [[]],.c [[]]]))] (ty (.c tRange)),c0 [.v (.aa (tyV [pB 1 1,pB 3 3,pB 0 2,pB 0 1,pB 0 0,.c [[]],.c [[]]]))] (ty (.c tRange)),c0 [.v (.aa (tyV [pB 3 3,pB 3 3,pB 0 2,pB 0 1,pB 0 0,.c [[]],.c [[]]]))] (ty (.c tRange)),c0 [.v (.aa (tyV [pB 6 6,pB 3 3,pB 0 2,pB 0 1,pB 0 0,.c [[]],.c [[]]]))] (ty (.c tRange)),c0 [.v (.aa (tyV [pB 7 7,pB 3 3,pB 0 2,pB 0 1,pB 0 0,.c [[]],.c [[]]]))] (ty (.c tRange))]else
 if Nat.beq f 232=true then[c0 [pc NQ] tb]else
 if Nat.beq f 175=true then[c0 [pc tRange] tb]else
 if Nat.beq f 222=true then[c0 [pc tRange] (.uu [.aa [ty (.l Yo 9),ty (.l Yo 9)],Dj])]else
 if Nat.beq f 271=true then[cLa 1 9,cLa 25 9]else
 if Nat.beq f 185=true then[c0 [pc tRange] (.aa [ty (.px 0),ty (.px 1)])]else
 if Nat.beq f 184=true then[c0 [pc NQ,.s GN] tb]else
 []
def noZ:Nat->List Zc:=λ_=>[]
def sp0:List Sp:=[⟨50,S4 [pL,pI,.i 1 1000] [] (λn=>.nn .i64 n 0) 1 (λn=>[(0,n,0),(n,3, -1)]),Zp [] 14,[],none⟩,
 ⟨79,c0 [pL,pI] (ty tI),Zp [] 14,[],none⟩]
def sp1:List Sp:=[⟨88,c0 [.v (ty tI)] (ty (.c tName)),Zp [] 14,[],none⟩,
 ⟨68,c0 [.v (ty tI)] (ty (.c tWord)),Zp [] 14,[],none⟩]++sp0
def sp2:List Sp:=[⟨126,c0 [pL,.i 0 9000] (ty (.c NQ)),Zp [] 14,[],none⟩,
 ⟨32,c0 [pL,.i 0 9000] (.aa (tyV GN)),Zp [] 14,[],none⟩]++sp1
def sp3:List Sp:=[⟨136,c0 [.v (ty (.i .u8 0 255))] tb,Zp [] 14,[],none⟩,
 ⟨135,c0 [.v (ty (.i .u8 0 255))] tb,Zp [] 14,[],none⟩]++sp2
def sp4:List Sp:=[⟨230,c0 [.v (ty Qos)] (ty (.s 49)),Zp [] 23,[],none⟩,
 ⟨199,c0 [.t 100000] (.uu [ty (pB 0 9999),tb]),Zp [] 14,[],none⟩]++sp3
def sp5:List Sp:=[⟨197,cL [.t 100,.v (ty (.i .u8 0 255))] [.s 100] (λn=>[(0,n, -1),(n,1,1)]),Zp [(0,λn=>⟨[(5,.oo 25 n 0),(6,.nn .i64 (n+1) 0),(7,.nn .i64 (n+2) 0)],[],[(25,.ww [.s 100] n 0 1 9)],[(0,n,0),(n,n+2,0),(0,n+1,0),(n+1,n+2,0),(0,n+2,0),(n+2,1,0)],3,(1,0),(n+2,0)⟩)] 14 |> λa=>{a with nj:=[1,999]},[],none⟩,
 ⟨202,c0 [.v (ty tI)] (ty (.s 50)),Zp [] 14,[],none⟩]++sp4
def sp6:List Sp:=[⟨200,c0 [.t 100000] tb,Zp [Qlw 0 3 0 1 0] 14,[],none⟩,
 ⟨197,cL [.t 7,.v (ty (.i .u8 0 255))] [.s 7] (λn=>[(0,n, -1),(n,1,1)]),Zp [(0,λn=>⟨[(5,.oo 25 n 0),(6,.nn .i64 (n+1) 0),(7,.nn .i64 (n+2) 0)],[],[(25,.ww [.s 7] n 0 1 9)],[(0,n,0),(n,n+2,0),(0,n+1,0),(n+1,n+2,0),(0,n+2,0),(n+2,1,0)],3,(1,0),(n+2,0)⟩)] 14 |> λa=>{a with nj:=[1,999]},[],none⟩]++sp5
def sp7:List Sp:=[⟨162,c0 [.t 100,.v tb] tb,Zp [] 14,[],none⟩,
 ⟨198,c0 [.t 100000] tb,Zp [Qlw 0 3 0 1 0] 14,[],none⟩]++sp6
def sp8:List Sp:=[⟨123,c0 [.s R4] tb,Zp [] 14,[],none⟩,
 ⟨161,c0 [.v (ty tI)] tb,Zp [] 14,[],none⟩]++sp7
def sp9:List Sp:=[⟨253,c0 [.v (ty (.s 1000)),.v (ty (.s 1000))] (ty (pB (-1) 1)),Zp [] 14,[],none⟩,
 ⟨189,c0 [.v (ty tI),.v (ty tI)] (ty (pB (-1) 1)),Zp [] 14,[],none⟩]++sp8
def QrB:List Sp:=[⟨190,c0 [.v (ty (.s 100)),.v (ty (.s 100))] (ty (pB (-1) 1)),Zp [(1,λn=>⟨[(7,.nn .i64 n 0)],[],[],[(0,n,0),(n,n - 3,0)],1,(n - 3,0),(n,0)⟩)] 14,[],none⟩,
 ⟨227,c0 [.v (ty (.s 1000)),.v (ty (.s 1000))] (ty (pB (-1) 1)),Zp [] 14,[],none⟩]++sp9
def QrC:List Sp:=[⟨236,c0 [.s Qrv] (ty (.s 200)),Zp [] 14,[],none⟩,
 ⟨147,c0 [.s R4,.s R4] (ty (pB (-1) 1)),Zp [] 14,[],none⟩]++QrB
def QrD:List Sp:=[⟨168,c0 [.l [.s 100] 10,.v (ty (.i .u8 0 255))] (ty (.s 2000)),Zp [] 14,[],none⟩,
 ⟨208,c0 [.s Qrv] (ty (.s 300)),Zp [] 14,[],none⟩]++QrC
def QrE:List Sp:=[⟨164,cS [pL,.i 0 8000,.i 0 5,.v tb] Qf3,Zp [] 14,[],none⟩,
 ⟨89,c0 [pL,.i 0 9000] (ty (.c tRange)),Zp [] 14,[],none⟩]++QrD
def QrF:List Sp:=[⟨165,cL [.l [.c tItem] 10,pc tItem] [.c tItem] (λn=>[(n,1,1)]),Zp [Qlw 0 5 0 1 0] 14,[],none⟩,
 ⟨125,cS [pL,.i 0 7000,.i 0 5] Qc7,Zp [] 14,[],none⟩]++QrE
def QrG:List Sp:=[⟨87,cS [pL,.i 0 6000,.i 0 5] YQ,Zp [] 14,[],none⟩,
 ⟨127,cLk [pL,.i 0 7000,.s YQ] Mr 4,Zp [] 14,[],none⟩]++QrF
def QrH:List Sp:=[⟨134,c0 [.t 100000] tb,Zp [Qlw 0 3 1 1 0] 14,[],none⟩,
 ⟨95,c0 [.t 100000] tb,Zp [Qlw 0 3 0 1 0] 14,[],none⟩]++QrG
def QrI:List Sp:=[⟨229,c0 [.s Qdx] tb,Zp [] 14,[],none⟩,
 ⟨256,c0 [.l [.s 100000] 10] tb,Zp [] 14,[],none⟩]++QrH
def QrJ:List Sp:=[⟨201,c0 [.s Qdx,.s R4] tb,Zp [] 14,[],none⟩,
 ⟨195,c0 [.s Qdx,.s Qdx] (ty (pB (-1) 1)),Zp [] 14,[],none⟩]++QrI
def QrK:List Sp:=[⟨163,c0 [.s Yo,.s R4] tb,Zp [] 14,[],none⟩,
 ⟨194,c0 [.s Yo] tb,Zp [] 14,[],none⟩]++QrJ
def QrL:List Sp:=[⟨109,c0 [] (.aa (tyV Qdx)),Zp [] 14,[],none⟩,
 ⟨108,c0 [] (.aa (tyV Qdx)),Zp [] 14,[],none⟩]++QrK
def QrM:List Sp:=[⟨124,c0 [.l Yo 10000000,.s R4] tb,Zp [QsW [3] 0 5 0 1 0] 14,[],none⟩,
 ⟨159,c0 [.l Yo 10000000] tb,Zp [Qlw 0 3 0 1 0] 14,[],none⟩]++QrL
def QrN:List Sp:=[⟨160,c0 [.s Qdx] tb,Zp [] 14,[],none⟩,
 ⟨196,c0 [.s R4] tb,Zp [] 14,[],none⟩]++QrM
def QrO:List Sp:=[⟨86,c0 [.s Qc8,.s R4] tb,Zp [] 14,[],none⟩,
 ⟨122,c0 [.s Qc8] tb,Zp [QsW [1] 0 3 0 1 0] 14,[],none⟩]++QrN
def QrP:List Sp:=[⟨78,S4 [] [] (λn=>.ll Yo n 0) 1 (λn=>cIn n 0 1),Zp [] 14,[],none⟩,
 ⟨213,c0 [] (.aa [.ll Yo 0 0,.ll Yo 0 0]),Zp [] 14,[],none⟩]++QrO
def QrQ:List Sp:=[⟨203,c0 [.v (.ii .u64),.v (ty (.i .u64 0 13))] (ty Qos),Zp [] 14,[],none⟩,
 ⟨47,cS [] [.l Yo 1,.l Yo 1],Zp [] 14,[],none⟩]++QrP
def QrR:List Sp:=[⟨182,c0 [.t 100] (.uu [ty (pB 0 3),ty (.s 100),ty (.s 100)]),Zp [] 14,[],none⟩,
 ⟨171,c0 [.l [.i .u8 0 255] 1000000] (ty Qos),Zp [(0,λn=>⟨[(3,.ii .u64),(4,.nn .i64 n 0)],[],[],[(0,n,0),(n,1,0)],1,(1,0),(n,0)⟩)] 14,[],none⟩]++QrQ
def QrS:List Sp:=[⟨179,c0 [.l Mr 8,.v (ty (.s 100000))] tb,Zp [] 14,[],none⟩,
 ⟨218,cPl [.l Mr 8,.v (ty (.s 100000))] 1,Zp [] 14,[],none⟩]++QrR
def QrT:List Sp:=[⟨206,c0 [.l Mr 8] tb,Zp [] 14,[],none⟩,
 ⟨233,c0 [.l Mr 8,.l [.c tItem] 8] tb,Zp [] 14,[],none⟩]++QrS
def QrU:List Sp:=[⟨252,cS [.s [.l Yo 25,.l Yo 25],.s [.l Yo 9,.l Yo 9]] [.l Yo 69,.l Yo 69],Zp [] 14,[],none⟩,
 ⟨181,cLk [.l Mr 8,.v (ty (.s 100000))] [.c tItem] 5,Zp [] 14,[],none⟩]++QrT
def QrV:List Sp:=[⟨254,c0 [.l [.c Qay] 6,.v tb] tb,Zp [] 14,[],none⟩,
 ⟨252,cS [.s [.l Yo 1,.l Yo 1],.s [.l Yo 9,.l Yo 9]] [.l Yo 21,.l Yo 21],Zp [] 14,[],none⟩]++QrU
def QrW:List Sp:=[⟨204,c0 [.s YQ,.s Qc7] Dj,Zp [] 14,[],none⟩,
 ⟨231,c0 [.s YQ,.s Qf3,.v tb] Dj,Zp [] 14,[],none⟩]++QrV
def QrX:List Sp:=[⟨234,c0 [.s YQ,.v (ty (.s 100))] tb,Zp [] 14,[],none⟩,
 ⟨205,c0 [.s YQ,.s Qqi] Dj,Zp [] 14,[],none⟩]++QrW
def QrY:List Sp:=[⟨207,c0 [.s YQ,.l [.c tItem] 6] Dj,Zp [] 14,[],none⟩,
 ⟨235,c0 [.s YQ,.v (ty (.s 100))] tb,anX [(0,some 6,true)] [] 14,[],none⟩]++QrX
def QrZ:List Sp:=[⟨209,c0 [.s Qf3] (ty (.s 3000)),Zp [] 14,[],none⟩,
 ⟨173,c0 [.s YQ] (.uu [Dj,Qjr]),Zp [] 14,[],none⟩]++QrY
def Qr0:List Sp:=[⟨174,c0 [.s YQ] (ty (.s 100000)),anX [(0,some 6,true)] [] 14,[122],none⟩,
 ⟨210,c0 [.v (ty (.s 1000))] (ty (.s 1100)),Zp [] 14,[],none⟩]++QrZ
def Qr1:List Sp:=[⟨170,c0 [.s YQ] (.uu [ty (.s 100000),Dj]),Zp [] 14,[],none⟩,
 ⟨131,c0 [.s YQ] (.uu [Dj,Qjr]),Zp [] 14,[],none⟩]++Qr0
def Qr2:List Sp:=[⟨172,c0 [.s R4,.s R4] tb,Zp [] 14,[],none⟩,
 ⟨129,S4 [.s YQ] [] (λn=>.uu [.ty Qos,.nn .i64 n 0]) 1 (λn=>cIn n 0 40),Zp [] 14,[],none⟩]++Qr1
def Qr3:List Sp:=[⟨93,c0 [.s [.c Qgu,.l Ts 10]] tb,Zp [] 14,[],none⟩,
 ⟨130,cPl [.l Ts 10,nm,.s Qrv] 1,Zp [] 14,[],none⟩]++Qr2
def Qr4:List Sp:=[⟨61,cS [pL,.i 0 4000,pc Qgu,.i 4 8] J2,Zp [] 14,[],none⟩,
 ⟨90,cNo,Zp [] 14,[],some (QzJ [.s J2,.s YQ] (λn=>.tp [.ty (.c Qgu),.oo 500000 n 0] (.ei .i64 0 40 [(0,n, -1)])) 1 (λn=>[(0,n,0),(n,1,1)]) (λn=>[(500000,.ww Ts n 0 11 157)]))⟩]++Qr3
def Qr5:List Sp:=[⟨60,cS [pL,.i 0 4000,.i 0 5] Sx,Zp [] 14,[],none⟩,
 ⟨49,S4 [pL,.i 200 200] [] (λn=>.ll J2 n 0) 1 (λn=>cIn n 1 2),Zp [] 14,[10,20],none⟩]++Qr4
def Qr6:List Sp:=[⟨48,S4 [pL,.i 0 0] [] (λn=>.ll Sx n 0) 1 (λn=>cIn n 1 2),Zp [] 14,[10,20],none⟩,
 ⟨30,S4 [pL,.i 0 1000] [] (λ_=>.uu [.ll Sx 0 1,.ll J2 0 1]) 0 (λ_=>[]),Zp [] 14,[],none⟩]++Qr5
def Qr7:List Sp:=[⟨66,cPl [.l J2 4,nm] 1,Zp [] 14,[],none⟩,
 ⟨94,cPl [.l J2 4,nm] 1,Zp [] 14,[],none⟩]++Qr6
def Qr8:List Sp:=[⟨269,c0 [.l DB 4] tb,Zp [] 14,[],none⟩,
 ⟨63,c0 [.l J2 4] tb,Zp [] 14,[],none⟩]++Qr7
def Qr9:List Sp:=[⟨133,c0 [.l QiN 4] (.uu [Dj,Qjr]),Zp [] 14,[],none⟩,
 ⟨132,c0 [.l DB 4] (.uu [Dj,Qjr]),Zp [] 14,[],none⟩]++Qr8
def Qsa:List Sp:=[⟨92,cPl [.l Sx 4,nm] 1,Zp [] 14,[],none⟩,
 ⟨91,c0 [.s Sx] (.uu [Dj,Qjr]),Zp [] 14,[],none⟩]++Qr9
def Qsb:List Sp:=[⟨96,S4 [.l DB 4,.s DB] [] (λn=>.uu [.ll DB n 0,tb]) 1 (λn=>[(0,n,0),(n,1,1)]),Zp [QsW [3] 0 6 0 1 0] 14,[],none⟩,
 ⟨62,S4 [.l Sx 4] [] (λn=>.uu [.nn .i64 n 0,Qjr]) 1 (λn=>cIn n 0 40),Zp [] 14,[],none⟩]++Qsa
def Qsc:List Sp:=[⟨225,S4 [.l Sx 2,nm] [] (λn=>.uu [.aa (opV n Qc8),Dj]) 2 (λn=>CO n Qc8),anX [(0,none,true)] [] 14,[],none⟩,
 ⟨65,S4 [.l Sx 2] [] (λn=>.uu [.ll DB n 0,.nn .i64 (n+1) 0]) 2 (λn=>cIn n 0 4++cIn (n+1) 0 40),anX [(0,none,true)] [] 14,[],none⟩]++Qsb
def Qsd:List Sp:=[⟨245,cL [.s Qf3] Qv6 (λn=>cIn n 1 4),{anJ [] 14 [0,1,2,999]with vb:=true},[],none⟩,
 ⟨64,c0 [.s GN] tb,Zp [] 14,[],none⟩]++Qsc
def Qse:List Sp:=[⟨180,cLk [.s YQ,.s GN,pc tOpt] [.lm Fj 4] 14,Zp [] 14,[],none⟩,
 ⟨219,cLk [.s Qc7] [.lm Fj 4] 6,Zp [] 14,[],none⟩]++Qsd
def QtW:List Sp:=[⟨183,cLk [.s YQ,.s GN,pc [[]],pc [[]]] [.lm Fj 4] 0,Zp [] 14,[],none⟩,
 ⟨183,cLk [.s YQ,.s GN,pc tName,pc [[120]]] [.lm Fj 4] 14,Zp [] 14,[],none⟩]++Qse
def spA:List Sp:=QtW
open M3 M25
variable {l:List (Cu × Cu)}
section
variable {Q:Cu->Prop}
theorem Qfj:∀{l:List Cu} {c:Cu},(∀x∈l,Q x)->Q c->∀x∈KL l c,Q x
 |[],c,_,hc,x,hx=>by grind [KL]
 |y::r,c,hl,hc,x,hx=>by
  simp only[KL]at hx;split at hx;rcases QzP.1 hx with rfl |hx
  grind
  exact Qfj (λz C=>hl z Wb) hc x hx
  grind
theorem QbF:∀{l:List (Cu × Cu)} {out:List Cu},(∀s∈l,Q s.1/\Q s.2)->(∀x∈out,Q x)->∀x∈l.foldl (λout s=>KL (KL out s.1) s.2) out,Q x
 |[],_,_,h=>h
 |s::l,out,hl,h=>by
  rw[List.foldl_cons];exact QbF (λt C=>hl t Wb) (Qfj (Qfj h (hl s Wc).1) (hl s Wc).2)
theorem Qmj (hF:Q ZS) (G:Q XP) (C:∀s∈l,Q s.1/\Q s.2):∀x∈Yd l,Q x:=QbF C (by
 grind)
theorem Qmk {out:List (Cu × Cu)} {x y:Cu} (h:∀s∈out,Q s.1/\Q s.2) (hx:Q x) (C:Q y):(KC out x y).length<=out.length+1/\∀s∈KC out x y,Q s.1/\Q s.2:=by
 unfold KC;split
 grind [List.dropLast_subset]
 grind
theorem Qez (f:Cu->Cu->Bool):∀(c:List Cu) (out:List (Cu × Cu)),(∀x∈c,Q x)->(∀s∈out,Q s.1/\Q s.2)->(HB f c out).length<=out.length+(c.length - 1)/\∀s∈HB f c out,Q s.1/\Q s.2
 |[],out,_,h=>⟨by simp[HB],by trivial⟩
 |[x],out,_,h=>⟨by simp[HB],by trivial⟩
 |x::y::r,out,hc,h=>by
  rw[HB];have G:=Qmk h (hc x Wc) (hc y Wc);split;have:=Qez f (y::r) (KC out x y) (λz C=>hc z (QAQ _ C)) G.2
  grind
  have:=Qez f (y::r) out (λz C=>hc z (QAQ _ C)) h
  grind
theorem Qpk (hF:Q ZS) (G:Q XP) (f:Cu->Cu->Bool) (C:∀s∈l,Q s.1/\Q s.2):(HB f (Yd l) []).length<=2*l.length+1/\∀s∈HB f (Yd l) [],Q s.1/\Q s.2:=by
 obtain⟨h1,h2⟩:=Qez f (Yd l) [] (Qmj hF G C) Wc;have:=Gi l
 grind
end
end Go.Proofs
