/- Part 11 of the means of the proof: a verified abstract evaluator and contracts of functions. It states nothing of the claim by itself. -/
import Derived.Test.YtggcpapoljmiaaaGreatDoorB10
set_option maxRecDepth 4000
set_option maxHeartbeats 4000000
set_option linter.unusedSimpArgs false
set_option linter.unusedVariables false
set_option linter.unusedSectionVars false
namespace Go.Proofs
open Go Go.Abs M3 M25
variable {k:Nat} {n:List UInt8}
structure YOk (y:YdT):Prop where
 ml:y.ms.length<=2
 mt:∀m∈y.ms,Tp.u3 S7 (QeQ m)
 mr:∀m∈y.ms,Tp.u3 X1 (JC m.r)
 mv:∀m∈y.ms,fb m.r.v
 sl:y.ss.length<=2
 st:∀s∈y.ss,Tp.u3 XP (dSh s)
 sh:∀s∈y.ss,Qrl s
 pl:y.pr.length<=4
 pt:∀p∈y.pr,Tp.u3 BL (QeR p)
structure gb (n:List UInt8) (l:List TkR):Prop where
 nm:∀t∈l,t.r.n=n
 v:∀t∈l,fb t.r.v
 t:∀t∈l,Tp.u3 X1 (JC t.r)
 len:l.length<=100
 de:l.Pairwise λa b=>SS a.r.v b.r.v<0
theorem gb.one {r:FH} {k:Int} (M:r.n=n) (C:fb r.v) (G:Tp.u3 X1 (JC r)):gb n [⟨r,k⟩]:=⟨by simpa using M,by simpa using C,by simpa using G,by simp,by simp⟩
theorem gb.nil (n:List UInt8):gb n []:=⟨by simp,by simp,by simp,by simp,by simp⟩
def tkE (es:List Fs) (k:Nat) (x:Nat):TkR:=match es[x]? with
 |some e=>⟨e.r,k⟩
 |none=>⟨⟨[],⟨0,0,0,[],[]⟩,[],[],[]⟩,0⟩
theorem Qg5 {es:List Fs} {x:Nat} (h:x<es.length):tkE es k x=⟨es[x].r,k⟩:=by rw[tkE,QA7 h]
theorem gb.of {s:ShR} (O:Qrl s) {l:List Nat} (G:te s.es n l) {out:List TkR} (h:out.Sublist (l.map (tkE s.es k))):gb n out:=by
 have key:∀t∈out,∃x,∃hx:x<s.es.length,s.es[x].r.n=n/\t=⟨s.es[x].r,k⟩:=λt C=>by
  obtain⟨x,hx,rfl⟩:=QAy.1 (h.subset C);obtain⟨h1,h2⟩:=G.mem x hx;exact⟨x,h1,h2,Qg5 h1⟩
 refine⟨λt C=>?_,λt C=>?_,λt C=>?_, ?_, ?_⟩;obtain⟨x,hx,h2,rfl⟩:=key t C;exact h2;obtain⟨x,hx,h2,rfl⟩:=key t C;exact O.v _ (QAp hx);obtain⟨x,hx,h2,rfl⟩:=key t C;exact O.t _ (QAp hx);have:=h.length_le;have:=G.len;have:=O.l;simp only[QBd]at*;omega;refine List.Pairwise.sublist h (List.pairwise_map.2 (G.de.imp_of_mem λ{a b} ha hb M=>?_));obtain⟨h1,_⟩:=G.mem a ha;obtain⟨h2,_⟩:=G.mem b hb;rw[Mt h1 h2]at M;rw[Qg5 h1,Qg5 h2];exact M
theorem Fe {y:YdT} (M:y.ms.length<=2) (C:∀m∈y.ms,fb m.r.v) {lkf:List UInt8->List TkR} {ns:List (List UInt8)}:s6 Tryz.prog 140 [.agg (dYd y (.ref 1000000 0 0))] (FD lkf ns) (QjW (GA y)) (FD lkf ns):=by
 refine s6.n6 tfol Tryz.func140 QuB (QAk Z) Pt Mx ?_;show TW _ _ tf140.body _ _;refine aS ?_;refine Qt (ι:=Nat) (λi=>⟨[(1,.ref 1 0 0),(3,.s4 3 i),(4,.int .i64 i)],[(1,⟨[dYd y (.ref 1000000 0 0)],8,127,false⟩),(3,⟨((GA y).take i).map λr=>[.z7 (r.map QeP)],1,222,true⟩),(500000,bNs ns),(500001,bRs lkf ns),(1000000,bFd ns)]⟩) (λi=>i<=y.ms.length) (λi=>y.ms.length - i) 0 ?_ ?_ ?_;exact le_trans (Q8 3 3 1 222 Z Z) (Ql (l:=[1,3,4]) (lH:=[1,3,500000,500001,1000000]) (kp3 Z Z Z) (Qa Z (Qa Z (Qa Z (Qa Z (Qa Z Qb))))) Z Z Z);exact QAw _;intro i O;have G:(GA y).length=y.ms.length:=by simp[GA]
 try dsimp only
 refine aB ?_ ?_;intro h1;refine Qr (ds0:=dn 5) (X5 (a:=(y.ms[i]'Wa).r.v.a) (C _ (QAp Wa)).sm.1 (C _ (QAp Wa)).sm.2) Z Z (.inl Z) Z Z (aK ?_);refine QG Z Z (QG Z Z (YK (ds0:=[0]) Z Z Wf ⟨rfl,Wc,rfl⟩ Z Z Wd Z Z Wd Wd Z Z (aK ?_)));refine Qc (i+1) ?_ ?_ ?_;exact le_trans (MD (l:=[1,4]) (lH:=[1,500000,500001,1000000]) 29 3 3 (kp2 Z Z) (Qa Z (Qa Z (Qa Z (Qa Z Qb)))) Z Z Z Z Z Z Z) (Ql (l:=[1,3,4]) (lH:=[1,3,500000,500001,1000000]) (kp3 Z Z Z) (Qa Z (Qa Z (Qa Z (Qa Z (Qa Z Qb))))) Z (by rw[QBv (Wa:i<(GA y).length),QBi];simp[GA,QeP,Ht];rfl) Z)
 omega
 first |omega |(simp only;omega) |(dsimp only;omega)
 intro h1;obtain rfl:i=(GA y).length:=Wa;rw[List.take_length];exact ZT Z (by simp[F7,D.fz,D.n7,small,D.can,D.z6,QjW,Qf]) (Xn (A:=[_,_]) Z)
theorem G8 {all:List Za} (O:all.length<=1000000) {x:FH} (hb:x.bs.length<=1000) {e1 e2 e3:List UInt8} {on:List UInt8->Bool} {st:List UInt8->Je} (M:∀b∈x.bs,Ok Tryz.prog 184 [.str b.w,.agg [.str e1,.str e2,.str e3]] (.bool (on b.w))) (G:∀b∈x.bs,Ok Tryz.prog 185 [.str b.r] (Lu (st b.r))):Ok Tryz.prog 143 [XK all,.agg (JC x),.agg [.str e1,.str e2,.str e3]] (ZR (Nb all on st x.bs)):=by
 refine Ok.n6 tfol Tryz.func143 QuD (QAk Z) ?_;show TW _ _ tf143.body _ _;refine aS ?_;refine Qt (ι:=Nat) (λi=>⟨[(0,XK all),(4,.ref 4 0 0),(5,.ref 5 0 0),(7,.s4 7 (Nb all on st (x.bs.take i)).length),(8,.int .i64 i)],[(4,⟨[JC x],9,100,true⟩),(5,⟨[[.str e1,.str e2,.str e3]],3,50,true⟩),(7,⟨(Nb all on st (x.bs.take i)).map Fo,3,82,true⟩)]⟩) (λi=>i<=x.bs.length) (λi=>x.bs.length - i) 0 ?_ ?_ ?_;exact le_trans (Q8 7 7 3 82 Z Z) (Ql (l:=[0,4,5,7,8]) (lH:=[4,5,7]) (kp5 Z Z Z Z Z) (Qa Z (Qa Z (Qa Z Qb))) Z Z Z);exact QAw _;intro i T;have hlen:=Qde all on st x.bs i
 try dsimp only
 refine aB ?_ ?_;intro h1;refine Qg (XI (k:=((x.bs[i]'Wa).n,[])) O) Z Z (.inr Z) (aB ?_ ?_);intro h2;refine Qr (ds0:=[0]) (M _ (QAp (Wa:i<x.bs.length))) Z Z (.inr Z) Z Z (aB ?_ ?_);intro C;refine Qg (G _ (QAp (Wa:i<x.bs.length))) Z Z (.inl Z) (aK ?_);refine Qn Z Z (Zu Z Z (λ_ h=>ZN Z Z Z h) Z Wc Z Z Z Wd Wd (aK ?_));refine Qc (i+1) ?_ ?_ ?_;exact Ql (l:=[0,4,5,7,8]) (lH:=[4,5,7]) (kp5 Z Z Z Z Z) (Qa Z (Qa Z (Qa Z Qb))) (by first |(rw[YY (st:=st) (Wa:i<x.bs.length) h2 C];done) |(rw[YY (st:=st) (Wa:i<x.bs.length) h2 C];rfl) |(rw[YY (st:=st) (Wa:i<x.bs.length) h2 C,QAY];rfl) |(simp[YY (st:=st) (Wa:i<x.bs.length) h2 C];done) |(simp[YY (st:=st) (Wa:i<x.bs.length) h2 C];omega) |rfl) (by first |(rw[YY (st:=st) (Wa:i<x.bs.length) h2 C];done) |(rw[YY (st:=st) (Wa:i<x.bs.length) h2 C];rfl) |(rw[YY (st:=st) (Wa:i<x.bs.length) h2 C,QBi];rfl) |(simp[YY (st:=st) (Wa:i<x.bs.length) h2 C];done) |rfl) Z
 omega
 first |omega |(simp only;omega) |(dsimp only;omega)
 intro C;refine Qc (i+1) ?_ ?_ ?_;exact Ql (l:=[0,4,5,7,8]) (lH:=[4,5,7]) (kp5 Z Z Z Z Z) (Qa Z (Qa Z (Qa Z Qb))) (by first |(rw[Zw (all:=all) (on:=on) (st:=st) (l:=x.bs) (i:=i) Wa (λh=>by simp[C]at h)];done) |(rw[Zw (all:=all) (on:=on) (st:=st) (l:=x.bs) (i:=i) Wa (λh=>by simp[C]at h)];rfl) |(rw[Zw (all:=all) (on:=on) (st:=st) (l:=x.bs) (i:=i) Wa (λh=>by simp[C]at h),QAY];rfl) |(simp[Zw (all:=all) (on:=on) (st:=st) (l:=x.bs) (i:=i) Wa (λh=>by simp[C]at h)];done) |(simp[Zw (all:=all) (on:=on) (st:=st) (l:=x.bs) (i:=i) Wa (λh=>by simp[C]at h)];omega) |rfl) (by first |(rw[Zw (all:=all) (on:=on) (st:=st) (l:=x.bs) (i:=i) Wa (λh=>by simp[C]at h)];done) |(rw[Zw (all:=all) (on:=on) (st:=st) (l:=x.bs) (i:=i) Wa (λh=>by simp[C]at h)];rfl) |(rw[Zw (all:=all) (on:=on) (st:=st) (l:=x.bs) (i:=i) Wa (λh=>by simp[C]at h),QBi];rfl) |(simp[Zw (all:=all) (on:=on) (st:=st) (l:=x.bs) (i:=i) Wa (λh=>by simp[C]at h)];done) |rfl) Z
 omega
 first |omega |(simp only;omega) |(dsimp only;omega)
 intro h2;refine QH Z (aK ?_);refine Qc (i+1) ?_ ?_ ?_;exact Ql (l:=[0,4,5,7,8]) (lH:=[4,5,7]) (kp5 Z Z Z Z Z) (Qa Z (Qa Z (Qa Z Qb))) (by first |(rw[Zw (all:=all) (on:=on) (st:=st) (l:=x.bs) (i:=i) Wa (λh=>h2 h.1)];done) |(rw[Zw (all:=all) (on:=on) (st:=st) (l:=x.bs) (i:=i) Wa (λh=>h2 h.1)];rfl) |(rw[Zw (all:=all) (on:=on) (st:=st) (l:=x.bs) (i:=i) Wa (λh=>h2 h.1),QAY];rfl) |(simp[Zw (all:=all) (on:=on) (st:=st) (l:=x.bs) (i:=i) Wa (λh=>h2 h.1)];done) |(simp[Zw (all:=all) (on:=on) (st:=st) (l:=x.bs) (i:=i) Wa (λh=>h2 h.1)];omega) |rfl) (by first |(rw[Zw (all:=all) (on:=on) (st:=st) (l:=x.bs) (i:=i) Wa (λh=>h2 h.1)];done) |(rw[Zw (all:=all) (on:=on) (st:=st) (l:=x.bs) (i:=i) Wa (λh=>h2 h.1)];rfl) |(rw[Zw (all:=all) (on:=on) (st:=st) (l:=x.bs) (i:=i) Wa (λh=>h2 h.1),QBi];rfl) |(simp[Zw (all:=all) (on:=on) (st:=st) (l:=x.bs) (i:=i) Wa (λh=>h2 h.1)];done) |rfl) Z
 omega
 first |omega |(simp only;omega) |(dsimp only;omega)
 intro h1;exact Xb Z Z Z Wc (by rw[QAA (Wa:x.bs.length<=i)];rfl)
end Go.Proofs
namespace Go.Proofs
open Go Go.Abs
set_option maxRecDepth 100000
set_option maxHeartbeats 0
set_option cbv.maxSteps 100000000
def QyL:TT false Tryz.f186:=⟨_,by cbv⟩
def tf186:z5:=QyL.1
theorem QuZ:Qj Tryz.prog Tryz.f186=some tf186.erase:=by kernel_rfl
open M3 M25
set_option maxRecDepth 4000
set_option maxHeartbeats 1000000
variable {lkf:List UInt8->List TkR} {ns:List (List UInt8)} {x:FH} {y:YdT}
theorem QAd (lkf:List UInt8->List TkR) (ns:List (List UInt8)):upH (FD lkf ns)=[(1500000,bNs ns),(1500001,bRs lkf ns),(2000000,⟨[[.s4 1500000 ns.length,.s4 1500001 ns.length]],2,125,false⟩)]:=by
 have e1:upN 500000=1500000:=by unfold upN;rfl
 have e2:upN 500001=1500001:=by unfold upN;rfl
 have e3:upN 1000000=2000000:=by unfold upN;rfl
 simp only[FD,upH,QAX,QBr,u4.n5,D.y6,e1,e2,e3,QBD,bNs,bRs,bFd];rfl
theorem Qmk:([D.agg (dYd y (.ref 1000000 0 0)),.agg (JC x)].map Qor).map (D.ae (upH (FD lkf ns)) 3)=[.agg (dYd y (.ptr [.sl (ns.map λn=>[.str n]),.sl (ns.map λn=>[PF (lkf n)])])),.agg (JC x)]:=by
 have e3:upN 1000000=2000000:=by unfold upN;rfl
 rw[QAd];simp only[QAX,QBr,Qor,D.n5,dYd,JC,D.y6,e3,D.can,D.z6,Nu,Cm,RF];simp[D.ae,D.ze,Qf,D.own,PF]
theorem Qml {s:St} {args:List l5} (ha:QF s args=some [.agg (dYd y (.ref 1000000 0 0)),.agg (JC x)]) (hF:∀k b,lk (FD lkf ns) k=some b->lk s.H k=some b):Np Tryz.prog 226 args s (FD lkf ns) [] [] (.bool false):=
 Qh5 3 (Fa (y:=y) (x:=x)) ha (λp hp=>by
   simp only[FD,QAm,QAl,or_false]at hp;rcases hp with rfl |rfl |rfl<;>exact hF _ _ rfl) (λp hp=>by
   simp only[FD,QAm,QAl,or_false]at hp;rcases hp with rfl |rfl |rfl<;>first |exact Qbz (k:=500000) rfl |exact Qbz (k:=500001) rfl |exact Qbz (k:=1000000) rfl) rfl Qmk rfl rfl rfl
theorem _root_.Wj {p:Prop} (h:p:=by simp[F7,D.fz,D.n7,small,D.can,D.z6,PF,Qf]):p:=h
theorem Fc (V:YOk y) {n:List UInt8} {U k2 e2 e3:Int} {l2:List Nat} {s3:Je} (hM:Ok Tryz.prog 223 [Nu y.ms,.str n] (.int .i64 U)) (hk1:U= -1\/∃i,∃h:i<y.ms.length,U=i/\y.ms[i].r.n=n) (hL:Ok Tryz.prog 224 [Cm y.ss,RF y.pr,.str n] (.u7 [.int .i64 k2,SZ l2,.int .i64 e2])) (Y:e2=0->∃i,∃h:i<y.ss.length,k2=i/\te y.ss[i].es n l2) (hH:Ok Tryz.prog 225 [Nu y.ms,.str n] (.u7 [.agg [Qw s3.1,Qw s3.2],.int .i64 e3])) (O:Sm s3.1/\Sm s3.2):s6 Tryz.prog 186 [.agg (dYd y (.ref 1000000 0 0)),.str n] (FD lkf ns) (PF (Qdy y U k2 l2 e2 s3)) (FD lkf ns):=by
 refine s6.n6 tfol Tryz.func186 QuZ (QAk Z) Pt Mx ?_;show TW _ _ tf186.body _ _;have hml:=V.ml;have hsl:=V.sl;refine aS ?_;refine Qg (hM) Z Z (.inr Z) (aB ?_ ?_);intro h1;obtain⟨j,C,rfl,hjn⟩:=hk1.resolve_left Wa;refine aK ?_;refine Qn Z Z (aK ?_);rw[CN C];exact ZT Z Wm (Xn (A:=[_,_]) Z);intro h1;refine Qg (hL) Z Z (.inl Z) (aK ?_);refine Qg (hH) Z Z (.inl Z) (aK ?_);refine Qt (ι:=Nat) (λi=>⟨[(2,.ref 2 0 0),(6,.int .i64 k2),(7,SZ l2),(8,.int .i64 e2),(9,.ref 9 0 0),(11,.s4 11 (lkU y k2 (l2.take i) e2 s3).length),(12,.int .i64 i)],[(2,⟨[dYd y (.ref 1000000 0 0)],8,127,false⟩),(9,⟨[[Qw s3.1,Qw s3.2]],2,79,true⟩),(11,⟨(lkU y k2 (l2.take i) e2 s3).map dTk,10,231,true⟩),(500000,bNs ns),(500001,bRs lkf ns),(1000000,bFd ns)]⟩) (λi=>i<=l2.length) (λi=>l2.length - i) 0 ?_ ?_ ?_;exact le_trans (Q8 11 11 10 231 Z Z) (Ql (l:=[2,6,7,8,9,11,12]) (lH:=[2,9,11,500000,500001,1000000]) (kp7 Z Z Z Z Z Z Z) (Qa Z (Qa Z (Qa Z (Qa Z (Qa Z (Qa Z Qb)))))) (by rw[List.take_zero,QfI];rfl) (by rw[List.take_zero,QfI];rfl) Z)
 exact QAw _;intro i hI;have hlen:=Qmu y k2 (l2.take i) e2 s3;have htl:(l2.take i).length=i:=by simp;omega
 try dsimp only
 refine aB ?_ ?_;intro h2;refine aB ?_ ?_;intro h3;obtain rfl:e2=0:=(by simpa using h3);obtain⟨j,C,rfl,T⟩:=Y rfl;obtain⟨hx,hxn⟩:=T.mem _ (QAp (Wa:i<l2.length));have hv:=(V.sh _ (QAp C)).v _ (QAp hx);have hll:=T.len;have hel:=(V.sh _ (QAp C)).l;refine aK ?_;refine Xz (ds0:=[]) Z Z Z Z Z Z Z Z Z Z (aB ?_ ?_);intro M;refine Qg (J6 (s:=s3) O.1 O.2 hv.sm.1 hv.sm.2) Z Z (.inr Z) (aB ?_ ?_);intro G;refine Qn Z Z (Zu Z Z (λ_ h=>ZN Z Z Z h) Z Wc Z Z Z Wd Wd (aK ?_));refine Qc (i+1) ?_ ?_ ?_;exact Ql (l:=[2,6,7,8,9,11,12]) (lH:=[2,9,11,500000,500001,1000000]) (kp7 Z Z Z Z Z Z Z) (Qa Z (Qa Z (Qa Z (Qa Z (Qa Z (Qa Z Qb)))))) (by first |(rw[K7 C (Wa:i<l2.length) hx M G];done) |(rw[K7 C (Wa:i<l2.length) hx M G];rfl) |(rw[K7 C (Wa:i<l2.length) hx M G,QAY];rfl) |(simp[K7 C (Wa:i<l2.length) hx M G];done) |(simp[K7 C (Wa:i<l2.length) hx M G];omega) |rfl) (by first |(rw[K7 C (Wa:i<l2.length) hx M G];done) |(rw[K7 C (Wa:i<l2.length) hx M G];rfl) |(rw[K7 C (Wa:i<l2.length) hx M G,QBi];rfl) |(simp[K7 C (Wa:i<l2.length) hx M G];done) |rfl) Z
 omega
 first |omega |(simp only;omega) |(dsimp only;omega)
 intro G;refine Qc (i+1) ?_ ?_ ?_;exact Ql (l:=[2,6,7,8,9,11,12]) (lH:=[2,9,11,500000,500001,1000000]) (kp7 Z Z Z Z Z Z Z) (Qa Z (Qa Z (Qa Z (Qa Z (Qa Z (Qa Z Qb)))))) (by first |(rw[Xo (s3:=s3) C (Wa:i<l2.length) hx (λh=>by simp[G]at h)];done) |(rw[Xo (s3:=s3) C (Wa:i<l2.length) hx (λh=>by simp[G]at h)];rfl) |(rw[Xo (s3:=s3) C (Wa:i<l2.length) hx (λh=>by simp[G]at h),QAY];rfl) |(simp[Xo (s3:=s3) C (Wa:i<l2.length) hx (λh=>by simp[G]at h)];done) |(simp[Xo (s3:=s3) C (Wa:i<l2.length) hx (λh=>by simp[G]at h)];omega) |rfl) (by first |(rw[Xo (s3:=s3) C (Wa:i<l2.length) hx (λh=>by simp[G]at h)];done) |(rw[Xo (s3:=s3) C (Wa:i<l2.length) hx (λh=>by simp[G]at h)];rfl) |(rw[Xo (s3:=s3) C (Wa:i<l2.length) hx (λh=>by simp[G]at h),QBi];rfl) |(simp[Xo (s3:=s3) C (Wa:i<l2.length) hx (λh=>by simp[G]at h)];done) |rfl) Z
 omega
 first |omega |(simp only;omega) |(dsimp only;omega)
 intro M;refine QkT (Qml (x:=(y.ss[j].es[l2[i]]'hx).r) Z (Xn (A:=[_,_,_,_,_]) Z)) (aK ?_);refine QH Z (aK ?_);refine Qc (i+1) ?_ ?_ ?_;exact Ql (l:=[2,6,7,8,9,11,12]) (lH:=[2,9,11,500000,500001,1000000]) (kp7 Z Z Z Z Z Z Z) (Qa Z (Qa Z (Qa Z (Qa Z (Qa Z (Qa Z Qb)))))) (by first |(rw[Xo (s3:=s3) C (Wa:i<l2.length) hx (λh=>by simp[M]at h)];done) |(rw[Xo (s3:=s3) C (Wa:i<l2.length) hx (λh=>by simp[M]at h)];rfl) |(rw[Xo (s3:=s3) C (Wa:i<l2.length) hx (λh=>by simp[M]at h),QAY];rfl) |(simp[Xo (s3:=s3) C (Wa:i<l2.length) hx (λh=>by simp[M]at h)];done) |(simp[Xo (s3:=s3) C (Wa:i<l2.length) hx (λh=>by simp[M]at h)];omega) |rfl) (by first |(rw[Xo (s3:=s3) C (Wa:i<l2.length) hx (λh=>by simp[M]at h)];done) |(rw[Xo (s3:=s3) C (Wa:i<l2.length) hx (λh=>by simp[M]at h)];rfl) |(rw[Xo (s3:=s3) C (Wa:i<l2.length) hx (λh=>by simp[M]at h),QBi];rfl) |(simp[Xo (s3:=s3) C (Wa:i<l2.length) hx (λh=>by simp[M]at h)];done) |rfl) Z
 omega
 first |omega |(simp only;omega) |(dsimp only;omega)
 intro h3;rw[LV h1,Qmv (l':=l2.take i) h3];exact ZT Z Wj (Xn (A:=[_,_,_]) Z);intro h2;refine QH Z (aK ?_);rw[LV h1,QAA (Wa:l2.length<=i)];exact ZT Z Wj (Xn (A:=[_,_,_]) Z)
end Go.Proofs
namespace Go.Proofs
open Go Go.Abs
set_option maxRecDepth 100000
set_option maxHeartbeats 0
set_option cbv.maxSteps 100000000
def Qyq:TT true Tryz.f144:=⟨_,by cbv⟩
def tf144:z5:=Qyq.1
theorem QuE:Qj Tryz.prog Tryz.f144=some tf144.erase:=by kernel_rfl
open M3 M25
set_option maxRecDepth 4000
set_option maxHeartbeats 1000000
variable {n:List UInt8} {ns:List (List UInt8)}
structure j9 (ns:List (List UInt8)):Prop where
 nd:ns.Nodup
 mem:∀n∈ns,n∈tName
theorem Qch {α:Type} [DecidableEq α]:∀{t l:List α},l.Nodup->(∀x∈l,x∈t)->l.length<=t.length
 |[],l,_,h=>by
  cases l with
  |nil=>simp
  |cons x l=>have:=h x Wc;simp at this
 |a::t,l,C,h=>by
  have h1:=Qch (t:=t) (l:=l.erase a) (C.erase a) λx hx=>by
   rcases QAm.1 (h x (List.mem_of_mem_erase hx))with rfl |h2;exact absurd hx (C.not_mem_erase);exact h2
  have h2:=List.length_erase (a:=a) (l:=l);rw[QAZ];split at h2<;>omega
theorem j9.len (h:j9 ns):ns.length<=5:=Qch (t:=tName) h.nd h.mem
def Qd1 (ns:List (List UInt8)) (n:List UInt8):List (List UInt8):=if n∈ns then ns else ns++[n]
theorem Qgu (h:j9 ns) (C:n∈tName):j9 (Qd1 ns n):=by
 unfold Qd1;split;exact h;rename_i e;refine⟨List.nodup_append.2 ⟨h.nd,by simp,λa ha b hb=>?_⟩,λx hx=>?_⟩;simp only[QAt]at hb;subst hb;exactλq=>e (q ▸ ha);rcases QAv.1 hx with hx |hx
 exact h.mem x hx;simp only[QAt]at hx;subst hx;exact C
theorem Y1 {y:YdT} {lkf:List UInt8->List TkR} (M:j9 ns) (O:s6 Tryz.prog 186 [.agg (dYd y (.ref 1000000 0 0)),.str n] (FD lkf ns) (PF (lkf n)) (FD lkf ns)):s6 Tryz.prog 144 [.agg (dYd y (.ref 1000000 0 0)),.str n] (FD lkf ns) (PF (lkf n)) (FD lkf (Qd1 ns n)):=by
 refine s6.n6 tfol Tryz.func144 QuE (QAk Z) Pt Mx ?_;show TW _ _ tf144.body _ _;have V:=M.len;refine aS ?_;refine Qt (ι:=Nat) (λi=>⟨[(1,.str n),(2,.ref 2 0 0),(5,.int .i64 i)],[(2,⟨[dYd y (.ref 1000000 0 0)],8,127,false⟩),(500000,bNs ns),(500001,bRs lkf ns),(1000000,bFd ns)]⟩) (λi=>i<=ns.length/\∀j (G:j<ns.length),j<i->ns[j]≠n) (λi=>ns.length - i) 0 ?_ ?_ ?_;exact Ql (l:=[1,2,5]) (lH:=[2,500000,500001,1000000]) (kp3 Z Z Z) (Qa Z (Qa Z (Qa Z (Qa Z Qb)))) Z Z Z;exact⟨QAw _,λj G h=>Wa⟩;intro i U
 try dsimp only
 refine aV ?_ ?_;intro h1;refine aK ?_;refine YX Z Z Z Wc Wa Wd Z (Ft Z (Mj Z (MA Wa)) Z (aB ?_ ?_));intro h2;refine YX Z Z Z Wc Wa Wd Z (Ft Z (Mj Z (MA Wa)) Z (aK ?_));have C:n∈ns:=by have:=QAp (Wa:i<ns.length);rw[h2]at this;exact this
 rw[show Qd1 ns n=ns from if_pos C];exact ZT Z (by rw[h2];rfl) (Xn (A:=[_]) Z)
 intro h2;refine Qc (i+1) ?_ ?_ ?_;exact Ql (l:=[1,2,5]) (lH:=[2,500000,500001,1000000]) (kp3 Z Z Z) (Qa Z (Qa Z (Qa Z (Qa Z Qb)))) Z Z Z;exact⟨Wa,λj G h=>by rcases Nat.lt_succ_iff_lt_or_eq.1 h with h |rfl;exact U.2 j G h;exact h2⟩
 first |omega |(simp only;omega) |(dsimp only;omega)
 intro h1;refine aJ ?_;refine Kd λK T=>Xg (l:=[_,_]) ?_;refine aK ?_;refine QdV (Ho:=[_]) (O) Z Z Z Z Z (λ_=>⟨rfl,rfl⟩) Z Z (XC (aJ ?_));refine kc3 T Z Z Z (Hy (T5 λK T=>?_));refine Z4 Z Z (Z4 Z Z (Z4 Z Z (Z4 Z Z (Z4 Z Z (Z4 Z Z (Z4 Z Z (Z4 Z Z (Z4 Z Z (Z4 Z Z (Z4 Z Z (Qo1 Z Z Wf ⟨rfl,Wc,rfl⟩ Z Z Wc Z Z Wd Wd Z (Z4 Z Z (Z4 Z Z (Z4 Z Z (Z4 Z Z (Z4 Z Z (Z4 Z Z (Z4 Z Z (Qo1 Z Z Wf ⟨rfl,Wc,rfl⟩ Z Z Wc Z Z Wd Wd Z (Z4 Z Z (Z4 Z Z (Z4 Z Z (Z4 Z Z (Z4 Z Z (Z4 Z Z (T _ (ks1 Z ?_)))))))))))))))))))))))))));refine aY ?_;refine BI (le_trans (Qb3 (l:=[4]) (lH:=[57]) 49 500000 1000000 (kp1 Z) (Qa Z Qb) Z Z Z Z Z Z Z Z) (Qb3 (l:=[4]) (lH:=[500000]) 57 500001 1000000 (kp1 Z) (Qa Z Qb) Z Z Z Z Z Z Z Z)) ?_;refine aK ?_;have C:n∉ns:=λh=>by obtain⟨j,G,e⟩:=List.getElem_of_mem h;exact U.2 j G Wa e
 rw[show Qd1 ns n=ns++[n] from if_neg C]
 exact ZT Z Z (λk b h=>by
  rcases Qip h with⟨rfl,rfl⟩ |⟨rfl,rfl⟩ |⟨rfl,rfl⟩;exact congrArg some (by simp only[bNs,QBi];rfl)
  exact congrArg some (by simp only[bRs,QBi];rfl)
  exact congrArg some (by simp only[bFd,QAY];rfl))
end Go.Proofs
namespace Go.Proofs
open Go Go.Abs
set_option maxRecDepth 100000
set_option maxHeartbeats 0
set_option cbv.maxSteps 100000000
def Qyn:TT false Tryz.f141:=⟨_,by cbv⟩
def tf141:z5:=Qyn.1
theorem QuC:Qj Tryz.prog Tryz.f141=some tf141.erase:=by kernel_rfl
open M3 M25
set_option maxRecDepth 4000
set_option maxHeartbeats 1000000
variable {lkf:List UInt8->List TkR} {ns:List (List UInt8)} {y:YdT}
theorem Qez (G:y.ms.length<=2) (C:∀m∈y.ms,fb m.r.v):s6 Tryz.prog 140 [.agg (dYd y (.ref 1000000 0 0))] (FD lkf ns) (ZL (GA y)) (FD lkf ns):=s6.wh (Fe G C) (Qol _)
theorem Nh {ns':List (List UInt8)} {k:Za} {z8:FH->List UInt8->Bool} (G:s6 Tryz.prog 144 [.agg (dYd y (.ref 1000000 0 0)),.str k.1] (FD lkf ns) (PF (lkf k.1)) (FD lkf ns')) (U:(lkf k.1).length<=100) (M:∀t∈lkf k.1,Ok Tryz.prog 179 [.sl t.r.fd,.str k.2] (.bool (z8 t.r k.2))):s6 Tryz.prog 141 [.agg (dYd y (.ref 1000000 0 0)),.agg (Ht k)] (FD lkf ns) (PF (ofM (lkf k.1) z8 k.2)) (FD lkf ns'):=by
 refine s6.n6 tfol Tryz.func141 QuC (QAk Z) Pt Mx ?_;show TW _ _ tf141.body _ _;refine aZ ?_;refine aZ ?_;refine Kd λK T=>Xg (l:=[_,_,_]) ?_;refine aK ?_;refine QdV (Ho:=[_,_]) (G) Z Z Z Z Z (λ_=>⟨rfl,rfl⟩) Z Z (XC (aK ?_));refine kc3 T Z Z Z ?_;refine aK ?_;refine Qt (ι:=Nat) (λi=>⟨[(3,.ref 3 0 0),(5,.s4 5 (ofM ((lkf k.1).take i) z8 k.2).length),(6,PF (lkf k.1)),(7,.int .i64 i)],[(3,⟨[Ht k],2,170,true⟩),(5,⟨(ofM ((lkf k.1).take i) z8 k.2).map dTk,10,231,true⟩),(500000,bNs ns'),(500001,bRs lkf ns'),(1000000,bFd ns')]⟩) (λi=>i<=(lkf k.1).length) (λi=>(lkf k.1).length - i) 0 ?_ ?_ ?_;exact le_trans (Q8 5 5 10 231 Z Z) (Ql (l:=[3,5,6,7]) (lH:=[3,5,500000,500001,1000000]) (kp4 Z Z Z Z) (Qa Z (Qa Z (Qa Z (Qa Z (Qa Z Qb))))) Z Z Z);exact QAw _;intro i V;have hlen:=Sj ((lkf k.1).take i) z8 k.2;have O:((lkf k.1).take i).length=i:=by simp;omega
 try dsimp only
 refine aB ?_ ?_;intro h1;refine aB ?_ ?_;intro h2;refine Qs Z (aK ?_);refine Qn Z Z (Zu Z Z (λ_ h=>ZN Z Z Z h) Z Wc Z Z Z Wd Wd (aK ?_));refine Qc (i+1) ?_ ?_ ?_;exact Ql (l:=[3,5,6,7]) (lH:=[3,5,500000,500001,1000000]) (kp4 Z Z Z Z) (Qa Z (Qa Z (Qa Z (Qa Z (Qa Z Qb))))) (by first |(rw[Z2 (z8:=z8) (Wa:i<(lkf k.1).length) (.inl h2)];done) |(rw[Z2 (z8:=z8) (Wa:i<(lkf k.1).length) (.inl h2)];rfl) |(rw[Z2 (z8:=z8) (Wa:i<(lkf k.1).length) (.inl h2),QAY];rfl) |(simp[Z2 (z8:=z8) (Wa:i<(lkf k.1).length) (.inl h2)];done) |(simp[Z2 (z8:=z8) (Wa:i<(lkf k.1).length) (.inl h2)];omega) |rfl) (by first |(rw[Z2 (z8:=z8) (Wa:i<(lkf k.1).length) (.inl h2)];done) |(rw[Z2 (z8:=z8) (Wa:i<(lkf k.1).length) (.inl h2)];rfl) |(rw[Z2 (z8:=z8) (Wa:i<(lkf k.1).length) (.inl h2),QBi];rfl) |(simp[Z2 (z8:=z8) (Wa:i<(lkf k.1).length) (.inl h2)];done) |rfl) Z
 omega
 first |omega |(simp only;omega) |(dsimp only;omega)
 intro h2;refine Qr (ds0:=[0]) (M _ (QAp Wa)) Z Z (.inr Z) Z Z (aB ?_ ?_);intro C;refine Qn Z Z (Zu Z Z (λ_ h=>ZN Z Z Z h) Z Wc Z Z Z Wd Wd (aK ?_));refine Qc (i+1) ?_ ?_ ?_;exact Ql (l:=[3,5,6,7]) (lH:=[3,5,500000,500001,1000000]) (kp4 Z Z Z Z) (Qa Z (Qa Z (Qa Z (Qa Z (Qa Z Qb))))) (by first |(rw[Z2 (Wa:i<(lkf k.1).length) (.inr C)];done) |(rw[Z2 (Wa:i<(lkf k.1).length) (.inr C)];rfl) |(rw[Z2 (Wa:i<(lkf k.1).length) (.inr C),QAY];rfl) |(simp[Z2 (Wa:i<(lkf k.1).length) (.inr C)];done) |(simp[Z2 (Wa:i<(lkf k.1).length) (.inr C)];omega) |rfl) (by first |(rw[Z2 (Wa:i<(lkf k.1).length) (.inr C)];done) |(rw[Z2 (Wa:i<(lkf k.1).length) (.inr C)];rfl) |(rw[Z2 (Wa:i<(lkf k.1).length) (.inr C),QBi];rfl) |(simp[Z2 (Wa:i<(lkf k.1).length) (.inr C)];done) |rfl) Z
 omega
 first |omega |(simp only;omega) |(dsimp only;omega)
 intro C;refine Qc (i+1) ?_ ?_ ?_;exact Ql (l:=[3,5,6,7]) (lH:=[3,5,500000,500001,1000000]) (kp4 Z Z Z Z) (Qa Z (Qa Z (Qa Z (Qa Z (Qa Z Qb))))) (by first |(rw[NO (Wa:i<(lkf k.1).length) h2 C];done) |(rw[NO (Wa:i<(lkf k.1).length) h2 C];rfl) |(rw[NO (Wa:i<(lkf k.1).length) h2 C,QAY];rfl) |(simp[NO (Wa:i<(lkf k.1).length) h2 C];done) |(simp[NO (Wa:i<(lkf k.1).length) h2 C];omega) |rfl) (by first |(rw[NO (Wa:i<(lkf k.1).length) h2 C];done) |(rw[NO (Wa:i<(lkf k.1).length) h2 C];rfl) |(rw[NO (Wa:i<(lkf k.1).length) h2 C,QBi];rfl) |(simp[NO (Wa:i<(lkf k.1).length) h2 C];done) |rfl) Z
 omega
 first |omega |(simp only;omega) |(dsimp only;omega)
 intro h1;rw[QAA (Wa:(lkf k.1).length<=i)];exact ZT Z Wj (Xn (A:=[_,_]) Z)
end Go.Proofs
namespace Go.Proofs
open Go Go.Abs
set_option maxRecDepth 100000
set_option maxHeartbeats 0
set_option cbv.maxSteps 100000000
def t98:TT false Tryz.f98:=⟨_,by cbv⟩
def tf98:z5:=t98.1
theorem QvF:Qj Tryz.prog Tryz.f98=some tf98.erase:=by kernel_rfl
def Qyj:TT false Tryz.f137:=⟨_,by cbv⟩
def tf137:z5:=Qyj.1
theorem Qq5:Qj Tryz.prog Tryz.f137=some tf137.erase:=by kernel_rfl
open M3 M25
set_option maxRecDepth 4000
set_option maxHeartbeats 1000000
variable {k:Za} {l:List TkR} {lkf:List UInt8->List TkR} {ns ns':List (List UInt8)} {y:YdT}
theorem KV (G:y.ms.length<=2) (C:∀m∈y.ms,fb m.r.v):s6 Tryz.prog 137 [.agg (dYd y (.ref 1000000 0 0)),.agg (Ht ([],[]))] (FD lkf ns) (ZL (GA y)) (FD lkf ns):=by
 refine s6.n6 tfol Tryz.func137 Qq5 (QAk Z) Pt Mx ?_;show TW _ _ tf137.body _ _;refine aS ?_;refine JY Z Z (K1 (x:=([],[])) (y:=([],[]))) (aV ?_ ?_);intro h1;refine Kd λK M=>Xg (l:=[_]) ?_;refine aK ?_;refine QdV (Ho:=[_,_]) (Qez G C) Z Z Z Z Z (λ_=>⟨rfl,rfl⟩) Z Z (XC (aK ?_));refine kc1 M Z ?_;refine aK ?_;exact ZT Z Wm (Xn (A:=[_,_]) Z);intro h1;exact absurd trivial h1
theorem KU (hk:k≠([],[])) (G:s6 Tryz.prog 141 [.agg (dYd y (.ref 1000000 0 0)),.agg (Ht k)] (FD lkf ns) (PF l) (FD lkf ns')) (U:l.length<=100) {nd:FH->List UInt8->List (List AskT)} (M:∀t∈l,Ok Tryz.prog 142 [.agg (JC t.r),.agg [.str y.e1,.str y.e2,.str y.e3],.str k.2] (ZL (nd t.r k.2))) (C:∀t∈l,(nd t.r k.2).length<=90):s6 Tryz.prog 137 [.agg (dYd y (.ref 1000000 0 0)),.agg (Ht k)] (FD lkf ns) (ZL (Pz l nd k.2)) (FD lkf ns'):=by
 refine s6.n6 tfol Tryz.func137 Qq5 (QAk Z) Pt Mx ?_;show TW _ _ tf137.body _ _;refine aS ?_;refine JY Z Z (K1 (x:=k) (y:=([],[]))) (aV ?_ ?_);intro h1;exact absurd h1 hk;intro h1;refine aJ ?_;refine aZ ?_;refine Hy (Kd λK T=>Xg (l:=[_,_]) ?_);refine aK ?_;refine QdV (Ho:=[_,_]) (G) Z Z Z Z Z (λ_=>⟨rfl,rfl⟩) Z Z (XC (aK ?_));refine kc6 T Z Z Z Z Z Z ?_;refine aK ?_;refine Qt (ι:=Nat) (λi=>⟨[(2,.ref 2 0 0),(3,.ref 3 0 0),(5,.s4 5 (Pz (l.take i) nd k.2).length),(15,PF l),(16,.int .i64 l.length),(17,.int .i64 i)],[(2,⟨[dYd y (.ref 1000000 0 0)],8,127,false⟩),(3,⟨[Ht k],2,170,true⟩),(5,⟨(Pz (l.take i) nd k.2).map (λr=>[Mu r]),1,222,true⟩),(500000,bNs ns'),(500001,bRs lkf ns'),(1000000,bFd ns')]⟩) (λi=>i<=l.length) (λi=>l.length - i) 0 ?_ ?_ ?_;exact le_trans (Q8 5 5 1 222 Z Z) (Ql (l:=[2,3,5,15,16,17]) (lH:=[2,3,5,500000,500001,1000000]) (kp6 Z Z Z Z Z Z) (Qa Z (Qa Z (Qa Z (Qa Z (Qa Z (Qa Z Qb)))))) Z Z Z);exact QAw _;intro i V;have hlen:(Pz (l.take i) nd k.2).length<=9000:=QAD (Sy λt O=>C t (QAE O)) Wd
 try dsimp only
 refine aB ?_ ?_;intro h2;have Y:=C _ (QAp (Wa:i<l.length));refine aK ?_;refine Qg (M _ (QAp (Wa:i<l.length))) Z Z (.inl Z) (Zu Z Z (λ_ h=>Pl QgB h) Z Wc Z Z Z Wd Wd (aK ?_));refine Qc (i+1) ?_ ?_ ?_;exact Ql (l:=[2,3,5,15,16,17]) (lH:=[2,3,5,500000,500001,1000000]) (kp6 Z Z Z Z Z Z) (Qa Z (Qa Z (Qa Z (Qa Z (Qa Z (Qa Z Qb)))))) (by rw[QcM (Wa:i<l.length),QAY,QBd];rfl) (by rw[QcM (Wa:i<l.length),QBi];rfl) Z
 omega
 first |omega |(simp only;omega) |(dsimp only;omega)
 intro h2;rw[QAA (Wa:l.length<=i)];exact ZT Z (by simp[F7,D.fz,D.n7,small,D.can,D.z6,ZL,Qf]) (Xn (A:=[_,_,_]) Z)
theorem HE (G:y.ms.length<=2) (C:∀m∈y.ms,fb m.r.v) {all:List Za} (M:all.length<=1000):s6 Tryz.prog 98 [.agg (dYd y (.ref 1000000 0 0)),XK all,.agg (Ht ([],[]))] (FD lkf ns) (.u7 [.sl [Cl ⟨⟨0,0,0,[],[]⟩, -1,Ta all (GA y),[]⟩],.bool true]) (FD lkf ns):=by
 refine s6.n6 tfol Tryz.func98 QvF (QAk Z) Pt Mx ?_;show TW _ _ tf98.body _ _;refine aS ?_;refine JY Z Z (K1 (x:=([],[])) (y:=([],[]))) (aV ?_ ?_);intro h1;refine Kd λK O=>Xg (l:=[_,_]) ?_;refine aK ?_;refine QdV (Ho:=[_,_]) (Qez G C) rfl rfl rfl rfl rfl (λ_=>⟨rfl,rfl⟩) rfl rfl (XC (Qg (Yr (rs:=GA y) Wa (by simp[GA];omega) (λr hr=>by obtain⟨m,_,rfl⟩:=QAy.1 hr;simp)) rfl rfl (.inl rfl) (aK ?_)))
 refine Qn Z Z (aK ?_);refine kc2 O Z Z ?_;refine aK ?_;exact Xa Z Z ⟨rfl,rfl⟩ ⟨rfl,rfl⟩ (Xn (A:=[_,_,_]) Z);intro h1;exact absurd trivial h1
theorem HC {all:List Za} (hal:all.length<=1000) (hk:k≠([],[])) (C:k.2=[]) (V:s6 Tryz.prog 141 [.agg (dYd y (.ref 1000000 0 0)),.agg (Ht k)] (FD lkf ns) (PF l) (FD lkf ns')) (hl:l.length<=100) (W:WF) (Y:∀t∈l,Ok Tryz.prog 142 [.agg (JC t.r),.agg [.str y.e1,.str y.e2,.str y.e3],.str k.2] (ZL (W.nd t.r k.2))) (M:∀t∈l,(W.nd t.r k.2).length<=90) (T:∀t∈l,∀r∈W.nd t.r k.2,r.length<=1000) (hbl:∀t∈l,t.r.bs.length<=1000) (U:∀t∈l,∀b∈t.r.bs,Ok Tryz.prog 184 [.str b.w,.agg [.str y.e1,.str y.e2,.str y.e3]] (.bool (W.on b.w))) (O:∀t∈l,∀b∈t.r.bs,Ok Tryz.prog 185 [.str b.r] (Lu (W.st b.r))) (G:s6 Tryz.prog 144 [.agg (dYd y (.ref 1000000 0 0)),.str k.1] (FD lkf ns') (PF (lkf k.1)) (FD lkf ns')):s6 Tryz.prog 98 [.agg (dYd y (.ref 1000000 0 0)),XK all,.agg (Ht k)] (FD lkf ns) (.u7 [.sl ((Fv W all l k.2 (lkf k.1).length).1.map RE),.bool (Fv W all l k.2 (lkf k.1).length).2]) (FD lkf ns'):=by
 refine s6.n6 tfol Tryz.func98 QvF (QAk Z) Pt Mx ?_;show TW _ _ tf98.body _ _;refine aS ?_;refine JY Z Z (K1 (x:=k) (y:=([],[]))) (aV ?_ ?_);intro h1;exact absurd h1 hk;intro h1;refine aJ ?_;refine aZ ?_;refine Hy (Kd λK hK=>Xg (l:=[_,_]) ?_);refine aK ?_;refine QdV (Ho:=[_,_]) (V) Z Z Z Z Z (λ_=>⟨rfl,rfl⟩) Z Z (XC (aK ?_));refine kc7 hK Z Z Z Z Z Z Z ?_;refine aK ?_;refine Qt (ι:=Nat) (λi=>⟨[(1,XK all),(3,.ref 3 0 0),(5,.ref 5 0 0),(8,.s4 8 i),(23,PF l),(24,.int .i64 l.length),(25,.int .i64 i)],[(3,⟨[dYd y (.ref 1000000 0 0)],8,127,false⟩),(5,⟨[Ht k],2,170,true⟩),(8,⟨((l.map (KD W all k.2)).take i).map RE,8,70,true⟩),(500000,bNs ns'),(500001,bRs lkf ns'),(1000000,bFd ns')]⟩) (λi=>i<=l.length/\((l.map (KD W all k.2)).take i).any QdT=false) (λi=>l.length - i) 0 ?_ ?_ ?_;exact le_trans (Q8 8 8 8 70 Z Z) (Ql (l:=[1,3,5,8,23,24,25]) (lH:=[3,5,8,500000,500001,1000000]) (kp7 Z Z Z Z Z Z Z) (Qa Z (Qa Z (Qa Z (Qa Z (Qa Z (Qa Z Qb)))))) Z Z Z);exact⟨QAw _,by simp⟩;intro i hI
 try dsimp only
 refine aV ?_ ?_;intro h2;have h9:=M _ (QAp (Wa:i<l.length));have htl:=SL all (W.nd l[i].r k.2);refine aK ?_;refine Qr (ds0:=[3,2,0]) (Y _ (QAp (Wa:i<l.length))) Z Z (.inl Z) Z Z (Qr (ds0:=[2,0]) (Yr (rs:=W.nd (l[i]'Wa).r k.2) Wa Wa (λr hr=>by have:=T _ (QAp (Wa:i<l.length)) r hr;omega)) Z Z (.inl Z) Z Z (aK ?_))
 refine Xz (ds0:=[]) Z Z Z Z Z Z Z Z Z Z (aB ?_ ?_);intro h3;refine Qg (G8 (x:=(l[i]'Wa).r) Wa (hbl _ (QAp Wa)) (U _ (QAp Wa)) (O _ (QAp Wa))) Z Z (.inl Z) (aB ?_ ?_);intro h4;refine Qs Z (aK ?_);rw[Mq (i:=i) Wa (by rw[Nq C,QdT];simp;omega)]
 exact Xa Z Z ⟨rfl,rfl⟩ ⟨rfl,rfl⟩ (Xn (A:=[_,_,_,_,_,_,_,_]) Z);intro h4;refine aB ?_ ?_;intro h5;rw[Mq (i:=i) Wa (by rw[Nq C,QdT];simp;omega)]
 exact Xa Z Z ⟨rfl,rfl⟩ ⟨rfl,rfl⟩ (Xn (A:=[_,_,_,_,_,_,_,_]) Z);intro h5;refine Qn Z Z (Zu Z Z (λ_ h=>ZN Z Z Z h) Z Wd Z Z Z Wd Wd (aK ?_));refine Qc (i+1) ?_ ?_ ?_;exact Ql (l:=[1,3,5,8,23,24,25]) (lH:=[3,5,8,500000,500001,1000000]) (kp7 Z Z Z Z Z Z Z) (Qa Z (Qa Z (Qa Z (Qa Z (Qa Z (Qa Z Qb)))))) Z (by rw[QBv (show i<(l.map (KD W all k.2)).length by simp;omega),QBi,QBG,Nq C];rfl) Z
 exact⟨Wa,MX (show i<(l.map (KD W all k.2)).length by simp;omega) hI.2 (by rw[QBG,Nq C,QdT];simp;omega)⟩
 first |omega |(simp only;omega) |(dsimp only;omega)
 intro h3;exact absurd C h3;intro h2;refine aJ ?_;refine Kd λK hK=>Xg (l:=[_,_,_,_]) ?_;refine aK ?_;refine QdV (Ho:=[_,_,_]) (G) Z Z Z Z Z (λ_=>⟨rfl,rfl⟩) Z Z (XC (aK ?_));refine kc2 hK Z Z ?_;refine aK ?_;obtain rfl:i=l.length:=Wa;rw[Mr (by simpa [QAA]using hI.2)];exact Xa Z Z ⟨by simp[F7,D.fz,D.n7,small,D.can,D.z6,Qf,QAA],congrArg D.bool (decide_eq_decide.2 Wa)⟩ ⟨rfl,rfl⟩ (Xn (A:=[_,_,_]) Z)
theorem HD {all:List Za} (hal:all.length<=1000) (hk:k≠([],[])) (C:¬k.2=[]) (T:s6 Tryz.prog 141 [.agg (dYd y (.ref 1000000 0 0)),.agg (Ht k)] (FD lkf ns) (PF l) (FD lkf ns')) (hl:l.length<=100) (W:WF) (U:∀t∈l,Ok Tryz.prog 142 [.agg (JC t.r),.agg [.str y.e1,.str y.e2,.str y.e3],.str k.2] (ZL (W.nd t.r k.2))) (M:∀t∈l,(W.nd t.r k.2).length<=90) (O:∀t∈l,∀r∈W.nd t.r k.2,r.length<=1000) (hbl:∀t∈l,t.r.bs.length<=1000) (hon:∀t∈l,∀b∈t.r.bs,Ok Tryz.prog 184 [.str b.w,.agg [.str y.e1,.str y.e2,.str y.e3]] (.bool (W.on b.w))) (hst:∀t∈l,∀b∈t.r.bs,Ok Tryz.prog 185 [.str b.r] (Lu (W.st b.r))) (G:s6 Tryz.prog 144 [.agg (dYd y (.ref 1000000 0 0)),.str k.1] (FD lkf ns') (PF (lkf k.1)) (FD lkf ns')):s6 Tryz.prog 98 [.agg (dYd y (.ref 1000000 0 0)),XK all,.agg (Ht k)] (FD lkf ns) (.u7 [.sl ((Fv W all l k.2 (lkf k.1).length).1.map Cl),.bool (Fv W all l k.2 (lkf k.1).length).2]) (FD lkf ns'):=by
 refine s6.n6 tfol Tryz.func98 QvF (QAk Z) Pt Mx ?_;show TW _ _ tf98.body _ _;refine aS ?_;refine JY Z Z (K1 (x:=k) (y:=([],[]))) (aV ?_ ?_);intro h1;exact absurd h1 hk;intro h1;refine aJ ?_;refine aZ ?_;refine Hy (Kd λK V=>Xg (l:=[_,_]) ?_);refine aK ?_;refine QdV (Ho:=[_,_]) (T) Z Z Z Z Z (λ_=>⟨rfl,rfl⟩) Z Z (XC (aK ?_));refine kc7 V Z Z Z Z Z Z Z ?_;refine aK ?_;refine Qt (ι:=Nat) (λi=>⟨[(1,XK all),(3,.ref 3 0 0),(5,.ref 5 0 0),(8,.s4 8 i),(23,PF l),(24,.int .i64 l.length),(25,.int .i64 i)],[(3,⟨[dYd y (.ref 1000000 0 0)],8,127,false⟩),(5,⟨[Ht k],2,170,true⟩),(8,⟨((l.map (KD W all k.2)).take i).map Cl,8,70,true⟩),(500000,bNs ns'),(500001,bRs lkf ns'),(1000000,bFd ns')]⟩) (λi=>i<=l.length/\((l.map (KD W all k.2)).take i).any QdT=false) (λi=>l.length - i) 0 ?_ ?_ ?_;exact le_trans (Q8 8 8 8 70 Z Z) (Ql (l:=[1,3,5,8,23,24,25]) (lH:=[3,5,8,500000,500001,1000000]) (kp7 Z Z Z Z Z Z Z) (Qa Z (Qa Z (Qa Z (Qa Z (Qa Z (Qa Z Qb)))))) Z Z Z);exact⟨QAw _,by simp⟩;intro i Y
 try dsimp only
 refine aV ?_ ?_;intro h2;have h9:=M _ (QAp (Wa:i<l.length));have htl:=SL all (W.nd l[i].r k.2);refine aK ?_;refine Qr (ds0:=[3,2,0]) (U _ (QAp (Wa:i<l.length))) Z Z (.inl Z) Z Z (Qr (ds0:=[2,0]) (Yr (rs:=W.nd (l[i]'Wa).r k.2) Wa Wa (λr hr=>by have:=O _ (QAp (Wa:i<l.length)) r hr;omega)) Z Z (.inl Z) Z Z (aK ?_))
 refine Xz (ds0:=[]) Z Z Z Z Z Z Z Z Z Z (aB ?_ ?_);intro h3;exact absurd h3 C;intro h3;refine aB ?_ ?_;intro h4;refine Qs Z (aK ?_);rw[Mq (i:=i) Wa (by rw[Mp C,QdT];simp;omega)]
 exact Xa Z Z ⟨rfl,rfl⟩ ⟨rfl,rfl⟩ (Xn (A:=[_,_,_,_,_,_,_]) Z);intro h4;refine aB ?_ ?_;intro h5;exact absurd h5 Wc;intro h5;refine Qn Z Z (Zu Z Z (λ_ h=>ZN Z Z Z h) Z Wd Z Z Z Wd Wd (aK ?_));refine Qc (i+1) ?_ ?_ ?_;exact Ql (l:=[1,3,5,8,23,24,25]) (lH:=[3,5,8,500000,500001,1000000]) (kp7 Z Z Z Z Z Z Z) (Qa Z (Qa Z (Qa Z (Qa Z (Qa Z (Qa Z Qb)))))) Z (by rw[QBv (show i<(l.map (KD W all k.2)).length by simp;omega),QBi,QBG,Mp C];rfl) Z
 exact⟨Wa,MX (show i<(l.map (KD W all k.2)).length by simp;omega) Y.2 (by rw[QBG,Mp C,QdT];simp;omega)⟩
 first |omega |(simp only;omega) |(dsimp only;omega)
 intro h2;refine aJ ?_;refine Kd λK V=>Xg (l:=[_,_,_,_]) ?_;refine aK ?_;refine QdV (Ho:=[_,_,_]) (G) Z Z Z Z Z (λ_=>⟨rfl,rfl⟩) Z Z (XC (aK ?_));refine kc2 V Z Z ?_;refine aK ?_;obtain rfl:i=l.length:=Wa;rw[Mr (by simpa [QAA]using Y.2)];exact Xa Z Z ⟨by simp[F7,D.fz,D.n7,small,D.can,D.z6,Qf,QAA],congrArg D.bool (decide_eq_decide.2 Wa)⟩ ⟨rfl,rfl⟩ (Xn (A:=[_,_,_]) Z)
end Go.Proofs
namespace Go.Proofs
open Go Go.Abs
set_option maxRecDepth 100000
set_option maxHeartbeats 0
set_option cbv.maxSteps 100000000
def t97:TT false Tryz.f97:=⟨_,by cbv⟩
def tf97:z5:=t97.1
theorem QAb:Qj Tryz.prog Tryz.f97=some tf97.erase:=by kernel_rfl
open M3 M25
set_option maxRecDepth 4000
set_option maxHeartbeats 1000000
variable {R:List (List AskT)} {i j m:Nat} {k0 x:Za} {l seen todo:List Za} {rw:Za->List (List AskT)}
def tFeat0:List (List UInt8):=[]::Qa0
def Tv:List Za:=([],[])::tName.flatMap λn=>tFeat0.map λf=>(n,f)
theorem QkC (h:Qk7 l):l.Nodup:=List.Pairwise.imp (λ{a b} C e=>by subst e;rw[CL]at C;cases C) h
structure sa (rw:Za->List (List AskT)) (all todo:List Za):Prop where
 de:Qk7 all
 root:([],[])∈all
 key:∀k∈all,k∈Tv
 sub:∀k∈todo,k∈all
 cl:∀k∈all,k∈todo\/∀row∈rw k,∀a∈row,a.k∈all
 bd:2*(27 - all.length)+todo.length<=53
theorem sa.len {all:List Za} (h:sa rw all todo):all.length<=26:=Qch (t:=Tv) (QkC h.de) h.key
structure vd (rw:Za->List (List AskT)) (k0:Za) (m:Nat) (seen all todo:List Za):Prop where
 de:Qk7 all
 root:([],[])∈all
 key:∀k∈all,k∈Tv
 sub:∀k∈todo,k∈all
 cl:∀k∈all,k=k0\/k∈todo\/∀row∈rw k,∀a∈row,a.k∈all
 seen:∀k∈seen,k∈all
 mu:2*(27 - all.length)+todo.length<m
 bd:m<=53
theorem vd.len {all:List Za} (h:vd rw k0 m seen all todo):all.length<=26:=Qch (t:=Tv) (QkC h.de) h.key
theorem vd.start {all rest:List Za} (h:sa rw all (k0::rest)):vd rw k0 (2*(27 - all.length)+(k0::rest).length) [] all rest:=⟨h.de,h.root,h.key,λk hk=>h.sub k (QBm _ hk),λk hk=>by
 rcases h.cl k hk with h1 |h1;rcases QAm.1 h1 with h1 |h1;exact .inl h1;exact .inr (.inl h1);exact .inr (.inr h1),by simp,by simp,h.bd⟩
theorem vd.put {all:List Za} (h:vd rw k0 m seen all todo) (hx:x∈Tv) (O:all.length<(HK all x).length):vd rw k0 m (seen++[x]) (HK all x) (todo++[x]):=by
 have hm:∀k∈all,k∈HK all x:=λk hk=>GR.2 (.inr hk);have C:x∈HK all x:=GR.2 (.inl rfl);have M:=h.len;have G:=Qcz all x;refine⟨QcB h.de,hm _ h.root,λk hk=>?_,λk hk=>?_,λk hk=>?_,λk hk=>?_, ?_,h.bd⟩;rcases GR.1 hk with rfl |hk
 exact hx;exact h.key k hk;rcases QAv.1 hk with hk |hk
 exact hm _ (h.sub k hk);rw[QAt.1 hk];exact C;rcases GR.1 hk with rfl |hk
 exact .inr (.inl Wc);rcases h.cl k hk with h1 |h1 |h1
 exact .inl h1;exact .inr (.inl (by simp[h1]));exact .inr (.inr λrow hr a ha=>hm _ (h1 row hr a ha));rcases QAv.1 hk with hk |hk
 exact hm _ (h.seen k hk);rw[QAt.1 hk];exact C;have:=h.mu;rw[QAY,List.length_singleton];omega
theorem vd.ui {all:List Za} (h:vd rw k0 m seen all todo) (C:¬all.length<(HK all x).length):vd rw k0 m (seen++[x]) all todo:=
 ⟨h.de,h.root,h.key,h.sub,h.cl,λk hk=>by
  rcases QAv.1 hk with hk |hk;exact h.seen k hk;rw[QAt.1 hk];exact Qcy C,h.mu,h.bd⟩
theorem vd.done {all:List Za} (h:vd rw k0 m seen all todo) (C:∀row∈rw k0,∀a∈row,a.k∈seen):sa rw all todo:=⟨h.de,h.root,h.key,h.sub,λk hk=>by
 rcases h.cl k hk with rfl |h1 |h1;exact .inr λrow hr a ha=>h.seen _ (C row hr a ha)
 exact .inl h1;exact .inr h1,by have:=h.mu;have:=h.bd;omega⟩
theorem Qmn:∀r∈l.map Ht,∀d∈r,j∉d.l4:=λr hr d hd=>by
 obtain⟨x,_,rfl⟩:=QAy.1 hr;simp only[Ht,QAm,QAl,or_false]at hd;rcases hd with rfl |rfl<;>simp[D.l4]
def sn (R:List (List AskT)) (i:Nat):List Za:=(R.take i).flatMap λr=>r.map AskT.k
theorem Qt9 (hi:i<R.length):sn R (i+1)=sn R i++R[i].map AskT.k:=by
 rw[sn,QBv hi,QBJ];simp[sn]
theorem QqH (hi:R.length<=i):∀row∈R,∀a∈row,a.k∈sn R i:=λrow hr a ha=>by
 rw[sn,QAA hi];exact QAr.2 ⟨row,hr,QAy.2 ⟨a,ha,rfl⟩⟩
theorem QqI {r:List AskT} (C:j<r.length):(r.take (j+1)).map AskT.k=(r.take j).map AskT.k++[r[j].k]:=by
 rw[QBv C,QBi];rfl
theorem H9 {y:YdT} {lkf:List UInt8->List TkR} {ns:List (List UInt8)} (M:j9 ns) (U:∀k∈Tv,∀ns,j9 ns->∃ns',j9 ns'/\s6 Tryz.prog 137 [.agg (dYd y (.ref 1000000 0 0)),.agg (Ht k)] (FD lkf ns) (ZL (rw k)) (FD lkf ns')) (hkey:∀k∈Tv,∀row∈rw k,∀a∈row,a.k∈Tv) (hlen:∀k∈Tv,(rw k).length<=9000) (hl2:∀k∈Tv,∀row∈rw k,row.length<=1000):∃d H',(∃all C,d=.u7 [XK all,.bool true]/\H'=FD lkf C/\j9 C/\sa rw all [])/\s6 Tryz.prog 97 [.agg (dYd y (.ref 1000000 0 0))] (FD lkf ns) d H':=by
 refine s6.uf (R:=λd H'=>∃all C,d=.u7 [XK all,.bool true]/\H'=FD lkf C/\j9 C/\sa rw all []) tfol Tryz.func97 QAb (QAk Z) ?_;show TX _ _ tf97.body _ _;refine aS ?_;refine Qn Z Z (aK ?_);refine Qn Z Z (aK ?_);refine Kx (ι:=List Za × List Za × List (List UInt8)) (λ⟨all,todo,ns⟩=>⟨[(1,.ref 1 0 0),(4,XK all),(5,.s4 5 todo.length)],[(1,⟨[dYd y (.ref 1000000 0 0)],8,127,false⟩),(5,⟨todo.map Ht,2,170,true⟩),(500000,bNs ns),(500001,bRs lkf ns),(1000000,bFd ns)]⟩) (λ⟨all,todo,ns⟩=>sa rw all todo/\j9 ns) (λ⟨all,todo,ns⟩=>2*(27 - all.length)+todo.length) ([([],[])],[([],[])],ns) ?_ ?_ ?_;exact le_trans (le_trans (Qb2 (l:=[1,5]) (lH:=[1,15,500000,500001,1000000]) 13 4 (kp2 Z Z) (Qa Z (Qa Z (Qa Z (Qa Z (Qa Z Qb))))) Z Z Z Wk Z Z Z Z) (MD (l:=[1,4]) (lH:=[1,500000,500001,1000000]) 15 5 5 (kp2 Z Z) (Qa Z (Qa Z (Qa Z (Qa Z Qb)))) Z Z Z Z Z Z Z)) (Ql (l:=[1,4,5]) (lH:=[1,5,500000,500001,1000000]) (kp3 Z Z Z) (Qa Z (Qa Z (Qa Z (Qa Z (Qa Z Qb))))) Z Z Z);exact⟨⟨by simp[Qk7],by simp,by simp[Tv],by simp,by simp,by simp⟩,M⟩;intro ⟨all,todo,ns⟩ ⟨T,M⟩
 try dsimp only at T M
 try dsimp only
 refine aB ?_ ?_;intro h1;obtain⟨k,rest,rfl⟩:∃k rest,todo=k::rest:=(by cases todo with |nil=>simp at h1 |cons k rest=>exact⟨k,rest,rfl⟩);have O:=T.key _ (T.sub _ (List.mem_cons_self ..));have hlk:=hlen k O;obtain⟨m0,hm0⟩:∃m,m=2*(27 - all.length)+(k::rest).length:=⟨_,rfl⟩;refine aK ?_;refine YX Z Z Z Wc Wa Wc Z (aK ?_);refine QhQ Z Z Z Wc Z We Qmn Wa (by simp only[QAZ];omega) (aJ ?_)
 refine QhT (BX λK hK=>B4 (l:=[_,_]) ?_);refine aK ?_;obtain⟨C,Y,V⟩:=U k (T.key _ (T.sub _ Wc)) ns M;refine QdV (Ho:=[_,_,_,_,_]) (V) Z Z Z Z Z (λ_=>⟨rfl,rfl⟩) Z Z (Qej (aK ?_));refine hK _ _ (Rg (kp6 Z Z Z Z Z Z) ?_);refine aK ?_;refine Kx (ι:=Nat × List Za × List Za) (λ⟨i,all,todo⟩=>⟨[(1,.ref 1 0 0),(4,XK all),(5,.s4 5 todo.length),(26,ZL (rw k)),(27,.int .i64 (rw k).length),(28,.int .i64 i)],[(1,⟨[dYd y (.ref 1000000 0 0)],8,127,false⟩),(5,⟨todo.map Ht,2,170,true⟩),(500000,bNs C),(500001,bRs lkf C),(1000000,bFd C)]⟩) (λ⟨i,all,todo⟩=>i<=(rw k).length/\vd rw k m0 (sn (rw k) i) all todo) (λ⟨i,all,todo⟩=>(rw k).length - i) (0,all,rest) ?_ ?_ ?_;exact Ql (l:=[1,4,5,26,27,28]) (lH:=[1,5,500000,500001,1000000]) (kp6 Z Z Z Z Z Z) (Qa Z (Qa Z (Qa Z (Qa Z (Qa Z Qb))))) Z Z Z;exact⟨QAw _,hm0 ▸ vd.start T⟩;intro ⟨i,all,todo⟩ ⟨hI,hJ⟩
 try dsimp only at hI hJ
 try dsimp only
 refine aB ?_ ?_;intro h2;have hli:=hl2 k O _ (QAp (Wa:i<(rw k).length));refine Kx (ι:=Nat × List Za × List Za) (λ⟨j,all,todo⟩=>⟨[(1,.ref 1 0 0),(4,XK all),(5,.s4 5 todo.length),(26,ZL (rw k)),(27,.int .i64 (rw k).length),(28,.int .i64 i),(32,Mu ((rw k)[i]'Wa)),(33,.int .i64 ((rw k)[i]'Wa).length),(34,.int .i64 j)],[(1,⟨[dYd y (.ref 1000000 0 0)],8,127,false⟩),(5,⟨todo.map Ht,2,170,true⟩),(500000,bNs C),(500001,bRs lkf C),(1000000,bFd C)]⟩) (λ⟨j,all,todo⟩=>j<=((rw k)[i]'Wa).length/\vd rw k m0 (sn (rw k) i++(((rw k)[i]'Wa).take j).map AskT.k) all todo) (λ⟨j,all,todo⟩=>((rw k)[i]'Wa).length - j) (0,all,todo) ?_ ?_ ?_;exact Ql (l:=[1,4,5,26,27,28,32,33,34]) (lH:=[1,5,500000,500001,1000000]) (kp9 Z Z Z Z Z Z Z Z Z) (Qa Z (Qa Z (Qa Z (Qa Z (Qa Z Qb))))) Z Z Z;exact⟨QAw _,by simpa using hJ⟩;intro ⟨j,all,todo⟩ ⟨hI2,G⟩
 try dsimp only at hI2 G
 have h26:=G.len;have hmu:=G.mu;have hbd:=G.bd
 try dsimp only
 refine aB ?_ ?_;intro h3;refine Qg (Jx (l:=all) (k:=(((rw k)[i]'Wa)[j]'Wa).k) Wa) Z Z (.inl Z) (aB ?_ ?_);intro h4;refine Qg (Jx (l:=all) (k:=(((rw k)[i]'Wa)[j]'Wa).k) Wa) Z Z (.inl Z) (aK ?_);refine Qn Z Z (Zu Z Z (λ_ h=>ZN Z Z Z h) Z Wc Z Z Z Wd Wd (aK ?_));refine Qc (j+1,HK all (((rw k)[i]'Wa)[j]'Wa).k,todo++[(((rw k)[i]'Wa)[j]'Wa).k]) ?_ ?_ ?_;exact Ql (l:=[1,4,5,26,27,28,32,33,34]) (lH:=[1,5,500000,500001,1000000]) (kp9 Z Z Z Z Z Z Z Z Z) (Qa Z (Qa Z (Qa Z (Qa Z (Qa Z Qb))))) (by rw[QAY];rfl) (by rw[QBi];rfl) Z
 refine⟨Wa, ?_⟩;rw[QqI (Wa:j<((rw k)[i]'Wa).length),<- QA9];exact G.put (hkey k O _ (QAp (Wa:i<(rw k).length)) _ (QAp Wa)) Wa;show((rw k)[i]'Wa).length - (j+1)<((rw k)[i]'Wa).length - j;omega;intro h4;refine Qc (j+1,all,todo) ?_ ?_ ?_;exact Ql (l:=[1,4,5,26,27,28,32,33,34]) (lH:=[1,5,500000,500001,1000000]) (kp9 Z Z Z Z Z Z Z Z Z) (Qa Z (Qa Z (Qa Z (Qa Z (Qa Z Qb))))) Z Z Z;refine⟨Wa, ?_⟩;rw[QqI (Wa:j<((rw k)[i]'Wa).length),<- QA9];exact G.ui Wa;show((rw k)[i]'Wa).length - (j+1)<((rw k)[i]'Wa).length - j;omega;intro h3;refine Qc (i+1,all,todo) ?_ ?_ ?_;exact Ql (l:=[1,4,5,26,27,28]) (lH:=[1,5,500000,500001,1000000]) (kp6 Z Z Z Z Z Z) (Qa Z (Qa Z (Qa Z (Qa Z (Qa Z Qb))))) Z Z Z;refine⟨Wa, ?_⟩;rw[Qt9 Wa];rw[QAA Wa]at G;exact G;show(rw k).length - (i+1)<(rw k).length - i;omega;intro h2;refine aB ?_ ?_;intro h5;have h26:=hJ.len;exfalso;omega;intro h5;refine Qc (all,todo,C) ?_ ?_ ?_;exact Ql (l:=[1,4,5]) (lH:=[1,5,500000,500001,1000000]) (kp3 Z Z Z) (Qa Z (Qa Z (Qa Z (Qa Z (Qa Z Qb))))) Z Z Z
 ·exact⟨hJ.done (QqH Wa),Y⟩
 exact hm0 ▸ hJ.mu;intro h1;obtain rfl:todo=[]:=(by cases todo with |nil=>rfl |cons a b=>simp at h1);exact⟨_,_,⟨all,ns,rfl,rfl,M,T⟩,Pt,Mx,Xa Z Z ⟨rfl,rfl⟩ ⟨rfl,rfl⟩ (Xn (A:=[_,_]) rfl)⟩
end Go.Proofs
namespace Go.Proofs
open Go Go.Abs
set_option maxRecDepth 100000
set_option maxHeartbeats 0
set_option cbv.maxSteps 100000000
def t67:TT false Tryz.f67:=⟨_,by cbv⟩
def tf67:z5:=t67.1
theorem QzX:Qj Tryz.prog Tryz.f67=some tf67.erase:=by kernel_rfl
open M3 M25
set_option maxRecDepth 4000
set_option maxHeartbeats 1000000
theorem Gb {y:YdT} {lkf:List UInt8->List TkR} {ns:List (List UInt8)} (G:j9 ns) {rw:Za->List (List AskT)} {cf:List Za->Za->List CandT × Bool} (M:∃d H',(∃all C,d=.u7 [XK all,.bool true]/\H'=FD lkf C/\j9 C/\sa rw all [])/\s6 Tryz.prog 97 [.agg (dYd y (.ref 1000000 0 0))] (FD lkf ns) d H') (hcf:∀all:List Za,all.length<=26->∀k∈Tv,∀ns,j9 ns->∃ns',j9 ns'/\s6 Tryz.prog 98 [.agg (dYd y (.ref 1000000 0 0)),XK all,.agg (Ht k)] (FD lkf ns) (.u7 [Qbp (cf all k).1,.bool (cf all k).2]) (FD lkf ns')):∃d H',(∃w b C,d=.u7 [QW w,.bool b]/\H'=FD lkf C/\j9 C/\(b=true->∃all,sa rw all []/\w=all.map (unM cf all)/\∀k∈all,(cf all k).2=true))/\s6 Tryz.prog 67 [.agg (dYd y (.ref 1000000 0 0))] (FD lkf ns) d H':=by
 refine s6.uf (R:=λd H'=>(∃w b C,d=.u7 [QW w,.bool b]/\H'=FD lkf C/\j9 C/\(b=true->∃all,sa rw all []/\w=all.map (unM cf all)/\∀k∈all,(cf all k).2=true))) tfol Tryz.func67 QzX (QAk Z) ?_;show TX _ _ tf67.body _ _;refine aZ ?_;refine aZ ?_;refine BX λK hK=>B4 (l:=[_]) ?_;refine aK ?_;obtain⟨_,_,⟨all,C,rfl,rfl,V,hR⟩,T⟩:=M;have h26:=hR.len;refine QdV (Ho:=[_,_,_]) (T) Z Z Z Z Z (λ_=>⟨rfl,rfl⟩) Z Z (Qej (aK ?_));refine hK _ _ (Rg (kp5 Z Z Z Z Z) ?_);refine aK ?_;refine Kx (ι:=Nat × Bool × List (List UInt8)) (λ⟨i,ok,ns⟩=>⟨[(1,.ref 1 0 0),(2,.ref 2 0 0),(4,.ref 4 0 0),(5,XK all),(6,.bool ok),(7,.int .i64 i)],[(1,⟨[dYd y (.ref 1000000 0 0)],8,127,false⟩),(2,⟨[[.z7 []]],1,25,true⟩),(4,⟨[[.s4 60 ((all.take i).map (unM cf all)).length]],1,25,false⟩),(60,⟨((all.take i).map (unM cf all)).map Zi,3,58,true⟩),(500000,bNs ns),(500001,bRs lkf ns),(1000000,bFd ns)]⟩) (λ⟨i,ok,ns⟩=>i<=all.length/\j9 ns/\(ok=true->∀k∈all.take i,(cf all k).2=true)) (λ⟨i,ok,ns⟩=>all.length - i) (0,true,C) ?_ ?_ ?_;exact le_trans (Gp 4 0 60 3 58 Z Z Z Z) (Ql (l:=[1,2,4,5,6,7]) (lH:=[1,2,4,60,500000,500001,1000000]) (kp6 Z Z Z Z Z Z) (Qa Z (Qa Z (Qa Z (Qa Z (Qa Z (Qa Z (Qa Z Qb))))))) Z Z Z);exact⟨QAw _,V,λ_=>by simp⟩;intro ⟨i,ok,ns⟩ ⟨hI,G,hO⟩
 try dsimp only at hI G hO
 try dsimp only
 refine aB ?_ ?_;intro h1;refine aV ?_ ?_;intro h2;refine aJ ?_;refine QhT (aJ ?_);refine QhP (l1:=[_,_,_,_,_,_]) λK hK=>?_;refine aK ?_;obtain⟨Y,U,O⟩:=hcf all h26 (all[i]'Wa) (hR.key _ (QAp Wa)) ns G;refine QdV (Ho:=[_,_,_,_]) (O) Z Z Z Z Z (λ_=>⟨rfl,rfl⟩) Z Z (aK ?_);refine hK _ _ (Rg (kp7 Z Z Z Z Z Z Z) ?_);refine aK ?_;refine Qn Z Z (YK (ds0:=[0]) Z Z Wf ⟨_,rfl,rfl,rfl,rfl,rfl⟩ Z Z Wc Z Z Wd Wd Z Z (aK ?_));refine Xz (ds0:=[]) Z Z Z Z Z Z Z Z Z Z (aK ?_);refine Qc (i+1,(cf all (all[i]'Wa)).2,Y) ?_ ?_ ?_;exact le_trans (QiK (l:=[1,2,4,5,6,7]) (lH:=[1,2,500000,500001,1000000]) 50 60 4 (kp6 Z Z Z Z Z Z) (Qa Z (Qa Z (Qa Z (Qa Z (Qa Z Qb))))) Z Z Z Z Z Z Z Z) (Ql (l:=[1,2,4,5,6,7]) (lH:=[1,2,4,60,500000,500001,1000000]) (kp6 Z Z Z Z Z Z) (Qa Z (Qa Z (Qa Z (Qa Z (Qa Z (Qa Z (Qa Z Qb))))))) Z (by rw[QBv (Wa:i<all.length),QBi,QAY,QBi];rfl) Z)
 refine⟨Wa,U,λh k hk=>?_⟩;rw[QBv (Wa:i<all.length)]at hk;rcases QAv.1 hk with hk |hk
 exact hO h2 k hk;rw[QAt.1 hk];exact h;show all.length - (i+1)<all.length - i;omega;intro h2;refine aK ?_;exact⟨_,_,⟨((all.take i).map (unM cf all)),false,ns,rfl,rfl,G,λh=>by cases h⟩,Pt,Mx,Qcu rfl rfl rfl rfl rfl ⟨by simp[setRow,F7,D.fz,D.n7,small,D.can,D.z6,Qf],rfl⟩ ⟨rfl,rfl⟩ (Xn (A:=[_,_,_,_,_]) rfl)⟩;intro h1;refine B3 Z (aK ?_);exact⟨_,_,⟨((all.take i).map (unM cf all)),ok,ns,rfl,rfl,G,λh=>⟨all,hR,by rw[QAA (Wa:all.length<=i)],λk hk=>hO h k (by rw[QAA (Wa:all.length<=i)];exact hk)⟩⟩,Pt,Mx,Qcu Z Z Z Z Z ⟨by simp[setRow,F7,D.fz,D.n7,small,D.can,D.z6,Qf],rfl⟩ ⟨rfl,rfl⟩ (Xn (A:=[_,_,_,_,_]) rfl)⟩
end Go.Proofs
namespace Go.Proofs
open Go Go.Abs
set_option maxRecDepth 100000
set_option maxHeartbeats 0
set_option cbv.maxSteps 100000000
def t31:TT false Tryz.f31:=⟨_,by cbv⟩
def tf31:z5:=t31.1
theorem QzJ:Qj Tryz.prog Tryz.f31=some tf31.erase:=by kernel_rfl
def t66:TT false Tryz.f66:=⟨_,by cbv⟩
def tf66:z5:=t66.1
theorem QzW:Qj Tryz.prog Tryz.f66=some tf66.erase:=by kernel_rfl
open M3 M25
set_option maxRecDepth 4000
set_option maxHeartbeats 1000000
theorem H5 {l:List ShR} {n:List UInt8} (C:l.length<=1000):Ok Tryz.prog 66 [Cm l,.str n] (.int .i64 (plP (nmS n) l 0)):=by
 refine Ok.n6 tfol Tryz.func66 QzW (QAk Z) ?_;show TW _ _ tf66.body _ _;refine aS ?_;refine Qg (XH (l:=l) (n:=n) C) Z Z (.inr Z) (aK ?_);rfl
theorem H7 (wk:Qla) {ms:List Qhu} {ss:List ShR} {v1 v2 v3:List UInt8} {G:Qe->Prop} (O:ms.length<=2) (M:∀m∈ms,Tp.u3 S7 (QeQ m)) (hsl:ss.length<=2) (hst:∀s∈ss,Tp.u3 XP (dSh s)) (het:Tp.u3 GS [.str v1,.str v2,.str v3]) (hw:∀ps:List QhM,ps.length<=4->(∀p∈ps,Tp.u3 BL (QeR p))->∃lkf,∃d H',(∃w b C,d=.u7 [QW w,.bool b]/\H'=FD lkf C/\(b=true->G w))/\s6 Tryz.prog 67 [.agg (dYd ⟨ms,ss,v1,v2,v3,ps⟩ (.ref 1000000 0 0))] (FD lkf []) d H'):∃d,(∃w e,d=.u7 [QW w,.int .i64 e]/\(e=0->G w))/\Ok Tryz.prog 31 [Nu ms,Cm ss,.agg [.str v1,.str v2,.str v3],.sl []] d:=by
 refine Ok.uf (R:=λd=>(∃w e,d=.u7 [QW w,.int .i64 e]/\(e=0->G w))) tfol Tryz.func31 QzJ (QAk Z) ?_;show TX _ _ tf31.body _ _;refine aS ?_;obtain⟨e1,m1,ok1⟩:=wk.lg (ms.map QeQ) (by simpa using O) (λr hr=>by obtain⟨x,hx,rfl⟩:=QAy.1 hr;exact M x hx)
 refine Qg (ok1) Z Z (.inr Z) (aB ?_ ?_);intro h1;refine⟨_,⟨[],_,rfl,λh=>?_⟩,ZI Z Z Z Z Z ⟨rfl,rfl⟩⟩;exact absurd h h1;intro h1;obtain⟨b2,Y⟩:=wk.jg (ss.map dSh) (by simpa using hsl) (λr hr=>by obtain⟨x,hx,rfl⟩:=QAy.1 hr;exact hst x hx)
 refine Qg (Y) Z Z (.inr Z) (aB ?_ ?_);intro h2;refine Rk Z (aK ?_);refine⟨_,⟨[],_,rfl,λh=>?_⟩,ZI Z Z Z Z Z ⟨rfl,rfl⟩⟩;cases h
 intro h2;obtain⟨b3,V⟩:=wk.oh _ _ _ het;refine Qg (V) Z Z (.inr Z) (aB ?_ ?_);intro h3;refine⟨_,⟨[],_,rfl,λh=>?_⟩,ZI Z Z Z Z Z ⟨rfl,rfl⟩⟩;cases h
 intro h3;obtain⟨ps,e4,hps,hpt,U⟩:=wk.sg (ms.map QeQ) (by simpa using O) (λr hr=>by obtain⟨x,hx,rfl⟩:=QAy.1 hr;exact M x hx)
 refine Qg (U) Z Z (.inl Z) (aB ?_ ?_);intro h4;refine⟨_,⟨[],_,rfl,λh=>?_⟩,ZI Z Z Z Z Z ⟨rfl,rfl⟩⟩;exact absurd h h4;intro h4;refine Kx (ι:=Nat) (λi=>⟨[(0,Nu ms),(1,Cm ss),(3,.sl []),(6,.ref 6 0 0),(8,.ref 8 0 0),(12,RF ps),(14,.int .i64 i)],[(6,⟨[[.str v1,.str v2,.str v3]],3,50,true⟩),(8,⟨[[.z7 []]],1,25,true⟩)]⟩) (λi=>i<=ps.length) (λi=>ps.length - i) 0 ?_ ?_ ?_;exact Ql (l:=[0,1,3,6,8,12,14]) (lH:=[6,8]) (kp7 Z Z Z Z Z Z Z) (Qa Z (Qa Z Qb)) Z Z Z;exact QAw _;intro i hI
 try dsimp only
 refine aV ?_ ?_;intro h5;refine aK ?_;refine Qg (H5 (l:=ss) (n:=(ps[i]'Wa).s) Wa) Z Z (.inr Z) (aB ?_ ?_);intro h6;refine⟨_,⟨[],_,rfl,λh=>?_⟩,ZI Z Z Z Z Z ⟨rfl,rfl⟩⟩;cases h
 intro h6;refine Qc (i+1) ?_ ?_ ?_;exact Ql (l:=[0,1,3,6,8,12,14]) (lH:=[6,8]) (kp7 Z Z Z Z Z Z Z) (Qa Z (Qa Z Qb)) Z Z Z;omega
 first |omega |(simp only;omega) |(dsimp only;omega)
 intro h5;refine aJ ?_;refine BX λK hK=>B4 (l:=[_,_,_,_,_,_,_,_]) ?_;refine aK ?_;obtain⟨lkf,_,_,⟨w,b5,C,rfl,rfl,hG⟩,T⟩:=hw ps hps hpt;refine QsD (Ho:=[_]) (T) Z (le_trans (Gp 66 0 500000 1 9 Z Z Z Z) (le_trans (Gp 66 1 500001 1 228 Z Z Z Z) (Ql (l:=[8,67]) (lH:=[8,500000,500001,66]) (kp2 Z Z) (Qa Z (Qa Z (Qa Z (Qa Z Qb)))) Z Z Z))) Z Z Z Z Z (λ_=>⟨rfl,rfl⟩) Z Z (Qej (aK ?_));refine hK _ _ (Rg (kp3 Z Z Z) ?_);refine aB ?_ ?_;intro h7;refine⟨_,⟨[],_,rfl,λh=>?_⟩,ZI Z Z Z Z Z ⟨rfl,rfl⟩⟩;cases h
 intro h7;exact⟨_,⟨w,0,rfl,λ_=>hG (by simp_all)⟩,ZI Z Z Z Z Z ⟨rfl,rfl⟩⟩
end Go.Proofs
namespace Go.Proofs
open Go Go.Abs
set_option maxRecDepth 100000
set_option maxHeartbeats 0
set_option cbv.maxSteps 100000000
def Qyo:TT false Tryz.f142:=⟨_,by cbv⟩
def tf142:z5:=Qyo.1
theorem Qq6:Qj Tryz.prog Tryz.f142=some tf142.erase:=by kernel_rfl
open M3 M25
set_option maxRecDepth 4000
set_option maxHeartbeats 1000000
variable {op:List UInt8->List (List AskT)} {v1 v2 v3:List UInt8} {x:FH}
theorem NG:∀s∈tItem,itN s∈tOpt\/¬itK s=2:=by decide
theorem NH:∀s∈tItem,(itK s=1\/itK s=2)\/(itN s∈tName/\itF s=[120])\/(itN s=[]/\itF s=[]):=by decide
theorem QfD:∀s∈tItem,itN s∈Qa0\/¬itK s=1:=by decide
theorem HG (C:∀o∈tOpt,Ok Tryz.prog 180 [.agg (JC x),.agg [.str v1,.str v2,.str v3],.str o] (ZL (op o))):Ok Tryz.prog 142 [.agg (JC x),.agg [.str v1,.str v2,.str v3],.str []] (ZL (op [])):=by
 refine Ok.n6 tfol Tryz.func142 Qq6 (QAk Z) ?_;show TW _ _ tf142.body _ _;refine aX ?_ ?_;intro h1;refine Qg (C [] We) Z Z (.inl Z) (aK ?_);refine QM Z ?_;rfl;intro h1;exact absurd trivial h1
theorem HH (hv:fb x.v) {f:List UInt8} (hf:¬f=[]) (Y:∀o∈tOpt,Ok Tryz.prog 180 [.agg (JC x),.agg [.str v1,.str v2,.str v3],.str o] (ZL (op o))) {pl:List UInt8->List UInt8->List (List AskT)} (V:∀n o,(n∈tName/\o=[120])\/(n=[]/\o=[])->Ok Tryz.prog 183 [.agg (JC x),.agg [.str v1,.str v2,.str v3],.str n,.str o] (ZL (pl n o))) {C:List (List UInt8)} (hil:C.length<=5) (vf:∀s∈C,s∈tItem) (hof:Ok Tryz.prog 181 [.sl x.fd,.str f] (.sl (C.map λs=>[.str s]))) (T:∀s∈tItem,Ok Tryz.prog 182 [.str s] (.u7 [.int .i64 (itK s:Nat),.str (itN s),.str (itF s)])) (O:∀o∈tOpt,(op o).length<=14) (M:∀n o,(n∈tName/\o=[120])\/(n=[]/\o=[])->(pl n o).length<=14):Ok Tryz.prog 142 [.agg (JC x),.agg [.str v1,.str v2,.str v3],.str f] (.sl ((ndU x.n (Y9 x.v.a x.v.b x.v.c x.v.p x.v.q) op pl C).map QoJ)):=by
 refine Ok.n6 tfol Tryz.func142 Qq6 (QAk Z) ?_;show TW _ _ tf142.body _ _;refine aX ?_ ?_;intro h1;exact absurd h1 hf;intro h1;refine Qg (X5 hv.sm.1 hv.sm.2) Z Z (.inl Z) (aK ?_);refine QG Z Z (Qn Z Z (aK ?_));refine Qg (hof) Z Z (.inl Z) (aK ?_);refine Qt (ι:=Nat) (λi=>⟨[(3,.ref 3 0 0),(4,.ref 4 0 0),(7,.ref 7 0 0),(8,.s4 8 (ndU x.n (Y9 x.v.a x.v.b x.v.c x.v.p x.v.q) op pl (C.take i)).length),(32,.sl (C.map λs=>[.str s])),(33,.int .i64 C.length),(34,.int .i64 i)],[(3,⟨[JC x],9,100,true⟩),(4,⟨[[.str v1,.str v2,.str v3]],3,50,true⟩),(7,⟨[[Qw (Y9 x.v.a x.v.b x.v.c x.v.p x.v.q).1,Qw (Y9 x.v.a x.v.b x.v.c x.v.p x.v.q).2]],2,79,true⟩),(8,⟨(ndU x.n (Y9 x.v.a x.v.b x.v.c x.v.p x.v.q) op pl (C.take i)).map QoJ,1,222,true⟩)]⟩) (λi=>i<=C.length) (λi=>C.length - i) 0 ?_ ?_ ?_;exact le_trans (MD (l:=[3,4,7,32,33,34]) (lH:=[3,4,7]) 28 8 8 (kp6 Z Z Z Z Z Z) (Qa Z (Qa Z (Qa Z Qb))) Z Z Z Z Z Z Z) (Ql (l:=[3,4,7,8,32,33,34]) (lH:=[3,4,7,8]) (kp7 Z Z Z Z Z Z Z) (Qa Z (Qa Z (Qa Z (Qa Z Qb)))) Z Z Z);exact QAw _;intro i hI;have hlen:(ndU x.n (Y9 x.v.a x.v.b x.v.c x.v.p x.v.q) op pl (C.take i)).length<=71:=QAD (QfY (λs G k=>O _ ((NG _ (vf _ (QAE G))).resolve_right (λh=>h k))) (λs G k k2=>M _ _ ((NH _ (vf _ (QAE G))).resolve_left Wa))) Wd
 try dsimp only
 refine aB ?_ ?_;intro h2;have G:=vf _ (QAp (Wa:i<C.length));refine aK ?_;refine Qg (T _ G) Z Z (.inl Z) (aB ?_ ?_);intro h3;refine QG Z Z (Qn Z Z (Zu Z Z (λ_ h=>ZN Z Z Z h) Z Wc Z Z Z Wd Wd (aK ?_)));refine Qc (i+1) ?_ ?_ ?_;exact Ql (l:=[3,4,7,8,32,33,34]) (lH:=[3,4,7,8]) (kp7 Z Z Z Z Z Z Z) (Qa Z (Qa Z (Qa Z (Qa Z Qb)))) (by first |(rw[L0 (Wa:i<C.length) Wa];done) |(rw[L0 (Wa:i<C.length) Wa];rfl) |(rw[L0 (Wa:i<C.length) Wa,QAY];rfl) |(simp[L0 (Wa:i<C.length) Wa];done) |(simp[L0 (Wa:i<C.length) Wa];omega) |rfl) (by first |(rw[L0 (Wa:i<C.length) Wa];done) |(rw[L0 (Wa:i<C.length) Wa];rfl) |(rw[L0 (Wa:i<C.length) Wa,QBi];rfl) |(simp[L0 (Wa:i<C.length) Wa];done) |rfl) Z
 omega
 first |omega |(simp only;omega) |(dsimp only;omega)
 intro h3;refine aB ?_ ?_;intro h4;have h14:=O _ ((NG _ G).resolve_right (λh=>h Wa));refine aK ?_;refine Qg (Y _ ((NG _ G).resolve_right (λh=>h Wa))) Z Z (.inl Z) (Zu Z Z (λ_ h=>Pl QgB h) Z Wc Z Z Z Wd Wd (aK ?_));refine Qc (i+1) ?_ ?_ ?_;exact Ql (l:=[3,4,7,8,32,33,34]) (lH:=[3,4,7,8]) (kp7 Z Z Z Z Z Z Z) (Qa Z (Qa Z (Qa Z (Qa Z Qb)))) (by rw[Qp9 (Wa:i<C.length) Wa,QAY,QBd,QBd];rfl) (by rw[Qp9 (Wa:i<C.length) Wa,QBi,TN];rfl) Z
 omega
 first |omega |(simp only;omega) |(dsimp only;omega)
 intro h4;have U:=((NH _ G).resolve_left Wa);have h14:=M _ _ U;refine aK ?_;refine Qg (V _ _ U) Z Z (.inl Z) (Zu Z Z (λ_ h=>Pl QgB h) Z Wc Z Z Z Wd Wd (aK ?_));refine Qc (i+1) ?_ ?_ ?_;exact Ql (l:=[3,4,7,8,32,33,34]) (lH:=[3,4,7,8]) (kp7 Z Z Z Z Z Z Z) (Qa Z (Qa Z (Qa Z (Qa Z Qb)))) (by rw[Qqa (Wa:i<C.length) Wa Wa,QAY,QBd,QBd];rfl) (by rw[Qqa (Wa:i<C.length) Wa Wa,QBi,TN];rfl) Z
 omega
 first |omega |(simp only;omega) |(dsimp only;omega)
 intro h2;exact Xb Z Z Z Wc (by rw[QAA (Wa:C.length<=i)])
end Go.Proofs
namespace Go.Proofs
open Go Go.Abs
set_option maxRecDepth 100000
set_option maxHeartbeats 0
set_option cbv.maxSteps 100000000
def t15:TT false Tryz.f15:=⟨_,by cbv⟩
def tf15:z5:=t15.1
theorem Qzu:Qj Tryz.prog Tryz.f15=some tf15.erase:=by kernel_rfl
def QyK:TT false Tryz.f185:=⟨_,by cbv⟩
def tf185:z5:=QyK.1
theorem QuY:Qj Tryz.prog Tryz.f185=some tf185.erase:=by kernel_rfl
open M3 M25
set_option maxRecDepth 4000
set_option maxHeartbeats 1000000
variable {e:Int}
def Px:Qe:=[⟨[],[],[⟨⟨0,0,0,[],[]⟩, -1,[],[]⟩]⟩]
def dNone:D:=.agg [.sl [[.str [],.str [],.z7 [[.int .i64 0,.int .i64 0,.int .i64 0,.str [],.str [],.int .i64 (-1),.z7 [],.z7 []]]]]]
theorem QmL:dNone.wk (QW Px)=true:=by rfl
theorem FP {t:List UInt8} {s:Je} (C:Ok Tryz.prog 222 [.str t] (.u7 [.agg [Qw s.1,Qw s.2],.int .i64 e])):Ok Tryz.prog 185 [.str t] (Lu s):=by
 refine Ok.n6 tfol Tryz.func185 QuY (QAk Z) ?_;show TW _ _ tf185.body _ _;refine aS ?_;refine Qg (C) Z Z (.inl Z) (aK ?_);refine Zg (cs:=[_,_]) Z Z Z Z ?_;rfl
theorem G4 {l:List Int} {ms:List Qhu} {ss:List ShR} {v1 v2 v3:List UInt8} {w:Qe} (C:Ok Tryz.prog 48 [Qz l,.int .i64 0] (Nu ms)) (G:Ok Tryz.prog 49 [Qz l,.int .i64 200] (Cm ss)) (he:Ok Tryz.prog 32 [Qz l,.int .i64 1200] (.agg [.str v1,.str v2,.str v3])) (hb:Ok Tryz.prog 31 [Nu ms,Cm ss,.agg [.str v1,.str v2,.str v3],.sl []] (.u7 [QW w,.int .i64 e])):Ok Tryz.prog 15 [Qz l] (if e=0 then QW w else dNone):=by
 refine Ok.n6 tfol Tryz.func15 Qzu (QAk Z) ?_;show TW _ _ tf15.body _ _;refine aS ?_;refine Qg (C) Z Z (.inl Z) (aK ?_);refine Qg (G) Z Z (.inl Z) (aK ?_);refine Qg (he) Z Z (.inl Z) (Qg (hb) Z Z (.inl Z) (aB ?_ ?_));intro h1;refine QG Z Z (aK ?_);refine QG Z Z (aK ?_);rw[if_neg h1];exact Zg (cs:=[_]) rfl rfl rfl rfl rfl;intro h1;rw[if_pos (by simpa using h1)];exact Zg (cs:=[_]) rfl rfl rfl rfl rfl
set_option maxRecDepth 100000
variable {k:Nat} {l:List (Cu × Cu)}
theorem Qft {n:Int} (h:QpO n=true): -9223372036854775808<=n/\n<=9223372036854775807:=by
 simpa [QpO]using h
theorem QjU {c:Cu} (h:cuB c=true) (hp:c.p.length<=40) (C:c.q.length<=40):Tp.u3 Qd0 (dCu c):=by
 simp only[cuB,QAo,decide_eq_true_eq]at h;obtain⟨he,ha,hb,G⟩:=h;exact⟨_,_,rfl,⟨_,rfl,he⟩,_,_,rfl,⟨_,rfl,Qft ha⟩,_,_,rfl,⟨_,rfl,Qft hb⟩,_,_,rfl,⟨_,rfl,Qft G⟩,_,_,rfl,⟨_,rfl,hp⟩,_,_,rfl,⟨_,rfl,C⟩,_,_,rfl,⟨_,rfl⟩,rfl⟩
theorem QkB (h:spB k l=true) (g:QqV l=true):(Tp.l Yn 9).has (Qw l):=by
 simp only[spB,QAo,Nat.ble_eq,QAu]at h;obtain⟨⟨⟨h1,h2⟩,_⟩,_⟩:=h;refine⟨_,.inl rfl,by simpa using h1,Qcn λs C=>?_⟩;have g:=QAu.1 g s C;simp only[QAo]at g;have:=h2 s C;exact⟨QjU g.1 Wa Wa,QjU g.2 Wa Wa⟩
theorem Qju (c:Cu) (r:List D):QoN (dCu c++r)=some (c,r):=by rfl
theorem SN:∀l:List (Cu × Cu),BC (l.map JT)=some l
 |[]=>rfl
 |(a,b)::l=>by
  have e:QoN (dCu b)=some (b,[]):=by rfl
  simp only[QAX,BC,JT,Qju,e,SN l]
theorem Qko (h:spB k l=true):(Tp.px k).has (Qw l):=⟨_,.inl rfl,by rw[xB,SN];exact h⟩
theorem Qkx (hm:Tryz.prog.follows .mixedOrders=true) {t:List UInt8} (C:t∈tRange):∃s:Je,(spB 0 s.1=true/\spB 1 s.2=true)/\Ok Tryz.prog 185 [.str t] (Lu s):=by
 obtain⟨s,e,_,h,o⟩:=Qqi hm C;exact⟨s,⟨h.h1,h.h2⟩,FP o⟩
theorem Qqj {ls:List (List UInt8)} {μ:List Int} {ds:List D} (h:Vl.n4 μ [ty (.c ls)] ds):∃t∈ls,ds=[.str t]:=by
 obtain⟨d,r,rfl,⟨t,C,rfl⟩,rfl⟩:=h;exact⟨t,C,rfl⟩
theorem gOf (hm:Tryz.prog.follows .mixedOrders=true):∀c∈spG 222,c.ok Tryz.prog 222:=by
 intro c C;have e:spG 222=[c0 [pc tRange] (.uu [.aa [ty (.l Yn 9),ty (.l Yn 9)],QaZ])]:=rfl;rw[e,QAt]at C;subst C;intro μ ds h1 h2 O M;obtain⟨t,G,rfl⟩:=Qqj M;obtain⟨s,e,he,h,o⟩:=Qqi hm G;refine⟨[],_,by rw[QAP];exact h1,λc C=>(by cases (show c∈([]:List Cn) from C)), ?_,o⟩
 exact⟨_,rfl,_,_,rfl,⟨_,rfl,_,_,rfl,QkB h.h1 h.g1,_,_,rfl,QkB h.h2 h.g2,rfl⟩,_,_,rfl,⟨e,rfl,he⟩,rfl⟩
theorem Qxt (hm:Tryz.prog.follows .mixedOrders=true):∀c∈spG 185,c.ok Tryz.prog 185:=by
 intro c C;have e:spG 185=[c0 [pc tRange] (.aa [ty (.px 0),ty (.px 1)])]:=rfl;rw[e,QAt]at C;subst C;intro μ ds h1 h2 O M;obtain⟨t,G,rfl⟩:=Qqj M;obtain⟨s,h,o⟩:=Qkx hm G;refine⟨[],_,by rw[QAP];exact h1,λc C=>(by cases (show c∈([]:List Cn) from C)), ?_,o⟩
 exact⟨_,rfl,_,_,rfl,Qko h.1,_,_,rfl,Qko h.2,rfl⟩
end Go.Proofs
