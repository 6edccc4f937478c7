/- Part 39 of the means of the proof: a verified evaluator and contracts of functions. -/
import Derived.Test.YtggcpapoljmiaaaGreatDoorC21
set_option maxRecDepth 4000
set_option maxHeartbeats 4000000
set_option linter.unusedSimpArgs false
set_option linter.unusedVariables false
set_option linter.unusedSectionVars false
namespace Go.Proofs
open Go Go.Abs M3 M25
variable {k:Q7} {l:List Q7} {p:Prop}
theorem G4 {a b:Q7}:Ok Tryz.prog 176 [.agg (Hp a),.agg (Hp b)] (.bool (K1 a b)):=by
 refine Ok.b7 tfol Tryz.func176 QuI (QzN Z) ?_;show TW _ _ tf176.body _ _;refine aX ?_ ?_;intro h1
 (repeat clear hK K);simp_all [K1]
 intro h1;refine aB ?_ ?_;intro h2
 (repeat clear hK K);simp_all [K1]
 intro h2
 (repeat clear hK K);simp_all [K1]
theorem XD (G:l.length<=1000000):Ok Tryz.prog 177 [XE l,.agg (Hp k)] (.int .i64 (plA l k)):=by
 refine Ok.b7 tfol Tryz.func177 QuJ (QzN Z) ?_;show TW _ _ tf177.body _ _;refine aS ?_;refine QE (ι:=Nat) (λi=>⟨[(0,XE l),(3,.ref 3 0 0),(5,.int .i64 i)],[(3,⟨[Hp k],2,170,true⟩)]⟩) (λi=>i<=l.length/\plA l k=plP (λx=>decide (x=k)) (l.drop i) i) (λi=>l.length - i) 0 ?_ ?_ ?_;exact Qn (l:=[0,3,5]) (lH:=[3]) (kp3 Z Z Z) (Qa Z Qb) Z Z Z;exact⟨QzZ _,rfl⟩;intro i C
 try dsimp only
 refine aB ?_ ?_;intro h1;refine JO Z Z KX (aB ?_ ?_);intro h2;rw[show plA l k=_ from LX Wa (by simpa using h2) C.2];intro h2;refine Qd (i+1) ?_ ?_ ?_;exact Qn (l:=[0,3,5]) (lH:=[3]) (kp3 Z Z Z) (Qa Z Qb) Z Z Z;exact⟨Wa,Nz Wa (by simpa using h2) C.2⟩
 first |omega |(simp only;omega) |(dsimp only;omega)
 intro h1;rw[show plA l k=_ from PB Wa C.2]
theorem _root_.Wh (h:p:=by first |exact .inl (by omega) |exact .inr ⟨by omega,by assumption,by assumption⟩):p:=h
theorem Jm (T:l.length<=1000000):Ok Tryz.prog 138 [XE l,.agg (Hp k)] (XE (HE l k)):=by
 refine Ok.b7 tfol Tryz.func138 Qum (QzN Z) ?_;show TW _ _ tf138.body _ _;refine aS ?_;refine QE (ι:=Nat) (λi=>⟨[(0,XE l),(3,.ref 3 0 0),(5,.int .i64 i)],[(3,⟨[Hp k],2,170,true⟩)]⟩) (λi=>i<=l.length/\HE l k=l.take i++HE (l.drop i) k) (λi=>l.length - i) 0 ?_ ?_ ?_;exact Qn (l:=[0,3,5]) (lH:=[3]) (kp3 Z Z Z) (Qa Z Qb) Z Z Z;exact⟨QzZ _,by simp⟩;intro i C
 try dsimp only
 refine aB ?_ ?_;intro h1;refine Qw (ds0:=[0]) (G4) Z Z (.inr Z) Z Z (aB ?_ ?_);intro h2;refine Qd (i+1) ?_ ?_ ?_;exact Qn (l:=[0,3,5]) (lH:=[3]) (kp3 Z Z Z) (Qa Z Qb) Z Z Z;exact⟨Wa,Qf2 Wa h2 C.2⟩
 first |omega |(simp only;omega) |(dsimp only;omega)
 intro h2;refine aB ?_ ?_;intro M;refine JO Z Z KX (aB ?_ ?_);intro O;refine QO Z ?_;rw[Qf1 (k:=i) Wa (by assumption) (by assumption) C.2];rfl;intro O;refine XM Z Z Z Z Wa Wa Wd C4 Z (NX (ds0:=[5,1,0]) Z Z (λ_ h=>⟨Qcg,h⟩) Z (.inl Z) Wc Wd Wd Z Z (aK ?_));refine Qo Z Z (YL (ds0:=[1,0]) Z Z Wf ⟨_,rfl,rfl,rfl,rfl,rfl⟩ Z Z Wc Z Z Wd Wd Z Z (aK ?_));refine XM Z Z Z Z Wa Wd Wc C4 Z (YL (ds0:=[0]) Z Z Wf ⟨rfl,Qcg,rfl⟩ Z Z Wc Z Z Wd Wd Z Z (aK ?_));refine QO Z ?_;rw[Qb6 (k:=i) Wh C.2];simp[XL,D.fz,D.o7,JG,lk,D.can,D.y6,XE,D.l4,(show∀a b:Nat,a+1+b=a+(b+1) fromλa b=>Wa),Qz3 (show(l.map Hp).length<=l.length by simp)]<;>rfl;intro M;exact absurd h1 M;intro h1;refine QP Z (aB ?_ ?_);intro G;exact absurd G h1;intro G;refine QP Z (aK ?_);refine XM Z Z Z Z Wa Wa Wd C4 Z (NX (ds0:=[5,1,0]) Z Z (λ_ h=>⟨Qcg,h⟩) Z (.inl Z) Wc Wd Wd Z Z (aK ?_));refine Qo Z Z (YL (ds0:=[1,0]) Z Z Wf ⟨_,rfl,rfl,rfl,rfl,rfl⟩ Z Z Wc Z Z Wd Wd Z Z (aK ?_));refine XM Z Z Z Z Wa Wd Wc C4 Z (YL (ds0:=[0]) Z Z Wf ⟨rfl,Qcg,rfl⟩ Z Z Wc Z Z Wd Wd Z Z (aK ?_));refine QO Z ?_;rw[Qb6 (k:=i) Wh C.2];simp[XL,D.fz,D.o7,JG,lk,D.can,D.y6,XE,D.l4,(show∀a b:Nat,a+1+b=a+(b+1) fromλa b=>Wa),Qz3 (show(l.map Hp).length<=l.length by simp)]<;>rfl
theorem _root_.Wk (h:p:=by first |(simp;done) |(simp;omega)):p:=h
theorem Yt {all:List Q7} (M:all.length<=1000000) {rs:List (List AskT)} (hr:rs.length<=1000000) (C:∀r∈rs,r.length<=1000000):Ok Tryz.prog 139 [XE all,ZM rs] (Ky (M7 all rs)):=by
 refine Ok.b7 tfol Tryz.func139 Qun (QzN Z) ?_;show TW _ _ tf139.body _ _;refine aS ?_;refine QE (ι:=Nat) (λi=>⟨[(0,XE all),(5,.s4 5 i),(11,ZM rs),(12,.int .i64 rs.length),(13,.int .i64 i)],[(5,⟨(rs.take i).map λr=>[Xh (r.map (QgW all))],1,68,true⟩)]⟩) (λi=>i<=rs.length) (λi=>rs.length - i) 0 ?_ ?_ ?_;exact le_trans (Zi 5 5 1 68 Z Z) (Qn (l:=[0,5,11,12,13]) (lH:=[5]) (kp5 Z Z Z Z Z) (Qa Z Qb) Z Z Z);exact QzZ _;intro i O
 try dsimp only
 refine aB ?_ ?_;intro h1;have G:=C _ (QzS (Wa:i<rs.length));refine QE (ι:=Nat) (λj=>⟨[(0,XE all),(5,.s4 5 i),(8,.s4 8 j),(11,ZM rs),(12,.int .i64 rs.length),(13,.int .i64 i),(17,Mc (rs[i]'Wa)),(18,.int .i64 ((rs[i]'Wa).length:Nat)),(19,.int .i64 j)],[(5,⟨(rs.take i).map λr=>[Xh (r.map (QgW all))],1,68,true⟩),(8,⟨(((rs[i]'Wa).take j).map (QgW all)).map F8,3,82,true⟩)]⟩) (λj=>j<=(rs[i]'Wa).length) (λj=>(rs[i]'Wa).length - j) 0 ?_ ?_ ?_;exact le_trans (Zi 8 8 3 82 Z Z) (Qn (l:=[0,5,8,11,12,13,17,18,19]) (lH:=[5,8]) (kp9 Z Z Z Z Z Z Z Z Z) (Qa Z (Qa Z Qb)) Z Z Z);exact QzZ _;intro j O
 try dsimp only
 refine aV ?_ ?_;intro h2;refine aK ?_;refine Qw (ds0:=dn 4) (XD (k:=((rs[i]'Wa)[j]'Wa).k) M) Z Z (.inr Z) Z Z (aK ?_);refine Qo Z Z (YL (ds0:=[0]) Z Z Wf ⟨_,rfl,rfl,rfl,rfl,rfl⟩ Z Z Wd Z Z Wd Wd Z Z (aK ?_));refine Qd (j+1) ?_ ?_ ?_;exact le_trans (FC (l:=[0,5,11,12,13,17,18,19]) (lH:=[5]) 32 8 8 (kp8 Z Z Z Z Z Z Z Z) (Qa Z Qb) Z Z Z Z Z Z Z) (Qn (l:=[0,5,8,11,12,13,17,18,19]) (lH:=[5,8]) (kp9 Z Z Z Z Z Z Z Z Z) (Qa Z (Qa Z Qb)) Z (by rw[QAZ (Wa:j<(rs[i]'Wa).length),QAM,QAM];rfl) Z)
 omega
 first |omega |(simp only;omega) |(dsimp only;omega)
 intro h2;refine Mx (Gt (KF (HN (ks6 Z Z Z Z Z Z (Dx (Cw (l:=[0,5,11,12,13]) (lH:=[5]) 8 8 (kp5 Z Z Z Z Z) (Qa Z Qb) Z Z Z Wk Z Z Z Z) ?_)))));refine aK ?_;refine Qo Z Z (ZR Z Z (λ_ h=>YE Z Z Z h) Z Wd Z Z Z Wd Wd (aK ?_));refine Qd (i+1) ?_ ?_ ?_;exact Qn (l:=[0,5,11,12,13]) (lH:=[5]) (kp5 Z Z Z Z Z) (Qa Z Qb) Z (by rw[QAZ (Wa:i<rs.length),QAM,Qz3 (Wa:(rs[i]'Wa).length<=j)];rfl) Z
 omega
 first |omega |(simp only;omega) |(dsimp only;omega)
 intro h1;exact GL Z Z Z Wd (by rw[Qz3 (Wa:rs.length<=i)];simp[Ky,M7])
variable {l:List GX} {n:List UInt8} {v:Vr}
def Yq (x:JH):Prop:=∀b∈x.bs,b.n≠x.n
structure Qjp:Prop where
 mg:∀ms:List Bs,ms.length<=2->(∀m∈ms,Tp.u3 Sx (QaZ m))->∃e n:Int,(e=0->∀m∈ms,Yq m.r)/\Ok Tryz.prog 62 [KS ms] (.l7 [.int .i64 e,.int .i64 n])
 rh:∀n:List UInt8,n.length<=100->∃b,Ok Tryz.prog 134 [.str n] (.bool b)
 mh:∀x:JH,Tp.u3 YQ (ZP x)->∃s e:Int,((0<=s/\s<=18446744073709551615)/\(e=0->Yq x))/\Ok Tryz.prog 129 [.agg (ZP x)] (.l7 [.int .u64 s,.int .i64 e])
 qg:∀ps:List Qhn,ps.length<=4->(∀p∈ps,Tp.u3 DB (Qej p))->∃b,Ok Tryz.prog 269 [Re ps] (.bool b)
 qh:∀a b c:List UInt8,Tp.u3 GN [.str a,.str b,.str c]->∃t,Ok Tryz.prog 64 [.agg [.str a,.str b,.str c]] (.bool t)
 sg:∀rows:List (List D),rows.length<=2->(∀r∈rows,Tp.u3 Sx r)->∃(ps:List Qhn) (e:Int),ps.length<=4/\(∀p∈ps,Tp.u3 DB (Qej p))/\Ok Tryz.prog 65 [.sl rows] (.l7 [Re ps,.int .i64 e])
 og:∀rows:List (List D),rows.length<=2->(∀r∈rows,Tp.u3 Sx r)->∀n:List UInt8,n.length<=100->∃s:JF,∃e,(Sm s.1/\Sm s.2)/\Ok Tryz.prog 225 [.sl rows,.str n] (.l7 [.agg [Qv s.1,Qv s.2],.int .i64 e])
structure Qob (s:ShR):Prop where
 n:s.n.length<=100
 l:s.es.length<=100
 t:∀e∈s.es,Tp.u3 YQ (ZP e.r)
 v:∀e∈s.es,bb e.r.v
theorem XC {l:List Bs} (G:l.length<=1000):Ok Tryz.prog 92 [KS l,.str n] (.int .i64 (plP (nmM n) l 0)):=by
 refine Ok.b7 tfol Tryz.func92 QzC (QzN Z) ?_;show TW _ _ tf92.body _ _;refine aS ?_;refine QE (ι:=Nat) (λi=>⟨[(0,KS l),(1,.str n),(5,.int .i64 i)],[]⟩) (λi=>i<=l.length/\plP (nmM n) l 0=plP (nmM n) (l.drop i) i) (λi=>l.length - i) 0 ?_ ?_ ?_;exact QJ (kp3 Z Z Z);exact⟨QzZ _,rfl⟩;intro i C
 try dsimp only
 refine aB ?_ ?_;intro h1;refine aB ?_ ?_;intro h2;rw[LX Wa (by exact decide_eq_true h2) C.2];intro h2;refine Qd (i+1) ?_ ?_ ?_;exact QJ (kp3 Z Z Z);exact⟨Wa,Nz Wa (by exact decide_eq_false h2) C.2⟩
 first |omega |(simp only;omega) |(dsimp only;omega)
 intro h1;rw[PB Wa C.2]
theorem Z4 {l:List ShR} (G:l.length<=1000):Ok Tryz.prog 94 [Lj l,.str n] (.int .i64 (plP (nmS n) l 0)):=by
 refine Ok.b7 tfol Tryz.func94 QzE (QzN Z) ?_;show TW _ _ tf94.body _ _;refine aS ?_;refine QE (ι:=Nat) (λi=>⟨[(0,Lj l),(1,.str n),(5,.int .i64 i)],[]⟩) (λi=>i<=l.length/\plP (nmS n) l 0=plP (nmS n) (l.drop i) i) (λi=>l.length - i) 0 ?_ ?_ ?_;exact QJ (kp3 Z Z Z);exact⟨QzZ _,rfl⟩;intro i C
 try dsimp only
 refine aB ?_ ?_;intro h1;refine aB ?_ ?_;intro h2;rw[LX Wa (by exact decide_eq_true h2) C.2];intro h2;refine Qd (i+1) ?_ ?_ ?_;exact QJ (kp3 Z Z Z);exact⟨Wa,Nz Wa (by exact decide_eq_false h2) C.2⟩
 first |omega |(simp only;omega) |(dsimp only;omega)
 intro h1;rw[PB Wa C.2]
theorem Ft {u:Vr} (C:bb v) (hu:bb u):Ok Tryz.prog 172 [.agg (dV5 v),.agg (dV5 u)] (.bool (Qor v u)):=by
 refine Ok.b7 tfol Tryz.func172 QuG (QzN Z) ?_;show TW _ _ tf172.body _ _;refine aS ?_;refine Qf (Qu (C.sm).1 (C.sm).2) Z Z (.inr Z) (aB ?_ ?_);intro h1;refine Qf (Qu (hu.sm).1 (hu.sm).2) Z Z (.inr Z) (aB ?_ ?_);intro h2;refine Qf (Zu (C.sm).1 (C.sm).2 (hu.sm).1 (hu.sm).2) Z Z (.inr Z) (aK ?_)
 (repeat clear hK K);simp_all [Qor,SC]<;>rfl
 intro h2
 (repeat clear hK K);simp_all [Qor,SC]<;>rfl
 intro h1
 (repeat clear hK K);simp_all [Qor,SC]<;>rfl
theorem HU (O:l.length<=1000) (G:bb v) (he:∀e∈l,bb e.r.v):Ok Tryz.prog 130 [QhV l,.str n,.agg (dV5 v)] (.int .i64 (plP (QfE n v) l 0)):=by
 refine Ok.b7 tfol Tryz.func130 Quj (QzN Z) ?_;show TW _ _ tf130.body _ _;refine aS ?_;refine QE (ι:=Nat) (λi=>⟨[(0,QhV l),(1,.str n),(5,.ref 5 0 0),(7,.int .i64 i)],[(5,⟨[dV5 v],5,66,true⟩)]⟩) (λi=>i<=l.length/\plP (QfE n v) l 0=plP (QfE n v) (l.drop i) i) (λi=>l.length - i) 0 ?_ ?_ ?_;exact Qn (l:=[0,1,5,7]) (lH:=[5]) (kp4 Z Z Z Z) (Qa Z Qb) Z Z Z;exact⟨QzZ _,rfl⟩;intro i C
 try dsimp only
 refine aB ?_ ?_;intro h1;refine aB ?_ ?_;intro h2;refine Qw (ds0:=[0]) (Ft (v:=(l[i]'Wa).r.v) (he _ (QzS Wa)) G) Z Z (.inr Z) Z Z (aB ?_ ?_);intro M;rw[LX Wa (by simp_all [QfE]) C.2];intro M;refine Qd (i+1) ?_ ?_ ?_;exact Qn (l:=[0,1,5,7]) (lH:=[5]) (kp4 Z Z Z Z) (Qa Z Qb) Z Z Z;exact⟨Wa,Nz Wa (by simp_all [QfE]) C.2⟩
 first |omega |(simp only;omega) |(dsimp only;omega)
 intro h2;refine QP Z (aK ?_);refine Qd (i+1) ?_ ?_ ?_;exact Qn (l:=[0,1,5,7]) (lH:=[5]) (kp4 Z Z Z Z) (Qa Z Qb) Z Z Z;exact⟨Wa,Nz Wa (by simp_all [QfE]) C.2⟩
 first |omega |(simp only;omega) |(dsimp only;omega)
 intro h1;rw[PB Wa C.2]
theorem QgG {α:Type} {l:List α} {p:α->Prop} {b:Nat} (h:∀x∈l.take b,p x) (hb:b<l.length) (h1:p l[b]):∀x∈l.take (b+1),p x:=λx hx=>by
 rw[QAZ hb,QzY,QzW]at hx;rcases hx with hx |rfl
 exact h x hx;exact h1
theorem GH {i:Nat} (h:∀j (C:j<l.length),j<i->plP (QfE l[j].r.n l[j].r.v) l 0=j/\Yq l[j].r) (hi:l.length<=i):QcG l/\∀e∈l,Yq e.r:=by
 refine⟨λj C=>(h j C Wa).1,λe he=>?_⟩;obtain⟨j,C,rfl⟩:=Qz9 he;exact(h j C Wa).2
theorem Jk (wk:Qjp) {s:ShR} (Y:s.n.length<=100) (hl:s.es.length<=100) (V:∀e∈s.es,Tp.u3 YQ (ZP e.r)) (he:∀e∈s.es,bb e.r.v):∃d,(∃b,d=.bool b/\(b=true->QcG s.es/\∀e∈s.es,Yq e.r))/\Ok Tryz.prog 93 [.agg (dSh s)] d:=by
 refine Ok.jd (R:=λd=>(∃b,d=.bool b/\(b=true->QcG s.es/\∀e∈s.es,Yq e.r))) tfol Tryz.func93 QzD (QzN Z) ?_;show TX _ _ tf93.body _ _;refine aS ?_;obtain⟨b1,M⟩:=wk.rh s.n Y;refine Qf (M) Z Z (.inr Z) (aB ?_ ?_);intro h1;refine HH Z (aK ?_);refine⟨_, ?_,ZJ Z rfl⟩
 first |exact⟨false,rfl,λh=>by cases h⟩ |exact⟨true,rfl,λ_=>GH C.2 Wa⟩
 intro h1;refine aB ?_ ?_;intro h2;refine⟨_, ?_,ZJ Z rfl⟩
 first |exact⟨false,rfl,λh=>by cases h⟩ |exact⟨true,rfl,λ_=>GH C.2 Wa⟩
 intro h2;refine Xg (ι:=Nat) (λi=>⟨[(1,.ref 1 0 0),(3,.int .i64 i)],[(1,⟨[dSh s],2,108,true⟩)]⟩) (λi=>i<=s.es.length/\∀j (T:j<s.es.length),j<i->plP (QfE s.es[j].r.n s.es[j].r.v) s.es 0=j/\Yq s.es[j].r) (λi=>s.es.length - i) 0 ?_ ?_ ?_;exact Qn (l:=[1,3]) (lH:=[1]) (kp2 Z Z) (Qa Z Qb) Z Z Z;exact⟨QzZ _,λj T h=>Wa⟩;intro i C
 try dsimp only
 refine aB ?_ ?_;intro h3;obtain⟨m2,e2,O,G⟩:=wk.mh _ (V _ (QzS (Wa:i<s.es.length)));refine Qf (G) Z Z (.inr Z) (aB ?_ ?_);intro U;refine HH Z (aK ?_);refine⟨_, ?_,ZJ Z rfl⟩
 first |exact⟨false,rfl,λh=>by cases h⟩ |exact⟨true,rfl,λ_=>GH C.2 Wa⟩
 intro U;refine aB ?_ ?_;intro h5;refine HH Z (aK ?_);refine⟨_, ?_,ZJ Z rfl⟩
 first |exact⟨false,rfl,λh=>by cases h⟩ |exact⟨true,rfl,λ_=>GH C.2 Wa⟩
 intro h5;refine Qf (HU (l:=s.es) (n:=(s.es[i]'Wa).r.n) (v:=(s.es[i]'Wa).r.v) Wa (he _ (QzS Wa)) he) Z Z (.inr Z) (aB ?_ ?_);intro h6;refine⟨_, ?_,ZJ Z rfl⟩
 first |exact⟨false,rfl,λh=>by cases h⟩ |exact⟨true,rfl,λ_=>GH C.2 Wa⟩
 intro h6;refine Qd (i+1) ?_ ?_ ?_;exact Qn (l:=[1,3]) (lH:=[1]) (kp2 Z Z) (Qa Z Qb) Z Z Z;exact⟨Wa,λj T h=>by rcases Nat.lt_succ_iff_lt_or_eq.1 h with h |rfl;exact C.2 j T h;exact⟨by simp_all,O.2 (by simpa using U)⟩⟩
 first |omega |(simp only;omega) |(dsimp only;omega)
 intro h3;refine⟨_, ?_,ZJ Z rfl⟩
 first |exact⟨false,rfl,λh=>by cases h⟩ |exact⟨true,rfl,λ_=>GH C.2 Wa⟩
theorem Hv (wk:Qjp) {l:List Bs} (T:l.length<=2) (O:∀m∈l,Tp.u3 Sx (QaZ m)):∃d,(∃k:Int,d=.int .i64 k/\(k= -1\/∃i,∃h:i<l.length,k=i/\l[i].r.n=n))/\Ok Tryz.prog 223 [KS l,.str n] d:=by
 refine Ok.jd (R:=λd=>(∃k:Int,d=.int .i64 k/\(k= -1\/∃i,∃h:i<l.length,k=i/\l[i].r.n=n))) tfol Tryz.func223 Qu6 (QzN Z) ?_;show TX _ _ tf223.body _ _;refine aS ?_;obtain⟨e1,U,_,G⟩:=wk.mg l T O;refine Qf (G) Z Z (.inr Z) (aB ?_ ?_);intro h1;refine⟨_, ?_,R2 Z rfl⟩;exact⟨-1,rfl,.inl rfl⟩;intro h1;refine Qf (XC (n:=n) (l:=l) Wa) Z Z (.inr Z) (aK ?_);refine⟨_, ?_,R2 Z rfl⟩;refine⟨_,rfl, ?_⟩;rcases Tn (p:=nmM n) l 0 with⟨C,_⟩ |⟨i,hi,C,M,_⟩
 exact .inl C;exact .inr ⟨i,hi,by rw[C];simp,of_decide_eq_true M⟩
theorem _root_.Wg {p:Prop} (h:p:=by first |exact .inl (by omega) |exact .inr ⟨by omega,by rw[Mb (Y4 (QzS (by omega))).2.1 (by omega)];assumption⟩):p:=h
theorem GZ (wk:Qjp) {s:ShR} (V:s.n.length<=100) (hl:s.es.length<=100) (U:∀e∈s.es,Tp.u3 YQ (ZP e.r)) (he:∀e∈s.es,bb e.r.v):∃d,(∃l:List Nat,d=SE l/\te s.es n l)/\Ok Tryz.prog 251 [.agg (dSh s),.str n] d:=by
 refine Ok.jd (R:=λd=>(∃l:List Nat,d=SE l/\te s.es n l)) tfol Tryz.func251 Qvf (QzN Z) ?_;show TX _ _ tf251.body _ _;refine aS ?_;obtain⟨_,⟨b1,rfl,O⟩,M⟩:=Jk wk V hl U he;refine Qf (M) Z Z (.inr Z) (aB ?_ ?_);intro h1;refine⟨_, ?_,QO Z rfl⟩;exact⟨[],rfl,te.nil _ _⟩;intro h1;refine Xg (ι:=Nat) (λi=>⟨[(1,.str n),(2,.ref 2 0 0),(5,SE (Fc s.es n i)),(6,.int .i64 i)],[(2,⟨[dSh s],2,108,true⟩)]⟩) (λi=>i<=s.es.length) (λi=>s.es.length - i) 0 ?_ ?_ ?_;exact le_trans (Ql8 5 Z) (Qn (l:=[1,2,5,6]) (lH:=[2]) (kp4 Z Z Z Z) (Qa Z Qb) Z Z Z);exact QzZ _;intro i hI;have Y:=LK s.es n i
 try dsimp only
 refine aB ?_ ?_;intro h2;refine aB ?_ ?_;intro G;refine Qd (i+1) ?_ ?_ ?_;exact Qn (l:=[1,2,5,6]) (lH:=[2]) (kp4 Z Z Z Z) (Qa Z Qb) (by rw[Qmd Wa G];rfl) Z Z
 omega
 first |omega |(simp only;omega) |(dsimp only;omega)
 intro G;refine Xg (ι:=Nat) (λk=>⟨[(1,.str n),(2,.ref 2 0 0),(5,SE (Fc s.es n i)),(6,.int .i64 i),(7,.int .i64 k)],[(2,⟨[dSh s],2,108,true⟩)]⟩) (λk=>k<=(Fc s.es n i).length/\Rz s.es (Fc s.es n i) i=(Fc s.es n i).take k++Rz s.es ((Fc s.es n i).drop k) i) (λk=>(Fc s.es n i).length - k) 0 ?_ ?_ ?_;exact Qn (l:=[1,2,5,6,7]) (lH:=[2]) (kp5 Z Z Z Z Z) (Qa Z Qb) Z Z Z;exact⟨QzZ _,by simp⟩;intro k C
 try dsimp only
 refine aB ?_ ?_;intro h4;refine KM Z Z Z Wa (Gc (show((Fc s.es n i)[k]'Wa)<s.es.length from(Y4 (QzS (Wa:k<(Fc s.es n i).length))).2.1)) Z (aK ?_);refine Qw (ds0:=[1,0]) (Zu (he _ (QzS (Y4 (QzS (Wa:k<(Fc s.es n i).length))).2.1)).sm.1 (he _ (QzS (Y4 (QzS (Wa:k<(Fc s.es n i).length))).2.1)).sm.2 (he _ (QzS (Wa:i<s.es.length))).sm.1 (he _ (QzS (Wa:i<s.es.length))).sm.2) Z Z (.inr Z) Z Z (aB ?_ ?_);intro T;refine Qd (k+1) ?_ ?_ ?_;exact Qn (l:=[1,2,5,6,7]) (lH:=[2]) (kp5 Z Z Z Z Z) (Qa Z Qb) Z Z Z;exact⟨Wa,Qe2 Wa (by rw[Mb (Y4 (QzS Wa)).2.1 Wa];exact T) C.2⟩
 first |omega |(simp only;omega) |(dsimp only;omega)
 intro T;refine XM Z Z Z Z Wa Wa Wd C8 Z (NX (ds0:=[5,1,0]) Z Z (λ_ h=>⟨Qcj,h⟩) Z (.inl Z) Wc Wd Wd Z Z (aK ?_));refine Qo Z Z (YL (ds0:=[1,0]) Z Z Wf ⟨_,rfl,rfl,rfl,rfl,rfl⟩ Z Z Wc Z Z Wd Wd Z Z (aK ?_));refine XM Z Z Z Z Wa Wd Wc C8 Z (YL (ds0:=[0]) Z Z Wf ⟨rfl,Qcj,rfl⟩ Z Z Wc Z Z Wd Wd Z Z (aK ?_));refine Qd (i+1) ?_ ?_ ?_;exact le_trans (Cw (l:=[1,2,6]) (lH:=[2]) 64 5 (kp3 Z Z Z) (Qa Z Qb) Z Z Z Wk Z Z Z Z) (Qn (l:=[1,2,5,6]) (lH:=[2]) (kp4 Z Z Z Z) (Qa Z Qb) (by rw[QbD Wa (by simpa using G),Qbu (k:=k) Wg C.2];simp[SE,Qz3 (show((Fc s.es n i).map λ(i:Nat)=>[D.int .i64 (i:Int)]).length<=(Fc s.es n i).length by simp)]) Z Z)
 omega
 first |omega |(simp only;omega) |(dsimp only;omega)
 intro h4;refine BA Z (aK ?_);refine XM Z Z Z Z Wa Wa Wd C8 Z (NX (ds0:=[5,1,0]) Z Z (λ_ h=>⟨Qcj,h⟩) Z (.inl Z) Wc Wd Wd Z Z (aK ?_));refine Qo Z Z (YL (ds0:=[1,0]) Z Z Wf ⟨_,rfl,rfl,rfl,rfl,rfl⟩ Z Z Wc Z Z Wd Wd Z Z (aK ?_));refine XM Z Z Z Z Wa Wd Wc C8 Z (YL (ds0:=[0]) Z Z Wf ⟨rfl,Qcj,rfl⟩ Z Z Wc Z Z Wd Wd Z Z (aK ?_));refine Qd (i+1) ?_ ?_ ?_;exact le_trans (Cw (l:=[1,2,6]) (lH:=[2]) 64 5 (kp3 Z Z Z) (Qa Z Qb) Z Z Z Wk Z Z Z Z) (Qn (l:=[1,2,5,6]) (lH:=[2]) (kp4 Z Z Z Z) (Qa Z Qb) (by rw[QbD Wa (by simpa using G),Qbu (k:=k) Wg C.2];simp[SE,Qz3 (show((Fc s.es n i).map λ(i:Nat)=>[D.int .i64 (i:Int)]).length<=(Fc s.es n i).length by simp)]) Z Z)
 omega
 first |omega |(simp only;omega) |(dsimp only;omega)
 intro h2;refine⟨_, ?_,QO Z rfl⟩;refine⟨_,rfl, ?_⟩;rw[show i=s.es.length by omega];exact te.of he (O (by simp_all)).1
variable {ps:List Qhn} {ss:List ShR}
theorem Fu {s:ShR} (C:s.es.length<=100):∃d,(∃b,d=.bool b)/\Ok Tryz.prog 270 [.agg (dSh s),.str n] d:=by
 refine Ok.jd (R:=λd=>(∃b,d=.bool b)) tfol Tryz.func270 Qvi (QzN Z) ?_;show TX _ _ tf270.body _ _;refine aS ?_;refine Xg (ι:=Nat) (λi=>⟨[(1,.str n),(2,.ref 2 0 0),(5,.int .i64 i)],[(2,⟨[dSh s],2,108,true⟩)]⟩) (λi=>i<=s.es.length) (λi=>s.es.length - i) 0 ?_ ?_ ?_;exact Qn (l:=[1,2,5]) (lH:=[2]) (kp3 Z Z Z) (Qa Z Qb) Z Z Z;exact QzZ _;intro i G
 try dsimp only
 refine aB ?_ ?_;intro h1;refine aB ?_ ?_;intro h2;refine⟨_, ?_,ZJ Z rfl⟩;exact⟨_,rfl⟩;intro h2;refine Qd (i+1) ?_ ?_ ?_;exact Qn (l:=[1,2,5]) (lH:=[2]) (kp3 Z Z Z) (Qa Z Qb) Z Z Z;omega
 first |omega |(simp only;omega) |(dsimp only;omega)
 intro h1;refine⟨_, ?_,ZJ Z rfl⟩;exact⟨_,rfl⟩
theorem Jl (wk:Qjp) (hl:ss.length<=2) (Y:∀s∈ss,Qob s):∃d,(∃b,d=.bool b/\(b=true->∀s∈ss,∀e∈s.es,Yq e.r))/\Ok Tryz.prog 63 [Lj ss] d:=by
 refine Ok.jd tfol Tryz.func63 Qzr (QzN Z) ?_;show TX _ _ tf63.body _ _;refine aX ?_ ?_;intro V;exact⟨_,⟨false,rfl,λh=>by cases h⟩,ZJ rfl rfl⟩;intro V;refine Xg (ι:=Nat) (λi=>⟨[(0,Lj ss),(3,.int .i64 i)],[]⟩) (λi=>i<=ss.length/\∀s∈ss.take i,∀e∈s.es,Yq e.r) (λi=>ss.length - i) 0 ?_ ?_ ?_;exact Qn (l:=[0,3]) (lH:=[]) (kp2 Z Z) Qb Z Z Z;exact⟨QzZ _,by simp⟩;intro i hi
 try dsimp only
 refine aB ?_ ?_;intro U;have C:i<ss.length:=Wa;have q:=Y _ (QzS C);obtain⟨_,⟨b1,rfl,M⟩,G⟩:=Jk wk q.n q.l q.t q.v;refine Qf G Z Z (.inr Z) (aB ?_ ?_);intro T;refine HH Z (aK ?_);exact⟨_,⟨false,rfl,λh=>by cases h⟩,ZJ rfl rfl⟩;intro T;refine Qf (Z4 (l:=ss) (n:=(ss[i]'Wa).n) Wa) Z Z (.inr Z) (aB ?_ ?_);intro O;exact⟨_,⟨false,rfl,λh=>by cases h⟩,ZJ rfl rfl⟩;intro O;refine Qd (i+1) ?_ ?_ ?_;exact Qn (l:=[0,3]) (lH:=[]) (kp2 Z Z) Qb Z Z Z;exact⟨Wa,QgG hi.2 C (M (by simp_all)).2⟩;omega;intro U;refine⟨_,⟨true,rfl,λ_=>?_⟩,ZJ Z rfl⟩;rw[<- Qz3 (Wa:ss.length<=i)];exact hi.2
theorem G0 (wk:Qjp) (Y:ss.length<=2) (ht:∀s∈ss,Tp.u3 J2 (dSh s)) (U:∀s∈ss,Qob s) (hp:ps.length<=4) (T:∀p∈ps,Tp.u3 DB (Qej p)):∃d,(∃k e:Int,d=.l7 [.int .i64 k,.int .i64 e]/\(e=0->∃i,i<ss.length/\k=i))/\Ok Tryz.prog 250 [Lj ss,Re ps,.str n] d:=by
 refine Ok.jd (R:=λd=>(∃k e:Int,d=.l7 [.int .i64 k,.int .i64 e]/\(e=0->∃i,i<ss.length/\k=i))) tfol Tryz.func250 Qve (QzN Z) ?_;show TX _ _ tf250.body _ _;refine aS ?_;obtain⟨_,⟨b1,rfl,_⟩,O⟩:=Jl wk Y U;refine Qf (O) Z Z (.inr Z) (aB ?_ ?_);intro h1;refine⟨_, ?_,Qr Z Z ⟨rfl,rfl⟩⟩;exact⟨0,1,rfl,λh=>Wa⟩;intro h1;obtain⟨b2,M⟩:=wk.qg ps hp T;refine Qf (M) Z Z (.inr Z) (aB ?_ ?_);intro h2;refine⟨_, ?_,Qr Z Z ⟨rfl,rfl⟩⟩;exact⟨0,15,rfl,λh=>Wa⟩;intro h2;refine Xg (ι:=Nat) (λi=>⟨[(0,Lj ss),(1,Re ps),(2,.str n),(8,.int .i64 i)],[]⟩) (λi=>i<=ps.length) (λi=>ps.length - i) 0 ?_ ?_ ?_;exact QJ (kp4 Z Z Z Z);exact QzZ _;intro i hI
 try dsimp only
 refine aB ?_ ?_;intro h3;refine aB ?_ ?_;intro h4;refine Qd (i+1) ?_ ?_ ?_;exact QJ (kp4 Z Z Z Z);omega
 first |omega |(simp only;omega) |(dsimp only;omega)
 intro h4;refine Qf (Z4 (n:=(ps[i]'Wa).s) (l:=ss) Wa) Z Z (.inr Z) (aB ?_ ?_);intro V;refine⟨_, ?_,Qr Z Z ⟨rfl,rfl⟩⟩;exact⟨0,12,rfl,λh=>Wa⟩;intro V;refine⟨_, ?_,Qr Z Z ⟨rfl,rfl⟩⟩;refine⟨_,0,rfl,λ_=>?_⟩;rcases Tn (p:=nmS (ps[i]'Wa).s) ss 0 with⟨C,_⟩ |⟨k,hk,C,_⟩
 rw[C]at V;omega;exact⟨k,hk,by rw[C];simp⟩
 intro h3;refine Xg (ι:=Nat) (λi=>⟨[(0,Lj ss),(2,.str n),(10,.int .i64 i)],[]⟩) (λi=>i<=ss.length) (λi=>ss.length - i) 0 ?_ ?_ ?_;exact QJ (kp3 Z Z Z);exact QzZ _;intro i hI
 try dsimp only
 refine aB ?_ ?_;intro h6;obtain⟨_,⟨b3,rfl⟩,G⟩:=Fu (s:=ss[i]'Wa) (U _ (QzS Wa)).l (n:=n);refine Qf (G) Z Z (.inr Z) (aB ?_ ?_);intro h7;refine⟨_, ?_,Qr Z Z ⟨rfl,rfl⟩⟩;exact⟨_,0,rfl,λ_=>⟨i,Wa,rfl⟩⟩;intro h7;refine Qd (i+1) ?_ ?_ ?_;exact QJ (kp3 Z Z Z);omega
 first |omega |(simp only;omega) |(dsimp only;omega)
 intro h6;refine⟨_, ?_,Qr Z Z ⟨rfl,rfl⟩⟩;exact⟨0,9,rfl,λh=>Wa⟩
theorem G1 (wk:Qjp) (Y:ss.length<=2) (V:∀s∈ss,Tp.u3 J2 (dSh s)) (C:∀s∈ss,Qob s) (hp:ps.length<=4) (O:∀p∈ps,Tp.u3 DB (Qej p)):∃d,(∃k e:Int,∃l:List Nat,d=.l7 [.int .i64 k,SE l,.int .i64 e]/\(e=0->∃i,∃h:i<ss.length,k=i/\te ss[i].es n l))/\Ok Tryz.prog 224 [Lj ss,Re ps,.str n] d:=by
 refine Ok.jd (R:=λd=>(∃k e:Int,∃l:List Nat,d=.l7 [.int .i64 k,SE l,.int .i64 e]/\(e=0->∃i,∃h:i<ss.length,k=i/\te ss[i].es n l))) tfol Tryz.func224 Qu7 (QzN Z) ?_;show TX _ _ tf224.body _ _;refine aS ?_;obtain⟨_,⟨k1,e1,rfl,U⟩,M⟩:=G0 wk Y V C hp O (n:=n);refine Qf (M) Z Z (.inl Z) (aB ?_ ?_);intro h1;refine⟨_, ?_,CU Z Z Z ⟨rfl,rfl,rfl⟩⟩;exact⟨0,e1,[],rfl,λh=>absurd h h1⟩;intro h1;obtain⟨j,hj,rfl⟩:=U (by simpa using h1);refine aK ?_;obtain⟨_,⟨l2,rfl,T⟩,G⟩:=GZ wk (s:=ss[j]'Wa) (C _ (QzS Wa)).n (C _ (QzS Wa)).l (C _ (QzS Wa)).t (C _ (QzS Wa)).v (n:=n);refine Qf (G) Z Z (.inl Z) (aK ?_);refine⟨_, ?_,CU Z Z Z ⟨rfl,rfl,rfl⟩⟩;exact⟨j,0,l2,rfl,λ_=>⟨j,hj,rfl,T⟩⟩
theorem G3 {y:YdT} {ps:List D} {x:JH}:Ok Tryz.prog 226 [.agg (dYd y (.ptr ps)),.agg (ZP x)] (.bool false):=by
 refine Ok.b7 tfol Tryz.func226 Qu8 (QzN Z) ?_;show TW _ _ tf226.body _ _;refine aS ?_;refine QE (ι:=Unit) (λ_=>⟨[(2,.ref 2 0 0),(3,.ref 3 0 0),(5,.int .i64 0)],[(2,⟨[dYd y (.ptr ps)],8,127,true⟩),(3,⟨[ZP x],9,100,true⟩)]⟩) (λ_=>True) (λ_=>0) () ?_ ?_ ?_;exact Qn (l:=[2,3,5]) (lH:=[2,3]) (kp3 Z Z Z) (Qa Z (Qa Z Qb)) Z Z Z;trivial;intro _ C
 try dsimp only
 refine aR ?_ ?_;intro h1
 try simp only[qB,List.length_nil]at h1
 exact absurd h1 We;intro h1
 try simp only[qB,List.length_nil]at h1
 refine aK ?_;rfl
variable {k:Nat}
structure YOk (y:YdT):Prop where
 ml:y.ms.length<=2
 mt:∀m∈y.ms,Tp.u3 Sx (QaZ m)
 mr:∀m∈y.ms,Tp.u3 YQ (ZP m.r)
 mv:∀m∈y.ms,bb m.r.v
 sl:y.ss.length<=2
 st:∀s∈y.ss,Tp.u3 J2 (dSh s)
 sh:∀s∈y.ss,Qob s
 pl:y.pr.length<=4
 pt:∀p∈y.pr,Tp.u3 DB (Qej p)
structure ya (n:List UInt8) (l:List TkR):Prop where
 nm:∀t∈l,t.r.n=n
 v:∀t∈l,bb t.r.v
 t:∀t∈l,Tp.u3 YQ (ZP t.r)
 len:l.length<=100
 zc:l.Pairwise λa b=>SC a.r.v b.r.v<0
theorem ya.one {r:JH} {k:Int} (M:r.n=n) (C:bb r.v) (G:Tp.u3 YQ (ZP r)):ya n [⟨r,k⟩]:=⟨by simpa using M,by simpa using C,by simpa using G,by simp,by simp⟩
theorem ya.nil (n:List UInt8):ya n []:=⟨by simp,by simp,by simp,by simp,by simp⟩
def tkE (es:List GX) (k:Nat) (x:Nat):TkR:=match es[x]? with
 |some e=>⟨e.r,k⟩
 |none=>⟨⟨[],⟨0,0,0,[],[]⟩,[],[],[]⟩,0⟩
theorem Qcu {es:List GX} {x:Nat} (h:x<es.length):tkE es k x=⟨es[x].r,k⟩:=by rw[tkE,QAB h]
theorem ya.of {s:ShR} (O:Qob s) {l:List Nat} (G:te s.es n l) {out:List TkR} (h:out.Sublist (l.map (tkE s.es k))):ya n out:=by
 have key:∀t∈out,∃x,∃hx:x<s.es.length,s.es[x].r.n=n/\t=⟨s.es[x].r,k⟩:=λt C=>by
  obtain⟨x,hx,rfl⟩:=Qz1.1 (h.subset C);obtain⟨h1,h2⟩:=G.mem x hx;exact⟨x,h1,h2,Qcu h1⟩
 refine⟨λt C=>?_,λt C=>?_,λt C=>?_, ?_, ?_⟩;obtain⟨x,hx,h2,rfl⟩:=key t C;exact h2;obtain⟨x,hx,h2,rfl⟩:=key t C;exact O.v _ (QzS hx);obtain⟨x,hx,h2,rfl⟩:=key t C;exact O.t _ (QzS hx);have:=h.length_le;have:=G.len;have:=O.l;simp only[QAH]at*;omega;refine List.Pairwise.sublist h (List.pairwise_map.2 (G.zc.imp_of_mem λ{a b} ha hb M=>?_));obtain⟨h1,_⟩:=G.mem a ha;obtain⟨h2,_⟩:=G.mem b hb;rw[Mb h1 h2]at M;rw[Qcu h1,Qcu h2];exact M
theorem G6 {y:YdT} (M:y.ms.length<=2) (C:∀m∈y.ms,bb m.r.v) {lkf:List UInt8->List TkR} {ns:List (List UInt8)}:n6 Tryz.prog 140 [.agg (dYd y (.ref 1000000 0 0))] (FD lkf ns) (QjF (Gs y)) (FD lkf ns):=by
 refine n6.b7 tfol Tryz.func140 Quo (QzN Z) MZ Mf ?_;show TW _ _ tf140.body _ _;refine aS ?_;refine QE (ι:=Nat) (λi=>⟨[(1,.ref 1 0 0),(3,.s4 3 i),(4,.int .i64 i)],[(1,⟨[dYd y (.ref 1000000 0 0)],8,127,false⟩),(3,⟨((Gs y).take i).map λr=>[.x7 (r.map Qei)],1,222,true⟩),(500000,bNs ns),(500001,bRs lkf ns),(1000000,bFd ns)]⟩) (λi=>i<=y.ms.length) (λi=>y.ms.length - i) 0 ?_ ?_ ?_;exact le_trans (Zi 3 3 1 222 Z Z) (Qn (l:=[1,3,4]) (lH:=[1,3,500000,500001,1000000]) (kp3 Z Z Z) (Qa Z (Qa Z (Qa Z (Qa Z (Qa Z Qb))))) Z Z Z);exact QzZ _;intro i O;have G:(Gs y).length=y.ms.length:=by simp[Gs]
 try dsimp only
 refine aB ?_ ?_;intro h1;refine Qw (ds0:=dn 5) (XY (a:=(y.ms[i]'Wa).r.v.a) (C _ (QzS Wa)).sm.1 (C _ (QzS Wa)).sm.2) Z Z (.inl Z) Z Z (aK ?_);refine QF Z Z (QF Z Z (YL (ds0:=[0]) Z Z Wf ⟨rfl,Wc,rfl⟩ Z Z Wd Z Z Wd Wd Z Z (aK ?_)));refine Qd (i+1) ?_ ?_ ?_;exact le_trans (FC (l:=[1,4]) (lH:=[1,500000,500001,1000000]) 29 3 3 (kp2 Z Z) (Qa Z (Qa Z (Qa Z (Qa Z Qb)))) Z Z Z Z Z Z Z) (Qn (l:=[1,3,4]) (lH:=[1,3,500000,500001,1000000]) (kp3 Z Z Z) (Qa Z (Qa Z (Qa Z (Qa Z (Qa Z Qb))))) Z (by rw[QAZ (Wa:i<(Gs y).length),QAM];simp[Gs,Qei,Hp];rfl) Z)
 omega
 first |omega |(simp only;omega) |(dsimp only;omega)
 intro h1;obtain rfl:i=(Gs y).length:=Wa;rw[List.take_length];exact ZH Z (by simp[FN,D.fz,D.o7,small,D.can,D.y6,QjF,Qe]) (Xi (A:=[_,_]) Z)
theorem G2 {all:List Q7} (O:all.length<=1000000) {x:JH} (hb:x.bs.length<=1000) {e1 e2 e3:List UInt8} {on:List UInt8->Bool} {st:List UInt8->JF} (M:∀b∈x.bs,Ok Tryz.prog 184 [.str b.w,.agg [.str e1,.str e2,.str e3]] (.bool (on b.w))) (G:∀b∈x.bs,Ok Tryz.prog 185 [.str b.r] (Li (st b.r))):Ok Tryz.prog 143 [XE all,.agg (ZP x),.agg [.str e1,.str e2,.str e3]] (Xh (FR all on st x.bs)):=by
 refine Ok.b7 tfol Tryz.func143 Quq (QzN Z) ?_;show TW _ _ tf143.body _ _;refine aS ?_;refine QE (ι:=Nat) (λi=>⟨[(0,XE all),(4,.ref 4 0 0),(5,.ref 5 0 0),(7,.s4 7 (FR all on st (x.bs.take i)).length),(8,.int .i64 i)],[(4,⟨[ZP x],9,100,true⟩),(5,⟨[[.str e1,.str e2,.str e3]],3,50,true⟩),(7,⟨(FR all on st (x.bs.take i)).map F8,3,82,true⟩)]⟩) (λi=>i<=x.bs.length) (λi=>x.bs.length - i) 0 ?_ ?_ ?_;exact le_trans (Zi 7 7 3 82 Z Z) (Qn (l:=[0,4,5,7,8]) (lH:=[4,5,7]) (kp5 Z Z Z Z Z) (Qa Z (Qa Z (Qa Z Qb))) Z Z Z);exact QzZ _;intro i T;have hlen:=QcN all on st x.bs i
 try dsimp only
 refine aB ?_ ?_;intro h1;refine Qf (XD (k:=((x.bs[i]'Wa).n,[])) O) Z Z (.inr Z) (aB ?_ ?_);intro h2;refine Qw (ds0:=[0]) (M _ (QzS (Wa:i<x.bs.length))) Z Z (.inr Z) Z Z (aB ?_ ?_);intro C;refine Qf (G _ (QzS (Wa:i<x.bs.length))) Z Z (.inl Z) (aK ?_);refine Qo Z Z (ZR Z Z (λ_ h=>YE Z Z Z h) Z Wc Z Z Z Wd Wd (aK ?_));refine Qd (i+1) ?_ ?_ ?_;exact Qn (l:=[0,4,5,7,8]) (lH:=[4,5,7]) (kp5 Z Z Z Z Z) (Qa Z (Qa Z (Qa Z Qb))) (by first |(rw[YW (st:=st) (Wa:i<x.bs.length) h2 C];done) |(rw[YW (st:=st) (Wa:i<x.bs.length) h2 C];rfl) |(rw[YW (st:=st) (Wa:i<x.bs.length) h2 C,QAs];rfl) |(simp[YW (st:=st) (Wa:i<x.bs.length) h2 C];done) |(simp[YW (st:=st) (Wa:i<x.bs.length) h2 C];omega) |rfl) (by first |(rw[YW (st:=st) (Wa:i<x.bs.length) h2 C];done) |(rw[YW (st:=st) (Wa:i<x.bs.length) h2 C];rfl) |(rw[YW (st:=st) (Wa:i<x.bs.length) h2 C,QAM];rfl) |(simp[YW (st:=st) (Wa:i<x.bs.length) h2 C];done) |rfl) Z
 omega
 first |omega |(simp only;omega) |(dsimp only;omega)
 intro C;refine Qd (i+1) ?_ ?_ ?_;exact Qn (l:=[0,4,5,7,8]) (lH:=[4,5,7]) (kp5 Z Z Z Z Z) (Qa Z (Qa Z (Qa Z Qb))) (by first |(rw[Zt (all:=all) (on:=on) (st:=st) (l:=x.bs) (i:=i) Wa (λh=>by simp[C]at h)];done) |(rw[Zt (all:=all) (on:=on) (st:=st) (l:=x.bs) (i:=i) Wa (λh=>by simp[C]at h)];rfl) |(rw[Zt (all:=all) (on:=on) (st:=st) (l:=x.bs) (i:=i) Wa (λh=>by simp[C]at h),QAs];rfl) |(simp[Zt (all:=all) (on:=on) (st:=st) (l:=x.bs) (i:=i) Wa (λh=>by simp[C]at h)];done) |(simp[Zt (all:=all) (on:=on) (st:=st) (l:=x.bs) (i:=i) Wa (λh=>by simp[C]at h)];omega) |rfl) (by first |(rw[Zt (all:=all) (on:=on) (st:=st) (l:=x.bs) (i:=i) Wa (λh=>by simp[C]at h)];done) |(rw[Zt (all:=all) (on:=on) (st:=st) (l:=x.bs) (i:=i) Wa (λh=>by simp[C]at h)];rfl) |(rw[Zt (all:=all) (on:=on) (st:=st) (l:=x.bs) (i:=i) Wa (λh=>by simp[C]at h),QAM];rfl) |(simp[Zt (all:=all) (on:=on) (st:=st) (l:=x.bs) (i:=i) Wa (λh=>by simp[C]at h)];done) |rfl) Z
 omega
 first |omega |(simp only;omega) |(dsimp only;omega)
 intro h2;refine QP Z (aK ?_);refine Qd (i+1) ?_ ?_ ?_;exact Qn (l:=[0,4,5,7,8]) (lH:=[4,5,7]) (kp5 Z Z Z Z Z) (Qa Z (Qa Z (Qa Z Qb))) (by first |(rw[Zt (all:=all) (on:=on) (st:=st) (l:=x.bs) (i:=i) Wa (λh=>h2 h.1)];done) |(rw[Zt (all:=all) (on:=on) (st:=st) (l:=x.bs) (i:=i) Wa (λh=>h2 h.1)];rfl) |(rw[Zt (all:=all) (on:=on) (st:=st) (l:=x.bs) (i:=i) Wa (λh=>h2 h.1),QAs];rfl) |(simp[Zt (all:=all) (on:=on) (st:=st) (l:=x.bs) (i:=i) Wa (λh=>h2 h.1)];done) |(simp[Zt (all:=all) (on:=on) (st:=st) (l:=x.bs) (i:=i) Wa (λh=>h2 h.1)];omega) |rfl) (by first |(rw[Zt (all:=all) (on:=on) (st:=st) (l:=x.bs) (i:=i) Wa (λh=>h2 h.1)];done) |(rw[Zt (all:=all) (on:=on) (st:=st) (l:=x.bs) (i:=i) Wa (λh=>h2 h.1)];rfl) |(rw[Zt (all:=all) (on:=on) (st:=st) (l:=x.bs) (i:=i) Wa (λh=>h2 h.1),QAM];rfl) |(simp[Zt (all:=all) (on:=on) (st:=st) (l:=x.bs) (i:=i) Wa (λh=>h2 h.1)];done) |rfl) Z
 omega
 first |omega |(simp only;omega) |(dsimp only;omega)
 intro h1;exact GL Z Z Z Wc (by rw[Qz3 (Wa:x.bs.length<=i)];rfl)
variable {lkf:List UInt8->List TkR} {ns:List (List UInt8)} {x:JH} {y:YdT}
theorem QzG (lkf:List UInt8->List TkR) (ns:List (List UInt8)):upH (FD lkf ns)=[(1500000,bNs ns),(1500001,bRs lkf ns),(2000000,⟨[[.s4 1500000 ns.length,.s4 1500001 ns.length]],2,125,false⟩)]:=by
 have e1:upN 500000=1500000:=by unfold upN;rfl
 have e2:upN 500001=1500001:=by unfold upN;rfl
 have e3:upN 1000000=2000000:=by unfold upN;rfl
 simp only[FD,upH,QAr,QAV,u4.o5,D.o6,e1,e2,e3,QA7,bNs,bRs,bFd];rfl
theorem Ql4:([D.agg (dYd y (.ref 1000000 0 0)),.agg (ZP x)].map Qod).map (D.sc (upH (FD lkf ns)) 3)=[.agg (dYd y (.ptr [.sl (ns.map λn=>[.str n]),.sl (ns.map λn=>[Pb (lkf n)])])),.agg (ZP x)]:=by
 have e3:upN 1000000=2000000:=by unfold upN;rfl
 rw[QzG];simp only[QAr,QAV,Qod,D.o5,dYd,ZP,D.o6,e3,D.can,D.y6,KS,Lj,Re];simp[D.sc,D.pe,Qe,D.own,Pb]
theorem Ql5 {s:St} {args:List n5} (ha:QD s args=some [.agg (dYd y (.ref 1000000 0 0)),.agg (ZP x)]) (hF:∀k b,lk (FD lkf ns) k=some b->lk s.H k=some b):FA Tryz.prog 226 args s (FD lkf ns) [] [] (.bool false):=
 QhK 3 (G3 (y:=y) (x:=x)) ha (λp hp=>by
   simp only[FD,QzP,QzO,or_false]at hp;rcases hp with rfl |rfl |rfl<;>exact hF _ _ rfl) (λp hp=>by
   simp only[FD,QzP,QzO,or_false]at hp;rcases hp with rfl |rfl |rfl<;>first |exact Qa8 (k:=500000) rfl |exact Qa8 (k:=500001) rfl |exact Qa8 (k:=1000000) rfl) rfl Ql4 rfl rfl rfl
theorem _root_.Wj {p:Prop} (h:p:=by simp[FN,D.fz,D.o7,small,D.can,D.y6,Pb,Qe]):p:=h
theorem G5 (U:YOk y) {n:List UInt8} {k1 k2 e2 e3:Int} {l2:List Nat} {s3:JF} (hM:Ok Tryz.prog 223 [KS y.ms,.str n] (.int .i64 k1)) (Y:k1= -1\/∃i,∃h:i<y.ms.length,k1=i/\y.ms[i].r.n=n) (hL:Ok Tryz.prog 224 [Lj y.ss,Re y.pr,.str n] (.l7 [.int .i64 k2,SE l2,.int .i64 e2])) (V:e2=0->∃i,∃h:i<y.ss.length,k2=i/\te y.ss[i].es n l2) (hH:Ok Tryz.prog 225 [KS y.ms,.str n] (.l7 [.agg [Qv s3.1,Qv s3.2],.int .i64 e3])) (O:Sm s3.1/\Sm s3.2):n6 Tryz.prog 186 [.agg (dYd y (.ref 1000000 0 0)),.str n] (FD lkf ns) (Pb (Qae y k1 k2 l2 e2 s3)) (FD lkf ns):=by
 refine n6.b7 tfol Tryz.func186 QuM (QzN Z) MZ Mf ?_;show TW _ _ tf186.body _ _;have hml:=U.ml;have hsl:=U.sl;refine aS ?_;refine Qf (hM) Z Z (.inr Z) (aB ?_ ?_);intro h1;obtain⟨j,C,rfl,hjn⟩:=Y.resolve_left Wa;refine aK ?_;refine Qo Z Z (aK ?_);rw[RI C];exact ZH Z Wl (Xi (A:=[_,_]) Z);intro h1;refine Qf (hL) Z Z (.inl Z) (aK ?_);refine Qf (hH) Z Z (.inl Z) (aK ?_);refine QE (ι:=Nat) (λi=>⟨[(2,.ref 2 0 0),(6,.int .i64 k2),(7,SE l2),(8,.int .i64 e2),(9,.ref 9 0 0),(11,.s4 11 (lkU y k2 (l2.take i) e2 s3).length),(12,.int .i64 i)],[(2,⟨[dYd y (.ref 1000000 0 0)],8,127,false⟩),(9,⟨[[Qv s3.1,Qv s3.2]],2,79,true⟩),(11,⟨(lkU y k2 (l2.take i) e2 s3).map dTk,10,231,true⟩),(500000,bNs ns),(500001,bRs lkf ns),(1000000,bFd ns)]⟩) (λi=>i<=l2.length) (λi=>l2.length - i) 0 ?_ ?_ ?_;exact le_trans (Zi 11 11 10 231 Z Z) (Qn (l:=[2,6,7,8,9,11,12]) (lH:=[2,9,11,500000,500001,1000000]) (kp7 Z Z Z Z Z Z Z) (Qa Z (Qa Z (Qa Z (Qa Z (Qa Z (Qa Z Qb)))))) (by rw[List.take_zero,Qfd];rfl) (by rw[List.take_zero,Qfd];rfl) Z)
 exact QzZ _;intro i hI;have hlen:=Qme y k2 (l2.take i) e2 s3;have htl:(l2.take i).length=i:=by simp;omega
 try dsimp only
 refine aB ?_ ?_;intro h2;refine aB ?_ ?_;intro h3;obtain rfl:e2=0:=(by simpa using h3);obtain⟨j,C,rfl,T⟩:=V rfl;obtain⟨hx,hxn⟩:=T.mem _ (QzS (Wa:i<l2.length));have hv:=(U.sh _ (QzS C)).v _ (QzS hx);have hll:=T.len;have hel:=(U.sh _ (QzS C)).l;refine aK ?_;refine KN (ds0:=[]) Z Z Z Z Z Z Z Z Z Z (aB ?_ ?_);intro M;refine Qf (F0 (s:=s3) O.1 O.2 hv.sm.1 hv.sm.2) Z Z (.inr Z) (aB ?_ ?_);intro G;refine Qo Z Z (ZR Z Z (λ_ h=>YE Z Z Z h) Z Wc Z Z Z Wd Wd (aK ?_));refine Qd (i+1) ?_ ?_ ?_;exact Qn (l:=[2,6,7,8,9,11,12]) (lH:=[2,9,11,500000,500001,1000000]) (kp7 Z Z Z Z Z Z Z) (Qa Z (Qa Z (Qa Z (Qa Z (Qa Z (Qa Z Qb)))))) (by first |(rw[K4 C (Wa:i<l2.length) hx M G];done) |(rw[K4 C (Wa:i<l2.length) hx M G];rfl) |(rw[K4 C (Wa:i<l2.length) hx M G,QAs];rfl) |(simp[K4 C (Wa:i<l2.length) hx M G];done) |(simp[K4 C (Wa:i<l2.length) hx M G];omega) |rfl) (by first |(rw[K4 C (Wa:i<l2.length) hx M G];done) |(rw[K4 C (Wa:i<l2.length) hx M G];rfl) |(rw[K4 C (Wa:i<l2.length) hx M G,QAM];rfl) |(simp[K4 C (Wa:i<l2.length) hx M G];done) |rfl) Z
 omega
 first |omega |(simp only;omega) |(dsimp only;omega)
 intro G;refine Qd (i+1) ?_ ?_ ?_;exact Qn (l:=[2,6,7,8,9,11,12]) (lH:=[2,9,11,500000,500001,1000000]) (kp7 Z Z Z Z Z Z Z) (Qa Z (Qa Z (Qa Z (Qa Z (Qa Z (Qa Z Qb)))))) (by first |(rw[Xj (s3:=s3) C (Wa:i<l2.length) hx (λh=>by simp[G]at h)];done) |(rw[Xj (s3:=s3) C (Wa:i<l2.length) hx (λh=>by simp[G]at h)];rfl) |(rw[Xj (s3:=s3) C (Wa:i<l2.length) hx (λh=>by simp[G]at h),QAs];rfl) |(simp[Xj (s3:=s3) C (Wa:i<l2.length) hx (λh=>by simp[G]at h)];done) |(simp[Xj (s3:=s3) C (Wa:i<l2.length) hx (λh=>by simp[G]at h)];omega) |rfl) (by first |(rw[Xj (s3:=s3) C (Wa:i<l2.length) hx (λh=>by simp[G]at h)];done) |(rw[Xj (s3:=s3) C (Wa:i<l2.length) hx (λh=>by simp[G]at h)];rfl) |(rw[Xj (s3:=s3) C (Wa:i<l2.length) hx (λh=>by simp[G]at h),QAM];rfl) |(simp[Xj (s3:=s3) C (Wa:i<l2.length) hx (λh=>by simp[G]at h)];done) |rfl) Z
 omega
 first |omega |(simp only;omega) |(dsimp only;omega)
 intro M;refine QdC (Ql5 (x:=(y.ss[j].es[l2[i]]'hx).r) Z (Xi (A:=[_,_,_,_,_]) Z)) (aK ?_);refine QP Z (aK ?_);refine Qd (i+1) ?_ ?_ ?_;exact Qn (l:=[2,6,7,8,9,11,12]) (lH:=[2,9,11,500000,500001,1000000]) (kp7 Z Z Z Z Z Z Z) (Qa Z (Qa Z (Qa Z (Qa Z (Qa Z (Qa Z Qb)))))) (by first |(rw[Xj (s3:=s3) C (Wa:i<l2.length) hx (λh=>by simp[M]at h)];done) |(rw[Xj (s3:=s3) C (Wa:i<l2.length) hx (λh=>by simp[M]at h)];rfl) |(rw[Xj (s3:=s3) C (Wa:i<l2.length) hx (λh=>by simp[M]at h),QAs];rfl) |(simp[Xj (s3:=s3) C (Wa:i<l2.length) hx (λh=>by simp[M]at h)];done) |(simp[Xj (s3:=s3) C (Wa:i<l2.length) hx (λh=>by simp[M]at h)];omega) |rfl) (by first |(rw[Xj (s3:=s3) C (Wa:i<l2.length) hx (λh=>by simp[M]at h)];done) |(rw[Xj (s3:=s3) C (Wa:i<l2.length) hx (λh=>by simp[M]at h)];rfl) |(rw[Xj (s3:=s3) C (Wa:i<l2.length) hx (λh=>by simp[M]at h),QAM];rfl) |(simp[Xj (s3:=s3) C (Wa:i<l2.length) hx (λh=>by simp[M]at h)];done) |rfl) Z
 omega
 first |omega |(simp only;omega) |(dsimp only;omega)
 intro h3;rw[Pl h1,Qmf (l':=l2.take i) h3];exact ZH Z Wj (Xi (A:=[_,_,_]) Z);intro h2;refine QP Z (aK ?_);rw[Pl h1,Qz3 (Wa:l2.length<=i)];exact ZH Z Wj (Xi (A:=[_,_,_]) Z)
structure m9 (ns:List (List UInt8)):Prop where
 nd:ns.Nodup
 mem:∀n∈ns,n∈tName
theorem QbQ {α:Type} [DecidableEq α]:∀{t l:List α},l.Nodup->(∀x∈l,x∈t)->l.length<=t.length
 |[],l,_,h=>by
  cases l with
  |nil=>simp
  |cons x l=>have:=h x Wc;simp at this
 |a::t,l,C,h=>by
  have h1:=QbQ (t:=t) (l:=l.erase a) (C.erase a) λx hx=>by
   rcases QzP.1 (h x (List.mem_of_mem_erase hx))with rfl |h2;exact absurd hx (C.not_mem_erase);exact h2
  have h2:=List.length_erase (a:=a) (l:=l);rw[QAt];split at h2<;>omega
theorem m9.len (h:m9 ns):ns.length<=5:=QbQ (t:=tName) h.nd h.mem
def Qdy (ns:List (List UInt8)) (n:List UInt8):List (List UInt8):=if n∈ns then ns else ns++[n]
theorem Qf4 (h:m9 ns) (C:n∈tName):m9 (Qdy ns n):=by
 unfold Qdy;split;exact h;rename_i e;refine⟨List.nodup_append.2 ⟨h.nd,by simp,λa ha b hb=>?_⟩,λx hx=>?_⟩;simp only[QzW]at hb;subst hb;exactλq=>e (q ▸ ha);rcases QzY.1 hx with hx |hx
 exact h.mem x hx;simp only[QzW]at hx;subst hx;exact C
theorem YY {y:YdT} {lkf:List UInt8->List TkR} (M:m9 ns) (O:n6 Tryz.prog 186 [.agg (dYd y (.ref 1000000 0 0)),.str n] (FD lkf ns) (Pb (lkf n)) (FD lkf ns)):n6 Tryz.prog 144 [.agg (dYd y (.ref 1000000 0 0)),.str n] (FD lkf ns) (Pb (lkf n)) (FD lkf (Qdy ns n)):=by
 refine n6.b7 tfol Tryz.func144 Qur (QzN Z) MZ Mf ?_;show TW _ _ tf144.body _ _;have V:=M.len;refine aS ?_;refine QE (ι:=Nat) (λi=>⟨[(1,.str n),(2,.ref 2 0 0),(5,.int .i64 i)],[(2,⟨[dYd y (.ref 1000000 0 0)],8,127,false⟩),(500000,bNs ns),(500001,bRs lkf ns),(1000000,bFd ns)]⟩) (λi=>i<=ns.length/\∀j (G:j<ns.length),j<i->ns[j]≠n) (λi=>ns.length - i) 0 ?_ ?_ ?_;exact Qn (l:=[1,2,5]) (lH:=[2,500000,500001,1000000]) (kp3 Z Z Z) (Qa Z (Qa Z (Qa Z (Qa Z Qb)))) Z Z Z;exact⟨QzZ _,λj G h=>Wa⟩;intro i U
 try dsimp only
 refine aV ?_ ?_;intro h1;refine aK ?_;refine Yg Z Z Z Wc Wa Wd Z (FP Z (T3 Z (Gc Wa)) Z (aB ?_ ?_));intro h2;refine Yg Z Z Z Wc Wa Wd Z (FP Z (T3 Z (Gc Wa)) Z (aK ?_));have C:n∈ns:=by have:=QzS (Wa:i<ns.length);rw[h2]at this;exact this
 rw[show Qdy ns n=ns from if_pos C];exact ZH Z (by rw[h2];rfl) (Xi (A:=[_]) Z)
 intro h2;refine Qd (i+1) ?_ ?_ ?_;exact Qn (l:=[1,2,5]) (lH:=[2,500000,500001,1000000]) (kp3 Z Z Z) (Qa Z (Qa Z (Qa Z (Qa Z Qb)))) Z Z Z;exact⟨Wa,λj G h=>by rcases Nat.lt_succ_iff_lt_or_eq.1 h with h |rfl;exact U.2 j G h;exact h2⟩
 first |omega |(simp only;omega) |(dsimp only;omega)
 intro h1;refine aJ ?_;refine J5 λK T=>Xc (l:=[_,_]) ?_;refine aK ?_;refine Qdr (Ho:=[_]) (O) Z Z Z Z Z (λ_=>⟨rfl,rfl⟩) Z Z (Xw (aJ ?_));refine kc3 T Z Z Z (Kr (TM λK T=>?_));refine Z2 Z Z (Z2 Z Z (Z2 Z Z (Z2 Z Z (Z2 Z Z (Z2 Z Z (Z2 Z Z (Z2 Z Z (Z2 Z Z (Z2 Z Z (Z2 Z Z (QoL Z Z Wf ⟨rfl,Wc,rfl⟩ Z Z Wc Z Z Wd Wd Z (Z2 Z Z (Z2 Z Z (Z2 Z Z (Z2 Z Z (Z2 Z Z (Z2 Z Z (Z2 Z Z (QoL Z Z Wf ⟨rfl,Wc,rfl⟩ Z Z Wc Z Z Wd Wd Z (Z2 Z Z (Z2 Z Z (Z2 Z Z (Z2 Z Z (Z2 Z Z (Z2 Z Z (T _ (ks1 Z ?_)))))))))))))))))))))))))));refine aY ?_;refine Dx (le_trans (QbB (l:=[4]) (lH:=[57]) 49 500000 1000000 (kp1 Z) (Qa Z Qb) Z Z Z Z Z Z Z Z) (QbB (l:=[4]) (lH:=[500000]) 57 500001 1000000 (kp1 Z) (Qa Z Qb) Z Z Z Z Z Z Z Z)) ?_;refine aK ?_;have C:n∉ns:=λh=>by obtain⟨j,G,e⟩:=Qz9 h;exact U.2 j G Wa e
 rw[show Qdy ns n=ns++[n] from if_neg C]
 exact ZH Z Z (λk b h=>by
  rcases Qh5 h with⟨rfl,rfl⟩ |⟨rfl,rfl⟩ |⟨rfl,rfl⟩;exact congrArg some (by simp only[bNs,QAM];rfl)
  exact congrArg some (by simp only[bRs,QAM];rfl)
  exact congrArg some (by simp only[bFd,QAs];rfl))
theorem Qd2 (G:y.ms.length<=2) (C:∀m∈y.ms,bb m.r.v):n6 Tryz.prog 140 [.agg (dYd y (.ref 1000000 0 0))] (FD lkf ns) (ZM (Gs y)) (FD lkf ns):=n6.wh (G6 G C) (Qn5 _)
theorem FV {ns':List (List UInt8)} {k:Q7} {z8:JH->List UInt8->Bool} (G:n6 Tryz.prog 144 [.agg (dYd y (.ref 1000000 0 0)),.str k.1] (FD lkf ns) (Pb (lkf k.1)) (FD lkf ns')) (U:(lkf k.1).length<=100) (M:∀t∈lkf k.1,Ok Tryz.prog 179 [.sl t.r.fd,.str k.2] (.bool (z8 t.r k.2))):n6 Tryz.prog 141 [.agg (dYd y (.ref 1000000 0 0)),.agg (Hp k)] (FD lkf ns) (Pb (ofM (lkf k.1) z8 k.2)) (FD lkf ns'):=by
 refine n6.b7 tfol Tryz.func141 Qup (QzN Z) MZ Mf ?_;show TW _ _ tf141.body _ _;refine aZ ?_;refine aZ ?_;refine J5 λK T=>Xc (l:=[_,_,_]) ?_;refine aK ?_;refine Qdr (Ho:=[_,_]) (G) Z Z Z Z Z (λ_=>⟨rfl,rfl⟩) Z Z (Xw (aK ?_));refine kc3 T Z Z Z ?_;refine aK ?_;refine QE (ι:=Nat) (λi=>⟨[(3,.ref 3 0 0),(5,.s4 5 (ofM ((lkf k.1).take i) z8 k.2).length),(6,Pb (lkf k.1)),(7,.int .i64 i)],[(3,⟨[Hp k],2,170,true⟩),(5,⟨(ofM ((lkf k.1).take i) z8 k.2).map dTk,10,231,true⟩),(500000,bNs ns'),(500001,bRs lkf ns'),(1000000,bFd ns')]⟩) (λi=>i<=(lkf k.1).length) (λi=>(lkf k.1).length - i) 0 ?_ ?_ ?_;exact le_trans (Zi 5 5 10 231 Z Z) (Qn (l:=[3,5,6,7]) (lH:=[3,5,500000,500001,1000000]) (kp4 Z Z Z Z) (Qa Z (Qa Z (Qa Z (Qa Z (Qa Z Qb))))) Z Z Z);exact QzZ _;intro i V;have hlen:=RX ((lkf k.1).take i) z8 k.2;have O:((lkf k.1).take i).length=i:=by simp;omega
 try dsimp only
 refine aB ?_ ?_;intro h1;refine aB ?_ ?_;intro h2;refine Qx Z (aK ?_);refine Qo Z Z (ZR Z Z (λ_ h=>YE Z Z Z h) Z Wc Z Z Z Wd Wd (aK ?_));refine Qd (i+1) ?_ ?_ ?_;exact Qn (l:=[3,5,6,7]) (lH:=[3,5,500000,500001,1000000]) (kp4 Z Z Z Z) (Qa Z (Qa Z (Qa Z (Qa Z (Qa Z Qb))))) (by first |(rw[Z1 (z8:=z8) (Wa:i<(lkf k.1).length) (.inl h2)];done) |(rw[Z1 (z8:=z8) (Wa:i<(lkf k.1).length) (.inl h2)];rfl) |(rw[Z1 (z8:=z8) (Wa:i<(lkf k.1).length) (.inl h2),QAs];rfl) |(simp[Z1 (z8:=z8) (Wa:i<(lkf k.1).length) (.inl h2)];done) |(simp[Z1 (z8:=z8) (Wa:i<(lkf k.1).length) (.inl h2)];omega) |rfl) (by first |(rw[Z1 (z8:=z8) (Wa:i<(lkf k.1).length) (.inl h2)];done) |(rw[Z1 (z8:=z8) (Wa:i<(lkf k.1).length) (.inl h2)];rfl) |(rw[Z1 (z8:=z8) (Wa:i<(lkf k.1).length) (.inl h2),QAM];rfl) |(simp[Z1 (z8:=z8) (Wa:i<(lkf k.1).length) (.inl h2)];done) |rfl) Z
 omega
 first |omega |(simp only;omega) |(dsimp only;omega)
 intro h2;refine Qw (ds0:=[0]) (M _ (QzS Wa)) Z Z (.inr Z) Z Z (aB ?_ ?_);intro C;refine Qo Z Z (ZR Z Z (λ_ h=>YE Z Z Z h) Z Wc Z Z Z Wd Wd (aK ?_));refine Qd (i+1) ?_ ?_ ?_;exact Qn (l:=[3,5,6,7]) (lH:=[3,5,500000,500001,1000000]) (kp4 Z Z Z Z) (Qa Z (Qa Z (Qa Z (Qa Z (Qa Z Qb))))) (by first |(rw[Z1 (Wa:i<(lkf k.1).length) (.inr C)];done) |(rw[Z1 (Wa:i<(lkf k.1).length) (.inr C)];rfl) |(rw[Z1 (Wa:i<(lkf k.1).length) (.inr C),QAs];rfl) |(simp[Z1 (Wa:i<(lkf k.1).length) (.inr C)];done) |(simp[Z1 (Wa:i<(lkf k.1).length) (.inr C)];omega) |rfl) (by first |(rw[Z1 (Wa:i<(lkf k.1).length) (.inr C)];done) |(rw[Z1 (Wa:i<(lkf k.1).length) (.inr C)];rfl) |(rw[Z1 (Wa:i<(lkf k.1).length) (.inr C),QAM];rfl) |(simp[Z1 (Wa:i<(lkf k.1).length) (.inr C)];done) |rfl) Z
 omega
 first |omega |(simp only;omega) |(dsimp only;omega)
 intro C;refine Qd (i+1) ?_ ?_ ?_;exact Qn (l:=[3,5,6,7]) (lH:=[3,5,500000,500001,1000000]) (kp4 Z Z Z Z) (Qa Z (Qa Z (Qa Z (Qa Z (Qa Z Qb))))) (by first |(rw[Nx (Wa:i<(lkf k.1).length) h2 C];done) |(rw[Nx (Wa:i<(lkf k.1).length) h2 C];rfl) |(rw[Nx (Wa:i<(lkf k.1).length) h2 C,QAs];rfl) |(simp[Nx (Wa:i<(lkf k.1).length) h2 C];done) |(simp[Nx (Wa:i<(lkf k.1).length) h2 C];omega) |rfl) (by first |(rw[Nx (Wa:i<(lkf k.1).length) h2 C];done) |(rw[Nx (Wa:i<(lkf k.1).length) h2 C];rfl) |(rw[Nx (Wa:i<(lkf k.1).length) h2 C,QAM];rfl) |(simp[Nx (Wa:i<(lkf k.1).length) h2 C];done) |rfl) Z
 omega
 first |omega |(simp only;omega) |(dsimp only;omega)
 intro h1;rw[Qz3 (Wa:(lkf k.1).length<=i)];exact ZH Z Wj (Xi (A:=[_,_]) Z)
variable {k:Q7} {l:List TkR} {ns':List (List UInt8)}
theorem KR (G:y.ms.length<=2) (C:∀m∈y.ms,bb m.r.v):n6 Tryz.prog 137 [.agg (dYd y (.ref 1000000 0 0)),.agg (Hp ([],[]))] (FD lkf ns) (ZM (Gs y)) (FD lkf ns):=by
 refine n6.b7 tfol Tryz.func137 QqR (QzN Z) MZ Mf ?_;show TW _ _ tf137.body _ _;refine aS ?_;refine JO Z Z (KX (x:=([],[])) (y:=([],[]))) (aV ?_ ?_);intro h1;refine J5 λK M=>Xc (l:=[_]) ?_;refine aK ?_;refine Qdr (Ho:=[_,_]) (Qd2 G C) Z Z Z Z Z (λ_=>⟨rfl,rfl⟩) Z Z (Xw (aK ?_));refine kc1 M Z ?_;refine aK ?_;exact ZH Z Wl (Xi (A:=[_,_]) Z);intro h1;exact absurd trivial h1
theorem KQ (hk:k≠([],[])) (G:n6 Tryz.prog 141 [.agg (dYd y (.ref 1000000 0 0)),.agg (Hp k)] (FD lkf ns) (Pb l) (FD lkf ns')) (U:l.length<=100) {nd:JH->List UInt8->List (List AskT)} (M:∀t∈l,Ok Tryz.prog 142 [.agg (ZP t.r),.agg [.str y.e1,.str y.e2,.str y.e3],.str k.2] (ZM (nd t.r k.2))) (C:∀t∈l,(nd t.r k.2).length<=90):n6 Tryz.prog 137 [.agg (dYd y (.ref 1000000 0 0)),.agg (Hp k)] (FD lkf ns) (ZM (M5 l nd k.2)) (FD lkf ns'):=by
 refine n6.b7 tfol Tryz.func137 QqR (QzN Z) MZ Mf ?_;show TW _ _ tf137.body _ _;refine aS ?_;refine JO Z Z (KX (x:=k) (y:=([],[]))) (aV ?_ ?_);intro h1;exact absurd h1 hk;intro h1;refine aJ ?_;refine aZ ?_;refine Kr (J5 λK T=>Xc (l:=[_,_]) ?_);refine aK ?_;refine Qdr (Ho:=[_,_]) (G) Z Z Z Z Z (λ_=>⟨rfl,rfl⟩) Z Z (Xw (aK ?_));refine kc6 T Z Z Z Z Z Z ?_;refine aK ?_;refine QE (ι:=Nat) (λi=>⟨[(2,.ref 2 0 0),(3,.ref 3 0 0),(5,.s4 5 (M5 (l.take i) nd k.2).length),(15,Pb l),(16,.int .i64 l.length),(17,.int .i64 i)],[(2,⟨[dYd y (.ref 1000000 0 0)],8,127,false⟩),(3,⟨[Hp k],2,170,true⟩),(5,⟨(M5 (l.take i) nd k.2).map (λr=>[Mc r]),1,222,true⟩),(500000,bNs ns'),(500001,bRs lkf ns'),(1000000,bFd ns')]⟩) (λi=>i<=l.length) (λi=>l.length - i) 0 ?_ ?_ ?_;exact le_trans (Zi 5 5 1 222 Z Z) (Qn (l:=[2,3,5,15,16,17]) (lH:=[2,3,5,500000,500001,1000000]) (kp6 Z Z Z Z Z Z) (Qa Z (Qa Z (Qa Z (Qa Z (Qa Z (Qa Z Qb)))))) Z Z Z);exact QzZ _;intro i V;have hlen:(M5 (l.take i) nd k.2).length<=9000:=Qz6 (R8 λt O=>C t (Qz7 O)) Wd
 try dsimp only
 refine aB ?_ ?_;intro h2;have Y:=C _ (QzS (Wa:i<l.length));refine aK ?_;refine Qf (M _ (QzS (Wa:i<l.length))) Z Z (.inl Z) (ZR Z Z (λ_ h=>Sf Qga h) Z Wc Z Z Z Wd Wd (aK ?_));refine Qd (i+1) ?_ ?_ ?_;exact Qn (l:=[2,3,5,15,16,17]) (lH:=[2,3,5,500000,500001,1000000]) (kp6 Z Z Z Z Z Z) (Qa Z (Qa Z (Qa Z (Qa Z (Qa Z (Qa Z Qb)))))) (by rw[Qci (Wa:i<l.length),QAs,QAH];rfl) (by rw[Qci (Wa:i<l.length),QAM];rfl) Z
 omega
 first |omega |(simp only;omega) |(dsimp only;omega)
 intro h2;rw[Qz3 (Wa:l.length<=i)];exact ZH Z (by simp[FN,D.fz,D.o7,small,D.can,D.y6,ZM,Qe]) (Xi (A:=[_,_,_]) Z)
theorem Hy (G:y.ms.length<=2) (C:∀m∈y.ms,bb m.r.v) {all:List Q7} (M:all.length<=1000):n6 Tryz.prog 98 [.agg (dYd y (.ref 1000000 0 0)),XE all,.agg (Hp ([],[]))] (FD lkf ns) (.l7 [.sl [D8 ⟨⟨0,0,0,[],[]⟩, -1,M7 all (Gs y),[]⟩],.bool true]) (FD lkf ns):=by
 refine n6.b7 tfol Tryz.func98 Qvr (QzN Z) MZ Mf ?_;show TW _ _ tf98.body _ _;refine aS ?_;refine JO Z Z (KX (x:=([],[])) (y:=([],[]))) (aV ?_ ?_);intro h1;refine J5 λK O=>Xc (l:=[_,_]) ?_;refine aK ?_;refine Qdr (Ho:=[_,_]) (Qd2 G C) rfl rfl rfl rfl rfl (λ_=>⟨rfl,rfl⟩) rfl rfl (Xw (Qf (Yt (rs:=Gs y) Wa (by simp[Gs];omega) (λr hr=>by obtain⟨m,_,rfl⟩:=Qz1.1 hr;simp)) rfl rfl (.inl rfl) (aK ?_)))
 refine Qo Z Z (aK ?_);refine kc2 O Z Z ?_;refine aK ?_;exact Y9 Z Z ⟨rfl,rfl⟩ ⟨rfl,rfl⟩ (Xi (A:=[_,_,_]) Z);intro h1;exact absurd trivial h1
theorem Hw {all:List Q7} (hal:all.length<=1000) (hk:k≠([],[])) (C:k.2=[]) (V:n6 Tryz.prog 141 [.agg (dYd y (.ref 1000000 0 0)),.agg (Hp k)] (FD lkf ns) (Pb l) (FD lkf ns')) (hl:l.length<=100) (W:WF) (Y:∀t∈l,Ok Tryz.prog 142 [.agg (ZP t.r),.agg [.str y.e1,.str y.e2,.str y.e3],.str k.2] (ZM (W.nd t.r k.2))) (M:∀t∈l,(W.nd t.r k.2).length<=90) (T:∀t∈l,∀r∈W.nd t.r k.2,r.length<=1000) (hbl:∀t∈l,t.r.bs.length<=1000) (U:∀t∈l,∀b∈t.r.bs,Ok Tryz.prog 184 [.str b.w,.agg [.str y.e1,.str y.e2,.str y.e3]] (.bool (W.on b.w))) (O:∀t∈l,∀b∈t.r.bs,Ok Tryz.prog 185 [.str b.r] (Li (W.st b.r))) (G:n6 Tryz.prog 144 [.agg (dYd y (.ref 1000000 0 0)),.str k.1] (FD lkf ns') (Pb (lkf k.1)) (FD lkf ns')):n6 Tryz.prog 98 [.agg (dYd y (.ref 1000000 0 0)),XE all,.agg (Hp k)] (FD lkf ns) (.l7 [.sl ((Kw W all l k.2 (lkf k.1).length).1.map Lh),.bool (Kw W all l k.2 (lkf k.1).length).2]) (FD lkf ns'):=by
 refine n6.b7 tfol Tryz.func98 Qvr (QzN Z) MZ Mf ?_;show TW _ _ tf98.body _ _;refine aS ?_;refine JO Z Z (KX (x:=k) (y:=([],[]))) (aV ?_ ?_);intro h1;exact absurd h1 hk;intro h1;refine aJ ?_;refine aZ ?_;refine Kr (J5 λK hK=>Xc (l:=[_,_]) ?_);refine aK ?_;refine Qdr (Ho:=[_,_]) (V) Z Z Z Z Z (λ_=>⟨rfl,rfl⟩) Z Z (Xw (aK ?_));refine kc7 hK Z Z Z Z Z Z Z ?_;refine aK ?_;refine QE (ι:=Nat) (λi=>⟨[(1,XE all),(3,.ref 3 0 0),(5,.ref 5 0 0),(8,.s4 8 i),(23,Pb l),(24,.int .i64 l.length),(25,.int .i64 i)],[(3,⟨[dYd y (.ref 1000000 0 0)],8,127,false⟩),(5,⟨[Hp k],2,170,true⟩),(8,⟨((l.map (JI W all k.2)).take i).map Lh,8,70,true⟩),(500000,bNs ns'),(500001,bRs lkf ns'),(1000000,bFd ns')]⟩) (λi=>i<=l.length/\((l.map (JI W all k.2)).take i).any Qdo=false) (λi=>l.length - i) 0 ?_ ?_ ?_;exact le_trans (Zi 8 8 8 70 Z Z) (Qn (l:=[1,3,5,8,23,24,25]) (lH:=[3,5,8,500000,500001,1000000]) (kp7 Z Z Z Z Z Z Z) (Qa Z (Qa Z (Qa Z (Qa Z (Qa Z (Qa Z Qb)))))) Z Z Z);exact⟨QzZ _,by simp⟩;intro i hI
 try dsimp only
 refine aV ?_ ?_;intro h2;have h9:=M _ (QzS (Wa:i<l.length));have htl:=Sl all (W.nd l[i].r k.2);refine aK ?_;refine Qw (ds0:=[3,2,0]) (Y _ (QzS (Wa:i<l.length))) Z Z (.inl Z) Z Z (Qw (ds0:=[2,0]) (Yt (rs:=W.nd (l[i]'Wa).r k.2) Wa Wa (λr hr=>by have:=T _ (QzS (Wa:i<l.length)) r hr;omega)) Z Z (.inl Z) Z Z (aK ?_))
 refine KN (ds0:=[]) Z Z Z Z Z Z Z Z Z Z (aB ?_ ?_);intro h3;refine Qf (G2 (x:=(l[i]'Wa).r) Wa (hbl _ (QzS Wa)) (U _ (QzS Wa)) (O _ (QzS Wa))) Z Z (.inl Z) (aB ?_ ?_);intro h4;refine Qx Z (aK ?_);rw[N9 (i:=i) Wa (by rw[F4 C,Qdo];simp;omega)]
 exact Y9 Z Z ⟨rfl,rfl⟩ ⟨rfl,rfl⟩ (Xi (A:=[_,_,_,_,_,_,_,_]) Z);intro h4;refine aB ?_ ?_;intro h5;rw[N9 (i:=i) Wa (by rw[F4 C,Qdo];simp;omega)]
 exact Y9 Z Z ⟨rfl,rfl⟩ ⟨rfl,rfl⟩ (Xi (A:=[_,_,_,_,_,_,_,_]) Z);intro h5;refine Qo Z Z (ZR Z Z (λ_ h=>YE Z Z Z h) Z Wd Z Z Z Wd Wd (aK ?_));refine Qd (i+1) ?_ ?_ ?_;exact Qn (l:=[1,3,5,8,23,24,25]) (lH:=[3,5,8,500000,500001,1000000]) (kp7 Z Z Z Z Z Z Z) (Qa Z (Qa Z (Qa Z (Qa Z (Qa Z (Qa Z Qb)))))) Z (by rw[QAZ (show i<(l.map (JI W all k.2)).length by simp;omega),QAM,QBc,F4 C];rfl) Z
 exact⟨Wa,PV (show i<(l.map (JI W all k.2)).length by simp;omega) hI.2 (by rw[QBc,F4 C,Qdo];simp;omega)⟩
 first |omega |(simp only;omega) |(dsimp only;omega)
 intro h3;exact absurd C h3;intro h2;refine aJ ?_;refine J5 λK hK=>Xc (l:=[_,_,_,_]) ?_;refine aK ?_;refine Qdr (Ho:=[_,_,_]) (G) Z Z Z Z Z (λ_=>⟨rfl,rfl⟩) Z Z (Xw (aK ?_));refine kc2 hK Z Z ?_;refine aK ?_;obtain rfl:i=l.length:=Wa;rw[Ma (by simpa [Qz3]using hI.2)];exact Y9 Z Z ⟨by simp[FN,D.fz,D.o7,small,D.can,D.y6,Qe,Qz3],congrArg D.bool (decide_eq_decide.2 Wa)⟩ ⟨rfl,rfl⟩ (Xi (A:=[_,_,_]) Z)
theorem Hx {all:List Q7} (hal:all.length<=1000) (hk:k≠([],[])) (C:¬k.2=[]) (T:n6 Tryz.prog 141 [.agg (dYd y (.ref 1000000 0 0)),.agg (Hp k)] (FD lkf ns) (Pb l) (FD lkf ns')) (hl:l.length<=100) (W:WF) (U:∀t∈l,Ok Tryz.prog 142 [.agg (ZP t.r),.agg [.str y.e1,.str y.e2,.str y.e3],.str k.2] (ZM (W.nd t.r k.2))) (M:∀t∈l,(W.nd t.r k.2).length<=90) (O:∀t∈l,∀r∈W.nd t.r k.2,r.length<=1000) (hbl:∀t∈l,t.r.bs.length<=1000) (hon:∀t∈l,∀b∈t.r.bs,Ok Tryz.prog 184 [.str b.w,.agg [.str y.e1,.str y.e2,.str y.e3]] (.bool (W.on b.w))) (hst:∀t∈l,∀b∈t.r.bs,Ok Tryz.prog 185 [.str b.r] (Li (W.st b.r))) (G:n6 Tryz.prog 144 [.agg (dYd y (.ref 1000000 0 0)),.str k.1] (FD lkf ns') (Pb (lkf k.1)) (FD lkf ns')):n6 Tryz.prog 98 [.agg (dYd y (.ref 1000000 0 0)),XE all,.agg (Hp k)] (FD lkf ns) (.l7 [.sl ((Kw W all l k.2 (lkf k.1).length).1.map D8),.bool (Kw W all l k.2 (lkf k.1).length).2]) (FD lkf ns'):=by
 refine n6.b7 tfol Tryz.func98 Qvr (QzN Z) MZ Mf ?_;show TW _ _ tf98.body _ _;refine aS ?_;refine JO Z Z (KX (x:=k) (y:=([],[]))) (aV ?_ ?_);intro h1;exact absurd h1 hk;intro h1;refine aJ ?_;refine aZ ?_;refine Kr (J5 λK V=>Xc (l:=[_,_]) ?_);refine aK ?_;refine Qdr (Ho:=[_,_]) (T) Z Z Z Z Z (λ_=>⟨rfl,rfl⟩) Z Z (Xw (aK ?_));refine kc7 V Z Z Z Z Z Z Z ?_;refine aK ?_;refine QE (ι:=Nat) (λi=>⟨[(1,XE all),(3,.ref 3 0 0),(5,.ref 5 0 0),(8,.s4 8 i),(23,Pb l),(24,.int .i64 l.length),(25,.int .i64 i)],[(3,⟨[dYd y (.ref 1000000 0 0)],8,127,false⟩),(5,⟨[Hp k],2,170,true⟩),(8,⟨((l.map (JI W all k.2)).take i).map D8,8,70,true⟩),(500000,bNs ns'),(500001,bRs lkf ns'),(1000000,bFd ns')]⟩) (λi=>i<=l.length/\((l.map (JI W all k.2)).take i).any Qdo=false) (λi=>l.length - i) 0 ?_ ?_ ?_;exact le_trans (Zi 8 8 8 70 Z Z) (Qn (l:=[1,3,5,8,23,24,25]) (lH:=[3,5,8,500000,500001,1000000]) (kp7 Z Z Z Z Z Z Z) (Qa Z (Qa Z (Qa Z (Qa Z (Qa Z (Qa Z Qb)))))) Z Z Z);exact⟨QzZ _,by simp⟩;intro i Y
 try dsimp only
 refine aV ?_ ?_;intro h2;have h9:=M _ (QzS (Wa:i<l.length));have htl:=Sl all (W.nd l[i].r k.2);refine aK ?_;refine Qw (ds0:=[3,2,0]) (U _ (QzS (Wa:i<l.length))) Z Z (.inl Z) Z Z (Qw (ds0:=[2,0]) (Yt (rs:=W.nd (l[i]'Wa).r k.2) Wa Wa (λr hr=>by have:=O _ (QzS (Wa:i<l.length)) r hr;omega)) Z Z (.inl Z) Z Z (aK ?_))
 refine KN (ds0:=[]) Z Z Z Z Z Z Z Z Z Z (aB ?_ ?_);intro h3;exact absurd h3 C;intro h3;refine aB ?_ ?_;intro h4;refine Qx Z (aK ?_);rw[N9 (i:=i) Wa (by rw[N8 C,Qdo];simp;omega)]
 exact Y9 Z Z ⟨rfl,rfl⟩ ⟨rfl,rfl⟩ (Xi (A:=[_,_,_,_,_,_,_]) Z);intro h4;refine aB ?_ ?_;intro h5;exact absurd h5 Wc;intro h5;refine Qo Z Z (ZR Z Z (λ_ h=>YE Z Z Z h) Z Wd Z Z Z Wd Wd (aK ?_));refine Qd (i+1) ?_ ?_ ?_;exact Qn (l:=[1,3,5,8,23,24,25]) (lH:=[3,5,8,500000,500001,1000000]) (kp7 Z Z Z Z Z Z Z) (Qa Z (Qa Z (Qa Z (Qa Z (Qa Z (Qa Z Qb)))))) Z (by rw[QAZ (show i<(l.map (JI W all k.2)).length by simp;omega),QAM,QBc,N8 C];rfl) Z
 exact⟨Wa,PV (show i<(l.map (JI W all k.2)).length by simp;omega) Y.2 (by rw[QBc,N8 C,Qdo];simp;omega)⟩
 first |omega |(simp only;omega) |(dsimp only;omega)
 intro h2;refine aJ ?_;refine J5 λK V=>Xc (l:=[_,_,_,_]) ?_;refine aK ?_;refine Qdr (Ho:=[_,_,_]) (G) Z Z Z Z Z (λ_=>⟨rfl,rfl⟩) Z Z (Xw (aK ?_));refine kc2 V Z Z ?_;refine aK ?_;obtain rfl:i=l.length:=Wa;rw[Ma (by simpa [Qz3]using Y.2)];exact Y9 Z Z ⟨by simp[FN,D.fz,D.o7,small,D.can,D.y6,Qe,Qz3],congrArg D.bool (decide_eq_decide.2 Wa)⟩ ⟨rfl,rfl⟩ (Xi (A:=[_,_,_]) Z)
end Go.Proofs
