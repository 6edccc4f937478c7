/- Part 34 of the means of the proof: a verified evaluator and contracts of functions. -/
import Derived.Test.YtggcpapoljmiaaaGreatDoorB11
import Derived.Test.YtggcpapoljmiaaaGreatDoorB12
import Derived.Test.YtggcpapoljmiaaaGreatDoorB13
import Derived.Test.YtggcpapoljmiaaaGreatDoorB14
set_option maxRecDepth 4000
set_option maxHeartbeats 4000000
set_option linter.unusedSimpArgs false
set_option linter.unusedVariables false
set_option linter.unusedSectionVars false
namespace Go.Proofs
open Go Go.Abs M3 M25
variable {k:Za} {l:List Za} {p:Prop}
theorem Fb {a b:Za}:Ok Tryz.prog 176 [.agg (Ht a),.agg (Ht b)] (.bool (K6 a b)):=by
 refine Ok.n6 tfol Tryz.func176 QuV (QAk Z) ?_;show TW _ _ tf176.body _ _;refine aX ?_ ?_;intro h1
 (repeat clear hK K);simp_all [K6]
 intro h1;refine aB ?_ ?_;intro h2
 (repeat clear hK K);simp_all [K6]
 intro h2
 (repeat clear hK K);simp_all [K6]
theorem XI (G:l.length<=1000000):Ok Tryz.prog 177 [XK l,.agg (Ht k)] (.int .i64 (plA l k)):=by
 refine Ok.n6 tfol Tryz.func177 QuW (QAk Z) ?_;show TW _ _ tf177.body _ _;refine aS ?_;refine Qt (ι:=Nat) (λi=>⟨[(0,XK l),(3,.ref 3 0 0),(5,.int .i64 i)],[(3,⟨[Ht k],2,170,true⟩)]⟩) (λi=>i<=l.length/\plA l k=plP (λx=>decide (x=k)) (l.drop i) i) (λi=>l.length - i) 0 ?_ ?_ ?_;exact Ql (l:=[0,3,5]) (lH:=[3]) (kp3 Z Z Z) (Qa Z Qb) Z Z Z;exact⟨QAw _,rfl⟩;intro i C
 try dsimp only
 refine aB ?_ ?_;intro h1;refine JY Z Z K1 (aB ?_ ?_);intro h2;rw[show plA l k=_ from Da Wa (by simpa using h2) C.2];intro h2;refine Qc (i+1) ?_ ?_ ?_;exact Ql (l:=[0,3,5]) (lH:=[3]) (kp3 Z Z Z) (Qa Z Qb) Z Z Z;exact⟨Wa,NQ Wa (by simpa using h2) C.2⟩
 first |omega |(simp only;omega) |(dsimp only;omega)
 intro h1;rw[show plA l k=_ from P4 Wa C.2]
theorem _root_.Wh (h:p:=by first |exact .inl (by omega) |exact .inr ⟨by omega,by assumption,by assumption⟩):p:=h
theorem Jx (T:l.length<=1000000):Ok Tryz.prog 138 [XK l,.agg (Ht k)] (XK (HK l k)):=by
 refine Ok.n6 tfol Tryz.func138 Quz (QAk Z) ?_;show TW _ _ tf138.body _ _;refine aS ?_;refine Qt (ι:=Nat) (λi=>⟨[(0,XK l),(3,.ref 3 0 0),(5,.int .i64 i)],[(3,⟨[Ht k],2,170,true⟩)]⟩) (λi=>i<=l.length/\HK l k=l.take i++HK (l.drop i) k) (λi=>l.length - i) 0 ?_ ?_ ?_;exact Ql (l:=[0,3,5]) (lH:=[3]) (kp3 Z Z Z) (Qa Z Qb) Z Z Z;exact⟨QAw _,by simp⟩;intro i C
 try dsimp only
 refine aB ?_ ?_;intro h1;refine Qr (ds0:=[0]) (Fb) Z Z (.inr Z) Z Z (aB ?_ ?_);intro h2;refine Qc (i+1) ?_ ?_ ?_;exact Ql (l:=[0,3,5]) (lH:=[3]) (kp3 Z Z Z) (Qa Z Qb) Z Z Z;exact⟨Wa,Qgs Wa h2 C.2⟩
 first |omega |(simp only;omega) |(dsimp only;omega)
 intro h2;refine aB ?_ ?_;intro M;refine JY Z Z K1 (aB ?_ ?_);intro O;refine QM Z ?_;rw[Qgr (k:=i) Wa (by assumption) (by assumption) C.2];rfl;intro O;refine XT Z Z Z Z Wa Wa Wd Bm Z (Md (ds0:=[5,1,0]) Z Z (λ_ h=>⟨QcK,h⟩) Z (.inl Z) Wc Wd Wd Z Z (aK ?_));refine Qn Z Z (YK (ds0:=[1,0]) Z Z Wf ⟨_,rfl,rfl,rfl,rfl,rfl⟩ Z Z Wc Z Z Wd Wd Z Z (aK ?_));refine XT Z Z Z Z Wa Wd Wc Bm Z (YK (ds0:=[0]) Z Z Wf ⟨rfl,QcK,rfl⟩ Z Z Wc Z Z Wd Wd Z Z (aK ?_));refine QM Z ?_;rw[QcA (k:=i) Wh C.2];simp[XS,D.fz,D.n7,JS,lk,D.can,D.z6,XK,D.l4,(show∀a b:Nat,a+1+b=a+(b+1) fromλa b=>Wa),QAA (show(l.map Ht).length<=l.length by simp)]<;>rfl;intro M;exact absurd h1 M;intro h1;refine QH Z (aB ?_ ?_);intro G;exact absurd G h1;intro G;refine QH Z (aK ?_);refine XT Z Z Z Z Wa Wa Wd Bm Z (Md (ds0:=[5,1,0]) Z Z (λ_ h=>⟨QcK,h⟩) Z (.inl Z) Wc Wd Wd Z Z (aK ?_));refine Qn Z Z (YK (ds0:=[1,0]) Z Z Wf ⟨_,rfl,rfl,rfl,rfl,rfl⟩ Z Z Wc Z Z Wd Wd Z Z (aK ?_));refine XT Z Z Z Z Wa Wd Wc Bm Z (YK (ds0:=[0]) Z Z Wf ⟨rfl,QcK,rfl⟩ Z Z Wc Z Z Wd Wd Z Z (aK ?_));refine QM Z ?_;rw[QcA (k:=i) Wh C.2];simp[XS,D.fz,D.n7,JS,lk,D.can,D.z6,XK,D.l4,(show∀a b:Nat,a+1+b=a+(b+1) fromλa b=>Wa),QAA (show(l.map Ht).length<=l.length by simp)]<;>rfl
theorem _root_.Wk (h:p:=by first |(simp;done) |(simp;omega)):p:=h
theorem Yr {all:List Za} (M:all.length<=1000000) {rs:List (List AskT)} (hr:rs.length<=1000000) (C:∀r∈rs,r.length<=1000000):Ok Tryz.prog 139 [XK all,ZL rs] (Xm (Ta all rs)):=by
 refine Ok.n6 tfol Tryz.func139 QuA (QAk Z) ?_;show TW _ _ tf139.body _ _;refine aS ?_;refine Qt (ι:=Nat) (λi=>⟨[(0,XK all),(5,.s4 5 i),(11,ZL rs),(12,.int .i64 rs.length),(13,.int .i64 i)],[(5,⟨(rs.take i).map λr=>[ZR (r.map (QjA all))],1,68,true⟩)]⟩) (λi=>i<=rs.length) (λi=>rs.length - i) 0 ?_ ?_ ?_;exact le_trans (Q8 5 5 1 68 Z Z) (Ql (l:=[0,5,11,12,13]) (lH:=[5]) (kp5 Z Z Z Z Z) (Qa Z Qb) Z Z Z);exact QAw _;intro i O
 try dsimp only
 refine aB ?_ ?_;intro h1;have G:=C _ (QAp (Wa:i<rs.length));refine Qt (ι:=Nat) (λj=>⟨[(0,XK all),(5,.s4 5 i),(8,.s4 8 j),(11,ZL rs),(12,.int .i64 rs.length),(13,.int .i64 i),(17,Mu (rs[i]'Wa)),(18,.int .i64 ((rs[i]'Wa).length:Nat)),(19,.int .i64 j)],[(5,⟨(rs.take i).map λr=>[ZR (r.map (QjA all))],1,68,true⟩),(8,⟨(((rs[i]'Wa).take j).map (QjA all)).map Fo,3,82,true⟩)]⟩) (λj=>j<=(rs[i]'Wa).length) (λj=>(rs[i]'Wa).length - j) 0 ?_ ?_ ?_;exact le_trans (Q8 8 8 3 82 Z Z) (Ql (l:=[0,5,8,11,12,13,17,18,19]) (lH:=[5,8]) (kp9 Z Z Z Z Z Z Z Z Z) (Qa Z (Qa Z Qb)) Z Z Z);exact QAw _;intro j O
 try dsimp only
 refine aV ?_ ?_;intro h2;refine aK ?_;refine Qr (ds0:=dn 4) (XI (k:=((rs[i]'Wa)[j]'Wa).k) M) Z Z (.inr Z) Z Z (aK ?_);refine Qn Z Z (YK (ds0:=[0]) Z Z Wf ⟨_,rfl,rfl,rfl,rfl,rfl⟩ Z Z Wd Z Z Wd Wd Z Z (aK ?_));refine Qc (j+1) ?_ ?_ ?_;exact le_trans (MD (l:=[0,5,11,12,13,17,18,19]) (lH:=[5]) 32 8 8 (kp8 Z Z Z Z Z Z Z Z) (Qa Z Qb) Z Z Z Z Z Z Z) (Ql (l:=[0,5,8,11,12,13,17,18,19]) (lH:=[5,8]) (kp9 Z Z Z Z Z Z Z Z Z) (Qa Z (Qa Z Qb)) Z (by rw[QBv (Wa:j<(rs[i]'Wa).length),QBi,QBi];rfl) Z)
 omega
 first |omega |(simp only;omega) |(dsimp only;omega)
 intro h2;refine Rh (N2 (GV (Nc (ks6 Z Z Z Z Z Z (BI (Qb2 (l:=[0,5,11,12,13]) (lH:=[5]) 8 8 (kp5 Z Z Z Z Z) (Qa Z Qb) Z Z Z Wk Z Z Z Z) ?_)))));refine aK ?_;refine Qn Z Z (Zu Z Z (λ_ h=>ZN Z Z Z h) Z Wd Z Z Z Wd Wd (aK ?_));refine Qc (i+1) ?_ ?_ ?_;exact Ql (l:=[0,5,11,12,13]) (lH:=[5]) (kp5 Z Z Z Z Z) (Qa Z Qb) Z (by rw[QBv (Wa:i<rs.length),QBi,QAA (Wa:(rs[i]'Wa).length<=j)];rfl) Z
 omega
 first |omega |(simp only;omega) |(dsimp only;omega)
 intro h1;exact Xb Z Z Z Wd (by rw[QAA (Wa:rs.length<=i)];simp[Xm,Ta])
variable {n:List UInt8} {v:Vr}
structure Qla:Prop where
 lg:∀rows:List (List D),rows.length<=2->(∀r∈rows,Tp.u3 S7 r)->∃e n,Ok Tryz.prog 62 [.sl rows] (.u7 [.int .i64 e,.int .i64 n])
 ph:∀n:List UInt8,n.length<=100->∃b,Ok Tryz.prog 134 [.str n] (.bool b)
 kh:∀r:List D,Tp.u3 X1 r->∃s e,(0<=s/\s<=18446744073709551615)/\Ok Tryz.prog 129 [.agg r] (.u7 [.int .u64 s,.int .i64 e])
 qg:∀ps:List QhM,ps.length<=4->(∀p∈ps,Tp.u3 BL (QeR p))->∃b,Ok Tryz.prog 269 [RF ps] (.bool b)
 oh:∀a b c:List UInt8,Tp.u3 GS [.str a,.str b,.str c]->∃t,Ok Tryz.prog 64 [.agg [.str a,.str b,.str c]] (.bool t)
 sg:∀rows:List (List D),rows.length<=2->(∀r∈rows,Tp.u3 S7 r)->∃(ps:List QhM) (e:Int),ps.length<=4/\(∀p∈ps,Tp.u3 BL (QeR p))/\Ok Tryz.prog 65 [.sl rows] (.u7 [RF ps,.int .i64 e])
 jg:∀rows:List (List D),rows.length<=2->(∀r∈rows,Tp.u3 XP r)->∃b,Ok Tryz.prog 63 [.sl rows] (.bool b)
 ng:∀rows:List (List D),rows.length<=2->(∀r∈rows,Tp.u3 S7 r)->∀n:List UInt8,n.length<=100->∃s:Je,∃e,(Sm s.1/\Sm s.2)/\Ok Tryz.prog 225 [.sl rows,.str n] (.u7 [.agg [Qw s.1,Qw s.2],.int .i64 e])
structure Qrl (s:ShR):Prop where
 n:s.n.length<=100
 l:s.es.length<=100
 t:∀e∈s.es,Tp.u3 X1 (JC e.r)
 v:∀e∈s.es,fb e.r.v
theorem H6 {l:List Qhu} (G:l.length<=1000):Ok Tryz.prog 92 [Nu l,.str n] (.int .i64 (plP (nmM n) l 0)):=by
 refine Ok.n6 tfol Tryz.func92 Qz8 (QAk Z) ?_;show TW _ _ tf92.body _ _;refine aS ?_;refine Qt (ι:=Nat) (λi=>⟨[(0,Nu l),(1,.str n),(5,.int .i64 i)],[]⟩) (λi=>i<=l.length/\plP (nmM n) l 0=plP (nmM n) (l.drop i) i) (λi=>l.length - i) 0 ?_ ?_ ?_;exact QB (kp3 Z Z Z);exact⟨QAw _,rfl⟩;intro i C
 try dsimp only
 refine aB ?_ ?_;intro h1;refine aB ?_ ?_;intro h2;rw[Da Wa (by exact decide_eq_true h2) C.2];intro h2;refine Qc (i+1) ?_ ?_ ?_;exact QB (kp3 Z Z Z);exact⟨Wa,NQ Wa (by exact decide_eq_false h2) C.2⟩
 first |omega |(simp only;omega) |(dsimp only;omega)
 intro h1;rw[P4 Wa C.2]
theorem XH {l:List ShR} (G:l.length<=1000):Ok Tryz.prog 94 [Cm l,.str n] (.int .i64 (plP (nmS n) l 0)):=by
 refine Ok.n6 tfol Tryz.func94 QAa (QAk Z) ?_;show TW _ _ tf94.body _ _;refine aS ?_;refine Qt (ι:=Nat) (λi=>⟨[(0,Cm l),(1,.str n),(5,.int .i64 i)],[]⟩) (λi=>i<=l.length/\plP (nmS n) l 0=plP (nmS n) (l.drop i) i) (λi=>l.length - i) 0 ?_ ?_ ?_;exact QB (kp3 Z Z Z);exact⟨QAw _,rfl⟩;intro i C
 try dsimp only
 refine aB ?_ ?_;intro h1;refine aB ?_ ?_;intro h2;rw[Da Wa (by exact decide_eq_true h2) C.2];intro h2;refine Qc (i+1) ?_ ?_ ?_;exact QB (kp3 Z Z Z);exact⟨Wa,NQ Wa (by exact decide_eq_false h2) C.2⟩
 first |omega |(simp only;omega) |(dsimp only;omega)
 intro h1;rw[P4 Wa C.2]
theorem FM {u:Vr} (C:fb v) (hu:fb u):Ok Tryz.prog 172 [.agg (dV5 v),.agg (dV5 u)] (.bool (QoG v u)):=by
 refine Ok.n6 tfol Tryz.func172 QuU (QAk Z) ?_;show TW _ _ tf172.body _ _;refine aS ?_;refine Qg (Qv (C.sm).1 (C.sm).2) Z Z (.inr Z) (aB ?_ ?_);intro h1;refine Qg (Qv (hu.sm).1 (hu.sm).2) Z Z (.inr Z) (aB ?_ ?_);intro h2;refine Qg (Zf (C.sm).1 (C.sm).2 (hu.sm).1 (hu.sm).2) Z Z (.inr Z) (aK ?_)
 (repeat clear hK K);simp_all [QoG,SS]<;>rfl
 intro h2
 (repeat clear hK K);simp_all [QoG,SS]<;>rfl
 intro h1
 (repeat clear hK K);simp_all [QoG,SS]<;>rfl
theorem H4 {l:List Fs} (O:l.length<=1000) (G:fb v) (he:∀e∈l,fb e.r.v):Ok Tryz.prog 130 [Qif l,.str n,.agg (dV5 v)] (.int .i64 (plP (QhE n v) l 0)):=by
 refine Ok.n6 tfol Tryz.func130 Qux (QAk Z) ?_;show TW _ _ tf130.body _ _;refine aS ?_;refine Qt (ι:=Nat) (λi=>⟨[(0,Qif l),(1,.str n),(5,.ref 5 0 0),(7,.int .i64 i)],[(5,⟨[dV5 v],5,66,true⟩)]⟩) (λi=>i<=l.length/\plP (QhE n v) l 0=plP (QhE n v) (l.drop i) i) (λi=>l.length - i) 0 ?_ ?_ ?_;exact Ql (l:=[0,1,5,7]) (lH:=[5]) (kp4 Z Z Z Z) (Qa Z Qb) Z Z Z;exact⟨QAw _,rfl⟩;intro i C
 try dsimp only
 refine aB ?_ ?_;intro h1;refine aB ?_ ?_;intro h2;refine Qr (ds0:=[0]) (FM (v:=(l[i]'Wa).r.v) (he _ (QAp Wa)) G) Z Z (.inr Z) Z Z (aB ?_ ?_);intro M;rw[Da Wa (by simp_all [QhE]) C.2];intro M;refine Qc (i+1) ?_ ?_ ?_;exact Ql (l:=[0,1,5,7]) (lH:=[5]) (kp4 Z Z Z Z) (Qa Z Qb) Z Z Z;exact⟨Wa,NQ Wa (by simp_all [QhE]) C.2⟩
 first |omega |(simp only;omega) |(dsimp only;omega)
 intro h2;refine QH Z (aK ?_);refine Qc (i+1) ?_ ?_ ?_;exact Ql (l:=[0,1,5,7]) (lH:=[5]) (kp4 Z Z Z Z) (Qa Z Qb) Z Z Z;exact⟨Wa,NQ Wa (by simp_all [QhE]) C.2⟩
 first |omega |(simp only;omega) |(dsimp only;omega)
 intro h1;rw[P4 Wa C.2]
theorem FL (wk:Qla) {s:ShR} (U:s.n.length<=100) (hl:s.es.length<=100) (T:∀e∈s.es,Tp.u3 X1 (JC e.r)) (he:∀e∈s.es,fb e.r.v):∃d,(∃b,d=.bool b/\(b=true->Qd3 s.es))/\Ok Tryz.prog 93 [.agg (dSh s)] d:=by
 refine Ok.uf (R:=λd=>(∃b,d=.bool b/\(b=true->Qd3 s.es))) tfol Tryz.func93 Qz9 (QAk Z) ?_;show TX _ _ tf93.body _ _;refine aS ?_;obtain⟨b1,M⟩:=wk.ph s.n U;refine Qg (M) Z Z (.inr Z) (aB ?_ ?_);intro h1;refine Rk Z (aK ?_);refine⟨_, ?_,Xc Z rfl⟩
 first |exact⟨false,rfl,λh=>by cases h⟩ |exact⟨true,rfl,λ_ i hi=>C.2 i hi Wa⟩
 intro h1;refine aB ?_ ?_;intro h2;refine⟨_, ?_,Xc Z rfl⟩
 first |exact⟨false,rfl,λh=>by cases h⟩ |exact⟨true,rfl,λ_ i hi=>C.2 i hi Wa⟩
 intro h2;refine Kx (ι:=Nat) (λi=>⟨[(1,.ref 1 0 0),(3,.int .i64 i)],[(1,⟨[dSh s],2,108,true⟩)]⟩) (λi=>i<=s.es.length/\∀j (O:j<s.es.length),j<i->plP (QhE s.es[j].r.n s.es[j].r.v) s.es 0=j) (λi=>s.es.length - i) 0 ?_ ?_ ?_;exact Ql (l:=[1,3]) (lH:=[1]) (kp2 Z Z) (Qa Z Qb) Z Z Z;exact⟨QAw _,λj O h=>Wa⟩;intro i C
 try dsimp only
 refine aB ?_ ?_;intro h3;obtain⟨m2,e2,_,G⟩:=wk.kh _ (T _ (QAp (Wa:i<s.es.length)));refine Qg (G) Z Z (.inr Z) (aB ?_ ?_);intro h4;refine Rk Z (aK ?_);refine⟨_, ?_,Xc Z rfl⟩
 first |exact⟨false,rfl,λh=>by cases h⟩ |exact⟨true,rfl,λ_ i hi=>C.2 i hi Wa⟩
 intro h4;refine aB ?_ ?_;intro Y;refine Rk Z (aK ?_);refine⟨_, ?_,Xc Z rfl⟩
 first |exact⟨false,rfl,λh=>by cases h⟩ |exact⟨true,rfl,λ_ i hi=>C.2 i hi Wa⟩
 intro Y;refine Qg (H4 (l:=s.es) (n:=(s.es[i]'Wa).r.n) (v:=(s.es[i]'Wa).r.v) Wa (he _ (QAp Wa)) he) Z Z (.inr Z) (aB ?_ ?_);intro V;refine⟨_, ?_,Xc Z rfl⟩
 first |exact⟨false,rfl,λh=>by cases h⟩ |exact⟨true,rfl,λ_ i hi=>C.2 i hi Wa⟩
 intro V;refine Qc (i+1) ?_ ?_ ?_;exact Ql (l:=[1,3]) (lH:=[1]) (kp2 Z Z) (Qa Z Qb) Z Z Z;exact⟨Wa,λj O h=>by rcases Nat.lt_succ_iff_lt_or_eq.1 h with h |rfl;exact C.2 j O h;simp_all⟩
 first |omega |(simp only;omega) |(dsimp only;omega)
 intro h3;refine⟨_, ?_,Xc Z rfl⟩
 first |exact⟨false,rfl,λh=>by cases h⟩ |exact⟨true,rfl,λ_ i hi=>C.2 i hi Wa⟩
theorem HB (wk:Qla) {l:List Qhu} (T:l.length<=2) (O:∀m∈l,Tp.u3 S7 (QeQ m)):∃d,(∃k:Int,d=.int .i64 k/\(k= -1\/∃i,∃h:i<l.length,k=i/\l[i].r.n=n))/\Ok Tryz.prog 223 [Nu l,.str n] d:=by
 refine Ok.uf (R:=λd=>(∃k:Int,d=.int .i64 k/\(k= -1\/∃i,∃h:i<l.length,k=i/\l[i].r.n=n))) tfol Tryz.func223 Qvk (QAk Z) ?_;show TX _ _ tf223.body _ _;refine aS ?_;obtain⟨e1,U,G⟩:=wk.lg (l.map QeQ) (by simpa using T) (λr hr=>by obtain⟨x,hx,rfl⟩:=QAy.1 hr;exact O x hx)
 refine Qg (G) Z Z (.inr Z) (aB ?_ ?_);intro h1;refine⟨_, ?_,Sr Z rfl⟩;exact⟨-1,rfl,.inl rfl⟩;intro h1;refine Qg (H6 (n:=n) (l:=l) Wa) Z Z (.inr Z) (aK ?_);refine⟨_, ?_,Sr Z rfl⟩;refine⟨_,rfl, ?_⟩;rcases TE (p:=nmM n) l 0 with⟨C,_⟩ |⟨i,hi,C,M,_⟩
 exact .inl C;exact .inr ⟨i,hi,by rw[C];simp,of_decide_eq_true M⟩
theorem _root_.Wg {p:Prop} (h:p:=by first |exact .inl (by omega) |exact .inr ⟨by omega,by rw[Mt (Y7 (QAp (by omega))).2.1 (by omega)];assumption⟩):p:=h
theorem G5 (wk:Qla) {s:ShR} (V:s.n.length<=100) (hl:s.es.length<=100) (U:∀e∈s.es,Tp.u3 X1 (JC e.r)) (he:∀e∈s.es,fb e.r.v):∃d,(∃l:List Nat,d=SZ l/\te s.es n l)/\Ok Tryz.prog 251 [.agg (dSh s),.str n] d:=by
 refine Ok.uf (R:=λd=>(∃l:List Nat,d=SZ l/\te s.es n l)) tfol Tryz.func251 Qvt (QAk Z) ?_;show TX _ _ tf251.body _ _;refine aS ?_;obtain⟨_,⟨b1,rfl,O⟩,M⟩:=FL wk V hl U he;refine Qg (M) Z Z (.inr Z) (aB ?_ ?_);intro h1;refine⟨_, ?_,QM Z rfl⟩;exact⟨[],rfl,te.nil _ _⟩;intro h1;refine Kx (ι:=Nat) (λi=>⟨[(1,.str n),(2,.ref 2 0 0),(5,SZ (Fq s.es n i)),(6,.int .i64 i)],[(2,⟨[dSh s],2,108,true⟩)]⟩) (λi=>i<=s.es.length) (λi=>s.es.length - i) 0 ?_ ?_ ?_;exact le_trans (Qmo 5 Z) (Ql (l:=[1,2,5,6]) (lH:=[2]) (kp4 Z Z Z Z) (Qa Z Qb) Z Z Z);exact QAw _;intro i hI;have Y:=LS s.es n i
 try dsimp only
 refine aB ?_ ?_;intro h2;refine aB ?_ ?_;intro G;refine Qc (i+1) ?_ ?_ ?_;exact Ql (l:=[1,2,5,6]) (lH:=[2]) (kp4 Z Z Z Z) (Qa Z Qb) (by rw[Qmt Wa G];rfl) Z Z
 omega
 first |omega |(simp only;omega) |(dsimp only;omega)
 intro G;refine Kx (ι:=Nat) (λk=>⟨[(1,.str n),(2,.ref 2 0 0),(5,SZ (Fq s.es n i)),(6,.int .i64 i),(7,.int .i64 k)],[(2,⟨[dSh s],2,108,true⟩)]⟩) (λk=>k<=(Fq s.es n i).length/\R1 s.es (Fq s.es n i) i=(Fq s.es n i).take k++R1 s.es ((Fq s.es n i).drop k) i) (λk=>(Fq s.es n i).length - k) 0 ?_ ?_ ?_;exact Ql (l:=[1,2,5,6,7]) (lH:=[2]) (kp5 Z Z Z Z Z) (Qa Z Qb) Z Z Z;exact⟨QAw _,by simp⟩;intro k C
 try dsimp only
 refine aB ?_ ?_;intro h4;refine FF Z Z Z Wa (MA (show((Fq s.es n i)[k]'Wa)<s.es.length from(Y7 (QAp (Wa:k<(Fq s.es n i).length))).2.1)) Z (aK ?_);refine Qr (ds0:=[1,0]) (Zf (he _ (QAp (Y7 (QAp (Wa:k<(Fq s.es n i).length))).2.1)).sm.1 (he _ (QAp (Y7 (QAp (Wa:k<(Fq s.es n i).length))).2.1)).sm.2 (he _ (QAp (Wa:i<s.es.length))).sm.1 (he _ (QAp (Wa:i<s.es.length))).sm.2) Z Z (.inr Z) Z Z (aB ?_ ?_);intro T;refine Qc (k+1) ?_ ?_ ?_;exact Ql (l:=[1,2,5,6,7]) (lH:=[2]) (kp5 Z Z Z Z Z) (Qa Z Qb) Z Z Z;exact⟨Wa,Qfx Wa (by rw[Mt (Y7 (QAp Wa)).2.1 Wa];exact T) C.2⟩
 first |omega |(simp only;omega) |(dsimp only;omega)
 intro T;refine XT Z Z Z Z Wa Wa Wd Bp Z (Md (ds0:=[5,1,0]) Z Z (λ_ h=>⟨QcN,h⟩) Z (.inl Z) Wc Wd Wd Z Z (aK ?_));refine Qn Z Z (YK (ds0:=[1,0]) Z Z Wf ⟨_,rfl,rfl,rfl,rfl,rfl⟩ Z Z Wc Z Z Wd Wd Z Z (aK ?_));refine XT Z Z Z Z Wa Wd Wc Bp Z (YK (ds0:=[0]) Z Z Wf ⟨rfl,QcN,rfl⟩ Z Z Wc Z Z Wd Wd Z Z (aK ?_));refine Qc (i+1) ?_ ?_ ?_;exact le_trans (Qb2 (l:=[1,2,6]) (lH:=[2]) 64 5 (kp3 Z Z Z) (Qa Z Qb) Z Z Z Wk Z Z Z Z) (Ql (l:=[1,2,5,6]) (lH:=[2]) (kp4 Z Z Z Z) (Qa Z Qb) (by rw[Qb5 Wa (by simpa using G),QbV (k:=k) Wg C.2];simp[SZ,QAA (show((Fq s.es n i).map λ(i:Nat)=>[D.int .i64 (i:Int)]).length<=(Fq s.es n i).length by simp)]) Z Z)
 omega
 first |omega |(simp only;omega) |(dsimp only;omega)
 intro h4;refine B3 Z (aK ?_);refine XT Z Z Z Z Wa Wa Wd Bp Z (Md (ds0:=[5,1,0]) Z Z (λ_ h=>⟨QcN,h⟩) Z (.inl Z) Wc Wd Wd Z Z (aK ?_));refine Qn Z Z (YK (ds0:=[1,0]) Z Z Wf ⟨_,rfl,rfl,rfl,rfl,rfl⟩ Z Z Wc Z Z Wd Wd Z Z (aK ?_));refine XT Z Z Z Z Wa Wd Wc Bp Z (YK (ds0:=[0]) Z Z Wf ⟨rfl,QcN,rfl⟩ Z Z Wc Z Z Wd Wd Z Z (aK ?_));refine Qc (i+1) ?_ ?_ ?_;exact le_trans (Qb2 (l:=[1,2,6]) (lH:=[2]) 64 5 (kp3 Z Z Z) (Qa Z Qb) Z Z Z Wk Z Z Z Z) (Ql (l:=[1,2,5,6]) (lH:=[2]) (kp4 Z Z Z Z) (Qa Z Qb) (by rw[Qb5 Wa (by simpa using G),QbV (k:=k) Wg C.2];simp[SZ,QAA (show((Fq s.es n i).map λ(i:Nat)=>[D.int .i64 (i:Int)]).length<=(Fq s.es n i).length by simp)]) Z Z)
 omega
 first |omega |(simp only;omega) |(dsimp only;omega)
 intro h2;refine⟨_, ?_,QM Z rfl⟩;refine⟨_,rfl, ?_⟩;rw[show i=s.es.length by omega];exact te.of he (O (by simp_all))
variable {ps:List QhM} {ss:List ShR}
theorem FN {s:ShR} (C:s.es.length<=100):∃d,(∃b,d=.bool b)/\Ok Tryz.prog 270 [.agg (dSh s),.str n] d:=by
 refine Ok.uf (R:=λd=>(∃b,d=.bool b)) tfol Tryz.func270 Qvw (QAk Z) ?_;show TX _ _ tf270.body _ _;refine aS ?_;refine Kx (ι:=Nat) (λi=>⟨[(1,.str n),(2,.ref 2 0 0),(5,.int .i64 i)],[(2,⟨[dSh s],2,108,true⟩)]⟩) (λi=>i<=s.es.length) (λi=>s.es.length - i) 0 ?_ ?_ ?_;exact Ql (l:=[1,2,5]) (lH:=[2]) (kp3 Z Z Z) (Qa Z Qb) Z Z Z;exact QAw _;intro i G
 try dsimp only
 refine aB ?_ ?_;intro h1;refine aB ?_ ?_;intro h2;refine⟨_, ?_,Xc Z rfl⟩;exact⟨_,rfl⟩;intro h2;refine Qc (i+1) ?_ ?_ ?_;exact Ql (l:=[1,2,5]) (lH:=[2]) (kp3 Z Z Z) (Qa Z Qb) Z Z Z;omega
 first |omega |(simp only;omega) |(dsimp only;omega)
 intro h1;refine⟨_, ?_,Xc Z rfl⟩;exact⟨_,rfl⟩
theorem G6 (wk:Qla) (hl:ss.length<=2) (V:∀s∈ss,Tp.u3 XP (dSh s)) (Y:∀s∈ss,Qrl s) (hp:ps.length<=4) (T:∀p∈ps,Tp.u3 BL (QeR p)):∃d,(∃k e:Int,d=.u7 [.int .i64 k,.int .i64 e]/\(e=0->∃i,i<ss.length/\k=i))/\Ok Tryz.prog 250 [Cm ss,RF ps,.str n] d:=by
 refine Ok.uf (R:=λd=>(∃k e:Int,d=.u7 [.int .i64 k,.int .i64 e]/\(e=0->∃i,i<ss.length/\k=i))) tfol Tryz.func250 Qvs (QAk Z) ?_;show TX _ _ tf250.body _ _;refine aS ?_;obtain⟨b1,O⟩:=wk.jg (ss.map dSh) (by simpa using hl) (λr hr=>by obtain⟨x,hx,rfl⟩:=QAy.1 hr;exact V x hx)
 refine Qg (O) Z Z (.inr Z) (aB ?_ ?_);intro h1;refine⟨_, ?_,QX Z Z ⟨rfl,rfl⟩⟩;exact⟨0,1,rfl,λh=>Wa⟩;intro h1;obtain⟨b2,M⟩:=wk.qg ps hp T;refine Qg (M) Z Z (.inr Z) (aB ?_ ?_);intro h2;refine⟨_, ?_,QX Z Z ⟨rfl,rfl⟩⟩;exact⟨0,15,rfl,λh=>Wa⟩;intro h2;refine Kx (ι:=Nat) (λi=>⟨[(0,Cm ss),(1,RF ps),(2,.str n),(8,.int .i64 i)],[]⟩) (λi=>i<=ps.length) (λi=>ps.length - i) 0 ?_ ?_ ?_;exact QB (kp4 Z Z Z Z);exact QAw _;intro i hI
 try dsimp only
 refine aB ?_ ?_;intro h3;refine aB ?_ ?_;intro h4;refine Qc (i+1) ?_ ?_ ?_;exact QB (kp4 Z Z Z Z);omega
 first |omega |(simp only;omega) |(dsimp only;omega)
 intro h4;refine Qg (XH (n:=(ps[i]'Wa).s) (l:=ss) Wa) Z Z (.inr Z) (aB ?_ ?_);intro U;refine⟨_, ?_,QX Z Z ⟨rfl,rfl⟩⟩;exact⟨0,12,rfl,λh=>Wa⟩;intro U;refine⟨_, ?_,QX Z Z ⟨rfl,rfl⟩⟩;refine⟨_,0,rfl,λ_=>?_⟩;rcases TE (p:=nmS (ps[i]'Wa).s) ss 0 with⟨C,_⟩ |⟨k,hk,C,_⟩
 rw[C]at U;omega;exact⟨k,hk,by rw[C];simp⟩
 intro h3;refine Kx (ι:=Nat) (λi=>⟨[(0,Cm ss),(2,.str n),(10,.int .i64 i)],[]⟩) (λi=>i<=ss.length) (λi=>ss.length - i) 0 ?_ ?_ ?_;exact QB (kp3 Z Z Z);exact QAw _;intro i hI
 try dsimp only
 refine aB ?_ ?_;intro h6;obtain⟨_,⟨b3,rfl⟩,G⟩:=FN (s:=ss[i]'Wa) (Y _ (QAp Wa)).l (n:=n);refine Qg (G) Z Z (.inr Z) (aB ?_ ?_);intro h7;refine⟨_, ?_,QX Z Z ⟨rfl,rfl⟩⟩;exact⟨_,0,rfl,λ_=>⟨i,Wa,rfl⟩⟩;intro h7;refine Qc (i+1) ?_ ?_ ?_;exact QB (kp3 Z Z Z);omega
 first |omega |(simp only;omega) |(dsimp only;omega)
 intro h6;refine⟨_, ?_,QX Z Z ⟨rfl,rfl⟩⟩;exact⟨0,9,rfl,λh=>Wa⟩
theorem G7 (wk:Qla) (Y:ss.length<=2) (V:∀s∈ss,Tp.u3 XP (dSh s)) (C:∀s∈ss,Qrl s) (hp:ps.length<=4) (O:∀p∈ps,Tp.u3 BL (QeR p)):∃d,(∃k e:Int,∃l:List Nat,d=.u7 [.int .i64 k,SZ l,.int .i64 e]/\(e=0->∃i,∃h:i<ss.length,k=i/\te ss[i].es n l))/\Ok Tryz.prog 224 [Cm ss,RF ps,.str n] d:=by
 refine Ok.uf (R:=λd=>(∃k e:Int,∃l:List Nat,d=.u7 [.int .i64 k,SZ l,.int .i64 e]/\(e=0->∃i,∃h:i<ss.length,k=i/\te ss[i].es n l))) tfol Tryz.func224 Qvl (QAk Z) ?_;show TX _ _ tf224.body _ _;refine aS ?_;obtain⟨_,⟨k1,e1,rfl,U⟩,M⟩:=G6 wk Y V C hp O (n:=n);refine Qg (M) Z Z (.inl Z) (aB ?_ ?_);intro h1;refine⟨_, ?_,Bc Z Z Z ⟨rfl,rfl,rfl⟩⟩;exact⟨0,e1,[],rfl,λh=>absurd h h1⟩;intro h1;obtain⟨j,hj,rfl⟩:=U (by simpa using h1);refine aK ?_;obtain⟨_,⟨l2,rfl,T⟩,G⟩:=G5 wk (s:=ss[j]'Wa) (C _ (QAp Wa)).n (C _ (QAp Wa)).l (C _ (QAp Wa)).t (C _ (QAp Wa)).v (n:=n);refine Qg (G) Z Z (.inl Z) (aK ?_);refine⟨_, ?_,Bc Z Z Z ⟨rfl,rfl,rfl⟩⟩;exact⟨j,0,l2,rfl,λ_=>⟨j,hj,rfl,T⟩⟩
theorem Fa {y:YdT} {ps:List D} {x:FH}:Ok Tryz.prog 226 [.agg (dYd y (.ptr ps)),.agg (JC x)] (.bool false):=by
 refine Ok.n6 tfol Tryz.func226 Qvm (QAk Z) ?_;show TW _ _ tf226.body _ _;refine aS ?_;refine Qt (ι:=Unit) (λ_=>⟨[(2,.ref 2 0 0),(3,.ref 3 0 0),(5,.int .i64 0)],[(2,⟨[dYd y (.ptr ps)],8,127,true⟩),(3,⟨[JC x],9,100,true⟩)]⟩) (λ_=>True) (λ_=>0) () ?_ ?_ ?_;exact Ql (l:=[2,3,5]) (lH:=[2,3]) (kp3 Z Z Z) (Qa Z (Qa Z Qb)) Z Z Z;trivial;intro _ C
 try dsimp only
 refine aR ?_ ?_;intro h1
 try simp only[qB,List.length_nil]at h1
 exact absurd h1 We;intro h1
 try simp only[qB,List.length_nil]at h1
 refine aK ?_;rfl
variable {k:Nat}
structure YOk (y:YdT):Prop where
 ml:y.ms.length<=2
 mt:∀m∈y.ms,Tp.u3 S7 (QeQ m)
 mr:∀m∈y.ms,Tp.u3 X1 (JC m.r)
 mv:∀m∈y.ms,fb m.r.v
 sl:y.ss.length<=2
 st:∀s∈y.ss,Tp.u3 XP (dSh s)
 sh:∀s∈y.ss,Qrl s
 pl:y.pr.length<=4
 pt:∀p∈y.pr,Tp.u3 BL (QeR p)
structure gb (n:List UInt8) (l:List TkR):Prop where
 nm:∀t∈l,t.r.n=n
 v:∀t∈l,fb t.r.v
 t:∀t∈l,Tp.u3 X1 (JC t.r)
 len:l.length<=100
 de:l.Pairwise λa b=>SS a.r.v b.r.v<0
theorem gb.one {r:FH} {k:Int} (M:r.n=n) (C:fb r.v) (G:Tp.u3 X1 (JC r)):gb n [⟨r,k⟩]:=⟨by simpa using M,by simpa using C,by simpa using G,by simp,by simp⟩
theorem gb.nil (n:List UInt8):gb n []:=⟨by simp,by simp,by simp,by simp,by simp⟩
def tkE (es:List Fs) (k:Nat) (x:Nat):TkR:=match es[x]? with
 |some e=>⟨e.r,k⟩
 |none=>⟨⟨[],⟨0,0,0,[],[]⟩,[],[],[]⟩,0⟩
theorem Qg5 {es:List Fs} {x:Nat} (h:x<es.length):tkE es k x=⟨es[x].r,k⟩:=by rw[tkE,QA7 h]
theorem gb.of {s:ShR} (O:Qrl s) {l:List Nat} (G:te s.es n l) {out:List TkR} (h:out.Sublist (l.map (tkE s.es k))):gb n out:=by
 have key:∀t∈out,∃x,∃hx:x<s.es.length,s.es[x].r.n=n/\t=⟨s.es[x].r,k⟩:=λt C=>by
  obtain⟨x,hx,rfl⟩:=QAy.1 (h.subset C);obtain⟨h1,h2⟩:=G.mem x hx;exact⟨x,h1,h2,Qg5 h1⟩
 refine⟨λt C=>?_,λt C=>?_,λt C=>?_, ?_, ?_⟩;obtain⟨x,hx,h2,rfl⟩:=key t C;exact h2;obtain⟨x,hx,h2,rfl⟩:=key t C;exact O.v _ (QAp hx);obtain⟨x,hx,h2,rfl⟩:=key t C;exact O.t _ (QAp hx);have:=h.length_le;have:=G.len;have:=O.l;simp only[QBd]at*;omega;refine List.Pairwise.sublist h (List.pairwise_map.2 (G.de.imp_of_mem λ{a b} ha hb M=>?_));obtain⟨h1,_⟩:=G.mem a ha;obtain⟨h2,_⟩:=G.mem b hb;rw[Mt h1 h2]at M;rw[Qg5 h1,Qg5 h2];exact M
theorem Fe {y:YdT} (M:y.ms.length<=2) (C:∀m∈y.ms,fb m.r.v) {lkf:List UInt8->List TkR} {ns:List (List UInt8)}:s6 Tryz.prog 140 [.agg (dYd y (.ref 1000000 0 0))] (FD lkf ns) (QjW (GA y)) (FD lkf ns):=by
 refine s6.n6 tfol Tryz.func140 QuB (QAk Z) Pt Mx ?_;show TW _ _ tf140.body _ _;refine aS ?_;refine Qt (ι:=Nat) (λi=>⟨[(1,.ref 1 0 0),(3,.s4 3 i),(4,.int .i64 i)],[(1,⟨[dYd y (.ref 1000000 0 0)],8,127,false⟩),(3,⟨((GA y).take i).map λr=>[.z7 (r.map QeP)],1,222,true⟩),(500000,bNs ns),(500001,bRs lkf ns),(1000000,bFd ns)]⟩) (λi=>i<=y.ms.length) (λi=>y.ms.length - i) 0 ?_ ?_ ?_;exact le_trans (Q8 3 3 1 222 Z Z) (Ql (l:=[1,3,4]) (lH:=[1,3,500000,500001,1000000]) (kp3 Z Z Z) (Qa Z (Qa Z (Qa Z (Qa Z (Qa Z Qb))))) Z Z Z);exact QAw _;intro i O;have G:(GA y).length=y.ms.length:=by simp[GA]
 try dsimp only
 refine aB ?_ ?_;intro h1;refine Qr (ds0:=dn 5) (X5 (a:=(y.ms[i]'Wa).r.v.a) (C _ (QAp Wa)).sm.1 (C _ (QAp Wa)).sm.2) Z Z (.inl Z) Z Z (aK ?_);refine QG Z Z (QG Z Z (YK (ds0:=[0]) Z Z Wf ⟨rfl,Wc,rfl⟩ Z Z Wd Z Z Wd Wd Z Z (aK ?_)));refine Qc (i+1) ?_ ?_ ?_;exact le_trans (MD (l:=[1,4]) (lH:=[1,500000,500001,1000000]) 29 3 3 (kp2 Z Z) (Qa Z (Qa Z (Qa Z (Qa Z Qb)))) Z Z Z Z Z Z Z) (Ql (l:=[1,3,4]) (lH:=[1,3,500000,500001,1000000]) (kp3 Z Z Z) (Qa Z (Qa Z (Qa Z (Qa Z (Qa Z Qb))))) Z (by rw[QBv (Wa:i<(GA y).length),QBi];simp[GA,QeP,Ht];rfl) Z)
 omega
 first |omega |(simp only;omega) |(dsimp only;omega)
 intro h1;obtain rfl:i=(GA y).length:=Wa;rw[List.take_length];exact ZT Z (by simp[F7,D.fz,D.n7,small,D.can,D.z6,QjW,Qf]) (Xn (A:=[_,_]) Z)
theorem G8 {all:List Za} (O:all.length<=1000000) {x:FH} (hb:x.bs.length<=1000) {e1 e2 e3:List UInt8} {on:List UInt8->Bool} {st:List UInt8->Je} (M:∀b∈x.bs,Ok Tryz.prog 184 [.str b.w,.agg [.str e1,.str e2,.str e3]] (.bool (on b.w))) (G:∀b∈x.bs,Ok Tryz.prog 185 [.str b.r] (Lu (st b.r))):Ok Tryz.prog 143 [XK all,.agg (JC x),.agg [.str e1,.str e2,.str e3]] (ZR (Nb all on st x.bs)):=by
 refine Ok.n6 tfol Tryz.func143 QuD (QAk Z) ?_;show TW _ _ tf143.body _ _;refine aS ?_;refine Qt (ι:=Nat) (λi=>⟨[(0,XK all),(4,.ref 4 0 0),(5,.ref 5 0 0),(7,.s4 7 (Nb all on st (x.bs.take i)).length),(8,.int .i64 i)],[(4,⟨[JC x],9,100,true⟩),(5,⟨[[.str e1,.str e2,.str e3]],3,50,true⟩),(7,⟨(Nb all on st (x.bs.take i)).map Fo,3,82,true⟩)]⟩) (λi=>i<=x.bs.length) (λi=>x.bs.length - i) 0 ?_ ?_ ?_;exact le_trans (Q8 7 7 3 82 Z Z) (Ql (l:=[0,4,5,7,8]) (lH:=[4,5,7]) (kp5 Z Z Z Z Z) (Qa Z (Qa Z (Qa Z Qb))) Z Z Z);exact QAw _;intro i T;have hlen:=Qde all on st x.bs i
 try dsimp only
 refine aB ?_ ?_;intro h1;refine Qg (XI (k:=((x.bs[i]'Wa).n,[])) O) Z Z (.inr Z) (aB ?_ ?_);intro h2;refine Qr (ds0:=[0]) (M _ (QAp (Wa:i<x.bs.length))) Z Z (.inr Z) Z Z (aB ?_ ?_);intro C;refine Qg (G _ (QAp (Wa:i<x.bs.length))) Z Z (.inl Z) (aK ?_);refine Qn Z Z (Zu Z Z (λ_ h=>ZN Z Z Z h) Z Wc Z Z Z Wd Wd (aK ?_));refine Qc (i+1) ?_ ?_ ?_;exact Ql (l:=[0,4,5,7,8]) (lH:=[4,5,7]) (kp5 Z Z Z Z Z) (Qa Z (Qa Z (Qa Z Qb))) (by first |(rw[YY (st:=st) (Wa:i<x.bs.length) h2 C];done) |(rw[YY (st:=st) (Wa:i<x.bs.length) h2 C];rfl) |(rw[YY (st:=st) (Wa:i<x.bs.length) h2 C,QAY];rfl) |(simp[YY (st:=st) (Wa:i<x.bs.length) h2 C];done) |(simp[YY (st:=st) (Wa:i<x.bs.length) h2 C];omega) |rfl) (by first |(rw[YY (st:=st) (Wa:i<x.bs.length) h2 C];done) |(rw[YY (st:=st) (Wa:i<x.bs.length) h2 C];rfl) |(rw[YY (st:=st) (Wa:i<x.bs.length) h2 C,QBi];rfl) |(simp[YY (st:=st) (Wa:i<x.bs.length) h2 C];done) |rfl) Z
 omega
 first |omega |(simp only;omega) |(dsimp only;omega)
 intro C;refine Qc (i+1) ?_ ?_ ?_;exact Ql (l:=[0,4,5,7,8]) (lH:=[4,5,7]) (kp5 Z Z Z Z Z) (Qa Z (Qa Z (Qa Z Qb))) (by first |(rw[Zw (all:=all) (on:=on) (st:=st) (l:=x.bs) (i:=i) Wa (λh=>by simp[C]at h)];done) |(rw[Zw (all:=all) (on:=on) (st:=st) (l:=x.bs) (i:=i) Wa (λh=>by simp[C]at h)];rfl) |(rw[Zw (all:=all) (on:=on) (st:=st) (l:=x.bs) (i:=i) Wa (λh=>by simp[C]at h),QAY];rfl) |(simp[Zw (all:=all) (on:=on) (st:=st) (l:=x.bs) (i:=i) Wa (λh=>by simp[C]at h)];done) |(simp[Zw (all:=all) (on:=on) (st:=st) (l:=x.bs) (i:=i) Wa (λh=>by simp[C]at h)];omega) |rfl) (by first |(rw[Zw (all:=all) (on:=on) (st:=st) (l:=x.bs) (i:=i) Wa (λh=>by simp[C]at h)];done) |(rw[Zw (all:=all) (on:=on) (st:=st) (l:=x.bs) (i:=i) Wa (λh=>by simp[C]at h)];rfl) |(rw[Zw (all:=all) (on:=on) (st:=st) (l:=x.bs) (i:=i) Wa (λh=>by simp[C]at h),QBi];rfl) |(simp[Zw (all:=all) (on:=on) (st:=st) (l:=x.bs) (i:=i) Wa (λh=>by simp[C]at h)];done) |rfl) Z
 omega
 first |omega |(simp only;omega) |(dsimp only;omega)
 intro h2;refine QH Z (aK ?_);refine Qc (i+1) ?_ ?_ ?_;exact Ql (l:=[0,4,5,7,8]) (lH:=[4,5,7]) (kp5 Z Z Z Z Z) (Qa Z (Qa Z (Qa Z Qb))) (by first |(rw[Zw (all:=all) (on:=on) (st:=st) (l:=x.bs) (i:=i) Wa (λh=>h2 h.1)];done) |(rw[Zw (all:=all) (on:=on) (st:=st) (l:=x.bs) (i:=i) Wa (λh=>h2 h.1)];rfl) |(rw[Zw (all:=all) (on:=on) (st:=st) (l:=x.bs) (i:=i) Wa (λh=>h2 h.1),QAY];rfl) |(simp[Zw (all:=all) (on:=on) (st:=st) (l:=x.bs) (i:=i) Wa (λh=>h2 h.1)];done) |(simp[Zw (all:=all) (on:=on) (st:=st) (l:=x.bs) (i:=i) Wa (λh=>h2 h.1)];omega) |rfl) (by first |(rw[Zw (all:=all) (on:=on) (st:=st) (l:=x.bs) (i:=i) Wa (λh=>h2 h.1)];done) |(rw[Zw (all:=all) (on:=on) (st:=st) (l:=x.bs) (i:=i) Wa (λh=>h2 h.1)];rfl) |(rw[Zw (all:=all) (on:=on) (st:=st) (l:=x.bs) (i:=i) Wa (λh=>h2 h.1),QBi];rfl) |(simp[Zw (all:=all) (on:=on) (st:=st) (l:=x.bs) (i:=i) Wa (λh=>h2 h.1)];done) |rfl) Z
 omega
 first |omega |(simp only;omega) |(dsimp only;omega)
 intro h1;exact Xb Z Z Z Wc (by rw[QAA (Wa:x.bs.length<=i)];rfl)
variable {lkf:List UInt8->List TkR} {ns:List (List UInt8)} {x:FH} {y:YdT}
theorem QAd (lkf:List UInt8->List TkR) (ns:List (List UInt8)):upH (FD lkf ns)=[(1500000,bNs ns),(1500001,bRs lkf ns),(2000000,⟨[[.s4 1500000 ns.length,.s4 1500001 ns.length]],2,125,false⟩)]:=by
 have e1:upN 500000=1500000:=by unfold upN;rfl
 have e2:upN 500001=1500001:=by unfold upN;rfl
 have e3:upN 1000000=2000000:=by unfold upN;rfl
 simp only[FD,upH,QAX,QBr,u4.n5,D.y6,e1,e2,e3,QBD,bNs,bRs,bFd];rfl
theorem Qmk:([D.agg (dYd y (.ref 1000000 0 0)),.agg (JC x)].map Qor).map (D.ae (upH (FD lkf ns)) 3)=[.agg (dYd y (.ptr [.sl (ns.map λn=>[.str n]),.sl (ns.map λn=>[PF (lkf n)])])),.agg (JC x)]:=by
 have e3:upN 1000000=2000000:=by unfold upN;rfl
 rw[QAd];simp only[QAX,QBr,Qor,D.n5,dYd,JC,D.y6,e3,D.can,D.z6,Nu,Cm,RF];simp[D.ae,D.ze,Qf,D.own,PF]
theorem Qml {s:St} {args:List l5} (ha:QF s args=some [.agg (dYd y (.ref 1000000 0 0)),.agg (JC x)]) (hF:∀k b,lk (FD lkf ns) k=some b->lk s.H k=some b):Np Tryz.prog 226 args s (FD lkf ns) [] [] (.bool false):=
 Qh5 3 (Fa (y:=y) (x:=x)) ha (λp hp=>by
   simp only[FD,QAm,QAl,or_false]at hp;rcases hp with rfl |rfl |rfl<;>exact hF _ _ rfl) (λp hp=>by
   simp only[FD,QAm,QAl,or_false]at hp;rcases hp with rfl |rfl |rfl<;>first |exact Qbz (k:=500000) rfl |exact Qbz (k:=500001) rfl |exact Qbz (k:=1000000) rfl) rfl Qmk rfl rfl rfl
theorem _root_.Wj {p:Prop} (h:p:=by simp[F7,D.fz,D.n7,small,D.can,D.z6,PF,Qf]):p:=h
theorem Fc (V:YOk y) {n:List UInt8} {U k2 e2 e3:Int} {l2:List Nat} {s3:Je} (hM:Ok Tryz.prog 223 [Nu y.ms,.str n] (.int .i64 U)) (hk1:U= -1\/∃i,∃h:i<y.ms.length,U=i/\y.ms[i].r.n=n) (hL:Ok Tryz.prog 224 [Cm y.ss,RF y.pr,.str n] (.u7 [.int .i64 k2,SZ l2,.int .i64 e2])) (Y:e2=0->∃i,∃h:i<y.ss.length,k2=i/\te y.ss[i].es n l2) (hH:Ok Tryz.prog 225 [Nu y.ms,.str n] (.u7 [.agg [Qw s3.1,Qw s3.2],.int .i64 e3])) (O:Sm s3.1/\Sm s3.2):s6 Tryz.prog 186 [.agg (dYd y (.ref 1000000 0 0)),.str n] (FD lkf ns) (PF (Qdy y U k2 l2 e2 s3)) (FD lkf ns):=by
 refine s6.n6 tfol Tryz.func186 QuZ (QAk Z) Pt Mx ?_;show TW _ _ tf186.body _ _;have hml:=V.ml;have hsl:=V.sl;refine aS ?_;refine Qg (hM) Z Z (.inr Z) (aB ?_ ?_);intro h1;obtain⟨j,C,rfl,hjn⟩:=hk1.resolve_left Wa;refine aK ?_;refine Qn Z Z (aK ?_);rw[CN C];exact ZT Z Wm (Xn (A:=[_,_]) Z);intro h1;refine Qg (hL) Z Z (.inl Z) (aK ?_);refine Qg (hH) Z Z (.inl Z) (aK ?_);refine Qt (ι:=Nat) (λi=>⟨[(2,.ref 2 0 0),(6,.int .i64 k2),(7,SZ l2),(8,.int .i64 e2),(9,.ref 9 0 0),(11,.s4 11 (lkU y k2 (l2.take i) e2 s3).length),(12,.int .i64 i)],[(2,⟨[dYd y (.ref 1000000 0 0)],8,127,false⟩),(9,⟨[[Qw s3.1,Qw s3.2]],2,79,true⟩),(11,⟨(lkU y k2 (l2.take i) e2 s3).map dTk,10,231,true⟩),(500000,bNs ns),(500001,bRs lkf ns),(1000000,bFd ns)]⟩) (λi=>i<=l2.length) (λi=>l2.length - i) 0 ?_ ?_ ?_;exact le_trans (Q8 11 11 10 231 Z Z) (Ql (l:=[2,6,7,8,9,11,12]) (lH:=[2,9,11,500000,500001,1000000]) (kp7 Z Z Z Z Z Z Z) (Qa Z (Qa Z (Qa Z (Qa Z (Qa Z (Qa Z Qb)))))) (by rw[List.take_zero,QfI];rfl) (by rw[List.take_zero,QfI];rfl) Z)
 exact QAw _;intro i hI;have hlen:=Qmu y k2 (l2.take i) e2 s3;have htl:(l2.take i).length=i:=by simp;omega
 try dsimp only
 refine aB ?_ ?_;intro h2;refine aB ?_ ?_;intro h3;obtain rfl:e2=0:=(by simpa using h3);obtain⟨j,C,rfl,T⟩:=Y rfl;obtain⟨hx,hxn⟩:=T.mem _ (QAp (Wa:i<l2.length));have hv:=(V.sh _ (QAp C)).v _ (QAp hx);have hll:=T.len;have hel:=(V.sh _ (QAp C)).l;refine aK ?_;refine Xz (ds0:=[]) Z Z Z Z Z Z Z Z Z Z (aB ?_ ?_);intro M;refine Qg (J6 (s:=s3) O.1 O.2 hv.sm.1 hv.sm.2) Z Z (.inr Z) (aB ?_ ?_);intro G;refine Qn Z Z (Zu Z Z (λ_ h=>ZN Z Z Z h) Z Wc Z Z Z Wd Wd (aK ?_));refine Qc (i+1) ?_ ?_ ?_;exact Ql (l:=[2,6,7,8,9,11,12]) (lH:=[2,9,11,500000,500001,1000000]) (kp7 Z Z Z Z Z Z Z) (Qa Z (Qa Z (Qa Z (Qa Z (Qa Z (Qa Z Qb)))))) (by first |(rw[K7 C (Wa:i<l2.length) hx M G];done) |(rw[K7 C (Wa:i<l2.length) hx M G];rfl) |(rw[K7 C (Wa:i<l2.length) hx M G,QAY];rfl) |(simp[K7 C (Wa:i<l2.length) hx M G];done) |(simp[K7 C (Wa:i<l2.length) hx M G];omega) |rfl) (by first |(rw[K7 C (Wa:i<l2.length) hx M G];done) |(rw[K7 C (Wa:i<l2.length) hx M G];rfl) |(rw[K7 C (Wa:i<l2.length) hx M G,QBi];rfl) |(simp[K7 C (Wa:i<l2.length) hx M G];done) |rfl) Z
 omega
 first |omega |(simp only;omega) |(dsimp only;omega)
 intro G;refine Qc (i+1) ?_ ?_ ?_;exact Ql (l:=[2,6,7,8,9,11,12]) (lH:=[2,9,11,500000,500001,1000000]) (kp7 Z Z Z Z Z Z Z) (Qa Z (Qa Z (Qa Z (Qa Z (Qa Z (Qa Z Qb)))))) (by first |(rw[Xo (s3:=s3) C (Wa:i<l2.length) hx (λh=>by simp[G]at h)];done) |(rw[Xo (s3:=s3) C (Wa:i<l2.length) hx (λh=>by simp[G]at h)];rfl) |(rw[Xo (s3:=s3) C (Wa:i<l2.length) hx (λh=>by simp[G]at h),QAY];rfl) |(simp[Xo (s3:=s3) C (Wa:i<l2.length) hx (λh=>by simp[G]at h)];done) |(simp[Xo (s3:=s3) C (Wa:i<l2.length) hx (λh=>by simp[G]at h)];omega) |rfl) (by first |(rw[Xo (s3:=s3) C (Wa:i<l2.length) hx (λh=>by simp[G]at h)];done) |(rw[Xo (s3:=s3) C (Wa:i<l2.length) hx (λh=>by simp[G]at h)];rfl) |(rw[Xo (s3:=s3) C (Wa:i<l2.length) hx (λh=>by simp[G]at h),QBi];rfl) |(simp[Xo (s3:=s3) C (Wa:i<l2.length) hx (λh=>by simp[G]at h)];done) |rfl) Z
 omega
 first |omega |(simp only;omega) |(dsimp only;omega)
 intro M;refine QkT (Qml (x:=(y.ss[j].es[l2[i]]'hx).r) Z (Xn (A:=[_,_,_,_,_]) Z)) (aK ?_);refine QH Z (aK ?_);refine Qc (i+1) ?_ ?_ ?_;exact Ql (l:=[2,6,7,8,9,11,12]) (lH:=[2,9,11,500000,500001,1000000]) (kp7 Z Z Z Z Z Z Z) (Qa Z (Qa Z (Qa Z (Qa Z (Qa Z (Qa Z Qb)))))) (by first |(rw[Xo (s3:=s3) C (Wa:i<l2.length) hx (λh=>by simp[M]at h)];done) |(rw[Xo (s3:=s3) C (Wa:i<l2.length) hx (λh=>by simp[M]at h)];rfl) |(rw[Xo (s3:=s3) C (Wa:i<l2.length) hx (λh=>by simp[M]at h),QAY];rfl) |(simp[Xo (s3:=s3) C (Wa:i<l2.length) hx (λh=>by simp[M]at h)];done) |(simp[Xo (s3:=s3) C (Wa:i<l2.length) hx (λh=>by simp[M]at h)];omega) |rfl) (by first |(rw[Xo (s3:=s3) C (Wa:i<l2.length) hx (λh=>by simp[M]at h)];done) |(rw[Xo (s3:=s3) C (Wa:i<l2.length) hx (λh=>by simp[M]at h)];rfl) |(rw[Xo (s3:=s3) C (Wa:i<l2.length) hx (λh=>by simp[M]at h),QBi];rfl) |(simp[Xo (s3:=s3) C (Wa:i<l2.length) hx (λh=>by simp[M]at h)];done) |rfl) Z
 omega
 first |omega |(simp only;omega) |(dsimp only;omega)
 intro h3;rw[LV h1,Qmv (l':=l2.take i) h3];exact ZT Z Wj (Xn (A:=[_,_,_]) Z);intro h2;refine QH Z (aK ?_);rw[LV h1,QAA (Wa:l2.length<=i)];exact ZT Z Wj (Xn (A:=[_,_,_]) Z)
structure j9 (ns:List (List UInt8)):Prop where
 nd:ns.Nodup
 mem:∀n∈ns,n∈tName
theorem Qch {α:Type} [DecidableEq α]:∀{t l:List α},l.Nodup->(∀x∈l,x∈t)->l.length<=t.length
 |[],l,_,h=>by
  cases l with
  |nil=>simp
  |cons x l=>have:=h x Wc;simp at this
 |a::t,l,C,h=>by
  have h1:=Qch (t:=t) (l:=l.erase a) (C.erase a) λx hx=>by
   rcases QAm.1 (h x (List.mem_of_mem_erase hx))with rfl |h2;exact absurd hx (C.not_mem_erase);exact h2
  have h2:=List.length_erase (a:=a) (l:=l);rw[QAZ];split at h2<;>omega
theorem j9.len (h:j9 ns):ns.length<=5:=Qch (t:=tName) h.nd h.mem
def Qd1 (ns:List (List UInt8)) (n:List UInt8):List (List UInt8):=if n∈ns then ns else ns++[n]
theorem Qgu (h:j9 ns) (C:n∈tName):j9 (Qd1 ns n):=by
 unfold Qd1;split;exact h;rename_i e;refine⟨List.nodup_append.2 ⟨h.nd,by simp,λa ha b hb=>?_⟩,λx hx=>?_⟩;simp only[QAt]at hb;subst hb;exactλq=>e (q ▸ ha);rcases QAv.1 hx with hx |hx
 exact h.mem x hx;simp only[QAt]at hx;subst hx;exact C
theorem Y1 {y:YdT} {lkf:List UInt8->List TkR} (M:j9 ns) (O:s6 Tryz.prog 186 [.agg (dYd y (.ref 1000000 0 0)),.str n] (FD lkf ns) (PF (lkf n)) (FD lkf ns)):s6 Tryz.prog 144 [.agg (dYd y (.ref 1000000 0 0)),.str n] (FD lkf ns) (PF (lkf n)) (FD lkf (Qd1 ns n)):=by
 refine s6.n6 tfol Tryz.func144 QuE (QAk Z) Pt Mx ?_;show TW _ _ tf144.body _ _;have V:=M.len;refine aS ?_;refine Qt (ι:=Nat) (λi=>⟨[(1,.str n),(2,.ref 2 0 0),(5,.int .i64 i)],[(2,⟨[dYd y (.ref 1000000 0 0)],8,127,false⟩),(500000,bNs ns),(500001,bRs lkf ns),(1000000,bFd ns)]⟩) (λi=>i<=ns.length/\∀j (G:j<ns.length),j<i->ns[j]≠n) (λi=>ns.length - i) 0 ?_ ?_ ?_;exact Ql (l:=[1,2,5]) (lH:=[2,500000,500001,1000000]) (kp3 Z Z Z) (Qa Z (Qa Z (Qa Z (Qa Z Qb)))) Z Z Z;exact⟨QAw _,λj G h=>Wa⟩;intro i U
 try dsimp only
 refine aV ?_ ?_;intro h1;refine aK ?_;refine YX Z Z Z Wc Wa Wd Z (Ft Z (Mj Z (MA Wa)) Z (aB ?_ ?_));intro h2;refine YX Z Z Z Wc Wa Wd Z (Ft Z (Mj Z (MA Wa)) Z (aK ?_));have C:n∈ns:=by have:=QAp (Wa:i<ns.length);rw[h2]at this;exact this
 rw[show Qd1 ns n=ns from if_pos C];exact ZT Z (by rw[h2];rfl) (Xn (A:=[_]) Z)
 intro h2;refine Qc (i+1) ?_ ?_ ?_;exact Ql (l:=[1,2,5]) (lH:=[2,500000,500001,1000000]) (kp3 Z Z Z) (Qa Z (Qa Z (Qa Z (Qa Z Qb)))) Z Z Z;exact⟨Wa,λj G h=>by rcases Nat.lt_succ_iff_lt_or_eq.1 h with h |rfl;exact U.2 j G h;exact h2⟩
 first |omega |(simp only;omega) |(dsimp only;omega)
 intro h1;refine aJ ?_;refine Kd λK T=>Xg (l:=[_,_]) ?_;refine aK ?_;refine QdV (Ho:=[_]) (O) Z Z Z Z Z (λ_=>⟨rfl,rfl⟩) Z Z (XC (aJ ?_));refine kc3 T Z Z Z (Hy (T5 λK T=>?_));refine Z4 Z Z (Z4 Z Z (Z4 Z Z (Z4 Z Z (Z4 Z Z (Z4 Z Z (Z4 Z Z (Z4 Z Z (Z4 Z Z (Z4 Z Z (Z4 Z Z (Qo1 Z Z Wf ⟨rfl,Wc,rfl⟩ Z Z Wc Z Z Wd Wd Z (Z4 Z Z (Z4 Z Z (Z4 Z Z (Z4 Z Z (Z4 Z Z (Z4 Z Z (Z4 Z Z (Qo1 Z Z Wf ⟨rfl,Wc,rfl⟩ Z Z Wc Z Z Wd Wd Z (Z4 Z Z (Z4 Z Z (Z4 Z Z (Z4 Z Z (Z4 Z Z (Z4 Z Z (T _ (ks1 Z ?_)))))))))))))))))))))))))));refine aY ?_;refine BI (le_trans (Qb3 (l:=[4]) (lH:=[57]) 49 500000 1000000 (kp1 Z) (Qa Z Qb) Z Z Z Z Z Z Z Z) (Qb3 (l:=[4]) (lH:=[500000]) 57 500001 1000000 (kp1 Z) (Qa Z Qb) Z Z Z Z Z Z Z Z)) ?_;refine aK ?_;have C:n∉ns:=λh=>by obtain⟨j,G,e⟩:=List.getElem_of_mem h;exact U.2 j G Wa e
 rw[show Qd1 ns n=ns++[n] from if_neg C]
 exact ZT Z Z (λk b h=>by
  rcases Qip h with⟨rfl,rfl⟩ |⟨rfl,rfl⟩ |⟨rfl,rfl⟩;exact congrArg some (by simp only[bNs,QBi];rfl)
  exact congrArg some (by simp only[bRs,QBi];rfl)
  exact congrArg some (by simp only[bFd,QAY];rfl))
theorem Qez (G:y.ms.length<=2) (C:∀m∈y.ms,fb m.r.v):s6 Tryz.prog 140 [.agg (dYd y (.ref 1000000 0 0))] (FD lkf ns) (ZL (GA y)) (FD lkf ns):=s6.wh (Fe G C) (Qol _)
theorem Nh {ns':List (List UInt8)} {k:Za} {z8:FH->List UInt8->Bool} (G:s6 Tryz.prog 144 [.agg (dYd y (.ref 1000000 0 0)),.str k.1] (FD lkf ns) (PF (lkf k.1)) (FD lkf ns')) (U:(lkf k.1).length<=100) (M:∀t∈lkf k.1,Ok Tryz.prog 179 [.sl t.r.fd,.str k.2] (.bool (z8 t.r k.2))):s6 Tryz.prog 141 [.agg (dYd y (.ref 1000000 0 0)),.agg (Ht k)] (FD lkf ns) (PF (ofM (lkf k.1) z8 k.2)) (FD lkf ns'):=by
 refine s6.n6 tfol Tryz.func141 QuC (QAk Z) Pt Mx ?_;show TW _ _ tf141.body _ _;refine aZ ?_;refine aZ ?_;refine Kd λK T=>Xg (l:=[_,_,_]) ?_;refine aK ?_;refine QdV (Ho:=[_,_]) (G) Z Z Z Z Z (λ_=>⟨rfl,rfl⟩) Z Z (XC (aK ?_));refine kc3 T Z Z Z ?_;refine aK ?_;refine Qt (ι:=Nat) (λi=>⟨[(3,.ref 3 0 0),(5,.s4 5 (ofM ((lkf k.1).take i) z8 k.2).length),(6,PF (lkf k.1)),(7,.int .i64 i)],[(3,⟨[Ht k],2,170,true⟩),(5,⟨(ofM ((lkf k.1).take i) z8 k.2).map dTk,10,231,true⟩),(500000,bNs ns'),(500001,bRs lkf ns'),(1000000,bFd ns')]⟩) (λi=>i<=(lkf k.1).length) (λi=>(lkf k.1).length - i) 0 ?_ ?_ ?_;exact le_trans (Q8 5 5 10 231 Z Z) (Ql (l:=[3,5,6,7]) (lH:=[3,5,500000,500001,1000000]) (kp4 Z Z Z Z) (Qa Z (Qa Z (Qa Z (Qa Z (Qa Z Qb))))) Z Z Z);exact QAw _;intro i V;have hlen:=Sj ((lkf k.1).take i) z8 k.2;have O:((lkf k.1).take i).length=i:=by simp;omega
 try dsimp only
 refine aB ?_ ?_;intro h1;refine aB ?_ ?_;intro h2;refine Qs Z (aK ?_);refine Qn Z Z (Zu Z Z (λ_ h=>ZN Z Z Z h) Z Wc Z Z Z Wd Wd (aK ?_));refine Qc (i+1) ?_ ?_ ?_;exact Ql (l:=[3,5,6,7]) (lH:=[3,5,500000,500001,1000000]) (kp4 Z Z Z Z) (Qa Z (Qa Z (Qa Z (Qa Z (Qa Z Qb))))) (by first |(rw[Z2 (z8:=z8) (Wa:i<(lkf k.1).length) (.inl h2)];done) |(rw[Z2 (z8:=z8) (Wa:i<(lkf k.1).length) (.inl h2)];rfl) |(rw[Z2 (z8:=z8) (Wa:i<(lkf k.1).length) (.inl h2),QAY];rfl) |(simp[Z2 (z8:=z8) (Wa:i<(lkf k.1).length) (.inl h2)];done) |(simp[Z2 (z8:=z8) (Wa:i<(lkf k.1).length) (.inl h2)];omega) |rfl) (by first |(rw[Z2 (z8:=z8) (Wa:i<(lkf k.1).length) (.inl h2)];done) |(rw[Z2 (z8:=z8) (Wa:i<(lkf k.1).length) (.inl h2)];rfl) |(rw[Z2 (z8:=z8) (Wa:i<(lkf k.1).length) (.inl h2),QBi];rfl) |(simp[Z2 (z8:=z8) (Wa:i<(lkf k.1).length) (.inl h2)];done) |rfl) Z
 omega
 first |omega |(simp only;omega) |(dsimp only;omega)
 intro h2;refine Qr (ds0:=[0]) (M _ (QAp Wa)) Z Z (.inr Z) Z Z (aB ?_ ?_);intro C;refine Qn Z Z (Zu Z Z (λ_ h=>ZN Z Z Z h) Z Wc Z Z Z Wd Wd (aK ?_));refine Qc (i+1) ?_ ?_ ?_;exact Ql (l:=[3,5,6,7]) (lH:=[3,5,500000,500001,1000000]) (kp4 Z Z Z Z) (Qa Z (Qa Z (Qa Z (Qa Z (Qa Z Qb))))) (by first |(rw[Z2 (Wa:i<(lkf k.1).length) (.inr C)];done) |(rw[Z2 (Wa:i<(lkf k.1).length) (.inr C)];rfl) |(rw[Z2 (Wa:i<(lkf k.1).length) (.inr C),QAY];rfl) |(simp[Z2 (Wa:i<(lkf k.1).length) (.inr C)];done) |(simp[Z2 (Wa:i<(lkf k.1).length) (.inr C)];omega) |rfl) (by first |(rw[Z2 (Wa:i<(lkf k.1).length) (.inr C)];done) |(rw[Z2 (Wa:i<(lkf k.1).length) (.inr C)];rfl) |(rw[Z2 (Wa:i<(lkf k.1).length) (.inr C),QBi];rfl) |(simp[Z2 (Wa:i<(lkf k.1).length) (.inr C)];done) |rfl) Z
 omega
 first |omega |(simp only;omega) |(dsimp only;omega)
 intro C;refine Qc (i+1) ?_ ?_ ?_;exact Ql (l:=[3,5,6,7]) (lH:=[3,5,500000,500001,1000000]) (kp4 Z Z Z Z) (Qa Z (Qa Z (Qa Z (Qa Z (Qa Z Qb))))) (by first |(rw[NO (Wa:i<(lkf k.1).length) h2 C];done) |(rw[NO (Wa:i<(lkf k.1).length) h2 C];rfl) |(rw[NO (Wa:i<(lkf k.1).length) h2 C,QAY];rfl) |(simp[NO (Wa:i<(lkf k.1).length) h2 C];done) |(simp[NO (Wa:i<(lkf k.1).length) h2 C];omega) |rfl) (by first |(rw[NO (Wa:i<(lkf k.1).length) h2 C];done) |(rw[NO (Wa:i<(lkf k.1).length) h2 C];rfl) |(rw[NO (Wa:i<(lkf k.1).length) h2 C,QBi];rfl) |(simp[NO (Wa:i<(lkf k.1).length) h2 C];done) |rfl) Z
 omega
 first |omega |(simp only;omega) |(dsimp only;omega)
 intro h1;rw[QAA (Wa:(lkf k.1).length<=i)];exact ZT Z Wj (Xn (A:=[_,_]) Z)
variable {k:Za} {l:List TkR} {ns':List (List UInt8)}
theorem KV (G:y.ms.length<=2) (C:∀m∈y.ms,fb m.r.v):s6 Tryz.prog 137 [.agg (dYd y (.ref 1000000 0 0)),.agg (Ht ([],[]))] (FD lkf ns) (ZL (GA y)) (FD lkf ns):=by
 refine s6.n6 tfol Tryz.func137 Qq5 (QAk Z) Pt Mx ?_;show TW _ _ tf137.body _ _;refine aS ?_;refine JY Z Z (K1 (x:=([],[])) (y:=([],[]))) (aV ?_ ?_);intro h1;refine Kd λK M=>Xg (l:=[_]) ?_;refine aK ?_;refine QdV (Ho:=[_,_]) (Qez G C) Z Z Z Z Z (λ_=>⟨rfl,rfl⟩) Z Z (XC (aK ?_));refine kc1 M Z ?_;refine aK ?_;exact ZT Z Wm (Xn (A:=[_,_]) Z);intro h1;exact absurd trivial h1
theorem KU (hk:k≠([],[])) (G:s6 Tryz.prog 141 [.agg (dYd y (.ref 1000000 0 0)),.agg (Ht k)] (FD lkf ns) (PF l) (FD lkf ns')) (U:l.length<=100) {nd:FH->List UInt8->List (List AskT)} (M:∀t∈l,Ok Tryz.prog 142 [.agg (JC t.r),.agg [.str y.e1,.str y.e2,.str y.e3],.str k.2] (ZL (nd t.r k.2))) (C:∀t∈l,(nd t.r k.2).length<=90):s6 Tryz.prog 137 [.agg (dYd y (.ref 1000000 0 0)),.agg (Ht k)] (FD lkf ns) (ZL (Pz l nd k.2)) (FD lkf ns'):=by
 refine s6.n6 tfol Tryz.func137 Qq5 (QAk Z) Pt Mx ?_;show TW _ _ tf137.body _ _;refine aS ?_;refine JY Z Z (K1 (x:=k) (y:=([],[]))) (aV ?_ ?_);intro h1;exact absurd h1 hk;intro h1;refine aJ ?_;refine aZ ?_;refine Hy (Kd λK T=>Xg (l:=[_,_]) ?_);refine aK ?_;refine QdV (Ho:=[_,_]) (G) Z Z Z Z Z (λ_=>⟨rfl,rfl⟩) Z Z (XC (aK ?_));refine kc6 T Z Z Z Z Z Z ?_;refine aK ?_;refine Qt (ι:=Nat) (λi=>⟨[(2,.ref 2 0 0),(3,.ref 3 0 0),(5,.s4 5 (Pz (l.take i) nd k.2).length),(15,PF l),(16,.int .i64 l.length),(17,.int .i64 i)],[(2,⟨[dYd y (.ref 1000000 0 0)],8,127,false⟩),(3,⟨[Ht k],2,170,true⟩),(5,⟨(Pz (l.take i) nd k.2).map (λr=>[Mu r]),1,222,true⟩),(500000,bNs ns'),(500001,bRs lkf ns'),(1000000,bFd ns')]⟩) (λi=>i<=l.length) (λi=>l.length - i) 0 ?_ ?_ ?_;exact le_trans (Q8 5 5 1 222 Z Z) (Ql (l:=[2,3,5,15,16,17]) (lH:=[2,3,5,500000,500001,1000000]) (kp6 Z Z Z Z Z Z) (Qa Z (Qa Z (Qa Z (Qa Z (Qa Z (Qa Z Qb)))))) Z Z Z);exact QAw _;intro i V;have hlen:(Pz (l.take i) nd k.2).length<=9000:=QAD (Sy λt O=>C t (QAE O)) Wd
 try dsimp only
 refine aB ?_ ?_;intro h2;have Y:=C _ (QAp (Wa:i<l.length));refine aK ?_;refine Qg (M _ (QAp (Wa:i<l.length))) Z Z (.inl Z) (Zu Z Z (λ_ h=>Pl QgB h) Z Wc Z Z Z Wd Wd (aK ?_));refine Qc (i+1) ?_ ?_ ?_;exact Ql (l:=[2,3,5,15,16,17]) (lH:=[2,3,5,500000,500001,1000000]) (kp6 Z Z Z Z Z Z) (Qa Z (Qa Z (Qa Z (Qa Z (Qa Z (Qa Z Qb)))))) (by rw[QcM (Wa:i<l.length),QAY,QBd];rfl) (by rw[QcM (Wa:i<l.length),QBi];rfl) Z
 omega
 first |omega |(simp only;omega) |(dsimp only;omega)
 intro h2;rw[QAA (Wa:l.length<=i)];exact ZT Z (by simp[F7,D.fz,D.n7,small,D.can,D.z6,ZL,Qf]) (Xn (A:=[_,_,_]) Z)
theorem HE (G:y.ms.length<=2) (C:∀m∈y.ms,fb m.r.v) {all:List Za} (M:all.length<=1000):s6 Tryz.prog 98 [.agg (dYd y (.ref 1000000 0 0)),XK all,.agg (Ht ([],[]))] (FD lkf ns) (.u7 [.sl [Cl ⟨⟨0,0,0,[],[]⟩, -1,Ta all (GA y),[]⟩],.bool true]) (FD lkf ns):=by
 refine s6.n6 tfol Tryz.func98 QvF (QAk Z) Pt Mx ?_;show TW _ _ tf98.body _ _;refine aS ?_;refine JY Z Z (K1 (x:=([],[])) (y:=([],[]))) (aV ?_ ?_);intro h1;refine Kd λK O=>Xg (l:=[_,_]) ?_;refine aK ?_;refine QdV (Ho:=[_,_]) (Qez G C) rfl rfl rfl rfl rfl (λ_=>⟨rfl,rfl⟩) rfl rfl (XC (Qg (Yr (rs:=GA y) Wa (by simp[GA];omega) (λr hr=>by obtain⟨m,_,rfl⟩:=QAy.1 hr;simp)) rfl rfl (.inl rfl) (aK ?_)))
 refine Qn Z Z (aK ?_);refine kc2 O Z Z ?_;refine aK ?_;exact Xa Z Z ⟨rfl,rfl⟩ ⟨rfl,rfl⟩ (Xn (A:=[_,_,_]) Z);intro h1;exact absurd trivial h1
theorem HC {all:List Za} (hal:all.length<=1000) (hk:k≠([],[])) (C:k.2=[]) (V:s6 Tryz.prog 141 [.agg (dYd y (.ref 1000000 0 0)),.agg (Ht k)] (FD lkf ns) (PF l) (FD lkf ns')) (hl:l.length<=100) (W:WF) (Y:∀t∈l,Ok Tryz.prog 142 [.agg (JC t.r),.agg [.str y.e1,.str y.e2,.str y.e3],.str k.2] (ZL (W.nd t.r k.2))) (M:∀t∈l,(W.nd t.r k.2).length<=90) (T:∀t∈l,∀r∈W.nd t.r k.2,r.length<=1000) (hbl:∀t∈l,t.r.bs.length<=1000) (U:∀t∈l,∀b∈t.r.bs,Ok Tryz.prog 184 [.str b.w,.agg [.str y.e1,.str y.e2,.str y.e3]] (.bool (W.on b.w))) (O:∀t∈l,∀b∈t.r.bs,Ok Tryz.prog 185 [.str b.r] (Lu (W.st b.r))) (G:s6 Tryz.prog 144 [.agg (dYd y (.ref 1000000 0 0)),.str k.1] (FD lkf ns') (PF (lkf k.1)) (FD lkf ns')):s6 Tryz.prog 98 [.agg (dYd y (.ref 1000000 0 0)),XK all,.agg (Ht k)] (FD lkf ns) (.u7 [.sl ((Fv W all l k.2 (lkf k.1).length).1.map RE),.bool (Fv W all l k.2 (lkf k.1).length).2]) (FD lkf ns'):=by
 refine s6.n6 tfol Tryz.func98 QvF (QAk Z) Pt Mx ?_;show TW _ _ tf98.body _ _;refine aS ?_;refine JY Z Z (K1 (x:=k) (y:=([],[]))) (aV ?_ ?_);intro h1;exact absurd h1 hk;intro h1;refine aJ ?_;refine aZ ?_;refine Hy (Kd λK hK=>Xg (l:=[_,_]) ?_);refine aK ?_;refine QdV (Ho:=[_,_]) (V) Z Z Z Z Z (λ_=>⟨rfl,rfl⟩) Z Z (XC (aK ?_));refine kc7 hK Z Z Z Z Z Z Z ?_;refine aK ?_;refine Qt (ι:=Nat) (λi=>⟨[(1,XK all),(3,.ref 3 0 0),(5,.ref 5 0 0),(8,.s4 8 i),(23,PF l),(24,.int .i64 l.length),(25,.int .i64 i)],[(3,⟨[dYd y (.ref 1000000 0 0)],8,127,false⟩),(5,⟨[Ht k],2,170,true⟩),(8,⟨((l.map (KD W all k.2)).take i).map RE,8,70,true⟩),(500000,bNs ns'),(500001,bRs lkf ns'),(1000000,bFd ns')]⟩) (λi=>i<=l.length/\((l.map (KD W all k.2)).take i).any QdT=false) (λi=>l.length - i) 0 ?_ ?_ ?_;exact le_trans (Q8 8 8 8 70 Z Z) (Ql (l:=[1,3,5,8,23,24,25]) (lH:=[3,5,8,500000,500001,1000000]) (kp7 Z Z Z Z Z Z Z) (Qa Z (Qa Z (Qa Z (Qa Z (Qa Z (Qa Z Qb)))))) Z Z Z);exact⟨QAw _,by simp⟩;intro i hI
 try dsimp only
 refine aV ?_ ?_;intro h2;have h9:=M _ (QAp (Wa:i<l.length));have htl:=SL all (W.nd l[i].r k.2);refine aK ?_;refine Qr (ds0:=[3,2,0]) (Y _ (QAp (Wa:i<l.length))) Z Z (.inl Z) Z Z (Qr (ds0:=[2,0]) (Yr (rs:=W.nd (l[i]'Wa).r k.2) Wa Wa (λr hr=>by have:=T _ (QAp (Wa:i<l.length)) r hr;omega)) Z Z (.inl Z) Z Z (aK ?_))
 refine Xz (ds0:=[]) Z Z Z Z Z Z Z Z Z Z (aB ?_ ?_);intro h3;refine Qg (G8 (x:=(l[i]'Wa).r) Wa (hbl _ (QAp Wa)) (U _ (QAp Wa)) (O _ (QAp Wa))) Z Z (.inl Z) (aB ?_ ?_);intro h4;refine Qs Z (aK ?_);rw[Mq (i:=i) Wa (by rw[Nq C,QdT];simp;omega)]
 exact Xa Z Z ⟨rfl,rfl⟩ ⟨rfl,rfl⟩ (Xn (A:=[_,_,_,_,_,_,_,_]) Z);intro h4;refine aB ?_ ?_;intro h5;rw[Mq (i:=i) Wa (by rw[Nq C,QdT];simp;omega)]
 exact Xa Z Z ⟨rfl,rfl⟩ ⟨rfl,rfl⟩ (Xn (A:=[_,_,_,_,_,_,_,_]) Z);intro h5;refine Qn Z Z (Zu Z Z (λ_ h=>ZN Z Z Z h) Z Wd Z Z Z Wd Wd (aK ?_));refine Qc (i+1) ?_ ?_ ?_;exact Ql (l:=[1,3,5,8,23,24,25]) (lH:=[3,5,8,500000,500001,1000000]) (kp7 Z Z Z Z Z Z Z) (Qa Z (Qa Z (Qa Z (Qa Z (Qa Z (Qa Z Qb)))))) Z (by rw[QBv (show i<(l.map (KD W all k.2)).length by simp;omega),QBi,QBG,Nq C];rfl) Z
 exact⟨Wa,MX (show i<(l.map (KD W all k.2)).length by simp;omega) hI.2 (by rw[QBG,Nq C,QdT];simp;omega)⟩
 first |omega |(simp only;omega) |(dsimp only;omega)
 intro h3;exact absurd C h3;intro h2;refine aJ ?_;refine Kd λK hK=>Xg (l:=[_,_,_,_]) ?_;refine aK ?_;refine QdV (Ho:=[_,_,_]) (G) Z Z Z Z Z (λ_=>⟨rfl,rfl⟩) Z Z (XC (aK ?_));refine kc2 hK Z Z ?_;refine aK ?_;obtain rfl:i=l.length:=Wa;rw[Mr (by simpa [QAA]using hI.2)];exact Xa Z Z ⟨by simp[F7,D.fz,D.n7,small,D.can,D.z6,Qf,QAA],congrArg D.bool (decide_eq_decide.2 Wa)⟩ ⟨rfl,rfl⟩ (Xn (A:=[_,_,_]) Z)
theorem HD {all:List Za} (hal:all.length<=1000) (hk:k≠([],[])) (C:¬k.2=[]) (T:s6 Tryz.prog 141 [.agg (dYd y (.ref 1000000 0 0)),.agg (Ht k)] (FD lkf ns) (PF l) (FD lkf ns')) (hl:l.length<=100) (W:WF) (U:∀t∈l,Ok Tryz.prog 142 [.agg (JC t.r),.agg [.str y.e1,.str y.e2,.str y.e3],.str k.2] (ZL (W.nd t.r k.2))) (M:∀t∈l,(W.nd t.r k.2).length<=90) (O:∀t∈l,∀r∈W.nd t.r k.2,r.length<=1000) (hbl:∀t∈l,t.r.bs.length<=1000) (hon:∀t∈l,∀b∈t.r.bs,Ok Tryz.prog 184 [.str b.w,.agg [.str y.e1,.str y.e2,.str y.e3]] (.bool (W.on b.w))) (hst:∀t∈l,∀b∈t.r.bs,Ok Tryz.prog 185 [.str b.r] (Lu (W.st b.r))) (G:s6 Tryz.prog 144 [.agg (dYd y (.ref 1000000 0 0)),.str k.1] (FD lkf ns') (PF (lkf k.1)) (FD lkf ns')):s6 Tryz.prog 98 [.agg (dYd y (.ref 1000000 0 0)),XK all,.agg (Ht k)] (FD lkf ns) (.u7 [.sl ((Fv W all l k.2 (lkf k.1).length).1.map Cl),.bool (Fv W all l k.2 (lkf k.1).length).2]) (FD lkf ns'):=by
 refine s6.n6 tfol Tryz.func98 QvF (QAk Z) Pt Mx ?_;show TW _ _ tf98.body _ _;refine aS ?_;refine JY Z Z (K1 (x:=k) (y:=([],[]))) (aV ?_ ?_);intro h1;exact absurd h1 hk;intro h1;refine aJ ?_;refine aZ ?_;refine Hy (Kd λK V=>Xg (l:=[_,_]) ?_);refine aK ?_;refine QdV (Ho:=[_,_]) (T) Z Z Z Z Z (λ_=>⟨rfl,rfl⟩) Z Z (XC (aK ?_));refine kc7 V Z Z Z Z Z Z Z ?_;refine aK ?_;refine Qt (ι:=Nat) (λi=>⟨[(1,XK all),(3,.ref 3 0 0),(5,.ref 5 0 0),(8,.s4 8 i),(23,PF l),(24,.int .i64 l.length),(25,.int .i64 i)],[(3,⟨[dYd y (.ref 1000000 0 0)],8,127,false⟩),(5,⟨[Ht k],2,170,true⟩),(8,⟨((l.map (KD W all k.2)).take i).map Cl,8,70,true⟩),(500000,bNs ns'),(500001,bRs lkf ns'),(1000000,bFd ns')]⟩) (λi=>i<=l.length/\((l.map (KD W all k.2)).take i).any QdT=false) (λi=>l.length - i) 0 ?_ ?_ ?_;exact le_trans (Q8 8 8 8 70 Z Z) (Ql (l:=[1,3,5,8,23,24,25]) (lH:=[3,5,8,500000,500001,1000000]) (kp7 Z Z Z Z Z Z Z) (Qa Z (Qa Z (Qa Z (Qa Z (Qa Z (Qa Z Qb)))))) Z Z Z);exact⟨QAw _,by simp⟩;intro i Y
 try dsimp only
 refine aV ?_ ?_;intro h2;have h9:=M _ (QAp (Wa:i<l.length));have htl:=SL all (W.nd l[i].r k.2);refine aK ?_;refine Qr (ds0:=[3,2,0]) (U _ (QAp (Wa:i<l.length))) Z Z (.inl Z) Z Z (Qr (ds0:=[2,0]) (Yr (rs:=W.nd (l[i]'Wa).r k.2) Wa Wa (λr hr=>by have:=O _ (QAp (Wa:i<l.length)) r hr;omega)) Z Z (.inl Z) Z Z (aK ?_))
 refine Xz (ds0:=[]) Z Z Z Z Z Z Z Z Z Z (aB ?_ ?_);intro h3;exact absurd h3 C;intro h3;refine aB ?_ ?_;intro h4;refine Qs Z (aK ?_);rw[Mq (i:=i) Wa (by rw[Mp C,QdT];simp;omega)]
 exact Xa Z Z ⟨rfl,rfl⟩ ⟨rfl,rfl⟩ (Xn (A:=[_,_,_,_,_,_,_]) Z);intro h4;refine aB ?_ ?_;intro h5;exact absurd h5 Wc;intro h5;refine Qn Z Z (Zu Z Z (λ_ h=>ZN Z Z Z h) Z Wd Z Z Z Wd Wd (aK ?_));refine Qc (i+1) ?_ ?_ ?_;exact Ql (l:=[1,3,5,8,23,24,25]) (lH:=[3,5,8,500000,500001,1000000]) (kp7 Z Z Z Z Z Z Z) (Qa Z (Qa Z (Qa Z (Qa Z (Qa Z (Qa Z Qb)))))) Z (by rw[QBv (show i<(l.map (KD W all k.2)).length by simp;omega),QBi,QBG,Mp C];rfl) Z
 exact⟨Wa,MX (show i<(l.map (KD W all k.2)).length by simp;omega) Y.2 (by rw[QBG,Mp C,QdT];simp;omega)⟩
 first |omega |(simp only;omega) |(dsimp only;omega)
 intro h2;refine aJ ?_;refine Kd λK V=>Xg (l:=[_,_,_,_]) ?_;refine aK ?_;refine QdV (Ho:=[_,_,_]) (G) Z Z Z Z Z (λ_=>⟨rfl,rfl⟩) Z Z (XC (aK ?_));refine kc2 V Z Z ?_;refine aK ?_;obtain rfl:i=l.length:=Wa;rw[Mr (by simpa [QAA]using Y.2)];exact Xa Z Z ⟨by simp[F7,D.fz,D.n7,small,D.can,D.z6,Qf,QAA],congrArg D.bool (decide_eq_decide.2 Wa)⟩ ⟨rfl,rfl⟩ (Xn (A:=[_,_,_]) Z)
end Go.Proofs
