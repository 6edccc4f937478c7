/- Part 7 of the means of the proof: a verified abstract evaluator and contracts of functions. It states nothing of the claim by itself. -/
import Derived.Test.YtggcpapoljmiaaaGreatDoorB6
import Derived.KernelRfl
set_option maxRecDepth 4000
set_option maxHeartbeats 4000000
set_option linter.unusedSimpArgs false
set_option linter.unusedVariables false
set_option linter.unusedSectionVars false
namespace M25
open Go Go.Abs M3
structure QoS where
 n:List UInt8
 v:Vr
 s:List UInt8
 k:Int
structure BS where
 e0:List UInt8
 e1:List UInt8
 e2:List UInt8
 ls:List QoS
structure LSm (l:BS):Prop where
 len:l.ls.length<=1000
 vs:∀x∈l.ls,Qhv x.v
def Qtu (n:List UInt8) (x:QoS):Bool:=decide (x.n=n)
def Qkb (l:BS) (n:List UInt8):Int:=QxF (Qtu n) l.ls
def Qp1 (x w:Vr):Int:=if ME x.a x.b x.c x.p x.q w.a w.b w.c w.p w.q=0 then 0 else if ME x.a x.b x.c x.p x.q w.a w.b w.c w.p w.q=1 then 2 else 4
def Qs9 (l:BS) (u:Rj) (p:Nat):Int:=if Qkb l u.n<0 then 1 else match u.cs[p]?,l.ls[(Qkb l u.n).toNat]? with
 |some c,some x=>Qp1 c.v x.v
 |_,_=>0
end M25
namespace M25
open Go Go.Abs M3
structure CapsOk (c:List D):Prop where
 cap:c.all D.fa=true
 arg:∀s:St,c.map (XS s)=c
 fz:∀H,c.map (D.n7 H JS)=c
 own:(c.all λd=>!d.own)=true
 pure:c.all D.pure=true
end M25
namespace M25
open Go Go.Abs M3
section
variable {l:BS} {u:Rj} {i v:Nat} {names:List (List UInt8)}
end
end M25
namespace M25
open Go Go.Abs M3
structure FewT (t:List (List Int)):Prop where
 len:t.length<=60
 rows:∀r∈t,r.length<=1000
def okN (x:Int):Bool:=decide (x<=1099511627776)&&decide (-1099511627776<=x)
end M25
namespace M25
open Go Go.Abs M3
structure LMade (l:BS):Prop where
 len:l.ls.length<=4
 vs:∀x∈l.ls,Qhv x.v
end M25
namespace M25
open Go Go.Abs M3
end M25
namespace M25
open Go Go.Abs M3
end M25
namespace M25
open Go Go.Abs M3
end M25
namespace M25
open Go Go.Abs M3
structure T1 (w:Qe) (c:List Int):Prop where
 len:c.length=w.length
 bd:∀u (h:u<w.length) (hc:u<c.length), -1<=c[u]/\c[u]<w[u].cs.length
def w7 (w:Qe) (l:BS) (c:List Int) (u:Nat):Bool:=match w[u]?,c[u]? with
 |some x,some p=>if u=0\/x.f≠[]\/p<0 then true else decide (Qs9 l x p.toNat=0)
 |_,_=>true
section
variable {w:Qe} {l:BS} {c:List Int} {v:Nat}
end
end M25
namespace M25
open M3 Go Go.Abs
theorem DD (s:Je) (l:List CandT) (i:Nat):∀n,n<=16->n<=l.length->tb (F0 s l n) i=(decide (0<i/\i<=n)&&match l[i - 1]? with |some c=>Qma s c.v |none=>false)
 |0,_,_=>by grind [F0,DF]
 |n+1,h,h'=>by
  obtain⟨M,O⟩:=Qcf s l n;have C:=DD s l i n Wa Wa;have G:n<l.length:=Wa;cases hp:Qma s l[n].v with
  |true=>
   rw[QfV G hp,<- Qlz Wa M Wa,Qq2,C,Qg3 Wa]
   grind
  |false=>
   rw[QiU G hp,C]
   grind
theorem QiV (w:Qe) (x:QN):Qep (Qkc w x) 1=0:=by
 rw[show(1:Int)=2 ^ 0 from rfl,Qbh Wa]
 grind [QfM,DD,QiR,DF]
structure TIn (F m:Int):Prop where
 hF:I64 F
 hm:I64 m
 sub:∀i,tb m i=true->tb F i=true
 nz:m≠0
 nf:m≠F
end M25
namespace M25
end M25
namespace M25
open M3 Go Go.Abs
def CO (a b:List (Cu × Cu)):List (Cu × Cu):=if JV a=true/\JV b=true then HI (λx y=>mIn a x y&&mIn b x y) (Ye (a++b)) []else[]
def Qwd (s:Je) (v:Vr):Bool:=FY s v.a v.b v.c v.p v.q
def Xl (a:Je):Bool:=versions.all λv=>Qwd (Qtw a) v==!Qwd a v
end M25
namespace Go.Proofs
open Go Go.Abs M3 M25
theorem J3 {a b:List (Cu × Cu)} (ha:Sm a) (hb:Sm b) (M:a.length+b.length<=4194304):Ok Tryz.prog 271 [Qw a,Qw b] (Qw (CO a b)):=by
 refine Ok.n6 tfol Tryz.func271 Qvx (QAk Z) ?_;show TW _ _ tf271.body _ _;have hn:=ha.1;have O:=hb.1;have G:=ha.app hb M;have U:=Gr (a++b);have T:(a++b).length=a.length+b.length:=QAY;refine aS ?_;refine Qg (Q2 ha) Z Z (.inr Z) (aB ?_ ?_);intro h1;refine Qs Z (aK ?_);refine QM Z ?_;rw[CO,if_neg Wb];rfl;intro h1;refine Qg (Q2 hb) Z Z (.inr Z) (aB ?_ ?_);intro h2;refine QM Z ?_;rw[CO,if_neg Wb];rfl;intro h2;refine Qa8 Z Z (λ_ h=>Pl QcJ h) Z (.inl Z) Wc Wb Wb (aK ?_);refine Zu Z Z (λ_ h=>Pl QcJ h) Z Wc Z Z Z Wb Wb ?_;apply Qd6 [17] Wc;simp[St.s8,St.freeze,rem,D.fz,D.n7,u4.fz,lk,D.z2];exact⟨rfl,rfl⟩;exact YN (l:=a++b) G;rfl;simp[XS,D.fz,D.n7,JS,D.can,D.z6,Qw];exact .inl Z;refine aK ?_;refine Qt (ι:=Nat × List (Cu × Cu)) (λ⟨i,out⟩=>⟨[(0,Qw a),(1,Qw b),(5,.s4 5 out.length),(6,SY (Ye (a++b))),(7,.int .i64 i)],[(5,⟨out.map JT,14,193,true⟩)]⟩) (λ⟨i,out⟩=>i<=(Ye (a++b)).length/\b9 (λx y=>mIn a x y&&mIn b x y) (Ye (a++b)) i out) (λ⟨i,out⟩=>(Ye (a++b)).length - i) (0,[]) ?_ ?_ ?_;exact le_trans (Q8 5 5 14 193 Z Z) (Ql (l:=[0,1,5,6,7]) (lH:=[5]) (kp5 Z Z Z Z Z) (Qa Z Qb) Z Z Z)
 (repeat clear hK K);simp_all [b9.zero]
 intro ⟨i,out⟩ hI;obtain⟨Y,C⟩:=hI;have V:=C.1;dsimp only;refine aB ?_ ?_;intro h3;refine Qr (ds0:=dn 13) (Yi ha (Zm G _ (QAp Wa)) (Zm G _ (QAp Wa))) Z Z (.inr Z) Z Z (aR ?_ ?_);intro h4;refine Qr (ds0:=[0]) (Yi hb (Zm G _ (QAp Wa)) (Zm G _ (QAp Wa))) Z Z (.inr Z) Z Z (aR ?_ ?_);intro h5;refine T3 (ds0:=[0]) (QeD (k:=5) rfl rfl rfl We rfl We (by simp[D.ids,D.l4,dCu]) ⟨.s4 5 out.length,by simp,by simp[D.ids,D.l4]⟩ rfl rfl (YO Wa C.2.1 (Zm G _ (QAp Wa)) (Zm G _ (QAp Wa)))) (λ_ h=>by cases h) rfl rfl (aK ?_);refine Qc (i+1,KI out (Ye (a++b))[i] (Ye (a++b))[i+1]) ?_ ?_ ?_;exact le_trans (QaB (l:=[0,1,6,7]) (t:=62) (u:=5) 5 (kp4 Z Z Z Z) Z Z Z Z) (Ql (l:=[0,1,5,6,7]) (lH:=[5]) (kp5 Z Z Z Z Z) (Qa Z Qb) Z Z Z);exact⟨Wa,C.take (Zm G) Wa Wb⟩;omega;intro h5;refine Qc (i+1,out) ?_ ?_ ?_;exact Ql (l:=[0,1,5,6,7]) (lH:=[5]) (kp5 Z Z Z Z Z) (Qa Z Qb) Z Z Z;exact⟨Wa,C.skip Wa Wb⟩;omega;intro h4;refine QH Z (aK ?_);refine Qc (i+1,out) ?_ ?_ ?_;exact Ql (l:=[0,1,5,6,7]) (lH:=[5]) (kp5 Z Z Z Z Z) (Qa Z Qb) Z Z Z;exact⟨Wa,C.skip Wa Wb⟩;omega
 ·intro h3;refine QM Z ?_;rw[CO,if_pos ⟨h1,h2⟩,C.done Wa];simp[XS,D.fz,D.n7,JS,lk,D.can,D.z6,Qw]
end Go.Proofs
namespace Go.Abs
open Go
section
variable {fr:QAi} {H:QAh}
end
end Go.Abs
namespace Go.Abs
abbrev gD:D:=.ptr [.int .i64 0,.int .i64 0,.int .i64 0,.str [],.str []]
end Go.Abs
namespace Go.Proofs
open Go Go.Abs M3 M25
variable {a b c:Int} {l:List (Cu × Cu)} {p q:List UInt8}
theorem Rw (C:Sm l):Ok Tryz.prog 157 [Qw l] (.bool (JV l)):=by
 refine Ok.n6 tfol Tryz.func157 QuN (QAk Z) ?_;show TW _ _ tf157.body _ _;have T:=C.1;refine aS ?_;refine Qt (ι:=Nat) (λi=>⟨[(0,Qw l),(5,Qw l),(6,.int .i64 l.length),(7,.int .i64 i)],[]⟩) (λi=>i<=l.length/\(List.range i).all (QmO l)=true) (λi=>l.length - i) 0 ?_ ?_ ?_;exact Ql (l:=[0,5,6,7]) (kp4 Z Z Z Z) Qb Wc Z Z;simp;intro i G;refine aB ?_ ?_;intro h1;refine Qr (ds0:=dn 17) (Ng (C.at (i:=i) Wa).1.1 (C.at (i:=i) Wa).1.2 (C.at (i:=i) Wa).2.1 (C.at (i:=i) Wa).2.2) Z Z (.inr Z) Z Z (aB ?_ ?_);intro h2;refine Qs Z (aK ?_)
 first
  |exact(GT G.2 Wa).symm
  |exact(YI (i:=i) Wa (Hw Wa (.inl h2))).symm
  |(simp only[Ka]at*;exact(YI (i:=i) Wa (Hw Wa (.inr ⟨Wa,M⟩))).symm)
 intro h2;refine aB ?_ ?_;intro O;refine Qr (ds0:=[2,1,0]) (Nf (C.at (i:=((i:Int) - 1).toNat) Wa).2.1 (C.at (i:=((i:Int) - 1).toNat) Wa).2.2 (C.at (i:=i) Wa).1.1 (C.at (i:=i) Wa).1.2) Z Z (.inr Z) Z Z (aB ?_ ?_);intro M
 first
  |exact(GT G.2 Wa).symm
  |exact(YI (i:=i) Wa (Hw Wa (.inl h2))).symm
  |(simp only[Ka]at*;exact(YI (i:=i) Wa (Hw Wa (.inr ⟨Wa,M⟩))).symm)
 intro M;refine Qc (i+1) ?_ ?_ ?_;exact Ql (l:=[0,5,6,7]) (lH:=[]) (kp4 Z Z Z Z) Qb Z Z Z;exact⟨Wa,P5 G.2 (Qco Wa h2 (by(simp only[Ka]at*;exact .inr (Int.not_le.1 M))))⟩
 omega;intro O;refine QH Z (aK ?_);refine Qc (i+1) ?_ ?_ ?_;exact Ql (l:=[0,5,6,7]) (lH:=[]) (kp4 Z Z Z Z) Qb Z Z Z;exact⟨Wa,P5 G.2 (Qco Wa h2 Wa)⟩;omega;intro h1
 first
  |exact(GT G.2 Wa).symm
  |exact(YI (i:=i) Wa (Hw Wa (.inl h2))).symm
  |(simp only[Ka]at*;exact(YI (i:=i) Wa (Hw Wa (.inr ⟨Wa,M⟩))).symm)
theorem Cb (C:Sm l) (hp:p.length<=1048576) (O:q.length<=1048576):Ok Tryz.prog 121 [Qw l,.agg [.int .i64 a,.int .i64 b,.int .i64 c,.str p,.str q]] (.bool (S6 l a b c p q)):=by
 refine Ok.n6 tfol Tryz.func121 Qut (QAk Z) ?_;show TW _ _ tf121.body _ _;have T:=C.1;refine aS ?_;refine Qg (Rw C) Z Z (.inr Z) (aB ?_ ?_);intro h1
 grind [PL]
 intro h1;refine Qt (ι:=Nat) (λi=>⟨[(3,.ref 3 0 0),(10,Qw l),(11,.int .i64 l.length),(12,.int .i64 i)],[(3,⟨[[.int .i64 a,.int .i64 b,.int .i64 c,.str p,.str q]],5,66,true⟩)]⟩) (λi=>i<=l.length/\(l.take i).any (λs=>Sa s a b c p q)=false) (λi=>l.length - i) 0 ?_ ?_ ?_;exact Ql (l:=[3,10,11,12]) (lH:=[3]) (kp4 Z Z Z Z) (Qa Z Qb) Wc Z Z;simp;intro i M;refine aB ?_ ?_;intro h2;refine Qg (Qaa (C.at (i:=i) Wa).1.1 (C.at (i:=i) Wa).1.2 (C.at (i:=i) Wa).2.1 (C.at (i:=i) Wa).2.2 hp O) Z Z (.inr Z) (aB ?_ ?_);intro G
 first
  |exact(PK (i:=i) Wa M.2).symm
  |exact(PL h1).symm
  |exact(QbQ h1 (i:=i) Wa G).symm
 intro G;refine Qc (i+1) ?_ ?_ ?_;exact Ql (l:=[3,10,11,12]) (lH:=[3]) (kp4 Z Z Z Z) (Qa Z Qb) Z Z Z;exact⟨Wa,MX Wa M.2 G⟩;omega;intro h2
 grind [PK]
theorem Nm {e:Int} {f:Bool}:Ok Tryz.prog 156 [.agg [.int .i64 e,.int .i64 a,.int .i64 b,.int .i64 c,.str p,.str q,.bool f],gD] (.bool (J9 e a b c p q f)):=by
 refine Ok.ia (ds:=[.agg [.int .i64 e,.int .i64 a,.int .i64 b,.int .i64 c,.str p,.str q,.bool f]]) (dg:=gD) tfol Tryz.func156 QuM (QAk Z) ?_;show TW _ _ tf156.body _ _;refine aX ?_ ?_;intro h1
 grind [J9]
 intro h1;refine aB ?_ ?_;intro h2;refine aB ?_ ?_;intro C;refine QjH Z Z Z (aK ?_)
 grind [J9]
 intro C
 grind [J9]
 intro h2
 grind [J9]
variable {s:List (Cu × Cu) × List (Cu × Cu)}
theorem Cc (C:Sm s.1) (M:Sm s.2):Ok Tryz.prog 120 [Lu s,gD] (.bool (JW s)):=by
 refine Ok.ia (ds:=[Lu s]) (dg:=gD) tfol Tryz.func120 Qus (QAk Z) ?_;show TW _ _ tf120.body _ _;have U:=C.1;refine aS ?_;refine Qt (ι:=Nat) (λi=>⟨[(1,.ref 1 0 0),(6,Qw s.1),(7,.int .i64 s.1.length),(8,.int .i64 i),(900000,gD)],[(1,⟨[[Qw s.1,Qw s.2]],2,79,true⟩)]⟩) (λi=>i<=s.1.length/\(s.1.take i).all (λx=>Xj x.1&&Xj x.2)=true) (λi=>s.1.length - i) 0 ?_ ?_ ?_;exact Ql (l:=[1,6,7,8,900000]) (lH:=[1]) (kp5 Z Z Z Z Z) (Qa Z Qb) Wc Z Z;simp;intro i O;refine aB ?_ ?_;intro h1;refine Qg (Nm) Z Z (.inr Z) (aB ?_ ?_);intro h2;refine Qs Z (aK ?_)
 first
  |exact(PU (i:=i) Wa (.inl h2)).symm
  |exact(PU (i:=i) Wa (.inr G)).symm
  |(rw[PV (i:=i) Wa O.2];simp_all)
 intro h2;refine Qg (Nm) Z Z (.inr Z) (aB ?_ ?_);intro G
 first
  |exact(PU (i:=i) Wa (.inl h2)).symm
  |exact(PU (i:=i) Wa (.inr G)).symm
  |(rw[PV (i:=i) Wa O.2];simp_all)
 intro G;refine Qc (i+1) ?_ ?_ ?_;exact Ql (l:=[1,6,7,8,900000]) (lH:=[1]) (kp5 Z Z Z Z Z) (Qa Z Qb) Z Z Z
 grind [Q9,Xj]
 omega;intro h1;refine Qg (Rw C) Z Z (.inr Z) (aR ?_ ?_);intro T;refine Qg (Rw M) Z Z (.inr Z) (aK ?_)
 grind [PV]
 intro T
 grind [PV]
theorem QeA (G:Sm s.1) (C:Sm s.2) {a b c:Int} {p q:List UInt8} (hp:p.length<=1048576) (M:q.length<=1048576):Ok Tryz.prog 84 [Lu s,.agg [.int .i64 a,.int .i64 b,.int .i64 c,.str p,.str q],gD] (.bool (FY s a b c p q)):=by
 refine Ok.ia (ds:=[Lu s,.agg [.int .i64 a,.int .i64 b,.int .i64 c,.str p,.str q]]) (dg:=gD) tfol Tryz.func84 Qz5 (QAk Z) ?_;show TW _ _ tf84.body _ _;refine aS ?_;refine Qg (Cc G C) Z Z (.inr Z) (aB ?_ ?_);intro h1;refine Qs Z (aK ?_)
 grind [FY]
 intro h1;refine Qg (ZP hp M) Z Z (.inr Z) (aB ?_ ?_);intro h2
 grind [FY]
 intro h2;refine aB ?_ ?_;intro O;refine Qg (Cb G hp M) Z Z (.inr Z) (aK ?_)
 grind [FY]
 intro O;refine Qg (Cb C hp M) Z Z (.inr Z) (aK ?_)
 grind [FY]
end Go.Proofs
namespace M25
open Go Go.Abs M3
theorem Bc {fr:QAi} {H:QAh} {t u v:Nat} {e:AExit} {p q r d d' C:D} (h:lk fr t=some p) (h2:lk fr u=some q) (G:lk fr v=some r) (hd:XS ⟨fr,H⟩ p=d/\XS ⟨fr,H⟩ q=d'/\XS ⟨fr,H⟩ r=C) (he:e=.ret\/e=.normal:=by first |exact .inl rfl |exact .inr rfl):r7 [.tmp t,.tmp u,.tmp v] (.u7 [d,d',C]) e ⟨fr,H⟩:=by
 obtain⟨rfl,rfl,rfl⟩:=hd;rcases he with rfl |rfl<;>exact⟨_,rfl,_,_,rfl,⟨p,h,rfl⟩,_,_,rfl,⟨q,h2,rfl⟩,_,_,rfl,⟨r,G,rfl⟩,rfl⟩
def cA (c:List Int) (u:Int):Int:=(c[u.toNat]?).getD (-1)
def mtM (w:Qe) (c:List Int) (x:QN):Bool:=!decide (Qep (Qkc w x) (CW w c x.u)=0)
def MC (w:Qe) (c:List Int) (row:List QN):Bool:=row.any (mtM w c)
def QtU (m:Int) (p:Int):Bool:=decide (0<=p)&&(decide (p<16)&&!decide (Qep m (2 ^ (p+1).toNat)=0))
def opN (w:Qe) (l:List Int) (u:Nat):Nat:=match w[u]? with
 |some x=>min x.cs.length ((mPl (Qwg l u) 24).tmod 5).toNat
 |none=>0
structure OrdI (m0:Int) (L:List Int) (s:List Int × Int):Prop where
 nd:s.1.Nodup
 mem:∀p,p∈s.1↔p∈L/\QtU m0 p=true
 bit:∀p,QtU s.2 p=true↔QtU m0 p=true/\p∉s.1
def QxH (w:Qe) (o:Hz) (x:QN):Bool:=decide (x.u=o.u)&&!decide (Qep (Qkc w x) (2*2 ^ o.m.toNat)=0)
theorem Qgl (n:Nat):(2:Int)*2 ^ n=2 ^ (n+1):=Wa
structure OffOk (w:Qe) (al c:List Int) (a b:Int) (o:Hz):Prop where
 u0:0<=o.u
 u1:o.u<w.length
 no:∀h:o.u.toNat<c.length,c[o.u.toNat]= -1
 p0:0<=o.m
 p1:∀h:o.u.toNat<w.length,o.m<w[o.u.toNat].cs.length
 p2:o.m<16
 al0:0<(al.length:Int)->∃h:o.u.toNat<al.length,¬Qep al[o.u.toNat] (2*2 ^ o.m.toNat)=0
 me:b<0->o.u=a
 need:0<=b->∀hu:a.toNat<w.length,∀hc:a.toNat<c.length,∀hp:c[a.toNat].toNat<w[a.toNat].cs.length,∀hk:b.toNat<w[a.toNat].cs[c[a.toNat].toNat].ns.length,w[a.toNat].cs[c[a.toNat].toNat].ns[b.toNat].any (QxH w o)=true
variable {x:QN}
structure WIn (w:Qe):Prop where
 nr:∀u∈w,∀c∈u.cs,∀r∈c.ns,∀x∈r,0<=x.u/\x.u<w.length
 bw:∀u∈w,∀c∈u.cs,∀x∈c.bs,0<=x.u/\x.u<w.length
section
variable {w:Qe} {al c:List Int}
theorem Ms (C:T1 w c) {u:Nat} (hu:u<c.length): -1<=c[u]/\c[u]<(w[u]'(by rw[<- C.len];omega)).cs.length:=C.bd u (by rw[<- C.len];omega) hu
theorem QfX (hw:WSm w) (C:T1 w c) (h0:0<=x.u) (h1:x.u<w.length) (G:x.u.toNat<c.length) (hp:0<=c[x.u.toNat]):mtM w c x= !decide (Qep (Qkc w x) (2*2 ^ c[x.u.toNat].toNat)=0):=by
 obtain⟨T,O⟩:=Ms C G;have M:=hw.cs _ (QAp (Wa:x.u.toNat<w.length))
 grind [mtM,CX,Qgl]
theorem QdD (hw:WSm w) (C:T1 w c) (h0:0<=x.u) (h1:x.u<w.length) (G:x.u.toNat<c.length) (hp:¬0<=c[x.u.toNat]):mtM w c x=false:=by
 obtain⟨T,O⟩:=Ms C G;have M:=hw.cs _ (QAp (Wa:x.u.toNat<w.length));rw[mtM,CX h0 h1 Wa Wa Wa,show(c[x.u.toNat]+1).toNat=0 by omega];have:=QiV w x
 grind
end
theorem PB {x:Int} {n:Nat} (h:x<n) (h0:0<=x):x.toNat<n:=Wa
def QvP (n:Int) (u:Nat):Prop:=JG .and .i64 (n.fdiv (2 ^ min ((u:Nat):Int).toNat IntKind.i64.bits)) 1=0
instance (n:Int) (u:Nat):Decidable (QvP n u):=by unfold QvP;infer_instance
structure PartOf (c x:List Int):Prop where
 len:x.length=c.length
 at':∀u (h:u<c.length) (h2:u<x.length),x[u]=c[u]\/x[u]= -1
theorem HX {c:List Int} {u:Nat} (h:u<c.length):cA c (u:Int)=c[u]:=by grind [cA]
variable {bs:List QN} {c:List Int} {i u:Nat} {ns:List (List QN)} {w:Qe}
structure Qef (n:Nat) (x:QN):Prop where
 u:0<x.u/\x.u<n
 sm:Sm x.s.1/\Sm x.s.2
 may:JW x.s=true
structure QhS (n:Nat) (c:CandT):Prop where
 sm:Qhv c.v
 may:JK c.v.a c.v.b c.v.c c.v.p c.v.q=true
 nl:c.ns.length<=24
 bl:c.bs.length<=24
 rows:∀r∈c.ns,(0<r.length/\r.length<=24)/\∀x∈r,Qef n x
 bars:∀x∈c.bs,Qef n x
def HQ (a b:Rj):Bool:=Op.bytesLess a.n b.n||(decide (a.n=b.n)&&Op.bytesLess a.f b.f)
def SS (a b:Vr):Int:=ME a.a a.b a.c a.p a.q b.a b.b b.c b.p b.q
structure ya (w:Qe):Prop where
 len:1<=w.length/\w.length<=48
 cl:∀u∈w,u.cs.length<=16
 r0:∀h:0<w.length,w[0].n=[]/\w[0].f=[]/\w[0].cs.length=1
 name:∀i (h:i<w.length),0<i->w[i].n≠[]
 ah:∀i (h:i<w.length),1<i->HQ (w[i - 1]'Wa) w[i]=true
 a8:∀u∈w,∀c∈u.cs,QhS w.length c
 dh:∀u∈w,∀k (h:k<u.cs.length),0<k->SS (u.cs[k - 1]'Wa).v u.cs[k].v<0
structure BO where
 k:Int
 u:Int
 a:Int
def Qdn (f:BO):List D:=[.int .i64 f.k,.int .i64 f.u,.int .i64 f.a]
def Pp (l:List BO):D:=.sl (l.map Qdn)
def JL (w:Qe) (c:List Int) (u:Nat) (ns:List (List QN)):Nat->List BO
 |0=>[]
 |i+1=>JL w c u ns i++match ns[i]? with
  |some r=>if MC w c r=true then[]else[⟨2,u,i⟩]
  |none=>[]
def SW (w:Qe) (c:List Int) (u:Nat) (bs:List QN):Nat->List BO
 |0=>[]
 |i+1=>SW w c u bs i++match bs[i]? with
  |some x=>if mtM w c x=true then[⟨3,u,i⟩]else[]
  |none=>[]
theorem PX (h:i<ns.length) (hk:MC w c ns[i]=true):JL w c u ns (i+1)=JL w c u ns i:=by
 rw[JL,QA7 h];grind
theorem PY (h:i<ns.length) (hk:MC w c ns[i]=false):JL w c u ns (i+1)=JL w c u ns i++[⟨2,u,i⟩]:=by
 rw[JL,QA7 h];grind
theorem Lj (h:i<bs.length) (hk:mtM w c bs[i]=true):SW w c u bs (i+1)=SW w c u bs i++[⟨3,u,i⟩]:=by
 rw[SW,QA7 h];grind
theorem Lk (h:i<bs.length) (hk:mtM w c bs[i]=false):SW w c u bs (i+1)=SW w c u bs i:=by
 rw[SW,QA7 h];grind
theorem KM (w:Qe) (c:List Int) (u:Nat) (ns:List (List QN)):∀i,(JL w c u ns i).length<=i
 |0=>QAK _
 |i+1=>by
  have:=KM w c u ns i
  grind [JL]
theorem PD (w:Qe) (c:List Int) (u:Nat) (bs:List QN):∀i,(SW w c u bs i).length<=i
 |0=>QAK _
 |i+1=>by
  have:=PD w c u bs i
  grind [SW]
def QiZ (w:Qe) (c:List Int) (u:Nat) (x:CandT):List BO:=JL w c u x.ns x.ns.length++SW w c u x.bs x.bs.length
def QmP (w:Qe) (c:List Int) (u:Nat):List BO:=match w[u]? with
 |some x=>match x.cs[(cA c u).toNat]? with
  |some y=>QiZ w c u y
  |none=>[]
 |none=>[]
theorem L5 (hu:u<w.length) (C:u<c.length) (hp:c[u].toNat<w[u].cs.length):QmP w c u=QiZ w c u w[u].cs[c[u].toNat]:=by
 grind [QmP,HX]
def Q4 (w:Qe) (c:List Int):Nat->List BO
 |0=>if cA c 0<0 then[⟨1,0,0⟩]else[]
 |i+1=>Q4 w c i++if 0<=cA c i then QmP w c i else[]
theorem Ma (h:i<c.length) (C:0<=c[i]):Q4 w c (i+1)=Q4 w c i++QmP w c i:=by rw[Q4,HX h,if_pos C]
theorem Mb (h:i<c.length) (C:¬0<=c[i]):Q4 w c (i+1)=Q4 w c i:=by rw[Q4,HX h,if_neg C,QAP]
theorem DQ (h:0<c.length) (C:c[0]<0):Q4 w c 0=[⟨1,0,0⟩]:=by simp_all [Q4,cA]
theorem Ra (h:0<c.length) (C:¬c[0]<0):Q4 w c 0=[]:=by simp_all [Q4,cA]
def SQ (w:Qe) (c:List Int):List BO:=Q4 w c c.length
theorem Qi0 (w:Qe) (c:List Int) (u:Nat) (x:CandT):(QiZ w c u x).length<=x.ns.length+x.bs.length:=by
 grind [QiZ,KM,PD]
theorem L6 (hw:WSm w) (c:List Int) (u:Nat):(QmP w c u).length<=2000:=by
 unfold QmP;split;rename_i x e;split;rename_i y e2;have:=Qi0 w c u y;have:=hw.ns _ (QAM e) _ (QAM e2);omega;simp;simp
theorem Hq {w:Qe} (hw:WSm w) (c:List Int):∀i,(Q4 w c i).length<=1+2000*i
 |0=>by
  rw[Q4];grind
 |i+1=>by
  have h1:=Hq hw c i
  grind [L6,Q4]
theorem Qkh (hw:WSm w) (C:T1 w c) {x:QN} (h0:0<=x.u) (h1:x.u<w.length) (M:x.u.toNat<c.length) (hp:0<=c[x.u.toNat]) (G:c[x.u.toNat].toNat<(w[x.u.toNat]'Wa).cs.length):mtM w c x=Qma x.s (w[x.u.toNat]'Wa).cs[c[x.u.toNat].toNat].v:=by
 have O:=hw.cs _ (QAp (Wa:x.u.toNat<w.length));rw[QfX hw C h0 h1 M hp,Qgl];have e:=QfM h0 h1;have e2:=DD x.s (w[x.u.toNat]'Wa).cs (c[x.u.toNat].toNat+1) (min (w[x.u.toNat]'Wa).cs.length 16) Wa Wa;rw[decide_eq_true Wa,Nat.add_sub_cancel,QA7 G,QA6]at e2;rw[e]
 grind [Qbh]
variable {n:Nat}
structure Qrj (c:CandT):Prop where
 v:Qhv c.v
 nl:c.ns.length<=1048576
 bl:c.bs.length<=1048576
 rows:∀r∈c.ns,r.length<=1048576/\∀x∈r,Sm x.s.1/\Sm x.s.2
 bars:∀x∈c.bs,Sm x.s.1/\Sm x.s.2
structure Po (w:Qe):Prop where
 len:w.length<=1048576
 nm:∀u∈w,u.n.length<=1048576/\u.f.length<=1048576
 cl:∀u∈w,u.cs.length<=1048576
 a8:∀u∈w,∀c∈u.cs,Qrj c
def wnR (n:Nat) (x:QN):Bool:=decide (0<x.u)&&(decide (x.u<n)&&JW x.s)
def BF (n:Nat) (l:List QN):Bool:=l.all (wnR n)&&(decide (0<l.length)&&decide (l.length<=24))
def cdN (n:Nat) (c:CandT):Bool:=(decide (c.ns.length<=24)&&decide (c.bs.length<=24))&&(c.ns.all (BF n)&&c.bs.all (wnR n))
def cdR (n:Nat) (c:CandT):Bool:=JK c.v.a c.v.b c.v.c c.v.p c.v.q&&cdN n c
theorem Qhr (C:Sm x.s.1/\Sm x.s.2) (h:wnR n x=true):Qef n x:=by
 simp only[wnR,QAo,decide_eq_true_eq]at h;exact⟨⟨h.1,h.2.1⟩,C,h.2.2⟩
theorem Qhq (C:Sm x.s.1/\Sm x.s.2):wnR n x=true↔Qef n x:=by
 refine⟨Qhr C,λh=>?_⟩;simp only[wnR,QAo,decide_eq_true_eq];exact⟨h.u.1,h.u.2,h.may⟩
theorem Qpf {c:CandT} (C:Qrj c) (h:cdR n c=true):QhS n c:=by
 simp only[cdR,cdN,BF,QAo,decide_eq_true_eq,QAu]at h;obtain⟨h1,⟨h2,O⟩,G,M⟩:=h;exact⟨C.v,h1,h2,O,λr hr=>⟨(G r hr).2,λx hx=>Qhr ((C.rows r hr).2 x hx) ((G r hr).1 x hx)⟩,λx hx=>Qhr (C.bars x hx) (M x hx)⟩
theorem Ro {α:Type} {l:List α} {p:α->Bool} (hi:i<l.length) (h:p l[i]=false):l.all p=false:=by
 grind
structure UOk (w:Qe) (i:Nat):Prop where
 cl:∀h:i<w.length,w[i].cs.length<=16
 r0:∀h:i<w.length,i=0->w[i].n=[]/\w[i].f=[]/\w[i].cs.length=1
 name:∀h:i<w.length,0<i->w[i].n≠[]
 ah:∀h:i<w.length,1<i->HQ (w[i - 1]'Wa) w[i]=true
 a8:∀h:i<w.length,∀k (hk:k<w[i].cs.length),cdR w.length w[i].cs[k]=true/\(0<k->SS (w[i].cs[k - 1]'Wa).v w[i].cs[k].v<0)
theorem QlI {cs:List CandT} {k:Nat} (hk:k<cs.length) (h:∀j (C:j<cs.length),j<k->cdR w.length cs[j]=true/\(0<j->SS (cs[j - 1]'Wa).v cs[j].v<0)) (h1:cdR w.length cs[k]=true) (h2:0<k->SS (cs[k - 1]'Wa).v cs[k].v<0):
  ∀j (C:j<cs.length),j<k+1->cdR w.length cs[j]=true/\(0<j->SS (cs[j - 1]'Wa).v cs[j].v<0):=λj C G=>by
 grind
structure fc (w:Qe):Prop where
 len:1<=w.length/\w.length<=48
 u:∀i,i<w.length->UOk w i
noncomputable def mayB (w:Qe):Bool:=@decide (fc w) (Classical.propDecidable _)
theorem QmD (h:fc w):mayB w=true:=@decide_eq_true _ (Classical.propDecidable _) h
theorem Fr (h:¬fc w):mayB w=false:=@decide_eq_false _ (Classical.propDecidable _) h
theorem QfU (h:mayB w=true):fc w:=@of_decide_eq_true _ (Classical.propDecidable _) h
theorem fc.val (hr:Po w) (h:fc w):ya w where
 len:=h.len
 cl:=λu hu=>by obtain⟨i,hi,rfl⟩:=QBF.1 hu;exact(h.u i hi).cl hi
 r0:=λhi=>(h.u 0 hi).r0 hi rfl
 name:=λi hi=>(h.u i hi).name hi
 ah:=λi hi=>(h.u i hi).ah hi
 a8:=λu hu c C=>by
  obtain⟨i,hi,rfl⟩:=QBF.1 hu;obtain⟨k,hk,rfl⟩:=QBF.1 C;exact Qpf (hr.a8 _ hu _ C) ((h.u i hi).a8 hi k hk).1
 dh:=λu hu k hk h0=>by
  obtain⟨i,hi,rfl⟩:=QBF.1 hu;exact((h.u i hi).a8 hi k hk).2 h0
theorem ya.se (h:ya w):WSm w where
 len:=h.len.2
 cs:=h.cl
 vs:=λu hu c C=>(h.a8 u hu c C).sm
 ns:=λu hu c C=>⟨QAD (h.a8 u hu c C).nl We,QAD (h.a8 u hu c C).bl We⟩
 nl:=λu hu c C r hr=>QAD ((h.a8 u hu c C).rows r hr).1.2 We
 nw:=λu hu c C r hr x hx=>(((h.a8 u hu c C).rows r hr).2 x hx).sm
 bw:=λu hu c C x hx=>((h.a8 u hu c C).bars x hx).sm
theorem ya.jf (h:ya w):WIn w:=
 ⟨λu hu c C r hr x hx=>⟨Int.le_of_lt (((h.a8 u hu c C).rows r hr).2 x hx).u.1,(((h.a8 u hu c C).rows r hr).2 x hx).u.2⟩,λu hu c C x hx=>⟨Int.le_of_lt ((h.a8 u hu c C).bars x hx).u.1,((h.a8 u hu c C).bars x hx).u.2⟩⟩
structure wa (w:Qe) (c:List Int):Prop where
 len:c.length=w.length
 bd:∀i (h:i<w.length) (h2:i<c.length), -1<=c[i]/\c[i]<w[i].cs.length
noncomputable def QhA (w:Qe) (c:List Int):Bool:=@decide (wa w c) (Classical.propDecidable _)
theorem QpA (h:wa w c):QhA w c=true:=@decide_eq_true _ (Classical.propDecidable _) h
theorem Qiu (h:¬wa w c):QhA w c=false:=@decide_eq_false _ (Classical.propDecidable _) h
theorem Qpz (h:QhA w c=true):wa w c:=@of_decide_eq_true _ (Classical.propDecidable _) h
theorem QvG (h:∀j,j<i->UOk w j) (h1:UOk w i):∀j,j<i+1->UOk w j:=λj C=>by
 grind
theorem QpC (M:i<c.length) (hi:i<w.length) (h:∀j (h:j<c.length) (h2:j<w.length),j<i->-1<=c[j]/\c[j]<w[j].cs.length) (h0: -1<=c[i]) (h1:c[i]<w[i].cs.length):
  ∀j (h:j<c.length) (h2:j<w.length),j<i+1->-1<=c[j]/\c[j]<w[j].cs.length:=λj G C hk=>by
 grind
theorem C8 {a b:Rj}:ZA [Jb a.n b.n,Jb a.f b.f]<0↔HQ a b=true:=by
 grind [ZA,Jb,HQ]
noncomputable def mayC (w:Qe) (c:List Int):Bool:=mayB w&&QhA w c
theorem Pf (h:fc w) (h2:wa w c):mayC w c=true:=by grind [mayC,QmD,QpA]
theorem LY (h:¬wa w c):mayC w c=false:=by rw[mayC,Qiu h,Bool.and_false]
theorem MH (h:mayC w c=true):fc w/\wa w c:=by
 (repeat clear hK K);simp_all [mayC,QfU,Qpz]
theorem wa.ch (h:wa w c):T1 w c:=⟨h.len,h.bd⟩
noncomputable def wrongR (w:Qe) (c:List Int):List BO:=if mayC w c=true then SQ w c else[]
theorem Hp (h:mayC w c=true):wrongR w c=SQ w c:=if_pos h
theorem DP (h:mayC w c=false):wrongR w c=[]:=if_neg Wb
noncomputable def holdsR (w:Qe) (c:List Int):Bool:=mayC w c&&decide ((wrongR w c).length=0)
def X9 (l:List Bool):D:=.sl (l.map λb=>[.bool b])
end M25
namespace Go.Proofs
open Go Go.Abs M3 M25
variable {n:Nat}
theorem Nn {l:List QN} (O:l.length<=1048576) (hx:∀x∈l,Sm x.s.1/\Sm x.s.2):Ok Tryz.prog 119 [ZR l,.int .i64 ((n:Nat):Int),gD] (.bool (l.all (wnR n))):=by
 refine Ok.ia (ds:=[ZR l,.int .i64 ((n:Nat):Int)]) (dg:=gD) tfol Tryz.func119 Qur (QAk Z) ?_;show TW _ _ tf119.body _ _;refine aS ?_;refine Qt (ι:=Nat) (λi=>⟨[(1,.int .i64 ((n:Nat):Int)),(7,ZR l),(8,.int .i64 l.length),(9,.int .i64 i),(900000,gD)],[]⟩) (λi=>i<=l.length/\(l.take i).all (wnR n)=true) (λi=>l.length - i) 0 ?_ ?_ ?_;exact Ql (l:=[1,7,8,9,900000]) (lH:=[]) (kp5 Z Z Z Z Z) Qb Z Z Z;simp;intro i C;refine aB ?_ ?_;intro h1;refine aB ?_ ?_;intro h2;refine Qs Z (aK ?_)
 first |(exact(Ro (i:=i) Wa (by grind [wnR])).symm) |(rw[<- C.2,QAA Wa])
 intro h2;refine aB ?_ ?_;intro M;refine Qs Z (aK ?_)
 first |(exact(Ro (i:=i) Wa (by grind [wnR])).symm) |(rw[<- C.2,QAA Wa])
 intro M;refine Qg (Cc (s:=l[i].s) (hx _ (QAp (Wa:i<l.length))).1 (hx _ (QAp (Wa:i<l.length))).2) Z Z (.inr Z) (aB ?_ ?_);intro G
 grind [wnR]
 intro G;refine Qc (i+1) ?_ ?_ ?_;exact Ql (l:=[1,7,8,9,900000]) (lH:=[]) (kp5 Z Z Z Z Z) Qb Z Z Z
 grind [Q9,wnR]
 omega;intro h1
 grind
theorem KA {c:CandT} (C:Qrj c):Ok Tryz.prog 83 [.agg (RE c),.int .i64 ((n:Nat):Int),gD] (.bool (cdN n c)):=by
 refine Ok.ia (ds:=[.agg (RE c),.int .i64 ((n:Nat):Int)]) (dg:=gD) tfol Tryz.func83 Qz4 (QAk Z) ?_;show TW _ _ tf83.body _ _;have G:=C.nl;have M:=C.bl;refine aX ?_ ?_;intro h1;refine Qs Z (aK ?_)
 grind [cdN]
 intro h1;refine aB ?_ ?_;intro h2
 grind [cdN]
 intro h2;refine Qt (ι:=Nat) (λi=>⟨[(1,.int .i64 ((n:Nat):Int)),(2,.ref 2 0 0),(18,Xm c.ns),(19,.int .i64 c.ns.length),(20,.int .i64 i),(900000,gD)],[(2,⟨[[.int .i64 (c).v.a,.int .i64 (c).v.b,.int .i64 (c).v.c,.str (c).v.p,.str (c).v.q,.int .i64 (c).sh,Xm (c).ns,ZR (c).bs]],8,70,true⟩)]⟩) (λi=>i<=c.ns.length/\(c.ns.take i).all (BF n)=true) (λi=>c.ns.length - i) 0 ?_ ?_ ?_;exact Ql (l:=[1,2,18,19,20,900000]) (lH:=[2]) (kp6 Z Z Z Z Z Z) (Qa Z Qb) Z Z Z;simp;intro i Y;refine aB ?_ ?_;intro V;refine aB ?_ ?_;intro U;refine Qs Z (aK ?_)
 (rw[cdN,Ro (p:=BF n) (l:=c.ns) (i:=i) Wa (by grind [BF])];simp)
 intro U;refine aB ?_ ?_;intro T;refine Qs Z (aK ?_)
 (rw[cdN,Ro (p:=BF n) (l:=c.ns) (i:=i) Wa (by grind [BF])];simp)
 intro T;refine Qg (Nn (C.rows _ (QAp (Wa:i<c.ns.length))).1 (C.rows _ (QAp (Wa:i<c.ns.length))).2) Z Z (.inr Z) (aB ?_ ?_);intro O
 (rw[cdN,Ro (p:=BF n) (l:=c.ns) (i:=i) Wa (by grind [BF])];simp)
 intro O;refine Qc (i+1) ?_ ?_ ?_;exact Ql (l:=[1,2,18,19,20,900000]) (lH:=[2]) (kp6 Z Z Z Z Z Z) (Qa Z Qb) Z Z Z
 grind [Q9,BF]
 omega;intro V;refine Qg (Nn C.bl C.bars) Z Z (.inr Z) (aK ?_)
 grind [cdN]
theorem Lr {a b:List UInt8} {a' b':List UInt8}:Ok Tryz.prog 80 [.agg [.str a,.str a'],.agg [.str b,.str b']] (.int .i64 (ZA [Jb a b,Jb a' b'])):=by
 refine Ok.n6 tfol Tryz.func80 Qz1 (QAk Z) ?_;show TW _ _ tf80.body _ _;refine aS ?_;refine Qr (ds0:=[2,1,0]) (Yp) Z Z (.inr Z) Z Z (aK ?_);refine Qr (ds0:=[2,1,0]) (Yp) Z Z (.inr Z) Z Z (Qn Z Z (Qr (ds0:=[0]) (MY (l:=[Jb a b,Jb a' b']) Wc) Z Z (.inr Z) Z Z (aK ?_)));rfl
theorem Qab {w:Qe} (hw:Po w):Ok Tryz.prog 51 [QW w,gD] (.bool (mayB w)):=by
 refine Ok.ia (ds:=[QW w]) (dg:=gD) tfol Tryz.func51 QzO (QAk Z) ?_;show TW _ _ tf51.body _ _;have hwl:=hw.len;refine aX ?_ ?_;intro h1;refine Qs Z (aK ?_);exact(Fr λh=>by have:=h.len;omega).symm
 intro h1;refine aB ?_ ?_;intro h2;refine Qs Z (aK ?_);exact(Fr λh=>by have:=h.len;omega).symm
 intro h2;refine aB ?_ ?_;intro h3;refine Qs Z (aK ?_);exact(Fr λh=>by have:=(h.u 0 Wa).r0 Wa rfl;grind).symm
 intro h3;refine aB ?_ ?_;intro h4;refine Qs Z (aK ?_);exact(Fr λh=>by have:=(h.u 0 Wa).r0 Wa rfl;grind).symm
 intro h4;refine aB ?_ ?_;intro h5;exact(Fr λh=>by have:=(h.u 0 Wa).r0 Wa rfl;grind).symm
 intro h5;refine Qt (ι:=Nat) (λi=>⟨[(1,.ref 1 0 0),(3,.int .i64 w.length),(43,.sl (w.map Zi)),(44,.int .i64 w.length),(45,.int .i64 i),(900000,gD)],[(1,⟨[[.sl ((w).map Zi)]],1,25,true⟩)]⟩) (λi=>i<=w.length/\∀j,j<i->UOk w j) (λi=>w.length - i) 0 ?_ ?_ ?_;exact Ql (l:=[1,3,43,44,45,900000]) (lH:=[1]) (kp6 Z Z Z Z Z Z) (Qa Z Qb) Z Z Z;simp;intro i hI;refine aV ?_ ?_;intro h6;refine aJ ?_;refine Hy (aJ ?_);refine aZ ?_;refine HO (ι:=Unit) (λ_=>⟨[(1,.ref 1 0 0),(3,.int .i64 w.length),(5,.ref 5 0 0),(43,.sl (w.map Zi)),(44,.int .i64 w.length),(45,.int .i64 i),(900000,gD)],[(1,⟨[[.sl ((w).map Zi)]],1,25,true⟩),(5,⟨[Zi (w[i]'Wa)],3,58,true⟩)]⟩) (λ_=>((0<i->(w[i]'Wa).n≠[])/\(1<i->HQ (w[i - 1]'Wa) (w[i]'Wa)=true))/\(w[i]'Wa).cs.length<=16) ?_ ?_
 skip
 refine aB ?_ ?_;intro h7;refine aB ?_ ?_;intro h8;refine Qs Z (aK ?_);exact(Fr λh=>(h.u i Wa).name Wa Wa Wa).symm;intro h8;refine aB ?_ ?_;intro h9;refine Qr (ds0:=dn 9) (Lr) Z Z (.inr Z) Z Z (aB ?_ ?_);intro h10;refine Qs Z (aK ?_);exact(Fr λh=>by have:=C8.2 ((h.u i Wa).ah Wa Wa);grind).symm
 intro h10;refine aB ?_ ?_;intro h11;exact(Fr λh=>by have:=(h.u i Wa).cl Wa;omega).symm
 intro h11;refine QT () ?_ ?_;exact Ql (l:=[1,3,5,43,44,45,900000]) (lH:=[1,5]) (kp7 Z Z Z Z Z Z Z) (Qa Z (Qa Z Qb)) Z Z Z
 grind [C8]
 intro h9;refine aB ?_ ?_;intro h12;exact(Fr λh=>by have:=(h.u i Wa).cl Wa;omega).symm
 intro h12;refine QT () ?_ ?_;exact Ql (l:=[1,3,5,43,44,45,900000]) (lH:=[1,5]) (kp7 Z Z Z Z Z Z Z) (Qa Z (Qa Z Qb)) Z Z Z
 grind
 intro h7;refine aB ?_ ?_;intro h13
 grind
 intro h13;refine aB ?_ ?_;intro h16
 (repeat clear hK K);simp_all
 intro h16;refine QT () ?_ ?_;exact Ql (l:=[1,3,5,43,44,45,900000]) (lH:=[1,5]) (kp7 Z Z Z Z Z Z Z) (Qa Z (Qa Z Qb)) Z Z Z;omega;intro _ M;refine aK ?_;refine Qt (ι:=Nat) (λk=>⟨[(1,.ref 1 0 0),(3,.int .i64 w.length),(5,.ref 5 0 0),(43,.sl (w.map Zi)),(44,.int .i64 w.length),(45,.int .i64 i),(92,Qbp (w[i]'Wa).cs),(93,.int .i64 (w[i]'Wa).cs.length),(94,.int .i64 k),(900000,gD)],[(1,⟨[[.sl ((w).map Zi)]],1,25,true⟩),(5,⟨[Zi (w[i]'Wa)],3,58,true⟩)]⟩) (λk=>k<=(w[i]'Wa).cs.length/\(∀j (C:j<(w[i]'Wa).cs.length),j<k->cdR w.length (w[i]'Wa).cs[j]=true/\(0<j->SS ((w[i]'Wa).cs[j - 1]'Wa).v (w[i]'Wa).cs[j].v<0))) (λk=>(w[i]'Wa).cs.length - k) 0 ?_ ?_ ?_;exact Ql (l:=[1,3,5,43,44,45,92,93,94,900000]) (lH:=[1,5]) (Qry Z Z Z Z Z Z Z Z Z Z) (Qa Z (Qa Z Qb)) Z Z Z;simp;intro k G;refine aB ?_ ?_;intro h17;refine Qr (ds0:=dn 24) (ZP (hw.a8 _ (QAp (Wa:i<w.length)) _ (QAp (Wa:k<(w[i]'Wa).cs.length))).v.1 (hw.a8 _ (QAp (Wa:i<w.length)) _ (QAp (Wa:k<(w[i]'Wa).cs.length))).v.2) Z Z (.inr Z) Z Z (aB ?_ ?_);intro Y;refine Qs Z (aK ?_);exact(Fr λh=>by have:=((h.u i Wa).a8 Wa k Wa).1;rw[cdR,QAo]at this;grind).symm
 intro Y;refine aB ?_ ?_;intro V;refine Qr (ds0:=dn 9) (Xq (hw.a8 _ (QAp (Wa:i<w.length)) _ (QAp Wa)).v.1 (hw.a8 _ (QAp (Wa:i<w.length)) _ (QAp Wa)).v.2 (hw.a8 _ (QAp (Wa:i<w.length)) _ (QAp Wa)).v.1 (hw.a8 _ (QAp (Wa:i<w.length)) _ (QAp Wa)).v.2) Z Z (.inr Z) Z Z (aB ?_ ?_);intro U;refine Qs Z (aK ?_);exact(Fr λh=>by have:=((h.u i Wa).a8 Wa k Wa).2 Wa;simp only[show((k:Int) - 1).toNat=k - 1 by omega]at*;grind [SS]).symm
 intro U;refine Qr (ds0:=[1,0]) (KA (hw.a8 _ (QAp (Wa:i<w.length)) _ (QAp (Wa:k<(w[i]'Wa).cs.length)))) Z Z (.inr Z) Z Z (aB ?_ ?_);intro T;exact(Fr λh=>by have:=((h.u i Wa).a8 Wa k Wa).1;rw[cdR,QAo]at this;grind).symm
 intro T;refine Qc (k+1) ?_ ?_ ?_;exact Ql (l:=[1,3,5,43,44,45,92,93,94,900000]) (lH:=[1,5]) (Qry Z Z Z Z Z Z Z Z Z Z) (Qa Z (Qa Z Qb)) Z Z Z;exact⟨Wa,QlI Wa G.2 (by rw[cdR,QAo];grind) (by(simp_all [SS]))⟩
 omega;intro V;refine Qr (ds0:=[1,0]) (KA (hw.a8 _ (QAp (Wa:i<w.length)) _ (QAp (Wa:k<(w[i]'Wa).cs.length)))) Z Z (.inr Z) Z Z (aB ?_ ?_);intro O;exact(Fr λh=>by have:=((h.u i Wa).a8 Wa k Wa).1;rw[cdR,QAo]at this;grind).symm
 intro O;refine Qc (k+1) ?_ ?_ ?_;exact Ql (l:=[1,3,5,43,44,45,92,93,94,900000]) (lH:=[1,5]) (Qry Z Z Z Z Z Z Z Z Z Z) (Qa Z (Qa Z Qb)) Z Z Z;exact⟨Wa,QlI Wa G.2 (by rw[cdR,QAo];grind) Wa⟩
 omega;intro h17;refine Qc (i+1) ?_ ?_ ?_;exact Ql (l:=[1,3,43,44,45,900000]) (lH:=[1]) (kp6 Z Z Z Z Z Z) (Qa Z Qb) Z Z Z;exact⟨Wa,QvG hI.2 ⟨λ_=>M.2,λ_ e=>⟨by grind,by grind,by grind⟩,λ_=>M.1.1,λ_=>M.1.2,λ_ j C=>G.2 j C Wa⟩⟩;omega;intro h6;refine aK ?_;exact(QmD ⟨Wa,λj C=>hI.2 j Wa⟩).symm
end Go.Proofs
namespace M25
open Go Go.Abs M3
variable {c q:List Int} {i j k m u:Nat} {ns:List (List QN)} {o:List Bool} {w:Qe}
def Jc (w:Qe) (c:List Int) (i:Nat):List (List QN):=match w[i]? with
 |some u=>match u.cs[(cA c i).toNat]? with
  |some y=>y.ns
  |none=>[]
 |none=>[]
inductive Ndd (w:Qe) (c:List Int):Nat->Prop
 |root:0<=cA c 0->Ndd w c 0
 |step {i:Nat} {r:List QN} {x:QN}:Ndd w c i->r∈Jc w c i->x∈r->mtM w c x=true->Ndd w c x.u.toNat
noncomputable def nddB (w:Qe) (c:List Int) (i:Nat):Bool:=@decide (Ndd w c i) (Classical.propDecidable _)
theorem Qf0 (h:Ndd w c i):nddB w c i=true:=@decide_eq_true _ (Classical.propDecidable _) h
theorem QmI (h:¬Ndd w c i):nddB w c i=false:=@decide_eq_false _ (Classical.propDecidable _) h
noncomputable def nddL (w:Qe) (c:List Int):List Bool:=(List.range c.length).map (nddB w c)
noncomputable def neededR (w:Qe) (c:List Int):List Bool:=if mayC w c=true then nddL w c else[]
noncomputable def tidyM (w:Qe) (c:List Int):List Int:=(List.range c.length).map λi=>if nddB w c i=true then cA c i else -1
noncomputable def tidyR (w:Qe) (c:List Int):List Int:=if mayC w c=true then tidyM w c else[]
def onB (o:List Bool) (i:Nat):Bool:=o.getD i false
def vc (w:Qe) (c:List Int) (o:List Bool) (i:Nat):Prop:=∀r∈Jc w c i,∀x∈r,mtM w c x=true->onB o x.u.toNat=true
structure ma (w:Qe) (c:List Int) (o:List Bool):Prop where
 len:o.length=c.length
 snd:∀i,onB o i=true->Ndd w c i
 root:0<=cA c 0->onB o 0=true
theorem Qcp (h:onB o i=true):i<o.length:=by
 unfold onB at h
 grind
theorem NP (h:i<o.length):onB o i=o[i]:=by
 unfold onB;grind
theorem ma.done (h:ma w c o) (C:∀i,onB o i=true->vc w c o i):o=nddL w c:=by
 have key:∀i,Ndd w c i->onB o i=true:=λi hi=>by
  induction hi with
  |root h0=>exact h.root h0
  |step _ hr hx hm ih=>exact C _ ih _ hr _ hx hm
 apply List.ext_getElem;simp[nddL,h.len];intro i h1 h2;simp only[nddL,QBG,List.getElem_range];rw[<- NP h1];cases e:onB o i with
 |true=>exact(Qf0 (h.snd i e)).symm
 |false=>grind [QmI]
theorem Z3 (hi:i<o.length):onB (o.set i true) j=(decide (i=j)||onB o j):=by
 unfold onB
 grind
theorem ma.put (h:ma w c o) (hi:i<o.length) (G:Ndd w c i):ma w c (o.set i true) where
 len:=by rw[List.length_set,h.len]
 snd:=λj C=>by
  rw[Z3 hi,QBp,decide_eq_true_eq]at C;rcases C with rfl |C
  omega;exact h.snd j C
 root:=λh0=>by rw[Z3 hi,h.root h0,QBu]
theorem vc.mono (hk:k<o.length) (h:vc w c o i):vc w c (o.set k true) i:=λr hr x hx hm=>by
 rw[Z3 hk,h r hr x hx hm,QBu]
def DS (o:List Bool):Nat:=o.countP λb=>!b
theorem Qkl (o:List Bool):DS o<=o.length:=List.countP_le_length
theorem L4:∀{o:List Bool} {i:Nat} (h:i<o.length),o[i]=false->DS (o.set i true)+1=DS o
 |b::o,0,h,hb=>by
  grind [DS]
 |b::o,i+1,h,hb=>by
  simp only[List.getElem_cons_succ]at hb
  grind [DS]
theorem KN (hi:i<w.length) (C:i<c.length) (hp:c[i].toNat<w[i].cs.length):Jc w c i=w[i].cs[c[i].toNat].ns:=by
 grind [Jc,HX]
theorem MJ (hw:WSm w) (hr:WIn w) (C:T1 w c) (h0:0<c.length) (h:Ndd w c i):∃hi:i<c.length,0<=c[i]:=by
 induction h with
 |root h=>grind [cA]
 | @step i r x _ hr1 hx hm ih=>
  obtain⟨hi,hp⟩:=ih;have G:i<w.length:=by rw[<- C.len];omega
  have hb:=Ms C hi;have M:=PB hb.2 hp;rw[KN G hi M]at hr1;have hu:=hr.nr _ (QAp G) _ (QAp M) r hr1 x hx;have O:x.u.toNat<c.length:=by rw[C.len];omega
  grind [QdD]
structure ua (w:Qe) (c:List Int) (o:List Bool) (q:List Int) (ex:Nat->Prop):Prop where
 nd:ma w c o
 fh:∀v∈q,(0<=v/\v<c.length)/\onB o v.toNat=true
 cl:∀i,onB o i=true->(i:Int)∈q\/ex i\/vc w c o i
 bd:2*DS o+q.length<=2*o.length
abbrev QS:=List Bool × List Int × Int × Bool
variable {s:QS}
structure QI (w:Qe) (c:List Int) (s:QS):Prop where
 on:s.2.2.2=true->ua w c s.1 s.2.1 (·=s.2.2.1.toNat)/\(0<=s.2.2.1/\s.2.2.1<c.length)/\onB s.1 s.2.2.1.toNat=true
 off:s.2.2.2=false->ua w c s.1 [] (λ_=>False)
def muQ (s:QS):Nat:=2*DS s.1+s.2.1.length+(if s.2.2.2=true then 1 else 0)
def tkQ (o:List Bool) (q:List Int):QS:=(o,q.tail,q.headD 0,!q.isEmpty)
theorem ua.take (h:ua w c o q λ_=>False):QI w c (tkQ o q):=by
 cases q with
 |nil=>exact⟨λe=>(by cases e),λ_=>h⟩
 |cons v q=>
  refine⟨λ_=>⟨⟨h.nd,λx hx=>h.fh x (QBm _ hx),λi hi=>?_,(by have:=h.bd;simp only[QAZ]at this;show 2*DS o+q.length<=2*o.length;omega)⟩,(h.fh v Wc).1,(h.fh v Wc).2⟩,λe=>(by cases e)⟩
  rcases h.cl i hi with h1 |h1 |h1;rcases QAm.1 h1 with h1 |h1;refine .inr (.inl ?_);show i=v.toNat
  omega;exact .inl h1
  grind
  exact .inr (.inr h1)
theorem QmG (h:2*DS o+q.length<=m):muQ (tkQ o q)<=m:=by
 cases q with
 |nil=>trivial
 |cons v q=>trivial
def ib (w:Qe) (c:List Int) (o:List Bool) (ns:List (List QN)) (k:Nat):Prop:=∀k' (h:k'<ns.length),k'<k->∀x∈ns[k'],mtM w c x=true->onB o x.u.toNat=true
def s9 (w:Qe) (c:List Int) (o:List Bool) (r:List QN) (j:Nat):Prop:=∀j' (h:j'<r.length),j'<j->mtM w c r[j']=true->onB o r[j'].u.toNat=true
structure td (w:Qe) (c:List Int) (u m:Nat) (ns:List (List QN)) (k:Nat) (o:List Bool) (q:List Int):Prop where
 inv:ua w c o q (·=u)
 on:onB o u=true
 mu:2*DS o+q.length<=m
 rows:ib w c o ns k
theorem td.len {w:Qe} {c:List Int} {u m:Nat} {ns:List (List QN)} {k:Nat} {o:List Bool} {q:List Int} (h:td w c u m ns k o q):o.length=c.length:=h.inv.nd.len
theorem td.start (h:QI w c s) (hb:s.2.2.2=true) (ns:List (List QN)):td w c s.2.2.1.toNat (2*DS s.1+s.2.1.length) ns 0 s.1 s.2.1:=
 ⟨(h.on hb).1,(h.on hb).2.2,QAK _,λ_ _ h=>absurd h (QBH _)⟩
theorem td.next (h:td w c u m ns k o q) (hk:k<ns.length) (hr:s9 w c o ns[k] j) (T:ns[k].length<=j):td w c u m ns (k+1) o q:=
 ⟨h.inv,h.on,h.mu,λk' O M x hx hm=>by
  by_cases e:k'=k
  subst e;obtain⟨G,C,rfl⟩:=QBF.1 hx;exact hr G C Wa hm;exact h.rows k' O Wa x hx hm⟩
theorem s9.next {r:List QN} (h:s9 w c o r j) (O:j<r.length) (h1:mtM w c r[j]=true->onB o r[j].u.toNat=true):s9 w c o r (j+1):=λC M G hm=>by
 by_cases e:C=j
 grind
 exact h C M Wa hm
theorem s9.set {w:Qe} {c:List Int} {o:List Bool} {r:List QN} {j i:Nat} (hi:i<o.length) (h:s9 w c o r j):s9 w c (o.set i true) r j:=λG M C hm=>by
 rw[Z3 hi,h G M C hm,QBu]
theorem td.put {w:Qe} {c:List Int} {u m:Nat} {ns:List (List QN)} {k:Nat} {o:List Bool} {q:List Int} (h:td w c u m ns k o q) (hk:k<ns.length) {x:QN} (hx:x∈ns[k]) (M:Jc w c u=ns) (hm:mtM w c x=true) (h0:0<=x.u) (h1:x.u<c.length) (V:onB o x.u.toNat=false):
  td w c u m ns k (o.set x.u.toNat true) (q++[x.u]):=by
 have hi:x.u.toNat<o.length:=by rw[h.len];omega
 have hN:Ndd w c x.u.toNat:=.step (h.inv.nd.snd _ h.on) (M ▸ QAp hk) hx hm;have G:=L4 hi (by grind [NP]);refine⟨⟨h.inv.nd.put hi hN,λv C=>?_,λi h2=>?_,by have:=h.inv.bd;grind⟩,by rw[Z3 hi,h.on,QBu], ?_,λk' h' T y Y O=>by rw[Z3 hi,h.rows k' h' T y Y O,QBu]⟩
 rcases QAv.1 C with C |C;obtain⟨a,b⟩:=h.inv.fh v C
 (repeat clear hK K);simp_all [Z3]
 grind [Z3]
 rw[Z3 hi,QBp,decide_eq_true_eq]at h2
 by_cases e:x.u.toNat=i
 grind
 rcases h.inv.cl i (h2.resolve_left e)with U |U |U
 grind
 omega;exact .inr (.inr (U.mono hi));have:=L4 hi (by grind [NP]);have h4:=h.mu
 grind
theorem td.stop (h:td w c u m ns k o q) (hk:ns.length<=k) (C:Jc w c u=ns):ua w c o q λ_=>False:=
 ⟨h.inv.nd,h.inv.fh,λi hi=>by
  rcases h.inv.cl i hi with h1 |h1 |h1
  grind
  have e:i=u:=h1;subst e;refine .inr (.inr λr hr x hx hm=>?_);rw[C]at hr;obtain⟨k',G,rfl⟩:=QBF.1 hr;exact h.rows k' G Wa x hx hm
  grind,h.inv.bd⟩
theorem QI.stop (h:QI w c s) (hb:s.2.2.2=false):s.1=nddL w c:=
 (h.off hb).nd.done λi hi=>by
  rcases(h.off hb).cl i hi with h1 |h1 |h1
  grind
  grind
  omega
theorem Sk (n i:Nat):onB (List.replicate n false) i=false:=by
 unfold onB
 grind
theorem ua.none (h0:¬0<=cA c 0):ua w c (List.replicate c.length false) [] λ_=>False:=
 ⟨⟨by simp,λi hi=>(by grind [Sk]),λh=>absurd h h0⟩,λv C=>Wb,λi hi=>(by grind [Sk]),by grind [Qkl]⟩
theorem ua.first (M:0<c.length) (h0:0<=cA c 0):ua w c ((List.replicate c.length false).set 0 true) [0] λ_=>False:=by
 have C:0<(List.replicate c.length false).length:=by grind
 refine⟨⟨by simp,λi hi=>?_,λ_=>by grind [Z3]⟩,λv G=>?_,λi hi=>.inl ?_, ?_⟩;rw[Z3 C,Sk,Bool.or_false,decide_eq_true_eq]at hi;subst hi;exact .root h0
 grind [Z3]
 (repeat clear hK K);simp_all [Z3,Sk]
 have h1:=L4 C Wc;have h2:=Qkl (List.replicate c.length false)
 grind
structure SI (w:Qe) (c:List Int) (o0:List Bool) (i:Nat) (o:List Bool):Prop where
 nd:ma w c o
 mono:∀j,onB o0 j=true->onB o j=true
 qh:o=o0\/DS o+1<=DS o0
 prev:∀j,j<i->onB o0 j=true->vc w c o j
structure SR (w:Qe) (c:List Int) (o0:List Bool) (i:Nat) (ns:List (List QN)) (a:Nat) (o:List Bool):Prop where
 si:SI w c o0 i o
 on:onB o i=true
 rows:ib w c o ns a
def QkO (w:Qe) (c:List Int) (o:List Bool):Prop:=∀i,onB o i=true->vc w c o i
structure SK (w:Qe) (c:List Int) (k:Nat) (o:List Bool):Prop where
 nd:ma w c o
 cl:QkO w c o\/k+1+DS o<=o.length
theorem GC (w:Qe) (c:List Int):(tidyM w c).length=c.length:=by simp[tidyM]
noncomputable def tidyUp (w:Qe) (c:List Int) (i:Nat):List Int:=(tidyM w c).take i++List.replicate (c.length - i) 0
noncomputable def tdAt (w:Qe) (c:List Int) (i:Nat):Int:=if nddB w c i=true then cA c i else -1
theorem TS (hi:i<c.length):(tidyUp w c i).set i (tdAt w c i)=tidyUp w c (i+1):=by
 apply List.ext_getElem
 grind [tidyUp,GC]
 intro n h1 h2;simp only[tidyUp,List.length_set,QAY,QAQ,GC,List.length_replicate]at h1 h2;rw[List.getElem_set]
 grind [tidyUp,tidyM,tdAt]
theorem QdR (hi:c.length<=i):tidyUp w c i=tidyM w c:=by
 (repeat clear hK K);simp_all [tidyUp,QAA,GC]
theorem GZ (hi:i<=c.length):(tidyUp w c i).length=c.length:=by grind [tidyUp,GC]
theorem PW (w:Qe) (c:List Int):(nddL w c).length=c.length:=by simp[nddL]
theorem L1 (hi:i<(nddL w c).length):(nddL w c)[i]=nddB w c i:=by simp[nddL]
theorem C2 (h:mayC w c=true):neededR w c=nddL w c:=if_pos h
theorem Qa2 (h:mayC w c=true):tidyR w c=tidyM w c:=if_pos h
theorem Qn8 (h:mayC w c=false):tidyR w c=[]:=if_neg Wb
end M25
namespace Go.Proofs
open Go Go.Abs M3 M25
def rI (v:Int):List D:=[.int .i64 v]
def rB (b:Bool):List D:=[.bool b]
theorem Qkr {α:Type} {x:α} {n k:Int} (h0:0<=k) (h:k<n):(List.replicate n.toNat x)[k.toNat]?=some x:=by
 grind
theorem Qky {o:List Bool} {k:Nat}:(o.map rB).set k [.bool true]=(o.set k true).map rB:=List.map_set.symm
theorem Qgx {n:Nat}:List.replicate (n:Int).toNat [D.bool false]=(List.replicate n false).map rB:=by
 rw[List.map_replicate];rfl
end Go.Proofs
namespace M25
open Go Go.Abs M3
def wAwk:Qe:=[⟨[],[],[⟨⟨0,0,0,[],[]⟩,0,[[⟨1,([(ZS,XW)],[(ZS,XW)])⟩]],[]⟩]⟩,⟨[98],[],[⟨⟨1,0,0,[],[]⟩,0,[],[]⟩]⟩,⟨[99],[],[⟨⟨0,0,0,[],[]⟩,0,[],[]⟩]⟩]
theorem Li:Po wAwk:=by
 have M:Sm [(ZS,XW)]:=⟨by decide,λs C=>by simp only[QAt]at C;subst C;trivial⟩
 refine⟨by decide,λu hu=>?_,λu hu=>?_,λu hu c G=>?_⟩<;>simp only[wAwk,QAm,QAl,or_false]at hu<;>rcases hu with rfl |rfl |rfl
 simp;simp;simp;simp;simp;simp
 all_goals
  simp only[QAt]at G;subst G;refine⟨⟨by decide,by decide⟩,by decide,by decide,λr hr=>?_,λx hx=>by grind⟩
 all_goals grind
theorem B7:fc wAwk:=⟨by decide,λi hi=>by
 have G:i=0\/i=1\/i=2:=by
  have:wAwk.length=3:=rfl;omega
 have one:∀{cs:List CandT},cs.length=1->(∀h:0<cs.length,cdR 3 cs[0]=true)->∀k (hk:k<cs.length),cdR 3 cs[k]=true/\(0<k->SS (cs[k - 1]'Wa).v cs[k].v<0):=λh1 h2 k hk=>by
  grind
 have k0:cdR 3 ⟨⟨0,0,0,[],[]⟩,0,[[⟨1,([(ZS,XW)],[(ZS,XW)])⟩]],[]⟩=true:=by rfl
 have C:cdR 3 ⟨⟨1,0,0,[],[]⟩,0,[],[]⟩=true:=by rfl
 have k2:cdR 3 ⟨⟨0,0,0,[],[]⟩,0,[],[]⟩=true:=by rfl
 have M:HQ ⟨[98],[],[⟨⟨1,0,0,[],[]⟩,0,[],[]⟩]⟩ ⟨[99],[],[⟨⟨0,0,0,[],[]⟩,0,[],[]⟩]⟩=true:=by rfl
 rcases G with rfl |rfl |rfl;exact⟨λ_=>(by decide:(1:Nat)<=16),λ_ _=>⟨rfl,rfl,rfl⟩,λ_ h=>absurd h We,λ_ h=>absurd h We,λ_=>one rfl λ_=>k0⟩;exact⟨λ_=>(by decide:(1:Nat)<=16),λ_ h=>absurd h We,λ_ _=>(by decide:([98]:List UInt8)≠[]),λ_ h=>absurd h We,λ_=>one rfl λ_=>C⟩;exact⟨λ_=>(by decide:(1:Nat)<=16),λ_ h=>absurd h We,λ_ _=>(by decide:([99]:List UInt8)≠[]),λ_ _=>M,λ_=>one rfl λ_=>k2⟩⟩
theorem Qti {a b d:Int} (h0:(-1<=a/\a<1)/\(-1<=b/\b<1)/\(-1<=d/\d<1)):wa wAwk [a,b,d]:=⟨rfl,λi hi h2=>by
 have C:i=0\/i=1\/i=2:=by
  grind
 rcases C with rfl |rfl |rfl;exact h0.1;exact h0.2.1;exact h0.2.2⟩
theorem Qeo:wrongR wAwk [0, -1, -1]=[⟨2,0,0⟩]:=by
 rw[Hp (Pf B7 (Qti We))];rfl
theorem Qen:holdsR wAwk [0,0, -1]=true:=by
 have h:=Pf B7 (Qti (a:=0) (b:=0) (d:=-1) We);rw[holdsR,h,Hp h];rfl
theorem Qo7:mayC wAwk [0,1, -1]=false:=LY λh=>by
 have:=(h.bd 1 We We).2;trivial
theorem QhX:tidyR wAwk [0,0,0]=[0,0, -1]:=by
 have h:=Pf B7 (Qti (a:=0) (b:=0) (d:=0) We);have hx:mtM wAwk [0,0,0] ⟨1,([(ZS,XW)],[(ZS,XW)])⟩=true:=by rfl
 have G:Ndd wAwk [0,0,0] 0:=.root We;have O:Ndd wAwk [0,0,0] 1:=.step (x:=⟨1,([(ZS,XW)],[(ZS,XW)])⟩) (r:=[⟨1,([(ZS,XW)],[(ZS,XW)])⟩]) G (by simp[Jc,wAwk,cA]) Wc hx
 have e:[true,true,false]=nddL wAwk [0,0,0]:=by
  refine ma.done ⟨rfl,λi hi=>?_,λ_=>rfl⟩ λi hi=>?_;have M:=Qcp hi;have:i=0\/i=1\/i=2:=by grind
  rcases this with rfl |rfl |rfl;omega;omega;trivial;have M:=Qcp hi
  have:i=0\/i=1\/i=2:=by grind
  rcases this with rfl |rfl |rfl;intro r hr x C _;have:Jc wAwk [0,0,0] 0=[[⟨1,([(ZS,XW)],[(ZS,XW)])⟩]]:=rfl
  rw[this]at hr;simp only[QAt]at hr;subst hr;simp only[QAt]at C;subst C;rfl;intro r hr;trivial;trivial
 have at':∀i (hi:i<3),nddB wAwk [0,0,0] i=[true,true,false][i]:=λi hi=>by
  grind [L1]
 rw[Qa2 h,tidyM];simp only[QAZ,List.length_nil,List.range_succ,List.range_zero,QBy,QBi,QAX,QBr];rw[at' 0 We,at' 1 We,at' 2 We];rfl
section
variable {w:Qe} {al c:List Int} {order:List (List Int)} {a b:Int}
end
section
variable {w:Qe} {al c:List Int} {order:List (List Int)}
end
section
variable {w:Qe} {al c:List Int}
end
def hsL (w:Qe) (x:QN):List Bool:=match w[x.u.toNat]? with
 |some y=>y.cs.map λk=>Qma x.s k.v
 |none=>[]
def mtP (w:Qe) (c:List Int) (x:QN):Bool:=decide (0<=cA c x.u)&&(hsL w x).getD (cA c x.u).toNat false
def mtL (w:Qe) (c:List Int) (l:Nat) (x:QN):Bool:=decide (x.u<=(l:Int))&&mtP w c x
def Qxm (u:Int) (r:List QN):Int:=r.foldl (λa x=>max a x.u) u
def QxX (w:Qe) (c:List Int) (l u:Nat) (r:List QN):Bool:=decide ((l:Int)<Qxm u r)||r.any (mtL w c l)
def Qt5 (w:Qe) (c:List Int) (l u:Nat):Bool:=match w[u]? with
 |some y=>(match y.cs[(cA c u).toNat]? with
  |some k=>k.ns.all (QxX w c l u)&&!(k.bs.any (mtL w c l))
  |none=>false)
 |none=>false
def Qtn (w:Qe) (c:List Int) (l u:Nat):Bool:=decide (cA c u<0)||Qt5 w c l u
def QpN (w:Qe) (c:List Int) (l:Nat):Bool:=(List.range (l+1)).all (Qtn w c l)
structure Qop (σ:Type) where
 st:σ->List Int->σ × Bool
 ok:σ->Nat->Prop
 step:∀{s c k},ok s (k+1)->ok (st s c).1 k
 mono:∀{s j k},ok s k->j<=k->ok s j
section
variable {w:Qe} {c c':List Int} {l:Nat}
end
end M25
namespace M25
open Go Go.Abs M3
structure PreW (w:Qe) (q:List Int):Prop where
 len:q.length<=w.length
 bd:∀u (h:u<q.length) (h2:u<w.length), -1<=q[u]/\q[u]<w[u].cs.length
 inv:q≠[]->QpN w q (q.length - 1)=true/\0<=cA q 0
section
variable {w:Qe} (hw:WSm w) (hr:WIn w) (h0:0<w.length)
include hw hr h0
end
end M25
namespace M25
open Go Go.Abs M3
def dWk (w:Qe) (x:QN):List D:=[.int .i64 x.u,X9 (hsL w x)]
def Qv7 (w:Qe) (r:List QN):D:=.sl (r.map (dWk w))
def Qtf (w:Qe) (k:CandT):List D:=[.sl (k.ns.map λr=>[Qv7 w r]),Qv7 w k.bs]
def QlR (w:Qe) (u:Rj):D:=.sl (u.cs.map (Qtf w))
def Qpo (w:Qe):D:=.sl (w.map λu=>[QlR w u])
section
variable {w:Qe} {x:QN}
end
end M25
namespace M25
open Go Go.Abs M3
section
variable {w:Qe} {c:List Int} {l:Nat} {x:QN}
section
variable {u:Nat} (hu:u<w.length) (huc:u<c.length) (hk:c[u].toNat<w[u].cs.length)
include hu huc hk
end
section
variable {u:Nat} (hu:u<w.length)
include hu
end
structure BQ (w:Qe) (c:List Int) (o:List Bool) (q:List Int) (i:Nat):Prop where
 nd:ma w c o
 cnt:q.length+DS o=c.length
 on:∀j (h:j<q.length),0<=q[j]/\onB o q[j].toNat=true
 all:∀u:Nat,onB o u=true->∃j,∃h:j<q.length,q[j]=(u:Int)
 cl:∀j (h:j<q.length),j<i->vc w c o q[j].toNat
structure BQ1 (w:Qe) (c:List Int) (o:List Bool) (q:List Int) (i:Nat) (u:Int) (ns:List (List QN)) (k:Nat):Prop where
 b:BQ w c o q i
 hi:i<q.length
 cur:q[i]=u
 rows:ib w c o ns k
end
end M25
namespace Go.Abs
open Go
variable {d:D}
mutual
def D.wk:D->D->Bool
 | .undef,.undef=>true
 | .top,.top=>true
 | .int k n,.int j m=>decide (k=j)&&decide (n=m)
 | .bool a,.bool b=>decide (a=b)
 | .str a,.str b=>decide (a=b)
 | .sl a,.sl b=>wkR a b
 | .z7 a,.sl b=>wkR a b
 | .z7 a,.z7 b=>wkR a b
 | .ptr a,.ptr b=>wkL a b
 | .agg a,.agg b=>wkL a b
 |d,.o8=>d.y4
 |_,_=>false
def wkR:List (List D)->List (List D)->Bool
 |[],[]=>true
 |a::az,b::bs=>wkL a b&&wkR az bs
 |_,_=>false
def wkL:List D->List D->Bool
 |[],[]=>true
 |a::az,b::bs=>a.wk b&&wkL az bs
 |_,_=>false
end
theorem Qho {d':D} (h:d.wk d'=true) (C:d.y4=true):d'.y4=true:=by
 cases d<;>cases d'<;>first |rfl |omega |trivial
theorem Qa6:∀{a b:List D},wkL a b=true->a.length=b.length
 |[],[],_=>rfl
 |_::az,_::bs,h=>by
  simp only[wkL,QAo]at h;simp[Qa6 h.2]
 |[],_::_,h=>by trivial
 |_::_,[],h=>by trivial
theorem DN:∀{a b:List (List D)},wkR a b=true->a.length=b.length
 |[],[],_=>rfl
 |_::az,_::bs,h=>by
  simp only[wkR,QAo]at h;simp[DN h.2]
 |[],_::_,h=>by trivial
 |_::_,[],h=>by trivial
theorem DM {l0:Nat}:∀{a b:List (List D)},wkR a b=true->(∀r∈a,r.length=l0)->∀r∈b,r.length=l0
 |[],[],_,_,r,hr=>by grind
 |x::az,y::bs,h,hl,r,hr=>by
  simp only[wkR,QAo]at h;rcases QAm.1 hr with rfl |hr
  rw[<- Qa6 h.1];grind;exact DM h.2 (λr hr=>hl r Wb) r hr
 |[],_::_,h,_,_,_=>by trivial
 |_::_,[],h,_,_,_=>by grind
section
variable {K:Kn}
mutual
theorem TY:∀(d d':D) (v:Value),d.wk d'=true->l3 K d v->l3 K d' v
 | .int k n,d',v,h,e=>by
  cases d'<;>simp only[D.wk,QAo,decide_eq_true_eq,QAs]at h
  exact l3.cell e rfl
  grind
 | .bool b,d',v,h,e=>by
  cases d'<;>simp only[D.wk,decide_eq_true_eq,QAs]at h
  exact l3.cell e rfl
  grind
 | .str b,d',v,h,e=>by
  cases d'<;>simp only[D.wk,decide_eq_true_eq,QAs]at h
  exact l3.cell e rfl
  grind
 | .sl rows,d',v,h,e=>by
  cases d'<;>simp only[D.wk,QAs]at h
  exact l3.cell e rfl;rename_i rows';simp only[l3]at e ⊢;obtain⟨a,cap,h1,h2,G⟩:=e;rw[DN h]at h1 h2;refine⟨a,cap,h1,h2,G.imp (λO=>?_) ?_⟩
  grind [wkR]
  rintro⟨b,off,l0,g1,g2,M⟩;exact⟨b,off,l0,g1,DM h g2,DO b off rows rows' h M⟩
 | .z7 rows,d',v,h,e=>by
  cases d'<;>simp only[D.wk,QAs]at h
  exact l3.cell e rfl;rename_i rows';simp only[l3]at e ⊢;obtain⟨a,h1,G⟩:=e;rw[DN h]at h1;refine⟨a,_,h1,QAK _,G.imp (λO=>?_) ?_⟩
  grind [wkR]
  rintro⟨b,off,l0,g1,g2,M⟩;exact⟨b,off,l0,g1,DM h g2,DO b off rows rows' h M⟩;rename_i rows';simp only[l3]at e ⊢;obtain⟨a,h1,G⟩:=e;rw[DN h]at h1;refine⟨a,h1,G.imp (λO=>?_) ?_⟩
  grind [wkR]
  rintro⟨b,off,l0,g1,g2,M⟩;exact⟨b,off,l0,g1,DM h g2,DO b off rows rows' h M⟩
 | .ptr cs,d',v,h,e=>by
  cases d'<;>simp only[D.wk,QAs]at h
  exact l3.cell e rfl;rename_i C;simp only[l3]at e ⊢;obtain⟨b,off,h1,h2⟩:=e;exact⟨b,off,h1,Qa4 b off cs C h h2⟩
 | .agg cs,d',v,h,e=>by
  cases d'<;>simp only[D.wk,QAs]at h
  trivial;rename_i C;simp only[l3]at e ⊢;obtain⟨vs,h1,h2⟩:=e;exact⟨vs,h1,Qhn cs C vs h h2⟩
 | .undef,d',v,h,e=>by
  cases d'<;>simp only[D.wk,QAs]at h
  omega;trivial
 | .top,d',v,h,e=>by
  cases d'<;>simp only[D.wk,QAs]at h
  omega;trivial
 | .o8,d',v,h,e=>by
  grind [D.wk]
 | .s4 ..,d',v,h,e=>by trivial
 | .y9 ..,d',v,h,e=>by trivial
 | .ref ..,d',v,h,e=>by trivial
 | .o9 ..,d',v,h,e=>by trivial
 | .u7 ds,d',v,h,e=>by
  grind [D.wk,D.y4]
 | .w9 cs x,d',v,h,e=>by
  grind [D.wk,D.y4]
 | .w8 f caps,d',v,h,e=>by
  cases d'<;>simp only[D.wk,QAs]at h
  exact l3.cell e rfl
 | .fe f caps,d',v,h,e=>by
  cases d'<;>simp only[D.wk,QAs]at h
  exact l3.cell e rfl
 | .val x,d',v,h,e=>by
  cases d'<;>simp only[D.wk,QAs]at h
  exact l3.cell e rfl
theorem DO (b:Nat):∀(off:Nat) (rs C:List (List D)),wkR rs C=true->u5 K b off rs->u5 K b off C
 |_,[],[],_,_=>Wa
 |off,r::rs,G::C,h,e=>by
  simp only[wkR,QAo]at h;simp only[u5]at e ⊢;rw[<- Qa6 h.1];exact⟨Qa4 b off r G h.1 e.1,DO b _ rs C h.2 e.2⟩
 |_,[],_::_,h,_=>by trivial
 |_,_::_,[],h,_=>by trivial
theorem Qa4 (b:Nat):∀(off:Nat) (ds ds':List D),wkL ds ds'=true->z4 K b off ds->z4 K b off ds'
 |_,[],[],_,_=>Wa
 |off,d::ds,d'::ds',h,e=>by
  simp only[wkL,QAo]at h;simp only[z4]at e ⊢;obtain⟨⟨h1,x,h2,G⟩,C⟩:=e;exact⟨⟨Qho h.1 h1,x,h2,TY d d' x h.1 G⟩,Qa4 b _ ds ds' h.2 C⟩
 |_,[],_::_,h,_=>by trivial
 |_,_::_,[],h,_=>by trivial
theorem Qhn:∀(ds ds':List D) (vs:List Value),wkL ds ds'=true->x5 K ds vs->x5 K ds' vs
 |[],[],vs,_,e=>e
 |d::ds,d'::ds',v::vs,h,e=>by
  simp only[wkL,QAo]at h;simp only[x5]at e ⊢;exact⟨⟨Qho h.1 e.1.1,TY d d' v h.1 e.1.2⟩,Qhn ds ds' vs h.2 e.2⟩
 |d::ds,d'::ds',[],_,e=>by trivial
 |[],_::_,_,h,_=>by trivial
 |_::_,[],_,h,_=>by trivial
end
theorem Qhp:∀{ds ds':List D} {vs:List Value},wkL ds ds'=true->j5 K ds vs->j5 K ds' vs
 |[],[],_,_,e=>e
 |d::ds,d'::ds',v::vs,h,e=>by
  simp only[wkL,QAo]at h;simp only[j5]at e ⊢;exact⟨TY d d' v h.1 e.1,Qhp h.2 e.2⟩
 |d::ds,d'::ds',[],_,e=>by trivial
 |[],_::_,_,h,_=>by trivial
 |_::_,[],_,h,_=>by trivial
end
theorem Ok.ye {P:Program} {f:Nat} {ds ds':List D} (h:Ok P f ds' d) (hw:wkL ds ds'=true):Ok P f ds d:=
 ⟨h.1,λK w vs hk C=>h.2 K w vs hk (Qhp hw C)⟩
section
variable {P:Program} {fr:QAi} {H:QAh} {r:List z1} {K:St->Prop} {t t0:Nat} {rows:List (List D)}
end
end Go.Abs
namespace Go.Proofs
open Go Go.Abs M3 M25
abbrev HW (h cu wk:Nat) (w:Qe) (c:List Int) (hb:Bool) (f:Nat) (ps:List D) (b1 b2:u4):QAh:=
 [(500001,b1),(h,b2),(cu,⟨c.map rI,1,3,true⟩),(wk,⟨[[Qpo w,.s4 cu c.length,.bool hb,.o9 f h ps]],4,179,false⟩)]
end Go.Proofs
namespace Go.Abs
open Go
end Go.Abs
namespace Go.Proofs
open Go Go.Abs M3 M25
structure QhN {σ:Type} (w:Qe) (hb:Bool) (p:Qop σ) (B1 B2:σ->u4) (f:Nat) (ps:List D):Prop where
 p1:∀s,(B1 s).pr=true
 s1:∀s,∀r∈(B1 s).rows,∀d∈r,d.l4=[]
 s2:∀s,∀r∈(B2 s).rows,∀d∈r,∀j∈d.l4,j=500001
 cap:ps.all D.fa=true
 n5:∀ρ:Nat->Nat,(ps.map λd=>(d.n5 ρ).can)=ps
 ids:∀d∈ps,d.ids=[]
 ok:∀s cur c,p.ok s 1->s6 Tryz.prog f (Qz c::.ref 2000006 0 0::ps) (HW 2000006 2500003 2500000 w cur hb f ps (B1 s) (B2 s)) (.bool (p.st s c).2) (HW 2000006 2500003 2500000 w cur hb f ps (B1 (p.st s c).1) (B2 (p.st s c).1))
section
variable {σ:Type} {w:Qe} {hb:Bool} {p:Qop σ} {B1 B2:σ->u4} {f:Nat} {ps:List D} (hp:QhN w hb p B1 B2 f ps)
include hp
omit hp in
omit hp in
end
end Go.Proofs
namespace M25
open Go Go.Abs M3
section
variable {σ:Type} {p:Qop σ} {F:Nat->List (List Int)} {s s':σ} {j n:Nat}
end
section
variable {w:Qe} {c q:List Int} {l:Nat} {x:Int}
end
end M25
namespace Go.Abs
open Go
section
variable {P:Program} {nt:Nat} {E:Env}
end
end Go.Abs
namespace M25
open Go Go.Abs M3
section
variable {w:Qe} {c:List Int}
end
end M25
namespace Go.Abs
open Go
def Qwt:List (List UInt8):=[[111,110,101],[116,119,111]]
def QgV:List (List UInt8):=[]::Qwt
def tName:List (List UInt8):=[[97,112,112],[98],[99],[100],[101,45,50]]
def tWord:List (List UInt8):=[[120],[121],[122],[119,95,49]]
def tOpt:List (List UInt8):=[]::tWord
def Qa0:List (List UInt8):=[[100,101,102,97,117,108,116],[120],[121],[122]]
def tVer:List (List UInt8):=[[48,46,48,46,48],[48,46,49,46,48],[49,46,48,46,48],[49,46,49,46,48],[50,46,48,46,48],[50,46,49,46,48]]
def tOp:List (List UInt8):=[[94],[62,61],[60],[61],[33,61]]
def tRange:List (List UInt8):=[42]::tOp.flatMap λo=>tVer.map λv=>o++v
def tKey:List (List UInt8):=[[111,115],[97,114,99,104],[97,98,105]]
def tSign:List (List UInt8):=[[32,61,32],[32,33,61,32]]
def MS:List (List UInt8):=[]::tKey.flatMap λk=>tSign.flatMap λs=>tWord.map λw=>k++s++w
def tItem:List (List UInt8):=tOpt.map (λw=>63::w)++tName.map (λn=>n++[47,120])++[[120],[121],[122]]
def pB (lo hi:Int):Tp:=.i .i64 lo hi
def tI:Tp:=.i .i64 (-9223372036854775808) 9223372036854775807
def Su:List Tp:=[tI,tI,tI,.s 40,.s 40]
def Qwu:List (List UInt8):=[[],[114,99,46,49]]
def Qws:List (List UInt8):=[[],[55]]
def QrN:List Tp:=[pB 0 2,pB 0 1,pB 0 0,.c Qwu,.c Qws]
def tFeat0:List (List UInt8):=[]::Qa0
def Qgt:List Tp:=[.c tName,.c tRange,.l [.c Qa0] 2,.b]
def Qi8:List Tp:=[.lm Qgt 2,.c MS,.c tOpt]
def Qqy:List Tp:=[.c tName,.c tRange,.c MS]
def Py:List Tp:=[.c Qa0,.l [.c tItem] 5]
def QoH:Tp:=.i .u64 0 18446744073709551615
def QtV:List Tp:=.c tName::QrN
def X1:List Tp:=QtV++[.l Qi8 2,.l Qqy 1,.l Py 4]
def TI:List Tp:=X1++[QoH,.b]
def XP:List Tp:=[.c QgV,.l TI 8]
def BL:List Tp:=[.c tName,.c Qwt]
def Qqz:List Tp:=[.c tName,.c tRange]
def S7:List Tp:=X1++[.l BL 1,.l Qqz 1]
def GS:List Tp:=[.c tOpt,.c tOpt,.c tOpt]
def opV:Nat->List Tp->List Vl
 |_,[]=>[]
 |n,t::ts=>match t with
  | .l row _=>.ll row n 0::opV (n+1) ts
  | .lm row _=>.ll row n 0::opV (n+1) ts
  |t=>.ty t::opV n ts
def QaM:Nat->List Tp->List Cn
 |_,[]=>[]
 |n,t::ts=>match t with
  | .l _ k=>(0,n,0)::(n,0,(k:Int))::QaM (n+1) ts
  | .lm _ k=>(0,n, -1)::(n,0,(k:Int))::QaM (n+1) ts
  |_=>QaM n ts
def opN (ts:List Tp):Nat:=(ts.filter λt=>match t with
 | .l _ _=>true
 | .lm _ _=>true
 |_=>false).length
def tyV (r:List Tp):List Vl:=r.map Vl.ty
def Qd0:List Tp:=[pB (-1) 1]++Su++[.b]
def Yn:List Tp:=Qd0++Qd0
def QxU:List Tp:=[.px 0,.px 1]
def QdE:List Tp:=[.l Yn 1000,.l Yn 1000]
def Qwm:List Tp:=[.c tName,.c tFeat0]
def FB:List Tp:=Qwm++QxU
inductive Pm where
 |v (v:Vl)
 |s (row:List Tp)
 |l (row:List Tp) (k:Nat)
 |t (k:Nat)
 |i (lo hi:Int)
 |u (ts:List Tp)
 |e (row:List Tp) (k:Nat)
def pms:Nat->List Pm->List Vl × List Cn × Nat
 |n,[]=>([],[],n)
 |n,p::ps=>match p with
  | .v v=>(match pms n ps with
   |(a,c,m)=>(v::a,c,m))
  | .s row=>(match pms (n+opN row) ps with
   |(a,c,m)=>(.aa (opV n row)::a,QaM n row++c,m))
  | .l row k=>(match pms (n+1) ps with
   |(a,c,m)=>(.ll row n 0::a,(0,n,0)::(n,0,(k:Int))::c,m))
  | .t k=>(match pms (n+1) ps with
   |(a,c,m)=>(.ss n 0::a,(0,n,0)::(n,0,(k:Int))::c,m))
  | .i lo hi=>(match pms (n+1) ps with
   |(a,c,m)=>(.nn .i64 n 0::a,(0,n, -lo)::(n,0,hi)::c,m))
  | .u row=>(match pms (n+1) ps with
   |(a,c,m)=>(.ll row n 0::a,(0,n,0)::c,m))
  | .e row k=>(match pms (n+1) ps with
   |(a,c,m)=>(.ll row n 0::a,(0,n, -(k:Int))::(n,0,(k:Int))::c,m))
def SU (ps:List Pm) (more:List Cn) (rv:Nat->Vl) (k:Nat) (rc:Nat->List Cn):Ct:=
 match pms 1 ps with
 |(a,c,n)=>⟨a,n,more++c,rv n,n+k,rc n⟩
def cIn (x:Nat) (lo hi:Int):List Cn:=[(0,x, -lo),(x,0,hi)]
def Qlh:Vl:=.ii .i64
def anX (ox:List (Nat × Option Nat × Bool)) (l:List (Nat × (Nat->Hd))) (un:Nat):An:={hd:=λb=>(lk l b).map λg a=>g a.nx,un:=un,nj:=[],ox:=ox}
def Qtd (bx:List Nat) (b i:Nat) (lo:Int) (y:Nat) (c:Int):Nat × (Nat->Hd):=(b,λn=>⟨[(i,.nn .i64 n 0)],bx,[],[(0,n, -lo),(n,y,c)],1,(y,c),(n,0)⟩)
def QlO (b i:Nat) (lo:Int) (y:Nat) (c:Int):Nat × (Nat->Hd):=(b,λn=>⟨[(i,.nn .i64 n 0)],[],[],[(0,n, -lo),(n,y,c)],1,(y,c),(n,0)⟩)
def Zr (l:List (Nat × (Nat->Hd))) (un:Nat):An:={hd:=λb=>(lk l b).map λg a=>g a.nx,un:=un,nj:=[]}
def anJ (l:List (Nat × (Nat->Hd))) (un:Nat) (nj:List Nat):An:={hd:=λb=>(lk l b).map λg a=>g a.nx,un:=un,nj:=nj}
end Go.Abs
