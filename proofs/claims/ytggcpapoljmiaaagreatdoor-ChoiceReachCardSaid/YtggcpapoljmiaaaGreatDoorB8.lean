/- Part 8 of the means of the proof: a verified abstract evaluator and contracts of functions. It states nothing of the claim by itself. -/
import Derived.Test.YtggcpapoljmiaaaGreatDoorB7
set_option maxRecDepth 4000
set_option maxHeartbeats 4000000
set_option linter.unusedSimpArgs false
set_option linter.unusedVariables false
set_option linter.unusedSectionVars false
namespace M25
open Go Go.Abs M3
variable {b:u4} {e2 k2:Int} {i j k m:Nat} {l:List Nat} {n:List UInt8} {ns:List (List UInt8)} {on:List UInt8->Bool} {s3:Je} {st:List UInt8->Je} {v:Vr}
theorem Lm:∀{a b c:List UInt8},Op.bytesLess a b=true->Op.bytesLess b c=true->Op.bytesLess a c=true
 |_,[],_,h,_=>by simp[Op.bytesLess]at h
 |_,_::_,[],_,h=>by simp[Op.bytesLess]at h
 |[],_::_,_::_,_,_=>by simp[Op.bytesLess]
 |a::az,b::bs,c::cs,h1,h2=>by
  simp only[Op.bytesLess,QBp,decide_eq_true_eq,QAo,beq_iff_eq]at*;rcases h1 with h1 |⟨rfl,h1⟩
  rcases h2 with h2 |⟨rfl,h2⟩;exact .inl (UInt8.lt_trans h1 h2);exact .inl h1;rcases h2 with h2 |⟨rfl,h2⟩;exact .inl h2;exact .inr ⟨rfl,Lm h1 h2⟩
theorem QjO:∀a:List UInt8,Op.bytesLess a a=false
 |[]=>by simp[Op.bytesLess]
 |a::az=>by simp[Op.bytesLess,QjO az]
theorem Qev:∀{a b:List UInt8},Op.bytesLess a b=false->a≠b->Op.bytesLess b a=true
 |[],[],_,h=>absurd rfl h
 |[],_::_,h,_=>by simp[Op.bytesLess]at h
 |_::_,[],_,_=>by simp[Op.bytesLess]
 |a::az,b::bs,h,hn=>by
  simp only[Op.bytesLess,Bool.or_eq_false_iff,decide_eq_false_iff_not,Bool.and_eq_false_imp,beq_iff_eq,QBp,decide_eq_true_eq,QAo]at*;rcases UInt8.lt_or_eq_of_le (UInt8.not_lt.1 h.1)with q |q
  exact .inl q;subst q;exact .inr ⟨rfl,Qev (h.2 rfl) λe=>hn (by rw[e])⟩
abbrev Za:=List UInt8 × List UInt8
variable {a c:Za}
def Ht (k:Za):List D:=[.str k.1,.str k.2]
def XK (l:List Za):D:=.sl (l.map Ht)
def K6 (a b:Za):Bool:=Op.bytesLess a.1 b.1||(decide (a.1=b.1)&&Op.bytesLess a.2 b.2)
theorem QaE {b:Za} (h1:K6 a b=true) (h2:K6 b c=true):K6 a c=true:=by
 simp only[K6,QBp,QAo,decide_eq_true_eq]at*;rcases h1 with h1 |⟨e1,h1⟩
 rcases h2 with h2 |⟨e2,h2⟩;exact .inl (Lm h1 h2);exact .inl (e2 ▸ h1);rcases h2 with h2 |⟨e2,h2⟩;exact .inl (e1 ▸ h2);exact .inr ⟨e1.trans e2,Lm h1 h2⟩
theorem CL (a:Za):K6 a a=false:=by simp[K6,QjO]
theorem QfH {b:Za} (h:K6 a b=false) (C:a≠b):K6 b a=true:=by
 obtain⟨M,T⟩:=a;obtain⟨G,O⟩:=b;simp only[K6,Bool.or_eq_false_iff,Bool.and_eq_false_imp,decide_eq_true_eq,QBp,QAo]at*
 by_cases e:M=G
 subst e;exact .inr ⟨rfl,Qev (h.2 rfl) λe=>C (by rw[e])⟩;exact .inl (Qev h.1 e)
def HK:List Za->Za->List Za
 |[],c=>[c]
 |x::r,c=>if K6 x c=true then x::HK r c else if x=c then x::r else c::x::r
theorem Qgs {l:List Za} (hk:k<l.length) (h:K6 l[k] c=true) (hi:HK l c=l.take k++HK (l.drop k) c):HK l c=l.take (k+1)++HK (l.drop (k+1)) c:=by
 rw[hi,QAB hk,HK,if_pos h,QBv hk,QA9];rfl
theorem Qgr {l:List Za} (hk:k<l.length) (h0:K6 l[k] c=false) (h:l[k]=c) (hi:HK l c=l.take k++HK (l.drop k) c):HK l c=l:=by
 rw[hi,QAB hk,HK,if_neg (by rw[h0];simp),if_pos h,<- QAB hk,QAT]
theorem QcA {l:List Za} (h:l.length<=k\/∃hk:k<l.length,K6 l[k] c=false/\l[k]≠c) (hi:HK l c=l.take k++HK (l.drop k) c):HK l c=l.take k++c::l.drop k:=by
 rw[hi];rcases h with h |⟨hk,h1,h2⟩
 rw[QAF h,HK];rw[QAB hk,HK,if_neg (by rw[h1];simp),if_neg h2]
theorem Qcz:∀(l:List Za) (c:Za),(HK l c).length<=l.length+1
 |[],c=>by simp[HK]
 |x::r,c=>by
  have:=Qcz r c;rw[HK];split;simp;omega;split<;>simp
theorem GR:∀{l:List Za} {c x:Za},x∈HK l c↔x=c\/x∈l
 |[],c,x=>by simp[HK]
 |y::r,c,x=>by
  rw[HK];split;simp only[QAm,GR (l:=r)]
  grind
  split;rename_i e;subst e;simp;simp
theorem Qcy:∀{l:List Za} {c:Za},¬l.length<(HK l c).length->c∈l
 |[],c,h=>by simp[HK]at h
 |y::r,c,h=>by
  rw[HK]at h;split at h;exact QBm _ (Qcy (by simpa using h));split at h;rename_i e;subst e;simp;simp at h
def Qk7 (l:List Za):Prop:=l.Pairwise λa b=>K6 a b=true
theorem QcB:∀{l:List Za} {c:Za},Qk7 l->Qk7 (HK l c)
 |[],c,_=>by simp[HK,Qk7]
 |y::r,c,h=>by
  obtain⟨h1,h2⟩:=QBI.1 h;rw[HK];split;rename_i G;refine QBI.2 ⟨λz C=>?_,QcB h2⟩;rcases GR.1 C with rfl |C
  exact G;exact h1 z C;rename_i G;split;exact h;rename_i O;have M:=QfH (by simpa using G) O;refine QBI.2 ⟨λz C=>?_,h⟩;rcases QAm.1 C with rfl |C
  exact M;exact QaE M (h1 z C)
theorem K1 {x y:Za}:Hv [2,2] (Ht x) (Ht y)=some (decide (x=y)):=by
 obtain⟨a,b⟩:=x;obtain⟨c,d⟩:=y;simp only[Ht,Hv,QA4,Bool.and_true,QAn];simp
theorem Bm {l:List Za}:∀r∈l.map Ht,r.length=2:=λr hr=>by obtain⟨x,_,rfl⟩:=QAy.1 hr;rfl
theorem QcK {l:List Za} {n:Nat}:∀r∈((l.map Ht).take n).drop m,r.length=2:=λr hr=>Bm r (QAE (QAN hr))
def plP {β:Type} (p:β->Bool):List β->Nat->Int
 |[],_=>-1
 |x::r,n=>if p x=true then n else plP p r (n+1)
def plA (all:List Za) (k:Za):Int:=plP (λx=>decide (x=k)) all 0
section
variable {β:Type} {p:β->Bool} {l:List β} {i:Nat}
theorem NQ (hi:i<l.length) (h:p l[i]=false) (he:plP p l 0=plP p (l.drop i) i):plP p l 0=plP p (l.drop (i+1)) (i+1):=by
 rw[he,QAB hi,plP,if_neg (by rw[h];simp)]
theorem Da (hi:i<l.length) (h:p l[i]=true) (he:plP p l 0=plP p (l.drop i) i):plP p l 0=i:=by
 rw[he,QAB hi,plP,if_pos h]
theorem P4 (hi:l.length<=i) (he:plP p l 0=plP p (l.drop i) i):plP p l 0= -1:=by
 rw[he,QAF hi,plP]
end
theorem TE {β:Type} {p:β->Bool}:∀(l:List β) (n:Nat),(plP p l n= -1/\∀x∈l,p x=false)\/∃i,∃h:i<l.length,plP p l n=((n+i:Nat):Int)/\p l[i]=true/\∀j (G:j<i),p (l[j]'Wa)=false
 |[],n=>.inl ⟨rfl,by simp⟩
 |x::r,n=>by
  rw[plP];split;rename_i e;exact .inr ⟨0,by simp,by simp,e,λj G=>Wa⟩;rename_i e;have e:p x=false:=by simpa using e
  rcases TE (p:=p) r (n+1)with⟨h1,h2⟩ |⟨i,hi,h1,h2,M⟩;exact .inl ⟨h1,λy C=>by rcases QAm.1 C with rfl |C;exact e;exact h2 y C⟩
  refine .inr ⟨i+1,by simpa using hi,by rw[h1];omega,by simpa using h2,λj G=>?_⟩
  cases j with
  |zero=>simpa using e
  |succ j=>simpa using M j Wa
theorem Qqt {l:List Za} {k:Za} (h:k∈l):∃i,∃hi:i<l.length,l[i]=k/\plA l k=(i:Int):=by
 rcases TE (p:=λx=>decide (x=k)) l 0 with⟨_,h2⟩ |⟨i,hi,h1,h2,_⟩;have:=h2 k h;simp at this
 exact⟨i,hi,by simpa using h2,by rw[plA,h1];omega⟩
theorem Qqu {l:List Za} {k:Za} (h:0<=plA l k):k∈l:=by
 rcases TE (p:=λx=>decide (x=k)) l 0 with⟨h1,_⟩ |⟨i,hi,h1,h2,_⟩;rw[plA,h1]at h;omega;have:l[i]=k:=by simpa using h2
 exact this ▸ QAp hi
structure AskT where
 k:Za
 s:Je
def QeP (a:AskT):List D:=[.str a.k.1,.str a.k.2,Qw a.s.1,Qw a.s.2]
def Mu (l:List AskT):D:=.sl (l.map QeP)
def ZL (l:List (List AskT)):D:=.sl (l.map λr=>[Mu r])
def QjA (all:List Za) (a:AskT):QN:=⟨plA all a.k,a.s⟩
def Ta (all:List Za) (l:List (List AskT)):List (List QN):=l.map λr=>r.map (QjA all)
structure Qc8 where
 n:List UInt8
 r:List UInt8
 w:List UInt8
structure FH where
 n:List UInt8
 v:Vr
 nd:List (List D)
 bs:List Qc8
 fd:List (List D)
variable {z8:FH->List UInt8->Bool}
def Qdm (b:Qc8):List D:=[.str b.n,.str b.r,.str b.w]
def JC (x:FH):List D:=[.str x.n,.int .i64 x.v.a,.int .i64 x.v.b,.int .i64 x.v.c,.str x.v.p,.str x.v.q,.sl x.nd,.sl (x.bs.map Qdm),.sl x.fd]
def Qot (all:List Za) (on:List UInt8->Bool) (st:List UInt8->Je) (b:Qc8):List QN:=if 0<=plA all (b.n,[])/\on b.w=true then[⟨plA all (b.n,[]),st b.r⟩]else[]
def Nb (all:List Za) (on:List UInt8->Bool) (st:List UInt8->Je) (l:List Qc8):List QN:=l.flatMap (Qot all on st)
structure Qhu where
 r:FH
 pd:List (List D)
 hd:List (List D)
structure Fs where
 r:FH
 sum:Int
 y:Bool
variable {es:List Fs}
structure ShR where
 n:List UInt8
 es:List Fs
def QeQ (m:Qhu):List D:=JC m.r++[.sl m.pd,.sl m.hd]
def Nu (l:List Qhu):D:=.sl (l.map QeQ)
def Qte (e:Fs):List D:=JC e.r++[.int .u64 e.sum,.bool e.y]
def Qif (l:List Fs):D:=.sl (l.map Qte)
def dSh (s:ShR):List D:=[.str s.n,Qif s.es]
def Cm (l:List ShR):D:=.sl (l.map dSh)
def nmM (n:List UInt8) (m:Qhu):Bool:=decide (m.r.n=n)
def nmS (n:List UInt8) (s:ShR):Bool:=decide (s.n=n)
def dV5 (v:Vr):List D:=[.int .i64 v.a,.int .i64 v.b,.int .i64 v.c,.str v.p,.str v.q]
def QoG (v u:Vr):Bool:=(JK v.a v.b v.c v.p v.q&&JK u.a u.b u.c u.p u.q)&&decide (SS v u=0)
def QhE (n:List UInt8) (v:Vr) (e:Fs):Bool:=decide (e.r.n=n)&&QoG e.r.v v
def QoO:List Vr:=[0,1,2].flatMap λa=>[0,1].flatMap λb=>[[],[114,99,46,49]].flatMap λp=>[[],[55]].map λq=>(⟨a,b,0,p,q⟩:Vr)
def vk (v:Vr):Int:=v.a*100+v.b*10+if v.p=[]then 1 else 0
def fb (v:Vr):Prop:=v∈QoO
theorem fb.may (h:fb v):JK v.a v.b v.c v.p v.q=true:=(show∀v∈QoO,JK v.a v.b v.c v.p v.q=true by decide+kernel) v h
theorem fb.sm (h:fb v):Qhv v:=(show∀v∈QoO,v.p.length<=1048576/\v.q.length<=1048576 by decide+kernel) v h
theorem QlL {u:Vr} (C:fb v) (hu:fb u):SS v u=Zj (vk v) (vk u):=(show∀v∈QoO,∀u∈QoO,SS v u=Zj (vk v) (vk u) by decide+kernel) v C u hu
def Qd3 (es:List Fs):Prop:=∀i (h:i<es.length),plP (QhE es[i].r.n es[i].r.v) es 0=i
def Qhz (es:List Fs) (i j:Nat):Int:=match es[i]?,es[j]? with
 |some a,some b=>SS a.r.v b.r.v
 |_,_=>0
theorem Mt (hi:i<es.length) (C:j<es.length):Qhz es i j=SS es[i].r.v es[j].r.v:=by
 rw[Qhz,QA7 hi,QA7 C]
def R1 (es:List Fs):List Nat->Nat->List Nat
 |[],c=>[c]
 |x::r,c=>if Qhz es x c<0 then x::R1 es r c else c::x::r
theorem Qfx {c:Nat} (hk:k<l.length) (h:Qhz es l[k] c<0) (hi:R1 es l c=l.take k++R1 es (l.drop k) c):R1 es l c=l.take (k+1)++R1 es (l.drop (k+1)) c:=by
 rw[hi,QAB hk,R1,if_pos h,QBv hk,QA9];rfl
theorem QbV {c:Nat} (h:l.length<=k\/∃hk:k<l.length,¬Qhz es l[k] c<0) (hi:R1 es l c=l.take k++R1 es (l.drop k) c):R1 es l c=l.take k++c::l.drop k:=by
 rw[hi];rcases h with h |⟨hk,h1⟩
 rw[QAF h,R1];rw[QAB hk,R1,if_neg h1]
theorem QbU (es:List Fs):∀(l:List Nat) (c:Nat),(R1 es l c).length=l.length+1
 |[],c=>rfl
 |x::r,c=>by
  have:=QbU es r c;rw[R1];split;simp;omega;simp
theorem LM (es:List Fs):∀{l:List Nat} {c x:Nat},x∈R1 es l c↔x=c\/x∈l
 |[],c,x=>by simp[R1]
 |y::r,c,x=>by
  rw[R1];split;simp only[QAm,LM es (l:=r)]
  grind
  simp
def Fq (es:List Fs) (n:List UInt8):Nat->List Nat
 |0=>[]
 |i+1=>match es[i]? with
  |some e=>if e.r.n=n then R1 es (Fq es n i) i else Fq es n i
  |none=>Fq es n i
theorem Qb5 (h:i<es.length) (C:es[i].r.n=n):Fq es n (i+1)=R1 es (Fq es n i) i:=by
 rw[Fq,QA7 h];simp only;rw[if_pos C]
theorem Qmt (h:i<es.length) (C:¬es[i].r.n=n):Fq es n (i+1)=Fq es n i:=by
 rw[Fq,QA7 h];simp only;rw[if_neg C]
theorem Y7 {es:List Fs} {n:List UInt8}:∀{i x:Nat},x∈Fq es n i->x<i/\∃h:x<es.length,es[x].r.n=n
 |0,x,h=>by simp[Fq]at h
 |i+1,x,h=>by
  rw[Fq]at h;split at h;rename_i e he;obtain⟨hi,rfl⟩:=QAS.1 he;split at h;rename_i C;rcases(LM es).1 h with rfl |h
  exact⟨Wa,hi,C⟩;obtain⟨h1,h2⟩:=Y7 h;exact⟨Wa,h2⟩;obtain⟨h1,h2⟩:=Y7 h;exact⟨Wa,h2⟩;obtain⟨h1,h2⟩:=Y7 h;exact⟨Wa,h2⟩
theorem LS (es:List Fs) (n:List UInt8):∀i,(Fq es n i).length<=i
 |0=>QAK _
 |i+1=>by
  have:=LS es n i;rw[Fq];split;split;rw[QbU];omega;omega;omega
theorem Qme {a b:Int}:Zj a b=0↔a=b:=by unfold Zj;split<;>(try split)<;>omega
def Qk6 (es:List Fs) (l:List Nat):Prop:=l.Pairwise λi j=>Qhz es i j<0
theorem QbW {es:List Fs} (U:∀e∈es,fb e.r.v) {c:Nat} (O:c<es.length):∀{l:List Nat},(∀x∈l,x<es.length/\Qhz es x c≠0)->Qk6 es l->Qk6 es (R1 es l c)
 |[],_,_=>by simp[R1,Qk6]
 |x::r,hl,h=>by
  obtain⟨h1,h2⟩:=QBI.1 h
  have key:∀{i j:Nat} (hi:i<es.length) (V:j<es.length),Qhz es i j=Zj (vk es[i].r.v) (vk es[j].r.v):=λhi V=>by
   rw[Mt hi V,QlL (U _ (QAp hi)) (U _ (QAp V))]
  obtain⟨hx,M⟩:=hl x Wc;rw[R1];split;rename_i T;refine QBI.2 ⟨λz C=>?_,QbW U O (λy hy=>hl y (by simp[hy])) h2⟩;rcases(LM es).1 C with rfl |C
  exact T;exact h1 z C;rename_i T
  have Y:Qhz es c x<0:=by
   rw[key hx O]at T M;rw[key O hx,NL];rw[NL]at T;rw[Ne,Qme]at M;omega
  refine QBI.2 ⟨λz C=>?_,h⟩;rcases QAm.1 C with rfl |C
  exact Y;have h5:=h1 z C;have G:=(hl z (by simp[C])).1;rw[key O hx,NL]at Y;rw[key hx G,NL]at h5;rw[key O G,NL];omega
theorem QlT (C:∀e∈es,fb e.r.v) (hd:Qd3 es) (hi:i<es.length) (M:j<i) (G:es[j].r.n=es[i].r.n):Qhz es j i≠0:=by
 intro e;rw[Mt Wa hi]at e;rcases TE (p:=QhE es[i].r.n es[i].r.v) es 0 with⟨h1,_⟩ |⟨k,hk,h1,_,O⟩
 rw[hd i hi]at h1;omega;rw[hd i hi]at h1;have:k=i:=Wa;subst this;have:=O j M;rw[QhE,QoG,(C _ (QAp (Wa:j<es.length))).may,(C _ (QAp hi)).may,e]at this;simp[G]at this
theorem Qb4 {es:List Fs} {n:List UInt8} (C:∀e∈es,fb e.r.v) (hd:Qd3 es):∀i,Qk6 es (Fq es n i)
 |0=>by simp[Fq,Qk6]
 |i+1=>by
  have h:=Qb4 (n:=n) C hd i;rw[Fq];split;rename_i e he;obtain⟨hi,rfl⟩:=QAS.1 he;split;rename_i G;refine QbW C hi (λx hx=>?_) h;obtain⟨h1,h2,M⟩:=Y7 hx;exact⟨h2,QlT C hd hi h1 (M.trans G.symm)⟩;exact h;exact h
def SZ (l:List Nat):D:=.sl (l.map λ(i:Nat)=>[.int .i64 (i:Int)])
theorem Bp:∀r∈l.map (λ(i:Nat)=>[D.int .i64 (i:Int)]),r.length=1:=λr hr=>by obtain⟨x,_,rfl⟩:=QAy.1 hr;rfl
theorem QcN {n:Nat}:∀r∈((l.map (λ(i:Nat)=>[D.int .i64 (i:Int)])).take n).drop m,r.length=1:=λr hr=>Bp r (QAE (QAN hr))
theorem YY {all:List Za} {l:List Qc8} (h:i<l.length) (h1:0<=plA all (l[i].n,[])) (h2:on l[i].w=true):Nb all on st (l.take (i+1))=Nb all on st (l.take i)++[⟨plA all (l[i].n,[]),st l[i].r⟩]:=by
 rw[QBv h,Nb,QBJ];simp only[QAO,QBA,QAP,Qot];rw[if_pos ⟨h1,h2⟩];rfl
theorem Zw {all:List Za} {l:List Qc8} (h:i<l.length) (h1:¬(0<=plA all (l[i].n,[])/\on l[i].w=true)):Nb all on st (l.take (i+1))=Nb all on st (l.take i):=by
 rw[QBv h,Nb,QBJ];simp only[QAO,QBA,QAP,Qot];rw[if_neg h1,QAP];rfl
theorem D5 (all:List Za) (on:List UInt8->Bool) (st:List UInt8->Je):∀l:List Qc8,(Nb all on st l).length<=l.length
 |[]=>QAK _
 |b::l=>by
  have:=D5 all on st l;show(Qot all on st b++Nb all on st l).length<=_;rw[QAY,Qot];split;simp;omega;simp;omega
theorem Qde (all:List Za) (on:List UInt8->Bool) (st:List UInt8->Je) (l:List Qc8) (i:Nat):(Nb all on st (l.take i)).length<=l.length:=by
 have:=D5 all on st (l.take i);rw[QAQ]at this;omega
structure te (es:List Fs) (n:List UInt8) (l:List Nat):Prop where
 len:l.length<=es.length
 mem:∀x∈l,∃h:x<es.length,es[x].r.n=n
 de:Qk6 es l
theorem te.nil (es:List Fs) (n:List UInt8):te es n []:=⟨QAw _,by simp,by simp[Qk6]⟩
theorem te.of (C:∀e∈es,fb e.r.v) (hd:Qd3 es):te es n (Fq es n es.length):=⟨LS es n _,λ_ h=>(Y7 h).2,Qb4 C hd _⟩
structure QhM where
 n:List UInt8
 s:List UInt8
def QeR (p:QhM):List D:=[.str p.n,.str p.s]
def RF (l:List QhM):D:=.sl (l.map QeR)
structure YdT where
 ms:List Qhu
 ss:List ShR
 e1:List UInt8
 e2:List UInt8
 e3:List UInt8
 pr:List QhM
variable {y:YdT}
def dYd (y:YdT) (pf:D):List D:=[Nu y.ms,Cm y.ss,.str y.e1,.str y.e2,.str y.e3,.sl [],RF y.pr,pf]
def QjX:List UInt8:=[100,101,102,97,117,108,116]
def GA (y:YdT):List (List AskT):=y.ms.map λm=>[⟨(m.r.n,QjX),Y9 m.r.v.a m.r.v.b m.r.v.c m.r.v.p m.r.v.q⟩]
def QjW (l:List (List AskT)):D:=.sl (l.map λr=>[.z7 (r.map QeP)])
structure TkR where
 r:FH
 sh:Int
variable {f:List UInt8->List TkR} {t:TkR}
def dTk (x:TkR):List D:=JC x.r++[.int .i64 x.sh]
def PF (l:List TkR):D:=.sl (l.map dTk)
def Bb (es:List Fs) (k:Nat) (s:Je) (x:Nat):List TkR:=match es[x]? with
 |some e=>if e.y=false/\FY s e.r.v.a e.r.v.b e.r.v.c e.r.v.p e.r.v.q=true then[⟨e.r,k⟩]else[]
 |none=>[]
def lkU (y:YdT) (k2:Int) (l:List Nat) (e2:Int) (s3:Je):List TkR:=if e2=0 then(match y.ss[k2.toNat]? with
 |some s=>l.flatMap (Bb s.es k2.toNat s3)
 |none=>[])else[]
def Qdy (y:YdT) (k1 k2:Int) (l:List Nat) (e2:Int) (s3:Je):List TkR:=if 0<=k1 then(match y.ms[k1.toNat]? with
 |some m=>[⟨m.r, -1⟩]
 |none=>[])else lkU y k2 l e2 s3
theorem CN (h:j<y.ms.length):Qdy y j k2 l e2 s3=[⟨y.ms[j].r, -1⟩]:=by
 rw[Qdy,if_pos Wa,QA5,QA7 h]
theorem LV {C:Int} (h:¬0<=C):Qdy y C k2 l e2 s3=lkU y k2 l e2 s3:=by
 rw[Qdy,if_neg h]
theorem Qmv {l':List Nat} (h:¬e2=0):lkU y k2 l e2 s3=lkU y k2 l' e2 s3:=by
 rw[lkU,lkU,if_neg h,if_neg h]
theorem QfI:lkU y k2 [] e2 s3=[]:=by
 rw[lkU];split;split<;>rfl;rfl
theorem K7 (C:j<y.ss.length) (hi:i<l.length) (hx:l[i]<y.ss[j].es.length) (h1:y.ss[j].es[l[i]].y=false) (h2:FY s3 y.ss[j].es[l[i]].r.v.a y.ss[j].es[l[i]].r.v.b y.ss[j].es[l[i]].r.v.c y.ss[j].es[l[i]].r.v.p y.ss[j].es[l[i]].r.v.q=true):lkU y j (l.take (i+1)) 0 s3=lkU y j (l.take i) 0 s3++[⟨y.ss[j].es[l[i]].r,j⟩]:=by
 rw[lkU,lkU,if_pos rfl,if_pos rfl,QA5,QA7 C,QBv hi];simp only[QBJ,QAO,QBA,QAP];rw[Bb,QA7 hx];simp only;rw[if_pos ⟨h1,h2⟩]
theorem Xo (C:j<y.ss.length) (hi:i<l.length) (hx:l[i]<y.ss[j].es.length) (h:¬(y.ss[j].es[l[i]].y=false/\FY s3 y.ss[j].es[l[i]].r.v.a y.ss[j].es[l[i]].r.v.b y.ss[j].es[l[i]].r.v.c y.ss[j].es[l[i]].r.v.p y.ss[j].es[l[i]].r.v.q=true)):lkU y j (l.take (i+1)) 0 s3=lkU y j (l.take i) 0 s3:=by
 rw[lkU,lkU,if_pos rfl,if_pos rfl,QA5,QA7 C,QBv hi];simp only[QBJ,QAO,QBA,QAP];rw[Bb,QA7 hx];simp only;rw[if_neg h,QAP]
theorem Qgi (es:List Fs) (k:Nat) (s:Je) (x:Nat):(Bb es k s x).length<=1:=by
 unfold Bb;split;split<;>simp;simp
theorem Qmu (y:YdT) (k2:Int) (l:List Nat) (e2:Int) (s3:Je):(lkU y k2 l e2 s3).length<=l.length:=by
 have key:∀(es:List Fs) (k:Nat) (l:List Nat),(l.flatMap (Bb es k s3)).length<=l.length:=λes k l=>by
  induction l with
  |nil=>simp
  |cons x l ih=>
   have:=Qgi es k s3 x;rw[QAO,QAY,QAZ];omega
 rw[lkU];split;split;exact key _ _ _;simp;simp
abbrev bNs (ns:List (List UInt8)):u4:=⟨ns.map λn=>[.str n],1,9,true⟩
abbrev bRs (f:List UInt8->List TkR) (ns:List (List UInt8)):u4:=⟨ns.map λn=>[PF (f n)],1,228,true⟩
abbrev bFd (ns:List (List UInt8)):u4:=⟨[[.s4 500000 ns.length,.s4 500001 ns.length]],2,125,false⟩
abbrev FD (f:List UInt8->List TkR) (ns:List (List UInt8)):QAh:=[(500000,bNs ns),(500001,bRs f ns),(1000000,bFd ns)]
theorem Qip (h:lk (FD f ns) k=some b):(k=500000/\b=bNs ns)\/(k=500001/\b=bRs f ns)\/(k=1000000/\b=bFd ns):=by
 have:=QZ h;simp only[FD,QAm,QBc,QAl,or_false]at this;exact this
theorem Qbz (h:lk (FD f ns) k=some b):∀j∈b.ids,(lk (FD f ns) j).isSome=true:=λj C=>by
 rcases Qip h with⟨_,rfl⟩ |⟨_,rfl⟩ |⟨_,rfl⟩;simp[u4.ids]at C;simp[u4.ids]at C;simp[u4.ids,D.ids,D.l4]at C;rcases C with rfl |rfl<;>rfl
theorem Mx (k:Nat) (b:u4) (h:lk (FD f ns) k=some b):500000<=k/\∀j∈b.ids,(lk (FD f ns) j).isSome=true:=by
 refine⟨?_,Qbz h⟩;rcases Qip h with⟨rfl,_⟩ |⟨rfl,_⟩ |⟨rfl,_⟩<;>decide
theorem Pt {ns':List (List UInt8)} (k:Nat) (_:1000000<=k) (h:(lk (FD f ns) k).isSome=true):(lk (FD f ns') k).isSome=true:=by
 obtain⟨b,hb⟩:=QAq.1 h;rcases Qip hb with⟨rfl,_⟩ |⟨rfl,_⟩ |⟨rfl,_⟩<;>rfl
theorem Xn {A:QAh} (C:(A.all λp=>Nat.blt p.1 500000)=true) (k:Nat) (b:u4) (h:lk (FD f ns) k=some b):lk (A++FD f ns) k=some b:=by
 have hk:=(Mx k b h).1;rw[Zx];exact h;cases e:lk A k with
 |none=>rfl
 |some x=>
  have:=QAu.1 C _ (QZ e);have:=QAk this;simp only at this;omega
def ofM (l:List TkR) (z8:FH->List UInt8->Bool) (f:List UInt8):List TkR:=l.filter λt=>decide (f=[])||z8 t.r f
theorem Z2 {l:List TkR} {f:List UInt8} (hi:i<l.length) (h:f=[]\/z8 l[i].r f=true):ofM (l.take (i+1)) z8 f=ofM (l.take i) z8 f++[l[i]]:=by
 rw[ofM,QBv hi,List.filter_append]
 congr 1
 rw[List.filter_cons_of_pos];rfl;rcases h with h |h<;>simp[h]
theorem NO {l:List TkR} {f:List UInt8} (hi:i<l.length) (h:¬f=[]) (h2:z8 l[i].r f=false):ofM (l.take (i+1)) z8 f=ofM (l.take i) z8 f:=by
 rw[ofM,QBv hi,List.filter_append];rw[List.filter_cons_of_neg (by simp[h,h2])];simp[ofM]
theorem Sj (l:List TkR) (z8:FH->List UInt8->Bool) (f:List UInt8):(ofM l z8 f).length<=l.length:=List.length_filter_le _ _
def Pz (l:List TkR) (nd:FH->List UInt8->List (List AskT)) (f:List UInt8):List (List AskT):=l.flatMap λt=>nd t.r f
theorem QcM {l:List TkR} {nd:FH->List UInt8->List (List AskT)} {f:List UInt8} (hi:i<l.length):Pz (l.take (i+1)) nd f=Pz (l.take i) nd f++nd l[i].r f:=by
 rw[Pz,QBv hi,QBJ];simp[Pz]
theorem Sy {nd:FH->List UInt8->List (List AskT)} {f:List UInt8}:∀{l:List TkR},(∀t∈l,(nd t.r f).length<=90)->(Pz l nd f).length<=90*l.length
 |[],_=>by simp[Pz]
 |t::l,h=>by
  have h1:=Sy (l:=l) λx hx=>h x (QBm _ hx);have h2:=h t Wc;show(nd t.r f++Pz l nd f).length<=_;rw[QAY,QAZ];omega
theorem QgB {l:List (List AskT)}:∀r∈l.map (λr=>[Mu r]),r.length=1:=λr hr=>by obtain⟨x,_,rfl⟩:=QAy.1 hr;rfl
structure WF where
 on:List UInt8->Bool
 st:List UInt8->Je
 z8:FH->List UInt8->Bool
 nd:FH->List UInt8->List (List AskT)
variable {W:WF}
def KD (W:WF) (all:List Za) (f:List UInt8) (t:TkR):CandT:=⟨t.r.v,t.sh,Ta all (W.nd t.r f),if f=[]then Nb all W.on W.st t.r.bs else[]⟩
def QdT (c:CandT):Bool:=decide (24<c.ns.length)||decide (24<c.bs.length)
def Cl (c:CandT):List D:=[.int .i64 c.v.a,.int .i64 c.v.b,.int .i64 c.v.c,.str c.v.p,.str c.v.q,.int .i64 c.sh,Xm c.ns,.z7 (c.bs.map Fo)]
theorem Nq {all:List Za} {f:List UInt8} (h:f=[]):KD W all f t=⟨t.r.v,t.sh,Ta all (W.nd t.r f),Nb all W.on W.st t.r.bs⟩:=by rw[KD,if_pos h]
theorem Mp {all:List Za} {f:List UInt8} (h:¬f=[]):KD W all f t=⟨t.r.v,t.sh,Ta all (W.nd t.r f),[]⟩:=by rw[KD,if_neg h]
theorem SL (all:List Za) (l:List (List AskT)):(Ta all l).length=l.length:=by simp[Ta]
def Fv (W:WF) (all:List Za) (l:List TkR) (f:List UInt8) (n:Nat):List CandT × Bool:=if(l.map (KD W all f)).any QdT=true then([],false)else(l.map (KD W all f),decide (n<=16))
theorem Mq {all:List Za} {l:List TkR} {f:List UInt8} {n:Nat} (hi:i<l.length) (h:QdT (KD W all f l[i])=true):Fv W all l f n=([],false):=by
 rw[Fv,if_pos (QBs.2 ⟨_,QAy.2 ⟨_,QAp hi,rfl⟩,h⟩)]
theorem Mr {all:List Za} {l:List TkR} {f:List UInt8} {n:Nat} (h:(l.map (KD W all f)).any QdT=false):Fv W all l f n=(l.map (KD W all f),decide (n<=16)):=by
 rw[Fv,if_neg (by rw[h];simp)]
def unM (cf:List Za->Za->List CandT × Bool) (all:List Za) (k:Za):Rj:=⟨k.1,k.2,(cf all k).1⟩
def itK (s:List UInt8):Nat:=match s with
 |[63]=>0
 |63::_=>2
 |[_]=>1
 |_=>3
def itN (s:List UInt8):List UInt8:=match s with
 |63::r=>r
 |[a]=>[a]
 |s=>s.take (s.length - 2)
def itF (s:List UInt8):List UInt8:=match itK s with
 |3=>[120]
 |_=>[]
def QoJ (p:Bool × List AskT):List D:=[match p.1 with
 |true=>.z7 (p.2.map QeP)
 |false=>Mu p.2]
def ndI (n:List UInt8) (e:Je) (op:List UInt8->List (List AskT)) (pl:List UInt8->List UInt8->List (List AskT)) (s:List UInt8):List (Bool × List AskT):=if itK s=1 then[(true,[⟨(n,itN s),e⟩])]else if itK s=2 then(op (itN s)).map λr=>(false,r)else(pl (itN s) (itF s)).map λr=>(false,r)
def ndU (n:List UInt8) (e:Je) (op:List UInt8->List (List AskT)) (pl:List UInt8->List UInt8->List (List AskT)) (l:List (List UInt8)):List (Bool × List AskT):=(true,[⟨(n,[]),e⟩])::l.flatMap (ndI n e op pl)
section
variable {n:List UInt8} {e:Je} {op:List UInt8->List (List AskT)} {pl:List UInt8->List UInt8->List (List AskT)} {l:List (List UInt8)} {i:Nat}
theorem QfZ (hi:i<l.length):ndU n e op pl (l.take (i+1))=ndU n e op pl (l.take i)++ndI n e op pl l[i]:=by
 rw[ndU,QBv hi,QBJ];simp[ndU]
theorem L0 (hi:i<l.length) (h:itK l[i]=1):ndU n e op pl (l.take (i+1))=ndU n e op pl (l.take i)++[(true,[⟨(n,itN l[i]),e⟩])]:=by rw[QfZ hi,ndI,if_pos h]
theorem Qp9 (hi:i<l.length) (h:itK l[i]=2):ndU n e op pl (l.take (i+1))=ndU n e op pl (l.take i)++(op (itN l[i])).map λr=>(false,r):=by rw[QfZ hi,ndI,if_neg Wa,if_pos h]
theorem Qqa (hi:i<l.length) (h:¬itK l[i]=1) (h2:¬itK l[i]=2):ndU n e op pl (l.take (i+1))=ndU n e op pl (l.take i)++(pl (itN l[i]) (itF l[i])).map λr=>(false,r):=by rw[QfZ hi,ndI,if_neg h,if_neg h2]
theorem QfY (h1:∀s∈l,itK s=2->(op (itN s)).length<=14) (h2:∀s∈l,¬itK s=1->¬itK s=2->(pl (itN s) (itF s)).length<=14):(ndU n e op pl l).length<=1+14*l.length:=by
 induction l with
 |nil=>simp[ndU]
 |cons s l ih=>
  have:=ih (λx hx=>h1 x (QBm _ hx)) (λx hx=>h2 x (QBm _ hx));have e1:=h1 s Wc;have e2:=h2 s Wc
  have G:(ndI n e op pl s).length<=14:=by
   unfold ndI;split;simp;rename_i C;split;rename_i k2;rw[QBd];exact e1 k2;rename_i k2;rw[QBd];exact e2 C k2
  simp only[ndU,QAZ,QAO,QAY]at this ⊢;omega
theorem TN (l:List (List AskT)):(l.map λr=>(false,r)).map QoJ=l.map λr=>[Mu r]:=by simp[QoJ]
end
variable {H H' Ho:QAh} {K:St->Prop} {P:Program} {az:List l5} {d q:D} {ds rest:List D} {l0 n t:Nat} {lkf:List UInt8->List TkR} {fr:QAi} {ns':List (List UInt8)} {o:z1} {rows rows':List (List D)} {x:l5}
section
variable {P:Program} {dr:Dr} {op:a6} {dst:Option Nat} {r:List z1} {s s':St} {K:St->Prop}
theorem Z4 (h:Qjl (λ_ _=>none) op dst dr.dr s=some s') (C:dr.ok r.length (tkR true op s (pk op s)) (tkW true op s (wk op s))=true) (k:Bq P true (dr.nx (Lv true op dst r) (tkR true op s (pk op s)) (tkW true op s (wk op s))) r K s'):Bq P true dr (⟨dst,op,none⟩::r) K s:=
 P6 (w:=true) (.inl ⟨C,SG (call:=λ_ _=>none) (λ_ _ _ h=>by cases h) h k⟩)
theorem Qo1 {et bytes kk:Nat} {y:l5} {ys:List (List D)} {pr:Bool} (hx:St.ev ⟨fr,H⟩ x=some (.s4 kk n)) (O:St.ev ⟨fr,H⟩ y=some q) (U:kk∉q.ids) (T:St.src ⟨fr,H⟩ l0 q ys pr) (V:lk H t=none)
 (hb:lk H kk=some b) (Y:n=b.rows.length) (he:b.l0=l0) (het:b.et=et) (M:(n+ys.length)*bytes<=140737488355328) (hc:n+ys.length<=4611686018427387904) (ho:dr.ok r.length (tkR true (.append l0 et bytes x y) ⟨fr,H⟩ (kk::q.ids)) (tkW true (.append l0 et bytes x y) ⟨fr,H⟩ [kk])=true)
 (k:Bq P true (dr.nx (ZK [t] r) (tkR true (.append l0 et bytes x y) ⟨fr,H⟩ (kk::q.ids)) (tkW true (.append l0 et bytes x y) ⟨fr,H⟩ [kk])) r K ⟨(t,.s4 t (n+ys.length))::fr,(t,⟨b.rows++ys,l0,et,b.pr&&pr⟩)::(kk,Zt)::H⟩) (G:kk<1000000:=by decide) (C:t<1000000:=by decide):Bq P true dr (⟨some t,.append l0 et bytes x y,none⟩::r) K ⟨fr,H⟩:=
 P6 (w:=true) (.inr ⟨_,_,_,_,⟨t,kk,n,b,q,ys,pr,rfl,hx,G,V,C,hb,Y,he,het,O,U,T,M,hc,rfl,rfl,rfl,rfl⟩,ho,rfl,k⟩)
end
theorem Qb3 {fr1:QAi} {H1:QAh} {l lH:List Nat} (t m k0:Nat) {b0 C:u4} (hf:QA l fr=fr1) (hH:Zv lH H=H1) (hb:lk H t=some b) (O:b.pr=true) (h0:lk H k0=some b0) (e0:b0.n5 (Zy t m)=C)
 (hw:oa ((m,b)::(k0,C)::H1) fr1=true) (Y:(fr1.all λp=>!p.2.ids.contains t&&!p.2.ids.contains m)=true) (V:(H1.all λp=>p.1 != t&&p.1 != m&&(p.2.pr||(!p.2.ids.contains t&&!p.2.ids.contains m)))=true) (hbk:Qet H ((k0,C)::H1)=true) (ht:t<1000000:=by decide) (hm:m<1000000:=by decide) (hk0:k0≠t/\k0≠m:=by decide):
  St.le ⟨fr,H⟩ ⟨fr1,(m,b)::(k0,C)::H1⟩:=λE g a w r=>by
 subst hf hH e0;obtain⟨g',r'⟩:=K5 t m ht hm ⟨fr,H⟩ E g a w r;have hsw:Zy t m t=m:=by unfold Zy;simp
 have hsm:Zy t m m=t:=by grind [ZJ]
 have G:∀k,k≠t->k≠m->Zy t m k=k:=λk h1 h2=>by unfold Zy;grind
 have T:b.n5 (Zy t m)=b:=u4.k9 ((r.bx t b hb).2.1 O);simp only[oa,QAo,QAu]at hw;simp only[QAu,QAo,QBq,QBw,decide_eq_false_iff_not]at Y;simp only[QAu,QAo,QBp,QBq,QBw,decide_eq_false_iff_not,bne_iff_ne,ne_eq]at V;refine⟨g',r'.less (λv d h=>?_) (λj x h=>?_) (λv d h j U=>hw.1 (v,d) (QZ h) j U) (λj x h i hi=>hw.2 (j,x) (QZ h) i hi) λj U hs=>?_⟩;simp only[St.n5,Ya];have h2:=Yz l fr v d h;rw[h2,QA4]
 congr 1
 have M:=Y (v,d) (QZ h);exact QaO λk hk=>G k Wb Wb;show lk (De (Zy t m) H) j=some x;rw[Kp (ZJ t m)];rw[Qf]at h;split at h
 grind
 rw[Qf]at h;split at h
 grind
 have h2:=Jk lH H j x h;have M:=V (j,x) (QZ h);rw[G j M.1.1 M.1.2,h2,QA4]
 congr 1
 cases hp:x.pr with
 |true=>exact u4.k9 ((r.bx j x h2).2.1 hp)
 |false=>
  have h4:=M.2.resolve_left Wb;exact Ml hp λk hk=>G k Wb Wb
 have hs':(lk (De (Zy t m) H) j).isSome=true:=hs
 grind [Kp,Mk,Qf]
def GG:List Nat:=[500000,500001]
abbrev FD2 (f:List UInt8->List TkR) (ns:List (List UInt8)):QAh:=[(500000,bNs ns),(500001,bRs f ns),(2000000,⟨[[.s4 500000 ns.length,.s4 500001 ns.length]],2,125,false⟩)]
theorem Qe2 (f:List UInt8->List TkR) (ns:List (List UInt8)):KL (Qd2 1000000 2000000) (FD f ns)=FD2 f ns:=by
 have e1:Qd2 1000000 2000000 500000=500000:=by rfl
 have e2:Qd2 1000000 2000000 500001=500001:=by rfl
 have e3:Qd2 1000000 2000000 1000000=2000000:=by rfl
 simp only[FD,FD2,KL,QAX,QBr,u4.n5,D.y6,e1,e2,e3,QBD,bNs,bRs,bFd];rfl
theorem Qe1 (f:List UInt8->List TkR) (ns:List (List UInt8)):Xv GG (FD f ns)=FD2 f ns:=by
 have e1:ZM GG 500000=500000:=by rfl
 have e2:ZM GG 500001=500001:=by rfl
 have e3:ZM GG 1000000=2000000:=by rfl
 simp only[FD,FD2,Xv,QAX,QBr,u4.n5,D.y6,e1,e2,e3,QBD,bNs,bRs,bFd];rfl
theorem QeZ (h:lk (FD2 f ns) k=some b):(k=500000/\b=bNs ns)\/(k=500001/\b=bRs f ns)\/(k=2000000/\b=bFd ns):=by
 have:=QZ h;simp only[FD2,QAm,QBc,QAl,or_false]at this;exact this
theorem QlZ (k:Nat) (b:u4) (h:lk (FD2 f ns) k=some b):∀j∈b.ids,(lk (FD2 f ns) j).isSome=true:=λj C=>by
 rcases QeZ h with⟨_,rfl⟩ |⟨_,rfl⟩ |⟨_,rfl⟩;simp[u4.ids]at C;simp[u4.ids]at C;simp[u4.ids,D.ids,D.l4]at C;rcases C with rfl |rfl<;>rfl
theorem Qin (k:Nat):(lk (FD2 f ns) k).isSome=(lk (FD2 f ns') k).isSome:=by
 have key:∀ns ns':List (List UInt8),(lk (FD2 f ns) k).isSome=true->(lk (FD2 f ns') k).isSome=true:=λns ns' h=>by
  obtain⟨b,hb⟩:=QAq.1 h;rcases QeZ hb with⟨rfl,_⟩ |⟨rfl,_⟩ |⟨rfl,_⟩<;>rfl
 cases h:(lk (FD2 f ns) k).isSome
 cases C:(lk (FD2 f ns') k).isSome
 rfl;rw[key ns' ns C]at h;cases h;exact(key ns ns' h).symm
def plB (Ho:QAh):Bool:=Ho.all λp=>(Nat.ble 1 p.1&&Nat.ble p.1 400000)&&p.2.ids.all λj=>Nat.beq j 1000000||(lk Ho j).isSome
theorem QdV {f:Nat} (Y:s6 P f (.agg (dYd y (.ref 1000000 0 0))::rest) (FD lkf ns) d (FD lkf ns')) (ho:o=⟨some t,.call f az,none⟩) (hds:QF ⟨fr,H⟩ az=some (.agg (dYd y (.ref 1000000 0 0))::rest)) (hH:H=Ho++FD lkf ns)
 (hfr:(fr.all λp=>p.2.ids.all λk=>!GG.contains k)=true) (hd:d.ids=[]) (hr:∀ρ:Nat->Nat,rest.map (λd=>(d.n5 ρ).can)=rest/\rest.map (D.n5 ρ)=rest) (U:(rest.all λx=>x.ids.isEmpty)=true) (hp:plB Ho=true) (hK:K ⟨(t,d)::fr,Ho++FD lkf ns'⟩):Qcq P o K ⟨fr,H⟩:=by
 subst hH;have T:∀k∈(D.agg (dYd y (.ref 2000000 0 0))).ids,k=2000000:=λk hk=>by simpa [dYd,D.ids,D.l4,Nu,Cm,RF]using hk
 have h2:s6 P f (.agg (dYd y (.ref 2000000 0 0))::rest) (FD2 lkf ns) d (FD2 lkf ns'):=s6.og (rnS (a:=1000000) (b:=2000000) We We) Y (by rw[QAX,(hr _).2];rfl) (Qe2 _ _) (Dg hd) (Qe2 _ _)
 have V:∀k b,lk Ho k=some b->(1<=k/\k<=400000)/\∀j∈b.ids,j=1000000\/(lk Ho j).isSome=true:=λk b hb=>by
  have:=QAu.1 hp _ (QZ hb);simp only[QAo,QAu,QBp]at this;exact⟨⟨QAk this.1.1,QAk this.1.2⟩,λj O=>(this.2 j O).imp QBC id⟩
 have hZ:∀k b,lk (Xv GG Ho) k=some b->(1000000<=k/\¬k=2000000)/\∀j∈b.ids,(lk (Xv GG Ho) j).isSome=true\/j=2000000:=λk b hb=>by
  obtain⟨j,b0,rfl,h1,rfl⟩:=Zl hb;obtain⟨⟨q1,q2⟩,q3⟩:=V j b0 h1
  have O:ZM GG j=j+1000000:=by
   unfold ZM;rw[if_neg];rfl;intro h;simp[GG]at h;omega
  refine⟨⟨Wa,Wa⟩,λi hi=>?_⟩;rw[u4.j7]at hi;obtain⟨i0,hi0,rfl⟩:=QAy.1 hi;rcases q3 i0 hi0 with rfl |h
  exact .inr rfl;left;rw[Yd (G:=GG) rfl,QAC];exact h
 have C:∀ns k b,lk (Xv GG Ho) k=some b->lk (FD2 lkf ns) k=none:=λns k b hb=>by
  cases e:lk (FD2 lkf ns) k with
  |none=>rfl
  |some x=>
   have h1:=(hZ k b hb).1;rcases QeZ e with⟨rfl,_⟩ |⟨rfl,_⟩ |⟨rfl,_⟩
   omega;omega;exact absurd rfl h1.2
 have h3:=s6.frame (HF:=Xv GG Ho) h2 QlZ (λk b hb=>⟨(hZ k b hb).1.1,C _ k b hb,C _ k b hb,λj O=>((hZ k b hb).2 j O).imp id λe=>by subst e;exact⟨by decide,rfl⟩⟩) (λk _ h=>(Qin k).trans h) (λx hx k hk=>by
  rcases QAm.1 hx with rfl |hx;rw[T k hk];rfl;have:=QAu.1 U x hx
  rw[QBn.1 this]at hk;cases hk) (λk hk=>by rw[hd]at hk;cases hk)
 have M:∀ns k,lk (Xv GG Ho++FD2 lkf ns) k=lk (FD2 lkf ns++Xv GG Ho) k:=λns k=>by
  cases e:lk (Xv GG Ho) k with
  |some b=>rw[Zo e,Zx (C ns k b e),e]
  |none=>
   rw[Zx e];cases e2:lk (FD2 lkf ns) k with
   |some b=>rw[Zo e2]
   |none=>rw[Zx e2,e]
 have h4:=s6.ai (M ns) (M ns') h3;refine Qgb Qmp (Qql (Qcr (G:=GG) (Hr:=Ho++FD lkf ns') ho hds rfl hfr hd (by rw[QBi,QBi];rfl) (by rw[QAX,(hr _).1];rfl) (by rw[Xv,QBi];exact congrArg _ (Qe1 lkf ns)) (by rw[Xv,QBi];exact congrArg _ (Qe1 lkf ns')) h4 hK))
theorem s6.wh {f:Nat} (h:s6 P f ds H (.sl rows) H') (hw:wkR rows rows'=true):s6 P f ds H (.sl rows') H':=
 ⟨h.1,λg w vs a b c=>(h.2 g w vs a b c).mono λ_ _ ⟨v,g',he,C,rest⟩=>⟨v,g',he,TY (.sl rows) (.sl rows') v hw C,rest⟩⟩
theorem JR {α:Type} {f g:α->List D} (h:∀x,wkL (f x) (g x)=true):∀l:List α,wkR (l.map f) (l.map g)=true
 |[]=>rfl
 |x::l=>by simp[wkR,h x,JR h l]
theorem XD (l:List (Cu × Cu)):(Qw l).wk (Qw l)=true:=JR (λs=>by simp[JT,dCu,wkL,D.wk]) l
theorem QkH (a:AskT):wkL (QeP a) (QeP a)=true:=by
 have h1:=XD a.s.1;have h2:=XD a.s.2;simp[QeP,wkL,D.wk,h1,h2]
theorem Qol (l:List (List AskT)):wkR (l.map λr=>[.z7 (r.map QeP)]) (l.map λr=>[Mu r])=true:=JR (λr=>by simp[wkL,Mu,D.wk,JR QkH]) l
theorem QhQ {j:Nat} {r:List z1} {l:Int} {lo:Option l5} (hx:St.ev ⟨fr,H⟩ x=some (.s4 j n)) (O:St.va ⟨fr,H⟩ lo 0=some l) (hb:lk H j=some b) (M:n=b.rows.length) (he:b.l0=l0) (C:l0≠0) (G:∀r0∈b.rows,∀d∈r0,j∉d.l4) (h0:0<=l) (h1:l<=n)
 (k:run P .fixed r K ⟨(t,.s4 j (n - l.toNat))::fr.map λp=>(p.1,p.2.z2 j),(j,⟨b.rows.drop l.toNat,l0,b.et,b.pr⟩)::H.map λp=>(p.1,p.2.z2 j)⟩) (T:j<1000000:=by decide):run P .fixed (⟨some t,.slice l0 x lo none none,none⟩::r) K ⟨fr,H⟩:=
 Qu rfl rfl (.inr (.inr (.inr ⟨rfl,rfl,l,O,_,hx,b,hb,T,M,he,C,G,h0,h1,rfl,k⟩)))
theorem Qcu {u:Nat} {e:AExit} {sz:Nat} {p d':D} {cells cs:List D} (h:lk fr t=some p) (ha:St.yc ⟨fr,H⟩ p=some cells) (G:Nat.ble sz cells.length=true) (M:cells.take sz=cs) (h2:lk fr u=some q) (hd:F7 small ⟨fr,H⟩ (.agg cs)=.agg ds/\F7 small ⟨fr,H⟩ q=d') (hp:(D.agg ds).pure=true/\d'.pure=true) (C:∀k b,lk H' k=some b->lk H k=some b) (he:e=.ret\/e=.normal:=by first |exact .inl rfl |exact .inr rfl):Na [.cell t true sz,.tmp u] (.u7 [.agg ds,d']) H' e ⟨fr,H⟩:=by
 obtain⟨hd,rfl⟩:=hd;have hr:XQ small ⟨fr,H⟩ (.cell t true sz) (.agg ds):=⟨p,cells,h,HS.2 ha,by simp_all⟩;rcases he with rfl |rfl<;>exact⟨.inr (.inr (.inl ⟨_,_,_,_,rfl,rfl,hp.1,hp.2,hr,⟨_,h2,rfl⟩⟩)),C⟩
theorem s6.ji {f:Nat} {b:Bool} (h:s6 P f ds H (.u7 [.sl rows,.bool b]) H') (hw:wkR rows rows'=true):s6 P f ds H (.u7 [.sl rows',.bool b]) H':=
 ⟨h.1,λg w vs a b c=>(h.2 g w vs a b c).mono λ_ _ ⟨v,g',he,C,rest⟩=>⟨v,g',he,by
  obtain⟨us,h1,h2⟩:=(show l3 g'.K (.u7 [.sl rows,.bool _]) v from C);exact(show l3 g'.K (.u7 [.sl rows',.bool _]) v from⟨us,h1,Qhp (by simp[D.wk,wkL,hw]) h2⟩),rest⟩⟩
abbrev FDk (f:List UInt8->List TkR) (ns:List (List UInt8)):QAh:=[(500000,bNs ns),(500001,bRs f ns),(66,bFd ns)]
abbrev FD6 (f:List UInt8->List TkR) (ns:List (List UInt8)):QAh:=[(500000,bNs ns),(500001,bRs f ns),(1000066,⟨[[.s4 500000 ns.length,.s4 500001 ns.length]],2,125,false⟩)]
theorem QbB (f:List UInt8->List TkR) (ns:List (List UInt8)):KL (Qd2 1000000 1000066) (FD f ns)=FD6 f ns:=by
 have e1:Qd2 1000000 1000066 500000=500000:=by rfl
 have e2:Qd2 1000000 1000066 500001=500001:=by rfl
 have e3:Qd2 1000000 1000066 1000000=1000066:=by rfl
 simp only[FD,FD6,KL,QAX,QBr,u4.n5,D.y6,e1,e2,e3,QBD,bNs,bRs,bFd];rfl
theorem QbA (f:List UInt8->List TkR) (ns:List (List UInt8)):Xv GG (FDk f ns)=FD6 f ns:=by
 have e1:ZM GG 500000=500000:=by rfl
 have e2:ZM GG 500001=500001:=by rfl
 have e3:ZM GG 66=1000066:=by rfl
 simp only[FDk,FD6,Xv,QAX,QBr,u4.n5,D.y6,e1,e2,e3,QBD,bNs,bRs,bFd];rfl
theorem Qe0 (h:lk (FD6 f ns) k=some b):(k=500000/\b=bNs ns)\/(k=500001/\b=bRs f ns)\/(k=1000066/\b=bFd ns):=by
 have:=QZ h;simp only[FD6,QAm,QBc,QAl,or_false]at this;exact this
theorem Ql0 (k:Nat) (b:u4) (h:lk (FD6 f ns) k=some b):∀j∈b.ids,(lk (FD6 f ns) j).isSome=true:=λj C=>by
 rcases Qe0 h with⟨_,rfl⟩ |⟨_,rfl⟩ |⟨_,rfl⟩;simp[u4.ids]at C;simp[u4.ids]at C;simp[u4.ids,D.ids,D.l4]at C;rcases C with rfl |rfl<;>rfl
theorem Qio (k:Nat):(lk (FD6 f ns) k).isSome=(lk (FD6 f ns') k).isSome:=by
 have key:∀ns ns':List (List UInt8),(lk (FD6 f ns) k).isSome=true->(lk (FD6 f ns') k).isSome=true:=λns ns' h=>by
  obtain⟨b,hb⟩:=QAq.1 h;rcases Qe0 hb with⟨rfl,_⟩ |⟨rfl,_⟩ |⟨rfl,_⟩<;>rfl
 cases h:(lk (FD6 f ns) k).isSome
 cases C:(lk (FD6 f ns') k).isSome
 rfl;rw[key ns' ns C]at h;cases h;exact(key ns ns' h).symm
theorem QsD {f:Nat} {O:QAi} {H0:QAh} (hok:s6 P f (.agg (dYd y (.ref 1000000 0 0))::rest) (FD lkf ns) d (FD lkf ns')) (ho:o=⟨some t,.call f az,none⟩) (hle:St.le ⟨O,H0⟩ ⟨fr,H⟩) (hds:QF ⟨fr,H⟩ az=some (.agg (dYd y (.ref 66 0 0))::rest)) (hH:H=Ho++FDk lkf ns) (h66:(Ho.all λp=>!Nat.beq p.1 66&&p.2.ids.isEmpty)=true)
 (hfr:(fr.all λp=>p.2.ids.all λk=>!GG.contains k)=true) (hd:d.ids=[]) (hr:∀ρ:Nat->Nat,rest.map (λd=>(d.n5 ρ).can)=rest/\rest.map (D.n5 ρ)=rest) (V:(rest.all λx=>x.ids.isEmpty)=true) (hp:plB Ho=true) (hK:K ⟨(t,d)::fr,Ho++FDk lkf ns'⟩):Qcq P o K ⟨O,H0⟩:=by
 subst hH;have U:∀k∈(D.agg (dYd y (.ref 1000066 0 0))).ids,k=1000066:=λk hk=>by simpa [dYd,D.ids,D.l4,Nu,Cm,RF]using hk
 have h2:s6 P f (.agg (dYd y (.ref 1000066 0 0))::rest) (FD6 lkf ns) d (FD6 lkf ns'):=s6.og (rnS (a:=1000000) (b:=1000066) We We) hok (by rw[QAX,(hr _).2];rfl) (QbB _ _) (Dg hd) (QbB _ _)
 have Y:∀k b,lk Ho k=some b->(1<=k/\k<=400000)/\∀j∈b.ids,j=1000000\/(lk Ho j).isSome=true:=λk b hb=>by
  have:=QAu.1 hp _ (QZ hb);simp only[QAo,QAu,QBp]at this;exact⟨⟨QAk this.1.1,QAk this.1.2⟩,λj T=>(this.2 j T).imp QBC id⟩
 have hZ:∀k b,lk (Xv GG Ho) k=some b->(1000000<=k/\¬k=1000066)/\∀j∈b.ids,(lk (Xv GG Ho) j).isSome=true\/j=1000066:=λk b hb=>by
  obtain⟨j,b0,rfl,h1,rfl⟩:=Zl hb;obtain⟨⟨q1,q2⟩,q3⟩:=Y j b0 h1;have h7:=QAu.1 h66 _ (QZ h1);simp only[QAo,QBq,QBn]at h7;have h8:¬j=66:=λe=>by subst e;simp at h7
  have T:ZM GG j=j+1000000:=by
   unfold ZM;rw[if_neg];rfl;intro h;simp[GG]at h;omega
  refine⟨⟨Wa,Wa⟩,λi hi=>?_⟩;rw[u4.j7,h7.2]at hi;cases hi
 have C:∀ns k b,lk (Xv GG Ho) k=some b->lk (FD6 lkf ns) k=none:=λns k b hb=>by
  cases e:lk (FD6 lkf ns) k with
  |none=>rfl
  |some x=>
   have h1:=(hZ k b hb).1;rcases Qe0 e with⟨rfl,_⟩ |⟨rfl,_⟩ |⟨rfl,_⟩
   omega;omega;exact absurd rfl h1.2
 have h3:=s6.frame (HF:=Xv GG Ho) h2 Ql0 (λk b hb=>⟨(hZ k b hb).1.1,C _ k b hb,C _ k b hb,λj T=>((hZ k b hb).2 j T).imp id λe=>by subst e;exact⟨by decide,rfl⟩⟩) (λk _ h=>(Qio k).trans h) (λx hx k hk=>by
  rcases QAm.1 hx with rfl |hx;rw[U k hk];rfl;have:=QAu.1 V x hx
  rw[QBn.1 this]at hk;cases hk) (λk hk=>by rw[hd]at hk;cases hk)
 have M:∀ns k,lk (Xv GG Ho++FD6 lkf ns) k=lk (FD6 lkf ns++Xv GG Ho) k:=λns k=>by
  cases e:lk (Xv GG Ho) k with
  |some b=>rw[Zo e,Zx (C ns k b e),e]
  |none=>
   rw[Zx e];cases e2:lk (FD6 lkf ns) k with
   |some b=>rw[Zo e2]
   |none=>rw[Zx e2,e]
 have h4:=s6.ai (M ns) (M ns') h3;refine Qgb hle (Qql (Qcr (G:=GG) (Hr:=Ho++FDk lkf ns') ho hds rfl hfr hd (by rw[QBi,QBi];rfl) (by rw[QAX,(hr _).1];rfl) (by rw[Xv,QBi];exact congrArg _ (QbA lkf ns)) (by rw[Xv,QBi];exact congrArg _ (QbA lkf ns')) h4 hK))
theorem Ok.wh {f:Nat} (h:Ok P f ds (.sl rows)) (hw:wkR rows rows'=true):Ok P f ds (.sl rows'):=
 ⟨h.1,λK w vs a b=>(h.2 K w vs a b).mono λ_ _ ⟨v,K',he,C,rest⟩=>⟨v,K',he,TY (.sl rows) (.sl rows') v hw C,rest⟩⟩
theorem Qok (l:List (Bool × List AskT)):wkR (l.map QoJ) ((l.map Prod.snd).map λr=>[Mu r])=true:=by
 rw[QBD];refine JR (λp=>?_) l;obtain⟨b,r⟩:=p;cases b<;>simp[QoJ,wkL,Mu,D.wk,JR QkH]
variable {r:List D} {f:Nat}
mutual
theorem QvL:∀{t:Tp} {d:D},t.has d->d.wk d=true
 | .i k lo hi,d,h=>by obtain⟨n,rfl,_⟩:=h;simp[D.wk]
 | .b,d,h=>by obtain⟨n,rfl⟩:=h;simp[D.wk]
 | .s n,d,h=>by obtain⟨n,rfl,_⟩:=h;simp[D.wk]
 | .c ls,d,h=>by obtain⟨n,_,rfl⟩:=h;simp[D.wk]
 | .l row n,d,h=>by
  obtain⟨rows,hd,_,hr⟩:=h
  have key:∀rows:List (List D),(∀r∈rows,Tp.u3 row r)->wkR rows rows=true:=λrows=>by
   induction rows with
   |nil=>intro _;rfl
   |cons r rows C=>intro hr;simp only[wkR,QAo];exact⟨Qc4 (hr r Wc),C λx hx=>hr x (QBm _ hx)⟩
  have:=key rows hr;rcases hd with rfl |rfl<;>simpa [D.wk]using this
 | .lm row n,d,h=>by
  obtain⟨rows,hd,_,hr⟩:=h
  have key:∀rows:List (List D),(∀r∈rows,Tp.u3 row r)->wkR rows rows=true:=λrows=>by
   induction rows with
   |nil=>intro _;rfl
   |cons r rows C=>intro hr;simp only[wkR,QAo];exact⟨Qc4 (hr r Wc),C λx hx=>hr x (QBm _ hx)⟩
  have:=key rows hr;rcases hd with rfl |rfl<;>simpa [D.wk]using this
 | .px k,d,h=>by
  obtain⟨rows,hd,hx⟩:=h;unfold xB at hx;split at hx;rename_i l e;have e:=N8 e;subst e;have:=XD l;simp only[Qw,D.wk]at this;rcases hd with rfl |rfl<;>simpa [D.wk]using this
  cases hx
theorem Qc4:∀{ts:List Tp} {ds:List D},Tp.u3 ts ds->wkL ds ds=true
 |[],ds,h=>by obtain rfl:ds=[]:=h;rfl
 |t::ts,ds,h=>by
  obtain⟨d,r,rfl,h1,h2⟩:=h;simp only[wkL,QAo];exact⟨QvL h1,Qc4 h2⟩
end
theorem G1 {row:List Tp}:∀{rows:List (List D)},(∀r∈rows,Tp.u3 row r)->wkR rows rows=true
 |[],_=>rfl
 |r::rows,hr=>by
  simp only[wkR,QAo];exact⟨Qc4 (hr r Wc),G1 λx hx=>hr x (QBm _ hx)⟩
theorem SO {b:List (List D)} (h:isL d rows) (hw:wkR rows b=true):d.wk (.sl b)=true:=by
 rcases h with rfl |rfl<;>simpa [D.wk]using hw
theorem N9 {row:List Tp} {n:Nat} (h:(Tp.l row n).has d):∃rows,d.wk (.sl rows)=true/\(Tp.l row n).has (.sl rows):=by
 obtain⟨rows,hd,C,hr⟩:=h;exact⟨rows,SO hd (G1 hr),rows,.inl rfl,C,hr⟩
theorem TV {α:Type} {row:List Tp} {f:α->List D} {p:α->Prop} (h:∀r,Tp.u3 row r->∃a,wkL r (f a)=true/\p a):∀rows:List (List D),(∀r∈rows,Tp.u3 row r)->∃l:List α,wkR rows (l.map f)=true/\l.length=rows.length/\∀a∈l,p a
 |[],_=>⟨[],rfl,rfl,by simp⟩
 |r::rows,hr=>by
  obtain⟨a,h1,h2⟩:=h r (hr r Wc);obtain⟨l,O,M,G⟩:=TV h rows λr C=>hr r (QBm _ C);refine⟨a::l,by simp[wkR,h1,O],by simp[M],λx hx=>?_⟩;rcases QAm.1 hx with rfl |hx
  exact h2;exact G x hx
theorem Qoj:∀{a b:List Tp} {r:List D},Tp.u3 (a++b) r->∃x y,r=x++y/\Tp.u3 a x/\Tp.u3 b y
 |[],b,r,h=>⟨[],r,rfl,rfl,h⟩
 |t::a,b,r,h=>by
  obtain⟨d,M,rfl,h1,h2⟩:=h;obtain⟨x,y,rfl,G,C⟩:=Qoj h2;exact⟨d::x,y,rfl,⟨d,x,rfl,h1,G⟩,C⟩
theorem Qlj:∀{a b:List Tp} {x y:List D},Tp.u3 a x->Tp.u3 b y->Tp.u3 (a++b) (x++y)
 |[],b,x,y,h,h2=>by obtain rfl:x=[]:=h;exact h2
 |t::a,b,x,y,h,h2=>by
  obtain⟨d,C,rfl,h1,G⟩:=h;exact⟨d,C++y,rfl,h1,Qlj G h2⟩
theorem Qa5:∀{a b c d:List D},wkL a b=true->wkL c d=true->wkL (a++c) (b++d)=true
 |[],[],_,_,_,h=>h
 |x::a,y::b,c,d,h1,h2=>by
  simp only[wkL,QAo]at h1;simp only[QBf,wkL,QAo];exact⟨h1.1,Qa5 h1.2 h2⟩
 |[],_::_,_,_,h,_=>by cases h
 |_::_,[],_,_,h,_=>by cases h
structure QkN (b:Qc8):Prop where
 n:b.n∈tName
 r:b.r∈tRange
 w:b.w∈MS
theorem QjN (h:Tp.u3 Qqy r):∃b:Qc8,r=Qdm b/\QkN b:=by
 obtain⟨_,_,rfl,⟨n,C,rfl⟩,_,_,rfl,⟨g,G,rfl⟩,_,_,rfl,⟨w,hw,rfl⟩,rfl⟩:=h;exact⟨⟨n,g,w⟩,rfl,C,G,hw⟩
theorem Qlq {b:Qc8} (h:Tp.u3 Qqy (Qdm b)):QkN b:=by
 obtain⟨c,e,h⟩:=QjN h;obtain⟨n,g,w⟩:=b;obtain⟨C,g',w'⟩:=c;simp only[Qdm,QBz,D.str.injEq,and_true]at e;obtain⟨rfl,rfl,rfl⟩:=e;exact h
theorem Qes:∀{rows:List (List D)},(∀r∈rows,Tp.u3 Qqy r)->∃bs:List Qc8,rows=bs.map Qdm
 |[],_=>⟨[],rfl⟩
 |r::rows,h=>by
  obtain⟨b,rfl,_⟩:=QjN (h r Wc);obtain⟨bs,rfl⟩:=Qes λr hr=>h r (QBm _ hr);exact⟨b::bs,rfl⟩
structure QsJ (x:FH):Prop where
 n:x.n∈tName
 v:fb x.v
 bl:x.bs.length<=1
 bs:∀b∈x.bs,QkN b
 fl:x.fd.length<=4
 fd:∀r∈x.fd,Tp.u3 Py r
theorem Qre {a b c:Int} {p q:List UInt8} (ha:0<=a/\a<=2) (hb:0<=b/\b<=1) (G:0<=c/\c<=0) (hp:p∈Qwu) (C:q∈Qws):fb ⟨a,b,c,p,q⟩:=by
 obtain rfl:c=0:=Wa;exact QAr.2 ⟨a,by simp;omega,QAr.2 ⟨b,by simp;omega,QAr.2 ⟨p,hp,QAy.2 ⟨q,C,rfl⟩⟩⟩⟩
theorem Qkq (h:Tp.u3 X1 r):∃x:FH,wkL r (JC x)=true/\Tp.u3 X1 (JC x):=by
 obtain⟨_,_,rfl,⟨n,Y,rfl⟩,_,_,rfl,⟨a,rfl,ha⟩,_,_,rfl,⟨b,rfl,hb⟩,_,_,rfl,⟨c,rfl,hc⟩,_,_,rfl,⟨p,hp,rfl⟩,_,_,rfl,⟨q,V,rfl⟩,dn,_,rfl,C,db,_,rfl,M,df,_,rfl,G,rfl⟩:=h;obtain⟨nd,U,t1⟩:=N9 C;obtain⟨br,T,t2⟩:=N9 M;obtain⟨fd,O,t3⟩:=N9 G
 obtain⟨bs,rfl⟩:∃bs:List Qc8,br=bs.map Qdm:=by
  obtain⟨rows,hd,_,hr⟩:=t2;rcases hd with h |h<;>cases h
  exact Qes hr
 refine⟨⟨n,⟨a,b,c,p,q⟩,nd,bs,fd⟩,by simp[JC,wkL,D.wk,U,T,O],⟨_,_,rfl,⟨n,Y,rfl⟩,_,_,rfl,⟨a,rfl,ha⟩,_,_,rfl,⟨b,rfl,hb⟩,_,_,rfl,⟨c,rfl,hc⟩,_,_,rfl,⟨p,hp,rfl⟩,_,_,rfl,⟨q,V,rfl⟩,_,_,rfl,t1,_,_,rfl,t2,_,_,rfl,t3,rfl⟩⟩
theorem Xf {x:FH} (h:Tp.u3 X1 (JC x)):QsJ x:=by
 obtain⟨_,_,e0,⟨n,hn,rfl⟩,_,_,rfl,⟨a,rfl,ha⟩,_,_,rfl,⟨b,rfl,hb⟩,_,_,rfl,⟨c,rfl,hc⟩,_,_,rfl,⟨p,hp,rfl⟩,_,_,rfl,⟨q,V,rfl⟩,dn,_,rfl,Y,db,_,rfl,⟨br,U,T,O⟩,df,_,rfl,⟨fr,M,G,C⟩,rfl⟩:=h;obtain⟨n',⟨a',b',c',p',q'⟩,nd,bs,fd⟩:=x;simp only[JC,QBz,D.str.injEq,D.int.injEq,true_and,and_true]at e0;obtain⟨rfl,rfl,rfl,rfl,rfl,rfl,rfl,rfl,rfl⟩:=e0;rcases U with h |h<;>cases h
 rcases M with h |h<;>cases h;exact⟨hn,Qre ha hb hc hp V,by simpa using T,λb hb=>Qlq (O _ (QAy.2 ⟨b,hb,rfl⟩)),G,C⟩
theorem Qp2 (r:List D) (h:Tp.u3 S7 r):∃m:Qhu,wkL r (QeQ m)=true/\Tp.u3 S7 (QeQ m)/\Tp.u3 X1 (JC m.r):=by
 obtain⟨x,y,rfl,h1,T,_,rfl,h2,U,_,rfl,O,rfl⟩:=Qoj (a:=X1) h;obtain⟨z,M,t1⟩:=Qkq h1;obtain⟨pd,G,t2⟩:=N9 h2;obtain⟨hd,C,t3⟩:=N9 O;exact⟨⟨z,pd,hd⟩,Qa5 M (by simp[wkL,G,C]),Qlj t1 ⟨_,_,rfl,t2,_,_,rfl,t3,rfl⟩,t1⟩
theorem Qpv (r:List D) (h:Tp.u3 TI r):∃e:Fs,wkL r (Qte e)=true/\Tp.u3 TI (Qte e)/\Tp.u3 X1 (JC e.r):=by
 obtain⟨x,y,rfl,h1,_,_,rfl,⟨s,rfl,G⟩,_,_,rfl,⟨t,rfl⟩,rfl⟩:=Qoj (a:=X1) h;obtain⟨z,C,t1⟩:=Qkq h1;exact⟨⟨z,s,t⟩,Qa5 C (by simp[wkL,D.wk]),Qlj t1 ⟨_,_,rfl,⟨s,rfl,G⟩,_,_,rfl,⟨t,rfl⟩,rfl⟩,t1⟩
theorem Qt4 (r:List D) (h:Tp.u3 XP r):∃s:ShR,wkL r (dSh s)=true/\Tp.u3 XP (dSh s)/\(s.n.length<=100/\s.es.length<=100)/\∀e∈s.es,Tp.u3 X1 (JC e.r):=by
 obtain⟨_,_,rfl,⟨n,C,rfl⟩,d,_,rfl,⟨rows,hd,M,hr⟩,rfl⟩:=h;obtain⟨es,G,l1,t1⟩:=TV Qpv rows hr;refine⟨⟨n,es⟩,by simp[dSh,Qif,wkL,D.wk,SO hd G],⟨_,_,rfl,⟨n,C,rfl⟩,_,_,rfl,⟨_,.inl rfl,by rw[QBd,l1];exact M,λr hr=>?_⟩,rfl⟩,⟨(show∀n∈QgV,n.length<=100 by decide) n C,by rw[l1];omega⟩,λe he=>(t1 e he).2⟩
 obtain⟨e,he,rfl⟩:=QAy.1 hr;exact(t1 e he).1
theorem QaL {d':D} (h:Ok P f ds d) (hd:d.wk d'=true):Ok P f ds d':=
 ⟨h.1,λK w vs hk C=>(h.2 K w vs hk C).mono λ_ _ ⟨v,K',he,hr,rest⟩=>⟨v,K',he,TY d d' v hd hr,rest⟩⟩
theorem Qkm {a b a' b':D} (h:Ok P f ds (.u7 [a,b])) (ha:a.wk a'=true) (hb:b.wk b'=true):Ok P f ds (.u7 [a',b']):=by
 refine⟨h.1,λK w vs hk C=>(h.2 K w vs hk C).mono λe w' ⟨v,K',he,hr,rest⟩=>⟨v,K',he, ?_,rest⟩⟩;simp only[l3]at hr ⊢;obtain⟨us,h1,h2⟩:=hr;exact⟨us,h1,Qhp (by simp[wkL,ha,hb]) h2⟩
structure QhJ (a:AskT):Prop where
 n:a.k.1∈tName
 f:a.k.2∈tFeat0
 s1:spB 0 a.s.1=true
 s2:spB 1 a.s.2=true
theorem Qqx (h:(Tp.px k).has d):∃l,d.wk (Qw l)=true/\spB k l=true:=by
 obtain⟨rows,hd,hx⟩:=h;unfold xB at hx;split at hx;rename_i l e;have e:=N8 e;subst e;exact⟨l,SO hd (XD l),hx⟩;cases hx
theorem Qo6 (r:List D) (h:Tp.u3 FB r):∃a:AskT,wkL r (QeP a)=true/\QhJ a:=by
 obtain⟨_,_,rfl,⟨n,M,rfl⟩,_,_,rfl,⟨f,O,rfl⟩,d1,_,rfl,h1,d2,_,rfl,h2,rfl⟩:=h;obtain⟨a,G,s1⟩:=Qqx h1;obtain⟨b,C,s2⟩:=Qqx h2;exact⟨⟨(n,f),(a,b)⟩,by simp[QeP,wkL,D.wk,G,C],M,O,s1,s2⟩
theorem Qln (r:List D) (h:Tp.u3 [.lm FB 4] r):∃l:List AskT,wkL r [Mu l]=true/\(1<=l.length/\l.length<=4)/\∀a∈l,QhJ a:=by
 obtain⟨d,_,rfl,⟨rows,hd,G,hr⟩,rfl⟩:=h;obtain⟨l,C,l1,t1⟩:=TV Qo6 rows hr;exact⟨l,by simp[wkL,Mu,SO hd C],Wa,t1⟩
theorem Lh (hd:isL d rows) (hr:∀r∈rows,Tp.u3 [.lm FB 4] r):∃l:List (List AskT),d.wk (ZL l)=true/\l.length=rows.length/\∀r∈l,(1<=r.length/\r.length<=4)/\∀a∈r,QhJ a:=by
 obtain⟨l,C,l1,t1⟩:=TV Qln rows hr;exact⟨l,SO hd C,l1,t1⟩
theorem QkA {l:List (Cu × Cu)} (h:spB k l=true):Sm l/\JV l=true/\(k=0->(l.all λx=>YA x.1&&YA x.2)=true):=by
 simp only[spB,QAo,QBp,Nat.ble_eq,QAu]at h;obtain⟨⟨⟨h1,h2⟩,M⟩,C⟩:=h;refine⟨⟨Wa,λs G=>?_⟩,M,λe=>?_⟩;have:=h2 s G;exact⟨⟨Wa,Wa⟩,Wa,Wa⟩;subst e;rcases C with C |C
 cases C
 simpa using C
end M25
namespace Go.Proofs
open Go Go.Abs M3 M25
variable {m:List Int} {w:Qe}
section
variable {w:Qe} {x:Int} {c:List Int} (hw:Po w)
include hw
end
def pkC (w:Qe) (m:List Int) (up:Bool) (i:Nat):Int:=if up&&decide (0<FX m ((i:Int)+60) 5)then((w.map λu=>u.cs.length).getD i 0:Nat) - 1 else FX m i (((w.map λu=>u.cs.length).getD i 0:Nat)+1) - 1
def Fz (w:Qe) (m:List Int) (up:Bool) (i:Nat):List Int:=(List.range i).map (pkC w m up)
def YS (w:Qe) (m:List Int) (up:Bool):List Int:=Fz w m up w.length
theorem Qcs {up:Bool}:(YS w m up).length=w.length:=by simp[YS,Fz]
theorem MO {up:Bool} {i:Nat} {k:Int} (h:pkC w m up i=k):Fz w m up (i+1)=Fz w m up i++[k]:=by
 grind [Fz,List.range_succ]
theorem QtQ {up:Bool} {i:Nat} (hi:i<w.length) (h:up=true) (h2:0<FX m ((i:Int)+60) 5):pkC w m up i=(w[i].cs.length:Int) - 1:=by
 rw[pkC,h,decide_eq_true h2];grind
theorem Qqs {up:Bool} {i:Nat} (hi:i<w.length) (h:up=false\/¬0<FX m ((i:Int)+60) 5):pkC w m up i=FX m i ((w[i].cs.length:Int)+1) - 1:=by
 have e:(up&&decide (0<FX m ((i:Int)+60) 5))=false:=by
  grind
 rw[pkC,e];grind
theorem QbL {l:List Int} {i n:Int} (C:0<n):0<=FX l i n/\FX l i n<n:=⟨Qi4 C,Qi3 C⟩
end Go.Proofs
namespace Go.Proofs
open Go Go.Abs
set_option maxRecDepth 100000
set_option maxHeartbeats 0
set_option cbv.maxSteps 100000000
def t17:TT false Tryz.f17:=⟨_,by cbv⟩
def tf17:z5:=t17.1
theorem Qzw:Qj Tryz.prog Tryz.f17=some tf17.erase:=by kernel_rfl
def t18:TT false Tryz.f18:=⟨_,by cbv⟩
def tf18:z5:=t18.1
theorem Qzx:Qj Tryz.prog Tryz.f18=some tf18.erase:=by kernel_rfl
def t25:TT false Tryz.f25:=⟨_,by cbv⟩
def tf25:z5:=t25.1
theorem QzE:Qj Tryz.prog Tryz.f25=some tf25.erase:=by kernel_rfl
def t52:TT false Tryz.f52:=⟨_,by cbv⟩
def tf52:z5:=t52.1
theorem QzP:Qj Tryz.prog Tryz.f52=some tf52.erase:=by kernel_rfl
def t54:TT false Tryz.f54:=⟨_,by cbv⟩
def tf54:z5:=t54.1
theorem QzR:Qj Tryz.prog Tryz.f54=some tf54.erase:=by kernel_rfl
def t55:TT false Tryz.f55:=⟨_,by cbv⟩
def tf55:z5:=t55.1
theorem QzS:Qj Tryz.prog Tryz.f55=some tf55.erase:=by kernel_rfl
open M3 M25
set_option maxRecDepth 4000
set_option maxHeartbeats 1000000
variable {c:List Int} {w:Qe}
theorem Ln (hw:Po w) (V:c.length<=1048576):Ok Tryz.prog 52 [QW w,Qz c] (.bool (QhA w c)):=by
 refine Ok.n6 tfol Tryz.func52 QzP (QAk Z) ?_;show TW _ _ tf52.body _ _;have M:=hw.len;refine aX ?_ ?_;intro h1;exact(Qiu λh=>by have:=h.len;omega).symm
 intro h1;refine Qt (ι:=Nat) (λi=>⟨[(2,.ref 2 0 0),(13,Qz c),(14,.int .i64 c.length),(15,.int .i64 i)],[(2,⟨[[.sl ((w).map Zi)]],1,25,true⟩)]⟩) (λi=>i<=c.length/\∀j (h:j<c.length) (h2:j<w.length),j<i->-1<=c[j]/\c[j]<w[j].cs.length) (λi=>c.length - i) 0 ?_ ?_ ?_;exact Ql (l:=[2,13,14,15]) (lH:=[2]) (kp4 Z Z Z Z) (Qa Z Qb) Z Z Z;simp;intro i G;refine aB ?_ ?_;intro h2;refine aB ?_ ?_;intro U;refine Qs Z (aK ?_);exact(Qiu λh=>by have:=h.bd i Wa Wa;omega).symm
 intro U;refine aB ?_ ?_;intro T;exact(Qiu λh=>by have:=h.bd i Wa Wa;omega).symm
 intro T;refine Qc (i+1) ?_ ?_ ?_;exact Ql (l:=[2,13,14,15]) (lH:=[2]) (kp4 Z Z Z Z) (Qa Z Qb) Z Z Z;exact⟨Wa,QpC Wa Wa G.2 Wa Wa⟩;omega;intro h2;exact(QpA ⟨Wa,λj O C=>G.2 j C O Wa⟩).symm
theorem YP (hw:Po w) (C:c.length<=1048576):Ok Tryz.prog 17 [QW w,Qz c,gD] (.bool (mayC w c)):=by
 refine Ok.ia (ds:=[QW w,Qz c]) (dg:=gD) tfol Tryz.func17 Qzw (QAk Z) ?_;show TW _ _ tf17.body _ _;refine aS ?_;refine Qg (Qab hw) Z Z (.inr Z) (aR ?_ ?_);intro h1;refine Qg (Ln hw C) Z Z (.inr Z) (aK ?_)
 (grind [mayC])
 intro h1
 (grind [mayC])
theorem HY (hw:WSm w) (C:T1 w c) {x:QN} (hx:0<=x.u/\x.u<w.length) (M:Sm x.s.1/\Sm x.s.2):Ok Tryz.prog 55 [QW w,Qz c,.agg (Fo x),gD] (.bool (mtM w c x)):=by
 refine Ok.ia (ds:=[QW w,Qz c,.agg (Fo x)]) (dg:=gD) tfol Tryz.func55 QzS (QAk Z) ?_;show TW _ _ tf55.body _ _;have T:=C.len;have G:x.u.toNat<c.length:=Wa;have hb:=Ms C G;refine aX ?_ ?_;intro h1;have O:=PB hb.2 h1;refine aK ?_;refine Qr (ds0:=[1,0]) (QeA (s:=x.s) M.1 M.2 (hw.vs _ (QAp (Wa:x.u.toNat<w.length)) _ (QAp O)).1 (hw.vs _ (QAp (Wa:x.u.toNat<w.length)) _ (QAp O)).2) Z Z (.inr Z) Z Z (aK ?_)
 (rw[Qkh hw C hx.1 hx.2 G h1 (PB hb.2 h1)];rfl)
 intro h1
 grind [QdD]
theorem Ca (hw:WSm w) (C:T1 w c) {l:List QN} (G:l.length<=1000) (hx:∀x∈l,(0<=x.u/\x.u<w.length)/\(Sm x.s.1/\Sm x.s.2)):Ok Tryz.prog 54 [QW w,Qz c,ZR l,gD] (.bool (MC w c l)):=by
 refine Ok.ia (ds:=[QW w,Qz c,ZR l]) (dg:=gD) tfol Tryz.func54 QzR (QAk Z) ?_;show TW _ _ tf54.body _ _;refine aS ?_;refine Qt (ι:=Nat) (λi=>⟨[(1,Qz c),(3,.ref 3 0 0),(9,ZR l),(10,.int .i64 l.length),(11,.int .i64 i),(900000,gD)],[(3,⟨[[.sl ((w).map Zi)]],1,25,true⟩)]⟩) (λi=>i<=l.length/\(l.take i).any (mtM w c)=false) (λi=>l.length - i) 0 ?_ ?_ ?_;exact Ql (l:=[1,3,9,10,11,900000]) (lH:=[3]) (kp6 Z Z Z Z Z Z) (Qa Z Qb) Z Z Z;simp;intro i M;refine aB ?_ ?_;intro h1;refine Qg (HY hw C (hx _ (QAp (Wa:i<l.length))).1 (hx _ (QAp (Wa:i<l.length))).2) Z Z (.inr Z) (aR ?_ ?_);intro h2;exact(QBs.2 ⟨_,QAp (Wa:i<l.length),h2⟩).symm;intro h2;refine Qc (i+1) ?_ ?_ ?_;exact Ql (l:=[1,3,9,10,11,900000]) (lH:=[3]) (kp6 Z Z Z Z Z Z) (Qa Z Qb) Z Z Z
 grind [MX]
 omega;intro h1
 grind [MC]
theorem Yw (hw:Po w) (hc:c.length<=1048576):Ok Tryz.prog 25 [QW w,Qz c,gD] (Pp (wrongR w c)):=by
 refine Ok.ia (ds:=[QW w,Qz c]) (dg:=gD) tfol Tryz.func25 QzE (QAk Z) ?_;show TW _ _ tf25.body _ _;refine aS ?_;refine Qg (YP hw hc) Z Z (.inr Z) (aV ?_ ?_);intro h1;refine aK ?_;refine QM Z ?_;rw[DP Wa];rfl;intro h1;obtain⟨hmw,hfw⟩:=MH (w:=w) (c:=c) Wa;have hv:=hmw.val hw;have V:=hv.se;have hr:=hv.jf;have O:=hfw.ch;have hcl:=O.len;have hvl:=hv.len;refine aJ ?_;refine aZ ?_;refine HO (ι:=Unit) (λ_=>⟨[(1,Qz c),(2,.ref 2 0 0),(5,.s4 5 (Q4 w c 0).length),(900000,gD)],[(2,⟨[[.sl ((w).map Zi)]],1,25,true⟩),(5,⟨(Q4 w c 0).map Qdn,3,40,true⟩)]⟩) (λ_=>True) ?_ ?_
 skip
 refine aB ?_ ?_;intro h2;refine Qn Z Z (Qa8 Z Z (λ_ h=>ZN Z Z Z h) Z (.inl Z) Wc Wc Wc (aK ?_));refine QT () ?_ ?_;exact le_trans (MD (l:=[1,2,900000]) (lH:=[2]) 24 5 5 (kp3 Z Z Z) (Qa Z Qb) Z Z Z Z Z Z Z) (Ql (l:=[1,2,5,900000]) (lH:=[2,5]) (kp4 Z Z Z Z) (Qa Z (Qa Z Qb)) (by grind [DQ]) (by rw[DQ Wa h2]<;>rfl) Z)
 simp;intro h2;refine QT () ?_ ?_;exact le_trans (Q8 5 5 3 40 Z Z) (Ql (l:=[1,2,5,900000]) (lH:=[2,5]) (kp4 Z Z Z Z) (Qa Z (Qa Z Qb)) (by grind [Ra]) (by rw[Ra Wa h2]<;>rfl) Z)
 simp;intro _ hJ;refine aK ?_;refine Qt (ι:=Nat) (λi=>⟨[(1,Qz c),(2,.ref 2 0 0),(5,.s4 5 (Q4 w c i).length),(25,Qz c),(26,.int .i64 c.length),(27,.int .i64 i),(900000,gD)],[(2,⟨[[.sl ((w).map Zi)]],1,25,true⟩),(5,⟨(Q4 w c i).map Qdn,3,40,true⟩)]⟩) (λi=>i<=c.length) (λi=>c.length - i) 0 ?_ ?_ ?_;exact Ql (l:=[1,2,5,25,26,27,900000]) (lH:=[2,5]) (kp7 Z Z Z Z Z Z Z) (Qa Z (Qa Z Qb)) Z Z Z;omega;intro i hI;have hlen:=Hq V c i;have hlen2:=L6 V c i;refine aB ?_ ?_;intro h3;refine aB ?_ ?_;intro h4;refine Qc (i+1) ?_ ?_ ?_;exact Ql (l:=[1,2,5,25,26,27,900000]) (lH:=[2,5]) (kp7 Z Z Z Z Z Z Z) (Qa Z (Qa Z Qb)) (by grind [Mb]) (by grind [Mb]) Z;omega;omega;intro h4;have C:i<w.length:=Wa;have M:i<c.length:=Wa;have hb:=Ms O M;have G:=PB hb.2 Wa;have e1:=L5 C M G;have hwn:=V.ns _ (QAp C) _ (QAp G);have hwl:=V.nl _ (QAp C) _ (QAp G);have T:=V.nw _ (QAp C) _ (QAp G);have U:=V.bw _ (QAp C) _ (QAp G);have hrn:=hr.nr _ (QAp C) _ (QAp G);have hrb:=hr.bw _ (QAp C) _ (QAp G);obtain⟨y,hy⟩:∃y,(w[i]'C).cs[(c[i]'M).toNat]=y:=⟨_,rfl⟩;rw[hy]at e1 hwn hwl T U hrn hrb;refine aK ?_;refine Qt (ι:=Nat) (λk=>⟨[(1,Qz c),(2,.ref 2 0 0),(5,.s4 5 (Q4 w c i++JL w c i y.ns k).length),(6,.int .i64 i),(8,.ref 8 0 0),(25,Qz c),(26,.int .i64 c.length),(27,.int .i64 i),(44,Xm y.ns),(45,.int .i64 y.ns.length),(46,.int .i64 k),(900000,gD)],[(2,⟨[[.sl ((w).map Zi)]],1,25,true⟩),(5,⟨((Q4 w c i++JL w c i y.ns k)).map Qdn,3,40,true⟩),(8,⟨[RE y],8,70,true⟩)]⟩) (λk=>k<=y.ns.length) (λk=>y.ns.length - k) 0 ?_ ?_ ?_;exact Ql (l:=[1,2,5,6,8,25,26,27,44,45,46,900000]) (lH:=[2,5,8]) (Qrz Z Z Z Z Z Z Z Z Z Z Z Z) (Qa Z (Qa Z (Qa Z Qb))) (by grind [JL]) (by rw[JL,QAP,<- hy]<;>rfl) Z
 omega;intro k hQ;have Y:=KM w c i y.ns k;refine aB ?_ ?_;intro h5;refine Qg (Ca V O (hwl _ (QAp (Wa:k<y.ns.length))) (λx hx=>⟨hrn _ (QAp (Wa:k<y.ns.length)) x hx,T _ (QAp (Wa:k<y.ns.length)) x hx⟩)) Z Z (.inr Z) (aB ?_ ?_);intro h6;refine Qn Z Z (Zu Z Z (λ_ h=>ZN Z Z Z h) Z Wc Z Z Z Wb Wb (aK ?_));refine Qc (k+1) ?_ ?_ ?_;exact Ql (l:=[1,2,5,6,8,25,26,27,44,45,46,900000]) (lH:=[2,5,8]) (Qrz Z Z Z Z Z Z Z Z Z Z Z Z) (Qa Z (Qa Z (Qa Z Qb))) (by rw[PY Wa h6,<- QA9,QAY (bs:=[_])]<;>rfl) (by rw[PY Wa h6,<- QA9,QBi (l₂:=[_])]<;>rfl) Z
 omega;omega;intro h6;refine Qc (k+1) ?_ ?_ ?_;exact Ql (l:=[1,2,5,6,8,25,26,27,44,45,46,900000]) (lH:=[2,5,8]) (Qrz Z Z Z Z Z Z Z Z Z Z Z Z) (Qa Z (Qa Z (Qa Z Qb))) (by grind [PX]) (by grind [PX]) Z;omega;omega;intro h5;refine Qt (ι:=Nat) (λk=>⟨[(1,Qz c),(2,.ref 2 0 0),(5,.s4 5 (Q4 w c i++(JL w c i y.ns y.ns.length++SW w c i y.bs k)).length),(6,.int .i64 i),(25,Qz c),(26,.int .i64 c.length),(27,.int .i64 i),(64,ZR y.bs),(65,.int .i64 y.bs.length),(66,.int .i64 k),(900000,gD)],[(2,⟨[[.sl ((w).map Zi)]],1,25,true⟩),(5,⟨((Q4 w c i++(JL w c i y.ns y.ns.length++SW w c i y.bs k))).map Qdn,3,40,true⟩)]⟩) (λk=>k<=y.bs.length) (λk=>y.bs.length - k) 0 ?_ ?_ ?_;exact Ql (l:=[1,2,5,6,25,26,27,64,65,66,900000]) (lH:=[2,5]) (QfF Z Z Z Z Z Z Z Z Z Z Z) (Qa Z (Qa Z Qb)) (by grind [SW]) (by grind [SW]) Z;omega;intro k hQ;have Y:=KM w c i y.ns y.ns.length;have hlen4:=PD w c i y.bs k;refine aB ?_ ?_;intro h7;refine Qg (HY V O (hrb _ (QAp (Wa:k<y.bs.length))) (U _ (QAp (Wa:k<y.bs.length)))) Z Z (.inr Z) (aR ?_ ?_);intro h8;refine Qn Z Z (Zu Z Z (λ_ h=>ZN Z Z Z h) Z Wc Z Z Z Wb Wb (aK ?_));refine Qc (k+1) ?_ ?_ ?_;exact Ql (l:=[1,2,5,6,25,26,27,64,65,66,900000]) (lH:=[2,5]) (QfF Z Z Z Z Z Z Z Z Z Z Z) (Qa Z (Qa Z Qb)) (by rw[Lj Wa h8,<- QA9,<- QA9,<- QA9,QAY (bs:=[_])]<;>rfl) (by rw[Lj Wa h8,<- QA9,<- QA9,<- QA9,QBi (l₂:=[_])]<;>rfl) Z
 omega;omega;intro h8;refine Qc (k+1) ?_ ?_ ?_;exact Ql (l:=[1,2,5,6,25,26,27,64,65,66,900000]) (lH:=[2,5]) (QfF Z Z Z Z Z Z Z Z Z Z Z) (Qa Z (Qa Z Qb)) (by grind [Lk]) (by grind [Lk]) Z;omega;omega;intro h7;refine Qc (i+1) ?_ ?_ ?_;exact Ql (l:=[1,2,5,25,26,27,900000]) (lH:=[2,5]) (kp7 Z Z Z Z Z Z Z) (Qa Z (Qa Z Qb)) (by grind [Ma,QiZ]) (by grind [Ma,QiZ]) Z;omega;omega;intro h3;exact Xb Z Z Z Wc (by rw[Hp Wa,SQ,show c.length=i by omega];rfl)
theorem XB (hw:Po w) (C:c.length<=1048576):Ok Tryz.prog 18 [QW w,Qz c,gD] (.bool (holdsR w c)):=by
 refine Ok.ia (ds:=[QW w,Qz c]) (dg:=gD) tfol Tryz.func18 Qzx (QAk Z) ?_;show TW _ _ tf18.body _ _;refine aS ?_;refine Qg (YP hw C) Z Z (.inr Z) (aR ?_ ?_);intro h1;refine Qg (Yw hw C) Z Z (.inl Z) (aK ?_);simp[holdsR, *];intro h1;simp[holdsR, *]
end Go.Proofs
namespace Go.Proofs
open Go Go.Abs
set_option maxRecDepth 100000
set_option maxHeartbeats 0
set_option cbv.maxSteps 100000000
def t21:TT false Tryz.f21:=⟨_,by cbv⟩
def tf21:z5:=t21.1
theorem QzA:Qj Tryz.prog Tryz.f21=some tf21.erase:=by kernel_rfl
def t23:TT false Tryz.f23:=⟨_,by cbv⟩
def tf23:z5:=t23.1
theorem QzC:Qj Tryz.prog Tryz.f23=some tf23.erase:=by kernel_rfl
def t28:TT false Tryz.f28:=⟨_,by cbv⟩
def tf28:z5:=t28.1
theorem QzH:Qj Tryz.prog Tryz.f28=some tf28.erase:=by kernel_rfl
def t57:TT false Tryz.f57:=⟨_,by cbv⟩
def tf57:z5:=t57.1
theorem QzU:Qj Tryz.prog Tryz.f57=some tf57.erase:=by kernel_rfl
def t58:TT false Tryz.f58:=⟨_,by cbv⟩
def tf58:z5:=t58.1
theorem Qwv:Qj Tryz.prog Tryz.f58=some tf58.erase:=by kernel_rfl
end Go.Proofs
