/- Part 36 of the means of the proof: a verified evaluator and contracts of functions. -/
import Derived.Test.YtggcpapoljmiaaaGreatDoorB10
import Derived.Test.YtggcpapoljmiaaaGreatDoorB16
import Derived.Test.YtggcpapoljmiaaaGreatDoorB17
import Derived.Test.YtggcpapoljmiaaaGreatDoorB18
import Derived.Test.YtggcpapoljmiaaaGreatDoorB19
import Derived.Test.YtggcpapoljmiaaaGreatDoorB20
import Derived.Test.YtggcpapoljmiaaaGreatDoorB22
import Derived.Test.YtggcpapoljmiaaaGreatDoorB23
import Derived.Test.YtggcpapoljmiaaaGreatDoorB24
import Derived.Test.YtggcpapoljmiaaaGreatDoorB25
import Derived.Test.YtggcpapoljmiaaaGreatDoorB26
import Derived.Test.YtggcpapoljmiaaaGreatDoorB27
import Derived.Test.YtggcpapoljmiaaaGreatDoorB28
import Derived.Test.YtggcpapoljmiaaaGreatDoorB29
import Derived.Test.YtggcpapoljmiaaaGreatDoorB30
import Derived.Test.YtggcpapoljmiaaaGreatDoorB31
import Derived.Test.YtggcpapoljmiaaaGreatDoorB32
import Derived.Test.YtggcpapoljmiaaaGreatDoorB33
import Derived.Test.YtggcpapoljmiaaaGreatDoorB35
import Derived.KernelRfl
set_option maxRecDepth 4000
set_option maxHeartbeats 4000000
set_option linter.unusedSimpArgs false
set_option linter.unusedVariables false
set_option linter.unusedSectionVars false
namespace Go.Proofs
open Go Go.Abs
set_option maxRecDepth 100000
set_option maxHeartbeats 0
theorem Qtm (hm:Tryz.prog.follows .mixedOrders=true):∀f,∀c∈gW f,c.ok Tryz.prog f:=λf c C=>by
 unfold gW at C;split at C;rename_i e;have e:=QBC e;subst e;simp only[QAm,QAl,or_false]at C;rcases C with rfl |rfl |rfl
 exact Ct.md hm (λ_ _ _ h=>by cases h) Qxx;exact Ct.md hm (λ_ _ _ h=>by cases h) Qxy;exact Ct.md hm (λ_ _ _ h=>by cases h) Qxz;split at C;rename_i e;have e:=QBC e;subst e;simp only[QAm,QAl,or_false]at C;rcases C with rfl |rfl |rfl
 exact Ct.md hm (λ_ _ _ h=>by cases h) Qxu;exact Ct.md hm (λ_ _ _ h=>by cases h) Qxv;exact Ct.md hm (λ_ _ _ h=>by cases h) Qxw;split at C;rename_i e;have e:=QBC e;subst e;simp only[QAm,QAl,or_false]at C;rcases C with rfl |rfl |rfl
 exact Ct.md hm (λ_ _ _ h=>by cases h) QxA;exact Ct.md hm (λ_ _ _ h=>by cases h) QxB;exact Ct.md hm (λ_ _ _ h=>by cases h) QxC;cases C
theorem Qwx (hm:Tryz.prog.follows .mixedOrders=true):∀f,∀c∈tbS gW spW f,c.ok Tryz.prog f:=(Qg4 hm (Qtm hm) (gz:=noZ) (λ_ _ h=>by cases h) QqU).1
theorem Qwh {α:Type} {a b c:α} {p:α->Prop} (ha:p a) (hb:p b) (C:p c):∀x∈[a,b,c],p x:=λx hx=>by
 simp only[QAm,QAl,or_false]at hx;rcases hx with rfl |rfl |rfl<;>assumption
theorem QpH (hm:Tryz.prog.follows .mixedOrders=true):∀c∈spG 232,c.ok Tryz.prog 232:=λc C=>by
 have e:spG 232=[c0 [pc MS] tb]:=by rfl
 rw[e,QAt]at C;subst C;have w:tbS gW spW 232=[Qh2 0,Qh2 1,Qh2 2]:=by rfl
 have h:=λc C=>Qwx hm 232 c (by rw[w];exact C)
 exact Ct.parts (gs:=[Qjn 0,Qjn 1,Qjn 2]) (by decide+kernel) (Qwh (h (Qh2 0) Wc) (h (Qh2 1) Wc) (h (Qh2 2) Wc))
theorem gOn (hm:Tryz.prog.follows .mixedOrders=true):∀c∈spG 184,c.ok Tryz.prog 184:=λc C=>by
 have e:spG 184=[c0 [pc MS,.s GS] tb]:=by rfl
 rw[e,QAt]at C;subst C;have w:tbS gW spW 184=[Qh1 0,Qh1 1,Qh1 2]:=by rfl
 have h:=λc C=>Qwx hm 184 c (by rw[w];exact C)
 exact Ct.parts (gs:=[Qjn 0,Qjn 1,Qjn 2]) (by decide+kernel) (Qwh (h (Qh1 0) Wc) (h (Qh1 1) Wc) (h (Qh1 2) Wc))
theorem Qxs (hm:Tryz.prog.follows .mixedOrders=true):∀c∈spG 175,c.ok Tryz.prog 175:=λc G=>by
 have e:spG 175=[c0 [pc tRange] tb]:=rfl;rw[e,QAt]at G;subst G;refine Ct.parts (gs:=[BM 0,BM 1,BM 2,BM 3,BM 4,BM 5,BM 6,BM 7]) (by decide+kernel) λg C=>?_;simp only[QAm,QAl,or_false]at C;rcases C with rfl |rfl |rfl |rfl |rfl |rfl |rfl |rfl
 exact Ct.md hm (λ_ _ _ h=>by cases h) QxM;exact Ct.md hm (λ_ _ _ h=>by cases h) QxN;exact Ct.md hm (λ_ _ _ h=>by cases h) QxO;exact Ct.md hm (λ_ _ _ h=>by cases h) QxP;exact Ct.md hm (λ_ _ _ h=>by cases h) QxQ;exact Ct.md hm (λ_ _ _ h=>by cases h) QxR;exact Ct.md hm (λ_ _ _ h=>by cases h) QxS;exact Ct.md hm (λ_ _ _ h=>by cases h) QxT
open M3 M25
set_option maxHeartbeats 4000000
theorem P0 {o:List UInt8} {p:List UInt8->Bool} (h1:((tVer.take 3).map λv=>o++v).all p=true) (h2:((tVer.drop 3).map λv=>o++v).all p=true):∀v∈tVer,p (o++v)=true:=λv C=>by
 rw[<- QAT 3 tVer]at C;rcases QAv.1 C with C |C
 exact QAu.1 h1 _ (QAy.2 ⟨v,C,rfl⟩);exact QAu.1 h2 _ (QAy.2 ⟨v,C,rfl⟩)
theorem Qqg:∀t∈tRange,ofB Tryz.prog t=true:=λt G=>by
 rcases QAm.1 G with rfl |G;exact QxK;obtain⟨o,ho,G⟩:=QAr.1 G
 obtain⟨v,C,rfl⟩:=QAy.1 G;simp only[tOp,QAm,QAl,or_false]at ho;rcases ho with rfl |rfl |rfl |rfl |rfl
 exact P0 QtB QtC v C;exact P0 QtD QtE v C;exact P0 QtF QtG v C;exact P0 QtH QtI v C;have e:tVer=tVer.take 2++((tVer.drop 2).take 2++tVer.drop 4):=rfl;rw[e]at C;rcases QAv.1 C with C |C
 exact QAu.1 QtJ _ (QAy.2 ⟨v,C,rfl⟩);rcases QAv.1 C with C |C
 exact QAu.1 QtK _ (QAy.2 ⟨v,C,rfl⟩);exact QAu.1 QtL _ (QAy.2 ⟨v,C,rfl⟩)
structure Qwz (s:Je):Prop where
 h1:spB 0 s.1=true
 h2:spB 1 s.2=true
 g1:QqV s.1=true
 g2:QqV s.2=true
theorem QgP {k:Nat} {a:List (List D)} (h:QrS k a=true):∃l,a=l.map JT/\spB k l=true/\QqV l=true:=by
 unfold QrS at h;split at h;rename_i x e;simp only[QAo]at h;exact⟨x,N8 e,h.1,h.2⟩;cases h
theorem Qqi (hm:Tryz.prog.follows .mixedOrders=true) {t:List UInt8} (T:t∈tRange):∃s:Je,∃e:Int,(0<=e/\e<=40)/\Qwz s/\Ok Tryz.prog 222 [.str t] (.u7 [.agg [Qw s.1,Qw s.2],.int .i64 e]):=by
 have h:=Qqg t T;unfold ofB at h;split at h;rename_i a b e H q;simp only[QAo,decide_eq_true_eq]at h;obtain⟨h1,h2,U⟩:=h;obtain⟨x,rfl,O,M⟩:=QgP h2;obtain⟨y,rfl,G,C⟩:=QgP U;exact⟨(x,y),e,h1,⟨O,G,M,C⟩,(Gj hm Qqp (GB fsS) 200 q).1 rfl⟩;cases h
variable {k:Nat} {l:List (Cu × Cu)}
theorem Qft {n:Int} (h:QpO n=true): -9223372036854775808<=n/\n<=9223372036854775807:=by
 simpa [QpO]using h
theorem QjU {c:Cu} (h:cuB c=true) (hp:c.p.length<=40) (C:c.q.length<=40):Tp.u3 Qd0 (dCu c):=by
 simp only[cuB,QAo,decide_eq_true_eq]at h;obtain⟨he,ha,hb,G⟩:=h;exact⟨_,_,rfl,⟨_,rfl,he⟩,_,_,rfl,⟨_,rfl,Qft ha⟩,_,_,rfl,⟨_,rfl,Qft hb⟩,_,_,rfl,⟨_,rfl,Qft G⟩,_,_,rfl,⟨_,rfl,hp⟩,_,_,rfl,⟨_,rfl,C⟩,_,_,rfl,⟨_,rfl⟩,rfl⟩
theorem QkB (h:spB k l=true) (g:QqV l=true):(Tp.l Yn 9).has (Qw l):=by
 simp only[spB,QAo,Nat.ble_eq,QAu]at h;obtain⟨⟨⟨h1,h2⟩,_⟩,_⟩:=h;refine⟨_,.inl rfl,by simpa using h1,Qcn λs C=>?_⟩;have g:=QAu.1 g s C;simp only[QAo]at g;have:=h2 s C;exact⟨QjU g.1 Wa Wa,QjU g.2 Wa Wa⟩
theorem Qju (c:Cu) (r:List D):QoN (dCu c++r)=some (c,r):=by rfl
theorem SN:∀l:List (Cu × Cu),BC (l.map JT)=some l
 |[]=>rfl
 |(a,b)::l=>by
  have e:QoN (dCu b)=some (b,[]):=by rfl
  simp only[QAX,BC,JT,Qju,e,SN l]
theorem Qko (h:spB k l=true):(Tp.px k).has (Qw l):=⟨_,.inl rfl,by rw[xB,SN];exact h⟩
theorem Qkx (hm:Tryz.prog.follows .mixedOrders=true) {t:List UInt8} (C:t∈tRange):∃s:Je,(spB 0 s.1=true/\spB 1 s.2=true)/\Ok Tryz.prog 185 [.str t] (Lu s):=by
 obtain⟨s,e,_,h,o⟩:=Qqi hm C;exact⟨s,⟨h.h1,h.h2⟩,FP o⟩
theorem Qqj {ls:List (List UInt8)} {μ:List Int} {ds:List D} (h:Vl.n4 μ [ty (.c ls)] ds):∃t∈ls,ds=[.str t]:=by
 obtain⟨d,r,rfl,⟨t,C,rfl⟩,rfl⟩:=h;exact⟨t,C,rfl⟩
theorem gOf (hm:Tryz.prog.follows .mixedOrders=true):∀c∈spG 222,c.ok Tryz.prog 222:=by
 intro c C;have e:spG 222=[c0 [pc tRange] (.uu [.aa [ty (.l Yn 9),ty (.l Yn 9)],QaZ])]:=rfl;rw[e,QAt]at C;subst C;intro μ ds h1 h2 O M;obtain⟨t,G,rfl⟩:=Qqj M;obtain⟨s,e,he,h,o⟩:=Qqi hm G;refine⟨[],_,by rw[QAP];exact h1,λc C=>(by cases (show c∈([]:List Cn) from C)), ?_,o⟩
 exact⟨_,rfl,_,_,rfl,⟨_,rfl,_,_,rfl,QkB h.h1 h.g1,_,_,rfl,QkB h.h2 h.g2,rfl⟩,_,_,rfl,⟨e,rfl,he⟩,rfl⟩
theorem Qxt (hm:Tryz.prog.follows .mixedOrders=true):∀c∈spG 185,c.ok Tryz.prog 185:=by
 intro c C;have e:spG 185=[c0 [pc tRange] (.aa [ty (.px 0),ty (.px 1)])]:=rfl;rw[e,QAt]at C;subst C;intro μ ds h1 h2 O M;obtain⟨t,G,rfl⟩:=Qqj M;obtain⟨s,h,o⟩:=Qkx hm G;refine⟨[],_,by rw[QAP];exact h1,λc C=>(by cases (show c∈([]:List Cn) from C)), ?_,o⟩
 exact⟨_,rfl,_,_,rfl,Qko h.1,_,_,rfl,Qko h.2,rfl⟩
set_option maxRecDepth 4000
variable {W:WF} {f:List UInt8} {k:Za} {lkf:List UInt8->List TkR} {y:YdT}
structure Me (r:List AskT):Prop where
 len:0<r.length/\r.length<=24
 key:∀a∈r,a.k∈Tv/\a.k.1≠[]
 sm:∀a∈r,Sm a.s.1/\Sm a.s.2
 may:∀a∈r,JW a.s=true
def rwW (y:YdT) (lkf:List UInt8->List TkR) (W:WF) (k:Za):List (List AskT):=if k=([],[])then GA y else Pz (ofM (lkf k.1) W.z8 k.2) W.nd k.2
def cfW (y:YdT) (lkf:List UInt8->List TkR) (W:WF) (all:List Za) (k:Za):List CandT × Bool:=if k=([],[])then([⟨⟨0,0,0,[],[]⟩, -1,Ta all (GA y),[]⟩],true)else Fv W all (ofM (lkf k.1) W.z8 k.2) k.2 (lkf k.1).length
structure WOk (y:YdT) (lkf:List UInt8->List TkR) (W:WF):Prop where
 mi:YOk y
 yn:∀m∈y.ms,m.r.n∈tName
 tk:∀n∈tName,gb n (lkf n)
 nd:∀n∈tName,∀t∈lkf n,∀f∈tFeat0,∀r∈W.nd t.r f,Me r
 bn:∀n∈tName,∀t∈lkf n,∀b∈t.r.bs,b.n∈tName
 bs:∀n∈tName,∀t∈lkf n,∀b∈t.r.bs,(Sm (W.st b.r).1/\Sm (W.st b.r).2)/\JW (W.st b.r)=true
theorem Gv:∀n∈tName,n≠[]:=by decide
theorem GN (h:k∈Tv):k=([],[])\/(k.1∈tName/\k.2∈tFeat0):=by
 rcases QAm.1 h with h |h;exact .inl h;obtain⟨n,C,h⟩:=QAr.1 h
 obtain⟨f,G,rfl⟩:=QAy.1 h;exact .inr ⟨C,G⟩
theorem QaA {n:List UInt8} (C:n∈tName) (G:f∈tFeat0):(n,f)∈Tv:=QBm _ (QAr.2 ⟨n,C,QAy.2 ⟨f,G,rfl⟩⟩)
theorem Cs {v:Vr} (h:fb v):(Sm (Y9 v.a v.b v.c v.p v.q).1/\Sm (Y9 v.a v.b v.c v.p v.q).2)/\JW (Y9 v.a v.b v.c v.p v.q)=true:=by
 have C:=Qim (a:=v.a) (b:=v.b) (c:=v.c) (q:=v.q) h.sm.1;exact⟨⟨C.1.sm We,C.2.sm We⟩,(show∀v∈QoO,JW (Y9 v.a v.b v.c v.p v.q)=true by decide+kernel) v h⟩
theorem Qm4 (h:WOk y lkf W):∀r∈GA y,Me r:=λr hr=>by
 obtain⟨m,hm,rfl⟩:=QAy.1 hr;have C:=h.yn m hm;have he:=Cs (h.mi.mv m hm);refine⟨⟨by simp,by simp⟩,λa ha=>?_,λa ha=>?_,λa ha=>?_⟩;rw[QAt.1 ha];exact⟨QaA C We,Gv _ C⟩;rw[QAt.1 ha];exact he.1;rw[QAt.1 ha];exact he.2
theorem of_sub {l:List TkR} {z8:FH->List UInt8->Bool}:(ofM l z8 f).Sublist l:=List.filter_sublist
theorem Qm8 (h:WOk y lkf W) (hk:k∈Tv):∀r∈rwW y lkf W k,Me r:=λr hr=>by
 unfold rwW at hr;split at hr;exact Qm4 h r hr;rename_i e;rcases GN hk with rfl |⟨h1,h2⟩
 exact absurd rfl e;obtain⟨t,C,hr⟩:=QAr.1 hr;exact h.nd _ h1 t (of_sub.subset C) _ h2 r hr
section
variable {y:YdT} {lkf:List UInt8->List TkR} {W:WF} {all:List Za}
theorem Ld (C:sa (rwW y lkf W) all []) (h0:0<all.length):all[0]=([],[]):=by
 obtain⟨i,hi,e⟩:=List.getElem_of_mem C.root;rcases Nat.eq_zero_or_pos i with rfl |hp
 exact e;have:=List.pairwise_iff_getElem.1 C.de 0 i h0 hi hp;rw[e]at this;simp[K6,Op.bytesLess]at this
theorem Qlg (C:sa (rwW y lkf W) all []) {i:Nat} (hi:i<all.length) (hp:0<i):all[i]≠([],[]):=λe=>by
 have:=List.pairwise_iff_getElem.1 C.de 0 i Wa hi hp;rw[e,Ld C Wa,CL]at this;cases this
theorem Qqv (G:sa (rwW y lkf W) all []) (hk:k∈all) (C:k.1≠[]):0<plA all k/\plA all k<all.length:=by
 obtain⟨i,hi,e,h⟩:=Qqt hk;rw[h];refine⟨?_,Wa⟩;rcases Nat.eq_zero_or_pos i with rfl |hp
 rw[Ld G Wa]at e;rw[<- e]at C;exact absurd rfl C;omega
theorem Qha (G:sa (rwW y lkf W) all []) {rs:List (List AskT)} (ho:∀r∈rs,Me r) (C:∀r∈rs,∀a∈r,a.k∈all):∀r∈Ta all rs,(0<r.length/\r.length<=24)/\∀x∈r,Qef all.length x:=λr hr=>by
 obtain⟨r0,h0,rfl⟩:=QAy.1 hr;have h1:=ho r0 h0;refine⟨by rw[QBd];exact h1.len,λx hx=>?_⟩
 obtain⟨a,ha,rfl⟩:=QAy.1 hx;exact⟨Qqv G (C r0 h0 a ha) (h1.key a ha).2,h1.sm a ha,h1.may a ha⟩
theorem Qhs (h:WOk y lkf W) (G:sa (rwW y lkf W) all []) (hf:∀k∈all,(cfW y lkf W all k).2=true):ya (all.map (unM (cfW y lkf W) all)):=by
 have h26:=G.len;have h0:0<all.length:=List.length_pos_of_mem G.root;have hcl:∀k∈all,∀row∈rwW y lkf W k,∀a∈row,a.k∈all:=λk hk=>(G.cl k hk).resolve_left Wc
 have key:∀k∈all,(cfW y lkf W all k).1.length<=16/\(∀c∈(cfW y lkf W all k).1,QhS all.length c)/\(cfW y lkf W all k).1.Pairwise λa b=>SS a.v b.v<0:=λk hk=>by
  have hkk:=G.key k hk;have C:=hf k hk;have O:=hcl k hk;have M:=Qm8 h hkk
  by_cases e:k=([],[])
  rw[rwW,if_pos e]at O M;rw[cfW,if_pos e];refine⟨by simp,λc V=>?_,by simp⟩;rw[QAt.1 V];exact⟨⟨by simp,by simp⟩,(show JK 0 0 0 [] []=true by decide),by rw[SL];have:=h.mi.ml;simp only[GA,QBd];omega,by simp,Qha G M O,by simp⟩
  rw[rwW,if_neg e]at O M;rw[cfW,if_neg e]at C ⊢;obtain⟨h1,h2⟩:=(GN hkk).resolve_left e;have Y:=h.tk _ h1
  by_cases hb:((ofM (lkf k.1) W.z8 k.2).map (KD W all k.2)).any QdT=true
  rw[Fv,if_pos hb]at C;cases C;have hb:((ofM (lkf k.1) W.z8 k.2).map (KD W all k.2)).any QdT=false:=by simpa using hb
  rw[Mr hb]at C ⊢;have h16:=of_decide_eq_true C;have hle:=Sj (lkf k.1) W.z8 k.2;refine⟨by rw[QBd];omega,λc V=>?_,List.pairwise_map.2 ((Y.de.sublist of_sub).imp λ{a b} hab=>hab)⟩
  have U:=List.any_eq_false.1 hb c V;obtain⟨t,ht,rfl⟩:=QAy.1 V;have T:=of_sub.subset ht;have hv:=Y.v t T;simp only[QdT,QBp,decide_eq_true_eq,not_or,Nat.not_lt]at U;refine⟨hv.sm,hv.may,U.1,U.2,Qha G (λr hr=>M r (QAr.2 ⟨t,ht,hr⟩)) (λr hr=>O r (QAr.2 ⟨t,ht,hr⟩)),λx hx=>?_⟩;simp only[KD]at hx;split at hx;obtain⟨b,hb,hx⟩:=QAr.1 hx;unfold Qot at hx;split at hx;rename_i hh;rw[QAt.1 hx];obtain⟨q1,q2⟩:=h.bs _ h1 t T b hb;exact⟨Qqv G (Qqu hh.1) (Gv _ (h.bn _ h1 t T b hb)),q1,q2⟩;cases hx
  cases hx
 refine⟨⟨by rw[QBd];omega,by rw[QBd];omega⟩,λu hu=>?_,λhw=>?_,λi hi hp=>?_,λi hi hp=>?_,λu hu c V=>?_,λu hu j hj hp=>?_⟩
 obtain⟨k,hk,rfl⟩:=QAy.1 hu;exact(key k hk).1;have e:=Ld G h0;simp only[QBG,unM,e];refine⟨trivial,trivial, ?_⟩;rw[cfW,if_pos rfl];rfl;have hi':i<all.length:=by simpa using hi
 simp only[QBG,unM];have:=(GN (G.key _ (QAp hi'))).resolve_left (Qlg G hi' hp);exact Gv _ this.1;have hi':i<all.length:=by simpa using hi
 simp only[QBG];exact List.pairwise_iff_getElem.1 G.de (i - 1) i Wa hi' Wa;obtain⟨k,hk,rfl⟩:=QAy.1 hu;rw[QBd];exact(key k hk).2.1 c V;obtain⟨k,hk,rfl⟩:=QAy.1 hu;exact List.pairwise_iff_getElem.1 (key k hk).2.2 (j - 1) j (by have:j<(cfW y lkf W all k).1.length:=hj;omega) hj Wa
end
end Go.Proofs
namespace Go.Proofs
open Go Go.Abs M3 M25
set_option maxRecDepth 100000
variable {ds:List D} {n:Nat} {vs:List Vl} {ν:List Int}
theorem Qxq (hm:Tryz.prog.follows .mixedOrders=true):∀f,∀c∈spG f,c.ok Tryz.prog f:=λf c C=>by
 have G:∀k,f≠k->¬Nat.beq f k=true:=λk h e=>h (QBC e)
 by_cases h1:f=35
 subst h1;exact QpG c C
 by_cases h2:f=128
 subst h2;exact QpI hm c C
 by_cases h3:f=232
 subst h3;exact QpH hm c C
 by_cases h4:f=271
 subst h4;exact Qxr c C
 by_cases h5:f=175
 subst h5;exact Qxs hm c C
 by_cases h6:f=222
 subst h6;exact gOf hm c C
 by_cases h7:f=185
 subst h7;exact Qxt hm c C
 by_cases h8:f=184
 subst h8;exact gOn hm c C;unfold spG at C;simp only[if_neg (G _ h1),if_neg (G _ h2),if_neg (G _ h3),if_neg (G _ h4),if_neg (G _ h5),if_neg (G _ h6),if_neg (G _ h7),if_neg (G _ h8)]at C;cases C
def QvQ:Ct:=SU [.l S7 4] [] (λn=>.uu [.nn .i64 n 0,Qlh]) 1 (λn=>cIn n 0 40)
def QvV:Ct:=c0 [.t 100000] tb
def Qv3:Ct:=SU [.s X1] [] (λn=>.uu [.ty QoH,.nn .i64 n 0]) 1 (λn=>cIn n 0 40)
def QvY:Ct:=c0 [.l BL 4] tb
def QvS:Ct:=c0 [.s GS] tb
def QvZ:Ct:=SU [.l S7 2] [] (λn=>.uu [.ll BL n 0,.nn .i64 (n+1) 0]) 2 (λn=>cIn n 0 4++cIn (n+1) 0 40)
def QvU:Ct:=c0 [.l XP 4] tb
def QvT:Ct:=SU [.l S7 2,nm] [] (λn=>.uu [.aa (opV n QdE),QaZ]) 2 (λn=>QaM n QdE)
def cIs:Ct:=c0 [.l Py 8,.v (ty (.s 100000))] tb
def QvW:Ct:=cLk [.l Py 8,.v (ty (.s 100000))] [.c tItem] 5
def QvX:Ct:=cLk [.s X1,.s GS,pc tOpt] [.lm FB 4] 14
def Qv1:Ct:=cLk [.s X1,.s GS,pc tName,pc [[120]]] [.lm FB 4] 14
def Qv0:Ct:=cLk [.s X1,.s GS,pc [[]],pc [[]]] [.lm FB 4] 0
def Qv4:Ct:=SU [pL,.i 0 0] [] (λn=>.ll S7 n 0) 1 (λn=>cIn n 1 2)
def Qv2:Ct:=SU [pL,.i 200 200] [] (λn=>.ll XP n 0) 1 (λn=>cIn n 1 2)
def QvR:Ct:=c0 [pL,.i 0 9000] (.aa (tyV GS))
theorem QaI:(tbS spG spA 62=[QvQ]/\tbS spG spA 134=[QvV]/\tbS spG spA 129=[Qv3]/\tbS spG spA 269=[QvY])/\(tbS spG spA 64=[QvS]/\tbS spG spA 65=[QvZ]/\tbS spG spA 63=[QvU]/\tbS spG spA 225=[QvT])/\(tbS spG spA 179=[cIs]/\tbS spG spA 181=[QvW]/\tbS spG spA 180=[QvX]/\tbS spG spA 183=[Qv0,Qv1])/\(tbS spG spA 48=[Qv4]/\tbS spG spA 49=[Qv2]/\tbS spG spA 32=[QvR]):=⟨⟨by kernel_rfl,by kernel_rfl,by kernel_rfl,by kernel_rfl⟩,⟨by kernel_rfl,by kernel_rfl,by kernel_rfl,by kernel_rfl⟩,⟨by kernel_rfl,by kernel_rfl,by kernel_rfl,by kernel_rfl⟩,by kernel_rfl,by kernel_rfl,by kernel_rfl⟩
theorem Hc {x y:Nat} {k a b:Int} {cs:List Cn} (hx:ν[x]?=some a) (G:ν[y]?=some b) (h:a<=b+k) (t:w7 ν cs):w7 ν ((x,y,k)::cs):=λc C=>by
 rcases QAm.1 C with rfl |C;exact⟨a,b,hx,G,h⟩;exact t c C
theorem C7:w7 ν []:=λc C=>by cases C
theorem C6 {k:Nat} (h:n<=k):w7 [0,(n:Int)] [(0,1,0),(1,0,(k:Int))]:=Hc (a:=0) (b:=n) rfl rfl Wa (Hc (a:=n) (b:=0) rfl rfl Wa C7)
theorem Qaw {row:List Tp} {rows:List (List D)} (hr:∀r∈rows,Tp.u3 row r) (h:Vl.n4 [0,(rows.length:Int)] vs ds):Vl.n4 [0,(rows.length:Int)] (.ll row 1 0::vs) (.sl rows::ds):=⟨_,_,rfl,⟨rows,.inl rfl,⟨_,rfl,Wa⟩,hr⟩,h⟩
theorem S4 {t:Tp} {d:D} (hd:t.has d) (h:Vl.n4 ν vs ds):Vl.n4 ν (.ty t::vs) (d::ds):=⟨_,_,rfl,hd,h⟩
theorem Qf8:∀{row:List Tp} {r:List D} {ν:List Int},Tp.u3 row r->ν[0]?=some 0->∃e:List Int,e.length=opN row/\w7 (ν++e) (QaM ν.length row)/\Vl.n4 (ν++e) (opV ν.length row) r
 |[],r,ν,h,_=>⟨[],rfl,C7,h⟩
 |t::ts,r,ν,h,hz=>by
  obtain⟨d,r,rfl,h1,h2⟩:=h
  have h0:0<ν.length:=by
   cases ν with
   |nil=>simp at hz
   |cons a l=>simp
  have other:opN (t::ts)=opN ts->QaM ν.length (t::ts)=QaM ν.length ts->opV ν.length (t::ts)=.ty t::opV ν.length ts->∃e:List Int,e.length=opN (t::ts)/\w7 (ν++e) (QaM ν.length (t::ts))/\Vl.n4 (ν++e) (opV ν.length (t::ts)) (d::r):=λe1 e2 e3=>by
   obtain⟨e,M,G,C⟩:=Qf8 h2 hz;rw[e1,e2,e3];exact⟨e,M,G,S4 h1 C⟩
  have list:∀(row:List Tp) (n:Int) (lo:Int) (rows:List (List D)),isL d rows->lo<=rows.length->(rows.length:Int)<=n->(∀r∈rows,Tp.u3 row r)->opN (t::ts)=opN ts+1->QaM ν.length (t::ts)=(0,ν.length, -lo)::(ν.length,0,n)::QaM (ν.length+1) ts->opV ν.length (t::ts)=.ll row ν.length 0::opV (ν.length+1) ts->∃e:List Int,e.length=opN (t::ts)/\w7 (ν++e) (QaM ν.length (t::ts))/\Vl.n4 (ν++e) (opV ν.length (t::ts)) (d::r):=λrow n lo rows hd V T hr e1 e2 e3=>by
   obtain⟨e,M,G,C⟩:=Qf8 (ν:=ν++[(rows.length:Int)]) h2 (XG _ hz);rw[e1,e2,e3];have Y:ν++[(rows.length:Int)]++e=ν++(rows.length:Int)::e:=by simp
   have el:(ν++[(rows.length:Int)]).length=ν.length+1:=by simp
   rw[Y,el]at G C;have U:(ν++(rows.length:Int)::e)[0]?=some 0:=XG _ hz;have O:(ν++(rows.length:Int)::e)[ν.length]?=some (rows.length:Int):=by simp
   exact⟨rows.length::e,by simp[M],Hc U O Wa (Hc O U Wa G),_,_,rfl,⟨rows,hd,⟨_,O,Wa⟩,hr⟩,C⟩
  cases t with
  |l row k=>
   obtain⟨rows,hd,T,hr⟩:=h1;exact list row k 0 rows hd Wa Wa hr rfl rfl rfl
  |lm row k=>
   obtain⟨rows,hd,T,hr⟩:=h1;exact list row k 1 rows hd Wa Wa hr rfl rfl rfl
  |i _ _ _=>exact other rfl rfl rfl
  |b=>exact other rfl rfl rfl
  |s _=>exact other rfl rfl rfl
  |c _=>exact other rfl rfl rfl
  |px _=>exact other rfl rfl rfl
theorem Qax {r:List D} (h:Tp.u3 X1 r):∃a b c:Int,w7 [0,a,b,c] (QaM 1 X1)/\Vl.has [0,a,b,c] (.aa (opV 1 X1)) (.agg r):=by
 obtain⟨e,C,M,G⟩:=Qf8 (ν:=[0]) h rfl;have C:e.length=3:=C
 match e,C with
 |[a,b,c],_=>exact⟨a,b,c,M,r,rfl,G⟩
theorem R0 {a b c:List UInt8} (h:Tp.u3 GS [.str a,.str b,.str c]):Vl.has ν (.aa (opV n GS)) (.agg [.str a,.str b,.str c]):=by
 obtain⟨_,_,e1,h1,_,_,rfl,h2,_,_,rfl,C,rfl⟩:=h;simp only[QBz,and_true]at e1;obtain⟨rfl,rfl,rfl⟩:=e1;exact⟨_,rfl,_,_,rfl,h1,_,_,rfl,h2,_,_,rfl,C,rfl⟩
section
variable (hm:Tryz.prog.follows .mixedOrders=true)
include hm
theorem BJ {f:Nat} {c:Ct} {l:List Ct} (e:tbS spG spA f=l) (h:c∈l):c.ok Tryz.prog f:=QjJ hm (Qxq hm) f c (by rw[e];exact h)
theorem Qrh:Qla:=by
 obtain⟨⟨m1,m2,m3,m4⟩,⟨m5,m6,m7,m8⟩,_⟩:=QaI;refine⟨λrows V hr=>?_,λn hn=>?_,λr hr=>?_,λps V hp=>?_,λa b c h=>?_,λrows V hr=>?_,λrows V hr=>?_,λrows V hr n hn=>?_⟩;obtain⟨_,_,_,_,⟨_,rfl,_,_,rfl,⟨e,rfl,_⟩,_,_,rfl,⟨n,rfl⟩,rfl⟩,o⟩:=BJ hm m1 (c:=QvQ) Wc [0,rows.length] [.sl rows] rfl rfl (C6 Wa) (Qaw hr rfl);exact⟨e,n,o⟩;obtain⟨_,_,_,_,⟨b,rfl⟩,o⟩:=BJ hm m2 (c:=QvV) Wc [0,n.length] [.str n] rfl rfl (C6 Wa) ⟨_,_,rfl,⟨n,rfl,_,rfl,Wa⟩,rfl⟩;exact⟨b,o⟩;obtain⟨a,b,c,T,O⟩:=Qax hr;obtain⟨_,_,_,_,⟨_,rfl,_,_,rfl,⟨s,rfl,hs⟩,_,_,rfl,⟨e,rfl,_⟩,rfl⟩,o⟩:=BJ hm m3 (c:=Qv3) Wc [0,a,b,c] [.agg r] rfl rfl T ⟨_,_,rfl,O,rfl⟩;exact⟨s,e,hs,o⟩;obtain⟨_,_,_,_,⟨b,rfl⟩,o⟩:=BJ hm m4 (c:=QvY) Wc [0,(ps.map QeR).length] [.sl (ps.map QeR)] rfl rfl (C6 (by simpa using V)) (Qaw (λr hr=>by obtain⟨p,h,rfl⟩:=QAy.1 hr;exact hp p h) rfl)
 exact⟨b,o⟩;obtain⟨_,_,_,_,⟨b,rfl⟩,o⟩:=BJ hm m5 (c:=QvS) Wc [0] [.agg [.str a,.str b,.str c]] rfl rfl C7 ⟨_,_,rfl,R0 h,rfl⟩;exact⟨b,o⟩;obtain⟨e,_,_,Y,⟨_,rfl,d,_,rfl,⟨pr,hd,⟨v,T,O⟩,hp⟩,_,_,rfl,⟨x,rfl,_⟩,rfl⟩,o⟩:=BJ hm m6 (c:=QvZ) Wc [0,rows.length] [.sl rows] rfl rfl (C6 Wa) (Qaw hr rfl)
 obtain⟨ps,rfl,U⟩:∃ps:List QhM,pr=ps.map QeR/\∀p∈ps,Tp.u3 BL (QeR p):=by
  clear hd O
  induction pr with
  |nil=>exact⟨[],rfl,by simp⟩
  |cons r pr ih=>
   obtain⟨ps,rfl,h2⟩:=ih λr hr=>hp r (QBm _ hr);have h0:=hp r Wc;have h1:=h0;obtain⟨_,_,rfl,⟨n,_,rfl⟩,_,_,rfl,⟨s,_,rfl⟩,rfl⟩:=h1
   exact⟨⟨n,s⟩::ps,rfl,λp hp=>by
    rcases QAm.1 hp with rfl |hp;exact h0;exact h2 p hp⟩
 have b4:v<=4:=by
  obtain⟨a,b,G,C,M⟩:=Y (2,0,4) (show((2,0,4):Cn)∈[((0,2,0):Cn),(2,0,4),(0,3,0),(3,0,40)] by simp);have G:([0,(rows.length:Int)]++e)[2]?=some a:=G;rw[T]at G;cases G;have C:some (0:Int)=some b:=C;cases C
  have M:v<=0+4:=M;omega
 rw[QBd]at O;exact⟨ps,x,Wa,U,Qkm o (SO hd (G1 λr hr=>by obtain⟨p,h,rfl⟩:=QAy.1 hr;exact U p h)) (by simp[D.wk])⟩
 obtain⟨_,_,_,_,⟨b,rfl⟩,o⟩:=BJ hm m7 (c:=QvU) Wc [0,rows.length] [.sl rows] rfl rfl (C6 Wa) (Qaw hr rfl);exact⟨b,o⟩;obtain⟨_,_,_,Y,⟨_,rfl,_,_,rfl,⟨_,rfl,d1,_,rfl,⟨r1,h1,⟨v1,T,O⟩,t1⟩,d2,_,rfl,⟨r2,h2,⟨v2,q3,q4⟩,t2⟩,rfl⟩,_,_,rfl,⟨e,rfl,_⟩,rfl⟩,o⟩:=BJ hm m8 (c:=QvT) Wc [0,rows.length] [.sl rows,.str n] rfl rfl (C6 Wa) (Qaw hr (S4 ⟨n,rfl,hn⟩ rfl));obtain⟨a,rfl,ha⟩:=N3 t1;obtain⟨b,rfl,hb⟩:=N3 t2
 have l1:a.length<=1000:=by
  obtain⟨x,y,G,C,M⟩:=Y (2,0,1000) (show((2,0,1000):Cn)∈[((0,2,0):Cn),(2,0,1000),(0,3,0),(3,0,1000)] by simp);simp only at G C M;rw[T]at G;cases G;have C:some (0:Int)=some y:=C;cases C
  rw[QBd]at O;omega
 have l2:b.length<=1000:=by
  obtain⟨x,y,G,C,M⟩:=Y (3,0,1000) (show((3,0,1000):Cn)∈[((0,2,0):Cn),(2,0,1000),(0,3,0),(3,0,1000)] by simp);simp only at G C M;rw[q3]at G;cases G;have C:some (0:Int)=some y:=C;cases C
  rw[QBd]at q4;omega
 refine⟨(a,b),e,⟨Qjh ha (by show a.length<=_;omega),Qjh hb (by show b.length<=_;omega)⟩,Qkm o ?_ (by simp[D.wk])⟩
 have G:=SO h1 (XD a);have C:=SO h2 (XD b);simp[D.wk,wkL,Qw,G,C]
end
end Go.Proofs
namespace Go.Proofs
open Go Go.Abs M3 M25
set_option maxRecDepth 100000
set_option maxHeartbeats 0
variable {a b c f o:List UInt8} {fd:List (List D)} {r:List D}
theorem QgR {s:Je} (h:spB 0 s.1=true/\spB 1 s.2=true):(Sm s.1/\Sm s.2)/\JW s=true:=by
 obtain⟨T,O,C⟩:=QkA h.1;obtain⟨M,G,_⟩:=QkA h.2;have C:=C rfl;exact⟨⟨T,M⟩,by rw[JW,O,G,C];rfl⟩
theorem B6 {r:List AskT} (C:1<=r.length/\r.length<=4) (h:∀a∈r,QhJ a):Me r:=
 ⟨Wa,λa ha=>⟨QaA (h a ha).n (h a ha).f,Gv _ (h a ha).n⟩,λa ha=>(QgR ⟨(h a ha).s1,(h a ha).s2⟩).1,λa ha=>(QgR ⟨(h a ha).s1,(h a ha).s2⟩).2⟩
theorem Qdh {ν e:List Int} {x:Nat} {k v:Int} {rc:List Cn} (U:w7 (ν++e) rc) (hm:((x,0,k):Cn)∈rc) (O:(ν++e)[0]?=some 0) (T:(ν++e)[x]?=some v):v<=k:=by
 obtain⟨a,b,G,C,M⟩:=U _ hm;simp only at G C M;rw[T]at G;cases G;rw[O]at C;cases C;omega
section
variable (hm:Tryz.prog.follows .mixedOrders=true)
include hm
theorem QtM {w:List UInt8} (hw:w∈MS) (h:Tp.u3 GS [.str a,.str b,.str c]):∃t,Ok Tryz.prog 184 [.str w,.agg [.str a,.str b,.str c]] (.bool t):=by
 have e:spG 184=[c0 [pc MS,.s GS] tb]:=by rfl
 obtain⟨_,_,_,_,⟨t,rfl⟩,o⟩:=gOn hm (c0 [pc MS,.s GS] tb) (by rw[e];simp) [0] [.str w,.agg [.str a,.str b,.str c]] rfl rfl C7 (S4 ⟨w,hw,rfl⟩ ⟨_,_,rfl,R0 h,rfl⟩)
 exact⟨t,o⟩
theorem ad (G:fd.length<=4) (hr:∀r∈fd,Tp.u3 Py r) (M:f.length<=1000):∃b,Ok Tryz.prog 179 [.sl fd,.str f] (.bool b):=by
 obtain⟨_,_,⟨C,_⟩,_⟩:=QaI;obtain⟨_,_,_,_,⟨b,rfl⟩,o⟩:=BJ hm C (c:=cIs) Wc [0,fd.length] [.sl fd,.str f] rfl rfl (C6 Wa) (Qaw hr (S4 ⟨f,rfl,Wa⟩ rfl));exact⟨b,o⟩
theorem Qqf (V:fd.length<=4) (hr:∀r∈fd,Tp.u3 Py r) (Y:f.length<=1000):∃C:List (List UInt8),C.length<=5/\(∀s∈C,s∈tItem)/\Ok Tryz.prog 181 [.sl fd,.str f] (.sl (C.map λs=>[.str s])):=by
 obtain⟨_,_,⟨_,O,_⟩,_⟩:=QaI;obtain⟨e,d,_,U,⟨rows,hd,⟨v,M,G⟩,hp⟩,o⟩:=BJ hm O (c:=QvW) Wc [0,fd.length] [.sl fd,.str f] rfl rfl (C6 Wa) (Qaw hr (S4 ⟨f,rfl,Wa⟩ rfl))
 obtain⟨C,rfl,hi⟩:∃C:List (List UInt8),rows=C.map (λs=>[D.str s])/\∀s∈C,s∈tItem:=by
  clear hd G
  induction rows with
  |nil=>exact⟨[],rfl,by simp⟩
  |cons r rows ih=>
   obtain⟨C,rfl,h2⟩:=ih λr hr=>hp r (QBm _ hr);obtain⟨_,_,rfl,⟨s,T,rfl⟩,rfl⟩:=hp r Wc
   exact⟨s::C,rfl,λx hx=>by
    rcases QAm.1 hx with rfl |hx;exact T;exact h2 x hx⟩
 have b5:=Qdh U (k:=5) (x:=2) (show((2,0,5):Cn)∈[((0,2,0):Cn),(2,0,5)] by simp) rfl M;rw[QBd]at G;exact⟨C,Wa,hi,QaL o (SO hd (G1 hp))⟩
theorem Qqo (hr:Tp.u3 X1 r) (h:Tp.u3 GS [.str a,.str b,.str c]) (ho:o∈tOpt):∃l:List (List AskT),l.length<=14/\(∀x∈l,Me x)/\Ok Tryz.prog 180 [.agg r,.agg [.str a,.str b,.str c],.str o] (ZL l):=by
 obtain⟨_,_,⟨_,_,O,_⟩,_⟩:=QaI;obtain⟨x,y,z,p1,p2⟩:=Qax hr;obtain⟨e,d,_,T,⟨rows,hd,⟨v,M,V⟩,hp⟩,ok⟩:=BJ hm O (c:=QvX) Wc [0,x,y,z] [.agg r,.agg [.str a,.str b,.str c],.str o] rfl rfl p1 ⟨_,_,rfl,p2,_,_,rfl,R0 h,S4 ⟨o,ho,rfl⟩ rfl⟩;obtain⟨l,G,l1,C⟩:=Lh hd hp;have U:=Qdh T (k:=14) (x:=4) (show((4,0,14):Cn)∈[((0,4,0):Cn),(4,0,14)] by simp) rfl M;exact⟨l,Wa,λx hx=>B6 (C x hx).1 (C x hx).2,QaL ok G⟩
theorem QmY (hr:Tp.u3 X1 r) {n:List UInt8} (h:Tp.u3 GS [.str a,.str b,.str c]) (O:(n∈tName/\o=[120])\/(n=[]/\o=[])):∃l:List (List AskT),l.length<=14/\(∀x∈l,Me x)/\Ok Tryz.prog 183 [.agg r,.agg [.str a,.str b,.str c],.str n,.str o] (ZL l):=by
 obtain⟨_,_,⟨_,_,_,U⟩,_⟩:=QaI;obtain⟨x,y,z,p1,p2⟩:=Qax hr;rcases O with⟨Y,rfl⟩ |⟨rfl,rfl⟩
 obtain⟨e,d,_,T,⟨rows,hd,⟨v,M,V⟩,hp⟩,ok⟩:=BJ hm U (c:=Qv1) Wc [0,x,y,z] [.agg r,.agg [.str a,.str b,.str c],.str n,.str [120]] rfl rfl p1 ⟨_,_,rfl,p2,_,_,rfl,R0 h,S4 ⟨n,Y,rfl⟩ (S4 ⟨_,by simp,rfl⟩ rfl)⟩;obtain⟨l,G,l1,C⟩:=Lh hd hp;have b14:=Qdh T (k:=14) (x:=4) (show((4,0,14):Cn)∈[((0,4,0):Cn),(4,0,14)] by simp) rfl M;exact⟨l,Wa,λx hx=>B6 (C x hx).1 (C x hx).2,QaL ok G⟩;obtain⟨e,d,_,T,⟨rows,hd,⟨v,M,V⟩,hp⟩,ok⟩:=BJ hm U (c:=Qv0) Wc [0,x,y,z] [.agg r,.agg [.str a,.str b,.str c],.str [],.str []] rfl rfl p1 ⟨_,_,rfl,p2,_,_,rfl,R0 h,S4 ⟨_,by simp,rfl⟩ (S4 ⟨_,by simp,rfl⟩ rfl)⟩;obtain⟨l,G,l1,C⟩:=Lh hd hp;have b0:=Qdh T (k:=0) (x:=4) (show((4,0,0):Cn)∈[((0,4,0):Cn),(4,0,0)] by simp) rfl M;exact⟨l,Wa,λx hx=>B6 (C x hx).1 (C x hx).2,QaL ok G⟩
end
def fsI:List Nat:=[182,95,134,135,136,197]
def itB (P:Program) (s:List UInt8):Bool:=match exX (λ_ _=>none) (QhF P fsI) 200 182 [.str s] []with
 |some (.u7 ds,_)=>wkL ds [.int .i64 (itK s:Nat),.str (itN s),.str (itF s)]
 |_=>false
theorem QpV:tItem.all (itB Tryz.prog)=true:=by decide+kernel
theorem Qmg (hm:Tryz.prog.follows .mixedOrders=true) {s:List UInt8} (O:s∈tItem):Ok Tryz.prog 182 [.str s] (.u7 [.int .i64 (itK s:Nat),.str (itN s),.str (itF s)]):=by
 have h:=QAu.1 QpV s O;unfold itB at h;split at h;rename_i ds H e;have o:=(Gj hm (λ_ _ _ h=>by cases h) (GB fsI) 200 e).1 rfl
 exact⟨o.1,λK w vs hk M=>(o.2 K w vs hk M).mono λ_ _ ⟨v,K',he,hr,rest⟩=>⟨v,K',he,by
  simp only[l3]at hr ⊢;obtain⟨us,G,C⟩:=hr;exact⟨us,G,Qhp h C⟩,rest⟩⟩
 cases h
end Go.Proofs
namespace Go.Proofs
open Go Go.Abs M3 M25
set_option maxRecDepth 100000
variable {k:Za} {n:List UInt8} {ns:List (List UInt8)} {y:YdT}
theorem Qct (es:List Fs) (k:Nat) (s:Je):∀l:List Nat,(l.flatMap (Bb es k s)).Sublist (l.map (tkE es k))
 |[]=>by simp
 |x::l=>by
  rw[QAO,QAX];have h:=Qct es k s l;unfold Bb tkE;cases e:es[x]? with
  |none=>exact h.cons _
  |some y=>
   dsimp only;split;exact h.cons_cons _;exact h.cons _
theorem Qmx (G:YOk y) {C k2 e2:Int} {l2:List Nat} {s3:Je} (O:C= -1\/∃i,∃h:i<y.ms.length,C=i/\y.ms[i].r.n=n) (M:e2=0->∃i,∃h:i<y.ss.length,k2=i/\te y.ss[i].es n l2):gb n (Qdy y C k2 l2 e2 s3):=by
 rcases O with rfl |⟨i,hi,rfl,U⟩;rw[LV Wa,lkU];split;rename_i e;obtain⟨j,T,rfl,V⟩:=M e
 rw[QA5,QA7 T];exact gb.of (G.sh _ (QAp T)) V (Qct _ _ _ _);exact gb.nil n;rw[CN hi];have h:=QAp hi;exact gb.one U (G.mv _ h) (G.mr _ h)
theorem QiX:∀n∈tName,n.length<=100:=by decide
theorem QbC:∀n∈tFeat0,n.length<=1000:=by decide
theorem Qjq:∀n∈Qa0,n∈tFeat0:=by decide
structure la (y:YdT) (lkf:List UInt8->List TkR) (W:WF):Prop where
 tk:∀n∈tName,gb n (lkf n)
 look:∀n∈tName,∀ns,s6 Tryz.prog 186 [.agg (dYd y (.ref 1000000 0 0)),.str n] (FD lkf ns) (PF (lkf n)) (FD lkf ns)
 on:∀w∈MS,Ok Tryz.prog 184 [.str w,.agg [.str y.e1,.str y.e2,.str y.e3]] (.bool (W.on w))
 st:∀t∈tRange,(spB 0 (W.st t).1=true/\spB 1 (W.st t).2=true)/\Ok Tryz.prog 185 [.str t] (Lu (W.st t))
 z8:∀x:FH,Tp.u3 X1 (JC x)->∀f∈tFeat0,Ok Tryz.prog 179 [.sl x.fd,.str f] (.bool (W.z8 x f))
 nd:∀x:FH,Tp.u3 X1 (JC x)->∀f∈tFeat0,((W.nd x f).length<=90/\∀r∈W.nd x f,Me r)/\Ok Tryz.prog 142 [.agg (JC x),.agg [.str y.e1,.str y.e2,.str y.e3],.str f] (ZL (W.nd x f))
theorem pick {α β:Type} [Inhabited β] {p:α->Prop} {q:α->β->Prop} (h:∀x,p x->∃y,q x y):∃f:α->β,∀x,p x->q x (f x):=by
 have h2:∀x,∃y,p x->q x y:=λx=>(Classical.em (p x)).elim (λe=>(h x e).imp λ_ q _=>q) λe=>⟨default,λe2=>absurd e2 e⟩;exact Classical.axiomOfChoice h2
instance:Inhabited Je:=⟨([],[])⟩
section
variable (hm:Tryz.prog.follows .mixedOrders=true)
include hm
theorem QmJ {x:FH} (hx:Tp.u3 X1 (JC x)) {a b c:List UInt8} (he:Tp.u3 GS [.str a,.str b,.str c]) {f:List UInt8} (hf:f∈tFeat0):∃l:List (List AskT),(l.length<=90/\∀r∈l,Me r)/\Ok Tryz.prog 142 [.agg (JC x),.agg [.str a,.str b,.str c],.str f] (ZL l):=by
 have ho:=Xf hx;obtain⟨op,G⟩:=pick (p:=λo=>o∈tOpt) (q:=λo (l:List (List AskT))=>l.length<=14/\(∀r∈l,Me r)/\Ok Tryz.prog 180 [.agg (JC x),.agg [.str a,.str b,.str c],.str o] (ZL l)) λo h=>Qqo hm hx he h
 by_cases e:f=[]
 subst e;obtain⟨h1,h2,_⟩:=G [] We;exact⟨op [],⟨Wa,h2⟩,HG λo h=>(G o h).2.2⟩;obtain⟨pl,O⟩:=pick (α:=List UInt8 × List UInt8) (p:=λk=>(k.1∈tName/\k.2=[120])\/(k.1=[]/\k.2=[])) (q:=λk (l:List (List AskT))=>l.length<=14/\(∀r∈l,Me r)/\Ok Tryz.prog 183 [.agg (JC x),.agg [.str a,.str b,.str c],.str k.1,.str k.2] (ZL l)) λk h=>QmY hm hx he h;obtain⟨Y,hi1,C,hi3⟩:=Qqf hm ho.fl ho.fd (QbC f hf);have V:∀o∈tOpt,(op o).length<=14:=λo h=>(G o h).1;have T:∀n o,(n∈tName/\o=[120])\/(n=[]/\o=[])->(pl (n,o)).length<=14:=λn o h=>(O (n,o) h).1;have hk:=HH ho.v e (λo h=>(G o h).2.2) (pl:=λn o=>pl (n,o)) (λn o h=>(O (n,o) h).2.2) hi1 C hi3 (λs h=>Qmg hm h) V T;have U:=Cs ho.v;refine⟨_,⟨?_,λr hr=>?_⟩,Ok.wh hk (Qok _)⟩;rw[QBd];have:=QfY (n:=x.n) (e:=Y9 x.v.a x.v.b x.v.c x.v.p x.v.q) (op:=op) (pl:=λn o=>pl (n,o)) (l:=Y) (λs M k=>V _ ((NG _ (C s M)).resolve_right (λh=>h k))) (λs M k k2=>T _ _ ((NH _ (C s M)).resolve_left Wa));omega;obtain⟨⟨t,r1⟩,h9,rfl⟩:=QAy.1 hr;clear hr;have one:∀g∈tFeat0,Me [⟨(x.n,g),Y9 x.v.a x.v.b x.v.c x.v.p x.v.q⟩]:=λg hg=>⟨⟨by simp,by simp⟩,λa ha=>by rw[QAt.1 ha];exact⟨QaA ho.n hg,Gv _ ho.n⟩,λa ha=>by rw[QAt.1 ha];exact U.1,λa ha=>by rw[QAt.1 ha];exact U.2⟩
 rcases QAm.1 h9 with h |hr;cases h;exact one [] We;obtain⟨s,M,hr⟩:=QAr.1 hr
 unfold ndI at hr;split at hr;rename_i k1;rw[QAt]at hr;cases hr;exact one _ (Qjq _ ((QfD _ (C s M)).resolve_right (λh=>h k1)));rename_i k1;split at hr;rename_i k2;obtain⟨r2,h2,h3⟩:=QAy.1 hr;cases h3
 exact(G _ ((NG _ (C s M)).resolve_right (λh=>h k2))).2.1 _ h2;rename_i k2;obtain⟨r2,h2,h3⟩:=QAy.1 hr;cases h3
 exact(O (itN s,itF s) ((NH _ (C s M)).resolve_left Wa)).2.1 _ h2
theorem Qi1 (C:YOk y) (he:Tp.u3 GS [.str y.e1,.str y.e2,.str y.e3]):∃lkf W,la y lkf W:=by
 have wk:=Qrh hm
 obtain⟨lkf,T⟩:=pick (p:=λn=>n∈tName) (q:=λn (l:List TkR)=>gb n l/\∀lkf ns,s6 Tryz.prog 186 [.agg (dYd y (.ref 1000000 0 0)),.str n] (FD lkf ns) (PF l) (FD lkf ns)) λn hn=>by
  obtain⟨_,⟨k1,rfl,O⟩,o1⟩:=HB wk C.ml C.mt (n:=n);obtain⟨_,⟨k2,e2,l2,rfl,M⟩,Y⟩:=G7 wk C.sl C.st C.sh C.pl C.pt (n:=n);obtain⟨s3,e3,U,V⟩:=wk.ng (y.ms.map QeQ) (by simpa using C.ml) (λr hr=>by obtain⟨m,h,rfl⟩:=QAy.1 hr;exact C.mt m h) n (QiX n hn)
  exact⟨_,Qmx C O M,λlkf ns=>Fc C o1 O Y M V U⟩
 obtain⟨on,h1⟩:=pick (p:=λw=>w∈MS) (q:=λw t=>Ok Tryz.prog 184 [.str w,.agg [.str y.e1,.str y.e2,.str y.e3]] (.bool t)) λw hw=>QtM hm hw he;obtain⟨st,h2⟩:=pick (p:=λt=>t∈tRange) (q:=λt (s:Je)=>(spB 0 s.1=true/\spB 1 s.2=true)/\Ok Tryz.prog 185 [.str t] (Lu s)) λt ht=>Qkx hm ht;obtain⟨z8,h3⟩:=pick (α:=FH × List UInt8) (p:=λk=>Tp.u3 X1 (JC k.1)/\k.2∈tFeat0) (q:=λk b=>Ok Tryz.prog 179 [.sl k.1.fd,.str k.2] (.bool b)) λk hk=>ad hm (Xf hk.1).fl (Xf hk.1).fd (QbC _ hk.2);obtain⟨nd,h4⟩:=pick (α:=FH × List UInt8) (p:=λk=>Tp.u3 X1 (JC k.1)/\k.2∈tFeat0) (q:=λk (l:List (List AskT))=>(l.length<=90/\∀r∈l,Me r)/\Ok Tryz.prog 142 [.agg (JC k.1),.agg [.str y.e1,.str y.e2,.str y.e3],.str k.2] (ZL l)) λk hk=>QmJ hm hk.1 he hk.2;exact⟨lkf,⟨on,st,λx f=>z8 (x,f),λx f=>nd (x,f)⟩,λn h=>(T n h).1,λn h ns=>(T n h).2 lkf ns,h1,h2,λx hx f G=>h3 (x,f) ⟨hx,G⟩,λx hx f G=>h4 (x,f) ⟨hx,G⟩⟩
end
section
variable {y:YdT} {lkf:List UInt8->List TkR} {W:WF}
theorem la.xi (h:la y lkf W) (M:YOk y):WOk y lkf W:=
 ⟨M,λm hm=>(Xf (M.mr m hm)).n,h.tk,λn G t C f O=>(h.nd t.r ((h.tk n G).t t C) f O).1.2,λn G t C b hb=>((Xf ((h.tk n G).t t C)).bs b hb).n,λn G t C b hb=>QgR (h.st _ ((Xf ((h.tk n G).t t C)).bs b hb).r).1⟩
theorem la.of (h:la y lkf W) (C:j9 ns) (h1:k.1∈tName) (h2:k.2∈tFeat0):s6 Tryz.prog 141 [.agg (dYd y (.ref 1000000 0 0)),.agg (Ht k)] (FD lkf ns) (PF (ofM (lkf k.1) W.z8 k.2)) (FD lkf (Qd1 ns k.1)):=
 Nh (Y1 C (h.look _ h1 ns)) (h.tk _ h1).len λt G=>h.z8 t.r ((h.tk _ h1).t t G) _ h2
theorem QjC (l:List (List QN)):(Xm l).wk (Xm l)=true:=by
 have hw:∀x:QN,wkL (Fo x) (Fo x)=true:=λx=>by
  have h1:=XD x.s.1;have h2:=XD x.s.2;simp[Fo,wkL,D.wk,h1,h2]
 exact JR (λr=>by simp[ZR,wkL,D.wk,JR hw]) l
theorem Qc3 (c:CandT):wkL (Cl c) (RE c)=true:=by
 have hw:∀x:QN,wkL (Fo x) (Fo x)=true:=λx=>by
  have h1:=XD x.s.1;have h2:=XD x.s.2;simp[Fo,wkL,D.wk,h1,h2]
 have h1:=QjC c.ns;simp[Cl,RE,ZR,wkL,D.wk,h1,JR hw]
theorem la.row (h:la y lkf W) (O:YOk y) (hk:k∈Tv) (C:j9 ns):∃ns',j9 ns'/\s6 Tryz.prog 137 [.agg (dYd y (.ref 1000000 0 0)),.agg (Ht k)] (FD lkf ns) (ZL (rwW y lkf W k)) (FD lkf ns'):=by
 rcases GN hk with rfl |⟨h1,h2⟩;rw[rwW,if_pos rfl];exact⟨ns,C,KV O.ml O.mv⟩;have G:k≠([],[]):=λe=>by subst e;exact Gv _ h1 rfl
 rw[rwW,if_neg G];refine⟨_,Qgu C h1,KU G (h.of C h1 h2) (QAD (Sj _ _ _) (h.tk _ h1).len) (λt M=>?_) (λt M=>?_)⟩;exact(h.nd t.r ((h.tk _ h1).t t (of_sub.subset M)) _ h2).2;exact(h.nd t.r ((h.tk _ h1).t t (of_sub.subset M)) _ h2).1.1
theorem QqD (h:la y lkf W) (G:YOk y) (hk:k∈Tv):(rwW y lkf W k).length<=9000:=by
 rcases GN hk with rfl |⟨h1,h2⟩;rw[rwW,if_pos rfl];have:=G.ml
 simp only[GA,QBd];omega;have C:k≠([],[]):=λe=>by subst e;exact Gv _ h1 rfl
 rw[rwW,if_neg C];have U:=Sy (nd:=W.nd) (f:=k.2) (l:=ofM (lkf k.1) W.z8 k.2) λt M=>(h.nd t.r ((h.tk _ h1).t t (of_sub.subset M)) _ h2).1.1;have T:=Sj (lkf k.1) W.z8 k.2;have O:=(h.tk _ h1).len;omega
theorem Qm1:n∈Qd1 ns n:=by
 unfold Qd1;split;assumption;simp
theorem Qi9 (h:n∈ns):Qd1 ns n=ns:=if_pos h
theorem la.a8 (h:la y lkf W) (Y:YOk y) {all:List Za} (hal:all.length<=26) (hk:k∈Tv) (T:j9 ns):∃ns',j9 ns'/\s6 Tryz.prog 98 [.agg (dYd y (.ref 1000000 0 0)),XK all,.agg (Ht k)] (FD lkf ns) (.u7 [Qbp (cfW y lkf W all k).1,.bool (cfW y lkf W all k).2]) (FD lkf ns'):=by
 rcases GN hk with rfl |⟨h1,h2⟩;rw[cfW,if_pos rfl];exact⟨ns,T,s6.ji (HE Y.ml Y.mv Wa) (JR Qc3 [_])⟩;have U:k≠([],[]):=λe=>by subst e;exact Gv _ h1 rfl
 rw[cfW,if_neg U];have M:=Qgu T h1
 have O:s6 Tryz.prog 144 [.agg (dYd y (.ref 1000000 0 0)),.str k.1] (FD lkf (Qd1 ns k.1)) (PF (lkf k.1)) (FD lkf (Qd1 ns k.1)):=by
  have:=Y1 M (h.look _ h1 (Qd1 ns k.1))
  rwa [Qi9 Qm1]at this
 have G:∀t∈ofM (lkf k.1) W.z8 k.2,Tp.u3 X1 (JC t.r):=λt C=>(h.tk _ h1).t t (of_sub.subset C);have V:=h.of T h1 h2;have hl:(ofM (lkf k.1) W.z8 k.2).length<=100:=QAD (Sj _ _ _) (h.tk _ h1).len
 by_cases e:k.2=[]
 exact⟨_,M,HC Wa U e V hl W (λt C=>(h.nd t.r (G t C) _ h2).2) (λt C=>(h.nd t.r (G t C) _ h2).1.1) (λt C r hr=>by have:=((h.nd t.r (G t C) _ h2).1.2 r hr).len;omega) (λt C=>by have:=(Xf (G t C)).bl;omega) (λt C b hb=>h.on _ ((Xf (G t C)).bs b hb).w) (λt C b hb=>(h.st _ ((Xf (G t C)).bs b hb).r).2) O⟩
 exact⟨_,M,s6.ji (HD Wa U e V hl W (λt C=>(h.nd t.r (G t C) _ h2).2) (λt C=>(h.nd t.r (G t C) _ h2).1.1) (λt C r hr=>by have:=((h.nd t.r (G t C) _ h2).1.2 r hr).len;omega) (λt C=>by have:=(Xf (G t C)).bl;omega) (λt C b hb=>h.on _ ((Xf (G t C)).bs b hb).w) (λt C b hb=>(h.st _ ((Xf (G t C)).bs b hb).r).2) O) (JR Qc3 _)⟩
end
structure yg (w:Qe):Prop where
 v:ya w
 nm:∀u∈w,u.n.length<=1048576/\u.f.length<=1048576
theorem yg.raw {w:Qe} (h:yg w):Po w:=⟨by have:=h.v.len;omega,h.nm,λu hu=>by have:=h.v.cl u hu;omega,λu hu c C=>by
 have q:=h.v.a8 u hu c C;exact⟨q.sm,by have:=q.nl;omega,by have:=q.bl;omega,λr hr=>⟨by have:=(q.rows r hr).1;omega,λx hx=>((q.rows r hr).2 x hx).sm⟩,λx hx=>(q.bars x hx).sm⟩⟩
theorem Qmm:∀k∈Tv,k.1.length<=100/\k.2.length<=100:=by decide
section
variable (hm:Tryz.prog.follows .mixedOrders=true)
include hm
theorem Qey {ms:List Qhu} {ss:List ShR} {v1 v2 v3:List UInt8} (V:ms.length<=2) (O:∀m∈ms,Tp.u3 S7 (QeQ m)/\Tp.u3 X1 (JC m.r)) (U:ss.length<=2) (C:∀s∈ss,Tp.u3 XP (dSh s)/\(s.n.length<=100/\s.es.length<=100)/\∀e∈s.es,Tp.u3 X1 (JC e.r)) (he:Tp.u3 GS [.str v1,.str v2,.str v3]):∃w e,(e=0->yg w)/\Ok Tryz.prog 31 [Nu ms,Cm ss,.agg [.str v1,.str v2,.str v3],.sl []] (.u7 [QW w,.int .i64 e]):=by
 obtain⟨_,⟨w,e,rfl,h⟩,o⟩:=H7 (Qrh hm) (G:=yg) V (λm h=>(O m h).1) U (λs h=>(C s h).1) he λps hpl hpt=>by
  have T:YOk ⟨ms,ss,v1,v2,v3,ps⟩:=⟨V,λm h=>(O m h).1,λm h=>(O m h).2,λm h=>(Xf (O m h).2).v,U,λs h=>(C s h).1,λs h=>⟨(C s h).2.1.1,(C s h).2.1.2,(C s h).2.2,λe he=>(Xf ((C s h).2.2 e he)).v⟩,hpl,hpt⟩;obtain⟨lkf,W,hp⟩:=Qi1 hm T he;have hw:=hp.xi T;have M:j9 []:=⟨by simp,by simp⟩;have hre:=H9 (y:=⟨ms,ss,v1,v2,v3,ps⟩) (lkf:=lkf) M (rw:=rwW _ lkf W) (λk hk ns M=>hp.row T hk M) (λk hk r hr a ha=>((Qm8 hw hk r hr).key a ha).1) (λk hk=>QqD hp T hk) (λk hk r hr=>by have:=(Qm8 hw hk r hr).len;omega)
  obtain⟨_,_,⟨w,b,Y,rfl,rfl,_,h2⟩,o⟩:=Gb M hre (cf:=cfW _ lkf W) λall hal k hk ns M=>hp.a8 T hal hk M;refine⟨lkf,_,_,⟨w,b,Y,rfl,rfl,λhb=>?_⟩,o⟩;obtain⟨all,hR,rfl,hf⟩:=h2 hb
  exact⟨Qhs hw hR hf,λu hu=>by
   obtain⟨k,hk,rfl⟩:=QAy.1 hu;have:=Qmm k (hR.key k hk);exact⟨by show k.1.length<=_;omega,by show k.2.length<=_;omega⟩⟩
 exact⟨w,e,h,o⟩
end
end Go.Proofs
namespace Go.Proofs
open Go Go.Abs M3 M25
set_option maxRecDepth 100000
variable {k:Int} {l:List Int}
theorem Qf2:ya Px:=by
 refine⟨⟨by simp[Px],by simp[Px]⟩,λu hu=>?_,λ_=>⟨rfl,rfl,rfl⟩,λi hi hp=>?_,λi hi hp=>?_,λu hu c G=>?_,λu hu j C hp=>?_⟩;simp only[Px,QAt]at hu;subst hu;simp;simp[Px]at hi;omega;simp[Px]at hi;omega;simp only[Px,QAt]at hu;subst hu;rw[QAt]at G;subst G;exact⟨⟨by simp,by simp⟩,(show JK 0 0 0 [] []=true by decide),by simp,by simp,by simp,by simp⟩;simp only[Px,QAt]at hu;subst hu;have C:j<1:=C;omega
theorem QiY:yg Px:=⟨Qf2,λu hu=>by simp only[Px,QAt]at hu;subst hu;simp⟩
theorem Qf4 {lo hi:Int} (h0:lo<=k) (hk:k<=hi):w7 [0,(l.length:Int),k] [(0,1,0),(0,2, -lo),(2,0,hi)]:=Hc (a:=0) (b:=l.length) rfl rfl Wa (Hc (a:=0) (b:=k) rfl rfl Wa (Hc (a:=k) (b:=0) rfl rfl Wa C7))
theorem Qmf (hi:∀x∈l,I64 x):∀r∈l.map (λn=>[D.int .i64 n]),Tp.u3 [tI] r:=λr hr=>by
 obtain⟨n,C,rfl⟩:=QAy.1 hr;exact⟨_,_,rfl,⟨n,rfl,(hi n C).1,(hi n C).2⟩,rfl⟩
theorem Qfr (hi:∀x∈l,I64 x):Vl.n4 [0,(l.length:Int),k] [.ll [tI] 1 0,.nn .i64 2 0] [Qz l,.int .i64 k]:=
 ⟨_,_,rfl,⟨_,.inl rfl,⟨l.length,rfl,by rw[QBd];omega⟩,Qmf hi⟩,_,_,rfl,⟨k,rfl,k,rfl,Wa⟩,rfl⟩
section
variable (hm:Tryz.prog.follows .mixedOrders=true)
include hm
theorem Qpw (hi:∀x∈l,I64 x) (h0:0<=k) (hk:k<=9000):∃a b c:List UInt8,Tp.u3 GS [.str a,.str b,.str c]/\Ok Tryz.prog 32 [Qz l,.int .i64 k] (.agg [.str a,.str b,.str c]):=by
 obtain⟨_,_,_,_,_,me⟩:=QaI;obtain⟨_,_,_,_,⟨G,rfl,_,_,rfl,⟨a,ha,rfl⟩,_,_,rfl,⟨b,hb,rfl⟩,_,_,rfl,⟨c,C,rfl⟩,rfl⟩,o⟩:=BJ hm me (c:=QvR) Wc [0,l.length,k] [Qz l,.int .i64 k] rfl rfl (Qf4 Wa hk) (Qfr hi);exact⟨a,b,c,⟨_,_,rfl,⟨a,ha,rfl⟩,_,_,rfl,⟨b,hb,rfl⟩,_,_,rfl,⟨c,C,rfl⟩,rfl⟩,o⟩
theorem world_ok (hi:∀x∈l,I64 x):∃w,yg w/\Ok Tryz.prog 15 [Qz l] (QW w):=by
 obtain⟨_,_,_,my,ms,_⟩:=QaI;obtain⟨v1,v2,v3,he,U⟩:=Qpw hm hi (k:=1200) Wa Wa;obtain⟨e1,d1,_,c1,⟨M,hy,⟨x,T,q2⟩,ty⟩,Y⟩:=BJ hm my (c:=Qv4) Wc [0,l.length,0] [Qz l,.int .i64 0] rfl rfl (Qf4 Wa Wa) (Qfr hi);obtain⟨e2,d2,_,c2,⟨rs,hs,⟨z,O,q4⟩,ts⟩,V⟩:=BJ hm ms (c:=Qv2) Wc [0,l.length,200] [Qz l,.int .i64 200] rfl rfl (Qf4 Wa Wa) (Qfr hi);have b1:=Qdh c1 (k:=2) (x:=3) (show((3,0,2):Cn)∈[((0,3, -1):Cn),(3,0,2)] by simp) rfl T;have b2:=Qdh c2 (k:=2) (x:=3) (show((3,0,2):Cn)∈[((0,3, -1):Cn),(3,0,2)] by simp) rfl O;obtain⟨ms,G,l1,t1⟩:=TV Qp2 M ty;obtain⟨ss,C,l2,t2⟩:=TV Qt4 rs ts;obtain⟨w,e,hv,ob⟩:=Qey hm (ms:=ms) (ss:=ss) Wa t1 Wa t2 he;have o:=G4 (QaL Y (SO hy G)) (QaL V (SO hs C)) U ob;split at o;rename_i h;exact⟨w,hv h,o⟩;exact⟨Px,QiY,QaL o QmL⟩
end
end Go.Proofs
