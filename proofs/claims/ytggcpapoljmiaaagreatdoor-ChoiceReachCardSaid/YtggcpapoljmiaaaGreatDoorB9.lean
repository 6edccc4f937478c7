/- Part 9 of the means of the proof: a verified abstract evaluator and contracts of functions. It states nothing of the claim by itself. -/
import Derived.Test.YtggcpapoljmiaaaGreatDoorB8
import Derived.Test.YtggcpapoljmiaaaGreatDoorProg
set_option maxRecDepth 4000
set_option maxHeartbeats 4000000
set_option linter.unusedSimpArgs false
set_option linter.unusedVariables false
set_option linter.unusedSectionVars false
namespace Go.Proofs
open Go Go.Abs M3 M25
variable {R X:QAh} {rows:List (List D)} {x:Int}
theorem Qmj {a b a' b':u4} {i j:Nat}:∀k,1000000<=k->(lk ((i,a)::(j,b)::R) k).isSome=true->(lk ((i,a')::(j,b')::R) k).isSome=true:=λk _ h=>by
 rw[Qf]at h ⊢;split;rfl;rename_i e;rw[if_neg e,Qf]at h;rw[Qf];grind
theorem qcl {n:Nat} {eq:Nat} (M:Big R) (G:DX R):∀k b,lk ((1000006,⟨[[.s4 500000 n]],1,eq,false⟩)::(500000,⟨rows,1,3,true⟩)::R) k=some b->500000<=k/\∀j∈b.ids,(lk ((1000006,(⟨[[.s4 500000 n]],1,eq,false⟩:u4))::(500000,⟨rows,1,3,true⟩)::R) j).isSome=true:=λk b h=>by
 rw[Qf]at h;split at h;rename_i e;cases h;subst e;refine⟨Wa,λj C=>?_⟩;simp[u4.ids,D.l4]at C;subst C;rfl;rw[Qf]at h;split at h
 grind [u4.ids]
 refine⟨QAD We (M k b h),λj C=>?_⟩;rw[Qf];split;rfl;rw[Qf];split;rfl;exact G k b h j C
theorem Qs6 {eq:Nat} (T:rows.length<=1000000) (O:Big R) (M:DX R) (G:(R.map λp=>(p.1,p.2.z2 500000))=R):
  s6 Tryz.prog 57 [.ref 1000006 0 0,.int .i64 x] ((1000006,⟨[[.s4 500000 rows.length]],1,eq,false⟩)::(500000,⟨rows,1,3,true⟩)::R) (.u7 []) ((1000006,⟨[[.s4 500000 (rows++[[D.int .i64 x]]).length]],1,eq,false⟩)::(500000,⟨rows++[[.int .i64 x]],1,3,true⟩)::R):=by
 refine s6.n6 tfol Tryz.func57 QzU (QAk rfl) Qmj (qcl O M) ?_;show TW _ _ tf57.body _ _;refine MW λK C=>?_;refine Jd rfl (Jd rfl (ZW rfl rfl (Xy rfl rfl (Ft rfl rfl rfl (Jd rfl (QG rfl rfl (Zu rfl rfl (λ_ h=>QqX Wc h) rfl rfl rfl rfl rfl Wb Wb (ZW rfl rfl (Xy rfl rfl (Ke rfl rfl rfl rfl rfl rfl rfl rfl ?_))))))))));refine C _ (Qgk rfl λk b h=>?_);rw[QAX,QAX,G];rw[Qf]at h ⊢
 by_cases e1:1000006=k
 rw[if_pos e1]at h ⊢;rw[<- h,QAY];rfl
 (repeat clear C K);simp_all [Qf]
def qH (eq:Nat) (l:List Int) (R:QAh):QAh:=(1000006,⟨[[.s4 500000 l.length]],1,eq,false⟩)::(500000,⟨l.map rI,1,3,true⟩)::R
theorem QlC {eq:Nat} (M:Big R) (G:DX R):s6 Tryz.prog 58 [.ref 1000006 0 0] (qH eq [] R) (.u7 [.int .i64 0,.bool false]) (qH eq [] R):=by
 refine s6.n6 tfol Tryz.func58 Qwv (QAk rfl) Qmj (qcl M G) ?_;show TW _ _ tf58.body _ _;refine Pn λK C=>?_;refine Jd rfl (Jd rfl (C _ _ (Jt (Qd rfl Qy) ?_)));clear C K;refine Pn λK C=>?_;refine Jd rfl (C _ _ (Jt (Qd rfl (Qd rfl Qy)) ?_));clear C K;refine Hy (Pn λK C=>?_);refine Jd rfl (ZW rfl rfl (Xy rfl rfl (Ft rfl rfl rfl (DY rfl rfl (Qd8 rfl rfl (C _ _ (Jt (Qd rfl (Qd rfl (Qd rfl Qy))) ?_)))))));clear C K;refine Te rfl (λ_=>?_) (λh=>absurd h Wc);refine Pn λK C=>?_;refine Jd rfl (Jd rfl (Jd rfl (C _ _ (Jt (Qd rfl (Qd rfl Qy)) ?_))));clear C K;refine BY (Dn ?_);exact Xa rfl rfl ⟨rfl,rfl⟩ ⟨rfl,rfl⟩ λk b h=>h
theorem QlD {eq:Nat} {q:List Int} (M:Big R) (G:DX R) (O:(R.all λp=>p.1==1000006||p.2.pr||!p.2.ids.contains 500000)=true):
  s6 Tryz.prog 58 [.ref 1000006 0 0] (qH eq (x::q) R) (.u7 [.int .i64 x,.bool true]) (qH eq q R):=by
 refine s6.n6 tfol Tryz.func58 Qwv (QAk rfl) Qmj (qcl M G) ?_;show TW _ _ tf58.body _ _;refine Pn λK C=>?_;refine Jd rfl (Jd rfl (C _ _ (Jt (Qd rfl Qy) ?_)));clear C K;refine Pn λK C=>?_;refine Jd rfl (C _ _ (Jt (Qd rfl (Qd rfl Qy)) ?_));clear C K;refine Hy (Pn λK C=>?_);refine Jd rfl (ZW rfl rfl (Xy rfl rfl (Ft rfl rfl rfl (DY rfl rfl (Qd8 rfl rfl (C _ _ (Jt (Qd rfl (Qd rfl (Qd rfl Qy))) ?_)))))));clear C K;refine Te rfl (λh=>absurd (of_decide_eq_true h) Wb) (λ_=>?_);refine Tf (KP (Qd rfl Qy) (Pn λK C=>?_));refine Jd rfl (Jd rfl (ZW rfl rfl (Xy rfl rfl (FG rfl rfl rfl rfl rfl (HL rfl rfl rfl Wc Wa Wc rfl rfl rfl (FG rfl rfl rfl rfl rfl (Jd rfl (ZW rfl rfl (Xy rfl rfl (FG rfl rfl rfl rfl rfl ?_))))))))));refine QhR (l:=1) rfl rfl rfl Wa Wb (Jd rfl (ZW rfl rfl (Xy rfl rfl (Xz rfl rfl rfl rfl rfl rfl rfl rfl rfl rfl (C _ _ (Jt (Qd rfl Qy) ?_))))));clear C K;refine BI (Qmq 1000006 0 500000 rfl rfl rfl rfl Wb rfl rfl We We We rfl ?_ (λi d hi hd=>by cases i with |zero=>omega |succ i=>trivial)) ?_;trivial;refine Pn λK C=>?_;refine Jd rfl (Jd rfl (Jd rfl (C _ _ (Jt (Qd rfl (Qd rfl Qy)) ?_))));clear C K;refine BY (Xa rfl rfl ⟨rfl,rfl⟩ ⟨rfl,rfl⟩ λk b h=>?_);simp only[qH]at h;rw[Qf]at h ⊢
 by_cases e1:1000006=k
 rw[if_pos e1]at h ⊢;trivial
 (repeat clear C K);simp_all [Qf,qH]
theorem prR (h:(R.all λp=>p.2.pr&&Nat.ble 1000000 p.1)=true):Big R/\DX R/\(R.all λp=>p.1==1000006||p.2.pr||!p.2.ids.contains 500000)=true/\(R.map λp=>(p.1,p.2.z2 500000))=R:=by
 simp only[QAu,QAo]at h;refine⟨λk b hk=>QAk (h (k,b) (QZ hk)).2,λk b hk j G=>?_, ?_, ?_⟩;have:=(h (k,b) (QZ hk)).1
 (repeat clear hK K);simp_all [u4.ids]
 grind
 have:∀l:QAh,(∀p∈l,p.2.pr=true)->(l.map λp=>(p.1,p.2.z2 500000))=l:=by
  intro l
  induction l with
  |nil=>simp
  |cons p l ih=>
   intro C
   (repeat clear hK K);simp_all [u4.z2]
 grind
theorem QjS {eq:Nat} (l:List Int) (C:(R.all λp=>p.2.pr&&Nat.ble 1000000 p.1)=true):s6 Tryz.prog 58 [.ref 1000006 0 0] (qH eq l R) (.u7 [.int .i64 (l.headD 0),.bool (!l.isEmpty)]) (qH eq l.tail R):=by
 obtain⟨h1,h2,M,G⟩:=prR C;cases l with
 |nil=>grind [QlC]
 |cons x q=>grind [QlD]
theorem QjR {eq:Nat} (l:List Int) (G:l.length<=1000000) (C:(R.all λp=>p.2.pr&&Nat.ble 1000000 p.1)=true):s6 Tryz.prog 57 [.ref 1000006 0 0,.int .i64 x] (qH eq l R) (.u7 []) (qH eq (l++[x]) R):=by
 obtain⟨h1,h2,O,M⟩:=prR C
 grind [Qs6,rI,List.length_map,qH]
theorem Gy (ρ:Nat->Nat) (o:List Bool):u4.n5 ρ ⟨o.map rB,1,4,true⟩=⟨o.map rB,1,4,true⟩:=by
 simp only[u4.n5,QBD];rfl
theorem Qm0 (ρ:Nat->Nat) (l:List Int):u4.n5 ρ ⟨l.map rI,1,3,true⟩=⟨l.map rI,1,3,true⟩:=by
 simp only[u4.n5,QBD];rfl
theorem Pc {eq:Nat} (l:List Int) (C:∀p∈X,p.1≠60/\p.2.n5 (JO 60)=p.2):SV 60 ((6,⟨[[.s4 60 l.length]],1,eq,false⟩)::(60,⟨l.map rI,1,3,true⟩)::X)=qH eq l (X.map λp=>(p.1+1000000,p.2)):=by
 have hx:SV 60 X=X.map λp=>(p.1+1000000,p.2):=QBl λp hp=>by
  obtain⟨h1,h2⟩:=C p hp
  (repeat clear hK K);simp_all [JO,upN]
 have e1:JO 60 6=1000006:=by rfl
 have e2:JO 60 60=500000:=by rfl
 have e3:u4.n5 (JO 60) ⟨[[.s4 60 l.length]],1,eq,false⟩=⟨[[.s4 500000 l.length]],1,eq,false⟩:=by
  rfl
 have G:SV 60 ((6,⟨[[.s4 60 l.length]],1,eq,false⟩)::(60,⟨l.map rI,1,3,true⟩)::X)=(JO 60 6,u4.n5 (JO 60) ⟨[[.s4 60 l.length]],1,eq,false⟩)::(JO 60 60,u4.n5 (JO 60) ⟨l.map rI,1,3,true⟩)::SV 60 X:=rfl;rw[G,e1,e2,e3,Qm0,hx];rfl
theorem prX (h:(X.all λp=>p.2.pr)=true):((X.map λp=>(p.1+1000000,p.2)).all λp=>p.2.pr&&Nat.ble 1000000 p.1)=true:=by
 simp only[List.all_map,QAu,Function.comp,QAo]at h ⊢
 grind [Nat.ble_eq_true_of_le]
theorem Qwk {a b:Nat × u4} {r C:List (List D)} (h:r=C):a::b::(19,⟨r,1,4,true⟩)::X=a::b::(19,⟨C,1,4,true⟩)::X:=by rw[h]
theorem Y0 {w:Qe} (hw:Po w) {c:List Int} (hc:c.length<=1048576):Ok Tryz.prog 28 [QW w,Qz c,gD] (X9 (neededR w c)):=by
 refine Ok.ia (ds:=[QW w,Qz c]) (dg:=gD) tfol Tryz.func28 QzH (QAk Z) ?_;show TW _ _ tf28.body _ _;refine aS ?_;refine Qg (YP hw hc) Z Z (.inr Z) (aB ?_ ?_);intro h1;refine QM Z ?_;rw[neededR,if_neg Wb];rfl;intro h1;obtain⟨hmw,hfw⟩:=MH (w:=w) (c:=c) Wa;have hv:=hmw.val hw;have hs:=hv.se;have hr:=hv.jf;have T:=hfw.ch;have hcl:=T.len;have hvl:=hv.len;refine aK ?_;refine Qeb Z Z Z Wa Wa Wa (aJ ?_);refine aZ ?_;refine HO (ι:=List Bool × List Int) (λs=>⟨[(1,Qz c),(2,.ref 2 0 0),(5,.s4 19 (s.1).length),(6,.ref 6 0 0),(900000,gD)],[(2,⟨[[.sl (w.map Zi)]],1,25,true⟩),(6,⟨[[.s4 60 (s.2).length]],1,92,false⟩),(19,⟨(s.1).map rB,1,4,true⟩),(60,⟨(s.2).map rI,1,3,true⟩)]⟩) (λs=>ua w c s.1 s.2 (λ_=>False)) ?_ ?_
 skip
 refine BI (Gp 6 0 60 1 3 Z Z Z Z) ?_;refine aB ?_ ?_;intro h2;refine YX Z Z Z Wc Wa Wa Z (Ke Z Z (Qkr Wa Wa) Z Z Z Z Z (aL ?_));refine BI (s':=⟨_,[(6,⟨[[.s4 60 (([]:List Int)).length]],1,92,false⟩),(60,⟨(([]:List Int)).map rI,1,3,true⟩),(19,⟨((List.replicate c.length false).set 0 true).map rB,1,4,true⟩),(2,⟨[[.sl (w.map Zi)]],1,25,true⟩)]⟩) (Ql (l:=[1,2,5,6,900000]) (lH:=[6,60,19,2]) (kp5 rfl rfl rfl rfl rfl) (Qa rfl (Qa rfl (Qa rfl (Qa rfl Qb)))) rfl (by rw[Qgx];exact Qwk Qky) rfl) (D0 (l:=[]) rfl (P1 (k:=60) (Hr:=[(6,⟨[[.s4 60 ([0]).length]],1,92,false⟩),(60,⟨([0]).map rI,1,3,true⟩),(19,⟨((List.replicate c.length false).set 0 true).map rB,1,4,true⟩),(2,⟨[[.sl (w.map Zi)]],1,25,true⟩)]) rfl rfl We rfl rfl rfl rfl (Pc ([]) (by intro p hp;simp only[QAm,QAl,or_false]at hp;rcases hp with rfl |rfl<;>exact⟨by simp,by first |rfl |exact Gy _ _⟩)) (Pc ([0]) (by intro p hp;simp only[QAm,QAl,or_false]at hp;rcases hp with rfl |rfl<;>exact⟨by simp,by first |rfl |exact Gy _ _⟩)) (QjR [] Wc (prX rfl)) ?_))
 refine QT ((List.replicate c.length false).set 0 true,[0]) ?_ ?_;exact Ql (l:=[1,2,5,6,900000]) (lH:=[2,6,19,60]) (kp5 Z Z Z Z Z) (Qa Z (Qa Z (Qa Z (Qa Z Qb)))) Wc Z Z
 grind [ua.first,HX]
 intro h2;refine QT ((List.replicate c.length false),[]) ?_ ?_;exact Ql (l:=[1,2,5,6,900000]) (lH:=[2,6,19,60]) (kp5 Z Z Z Z Z) (Qa Z (Qa Z (Qa Z (Qa Z Qb)))) Wc (by rw[Qgx]<;>rfl) Z
 grind [ua.none,cA]
 intro s hJ;refine Hy (BI (s':=⟨_,[(6,⟨[[.s4 60 (s.2).length]],1,92,false⟩),(60,⟨(s.2).map rI,1,3,true⟩),(19,⟨(s.1).map rB,1,4,true⟩),(2,⟨[[.sl (w.map Zi)]],1,25,true⟩)]⟩) (Ql (l:=[1,2,5,6,900000]) (lH:=[6,60,19,2]) (kp5 Z Z Z Z Z) (Qa Z (Qa Z (Qa Z (Qa Z Qb)))) Z (Z) Z) (Qk4 (l:=[]) (λK hK=>?_)));refine P1 (k:=60) (Hr:=[(6,⟨[[.s4 60 (s.2.tail).length]],1,92,false⟩),(60,⟨(s.2.tail).map rI,1,3,true⟩),(19,⟨(s.1).map rB,1,4,true⟩),(2,⟨[[.sl (w.map Zi)]],1,25,true⟩)]) rfl rfl We rfl rfl rfl rfl (Pc (s.2) (by intro p hp;simp only[QAm,QAl,or_false]at hp;rcases hp with rfl |rfl<;>exact⟨by simp,by first |rfl |exact Gy _ _⟩)) (Pc (s.2.tail) (by intro p hp;simp only[QAm,QAl,or_false]at hp;rcases hp with rfl |rfl<;>exact⟨by simp,by first |rfl |exact Gy _ _⟩)) (QjS s.2 (prX rfl)) (aK ?_)
 refine kc7 hK Z Z Z Z Z Z Z ?_;have hT:=hJ.take;refine aK ?_;refine Qt (ι:=QS) (λt=>⟨[(1,Qz c),(2,.ref 2 0 0),(5,.s4 19 (t.1).length),(6,.ref 6 0 0),(7,.int .i64 t.2.2.1),(8,.bool t.2.2.2),(900000,gD)],[(2,⟨[[.sl (w.map Zi)]],1,25,true⟩),(6,⟨[[.s4 60 (t.2.1).length]],1,92,false⟩),(19,⟨(t.1).map rB,1,4,true⟩),(60,⟨(t.2.1).map rI,1,3,true⟩)]⟩) (λt=>QI w c t) (λt=>muQ t) (tkQ s.1 s.2) ?_ ?_ ?_;exact Ql (l:=[1,2,5,6,7,8,900000]) (lH:=[2,6,19,60]) (kp7 Z Z Z Z Z Z Z) (Qa Z (Qa Z (Qa Z (Qa Z Qb)))) Z Z Z;omega;clear hJ hT;clear s;intro s hI;refine aR ?_ ?_;intro h3;obtain⟨_,⟨hu0,hu1⟩,hun⟩:=hI.on h3;have hN:=(hI.on h3).1.nd.snd _ hun;obtain⟨G,hc0⟩:=MJ hs hr T (Wa:0<c.length) hN;have C:s.2.2.1.toNat<w.length:=Wa;have hb:=Ms T G;have M:=PB hb.2 hc0;have er:=KN C G M;have hwn:=hs.ns _ (QAp C) _ (QAp M);have Y:=hs.nl _ (QAp C) _ (QAp M);have U:=hs.nw _ (QAp C) _ (QAp M);have V:=hr.nr _ (QAp C) _ (QAp M);obtain⟨y,hy⟩:∃y,(w[s.2.2.1.toNat]'C).cs[(c[s.2.2.1.toNat]'G).toNat]=y:=⟨_,rfl⟩;rw[hy]at er hwn Y U V;have hst:=td.start hI h3 y.ns;refine aK ?_;refine Qt (ι:=Nat × List Bool × List Int) (λa=>⟨[(1,Qz c),(2,.ref 2 0 0),(5,.s4 19 (a.2.1).length),(6,.ref 6 0 0),(48,Xm y.ns),(49,.int .i64 y.ns.length),(50,.int .i64 a.1),(900000,gD)],[(2,⟨[[.sl (w.map Zi)]],1,25,true⟩),(6,⟨[[.s4 60 (a.2.2).length]],1,92,false⟩),(19,⟨(a.2.1).map rB,1,4,true⟩),(60,⟨(a.2.2).map rI,1,3,true⟩)]⟩) (λa=>a.1<=y.ns.length/\td w c s.2.2.1.toNat (2*DS s.1+s.2.1.length) y.ns a.1 a.2.1 a.2.2) (λa=>y.ns.length - a.1) (0,s.1,s.2.1) ?_ ?_ ?_;exact Ql (l:=[1,2,5,6,48,49,50,900000]) (lH:=[2,6,19,60]) (kp8 Z Z Z Z Z Z Z Z) (Qa Z (Qa Z (Qa Z (Qa Z Qb)))) Wb Z Z
 grind
 intro a hA;have hol:=hA.2.len;refine aV ?_ ?_;intro h4;refine aK ?_;refine Qt (ι:=Nat × List Bool × List Int) (λb=>⟨[(1,Qz c),(2,.ref 2 0 0),(5,.s4 19 (b.2.1).length),(6,.ref 6 0 0),(48,Xm y.ns),(49,.int .i64 y.ns.length),(50,.int .i64 a.1),(54,ZR (y.ns[a.1]'Wa)),(55,.int .i64 (y.ns[a.1]'Wa).length),(56,.int .i64 b.1),(900000,gD)],[(2,⟨[[.sl (w.map Zi)]],1,25,true⟩),(6,⟨[[.s4 60 (b.2.2).length]],1,92,false⟩),(19,⟨(b.2.1).map rB,1,4,true⟩),(60,⟨(b.2.2).map rI,1,3,true⟩)]⟩) (λb=>b.1<=(y.ns[a.1]'Wa).length/\td w c s.2.2.1.toNat (2*DS s.1+s.2.1.length) y.ns a.1 b.2.1 b.2.2/\s9 w c b.2.1 (y.ns[a.1]'Wa) b.1) (λb=>(y.ns[a.1]'Wa).length - b.1) (0,a.2.1,a.2.2) ?_ ?_ ?_;exact Ql (l:=[1,2,5,6,48,49,50,54,55,56,900000]) (lH:=[2,6,19,60]) (QfF Z Z Z Z Z Z Z Z Z Z Z) (Qa Z (Qa Z (Qa Z (Qa Z Qb)))) Z Z Z;exact⟨QAw _,hA.2,λ_ _ h=>absurd h (QBH _)⟩;intro b O;have hol2:=O.2.1.len;refine aB ?_ ?_;intro h5;have hrl:=Y _ (QAp (Wa:a.1<y.ns.length));have hxu:=V _ (QAp (Wa:a.1<y.ns.length)) _ (QAp (Wa:b.1<(y.ns[a.1]'Wa).length));refine aK ?_;refine YX Z Z Z Wc Wa Wa Z (Ft Z (Mj Z (YC Wa Wa)) Z (aB ?_ ?_));intro h6;refine Qg (HY hs T (V _ (QAp (Wa:a.1<y.ns.length)) _ (QAp (Wa:b.1<(y.ns[a.1]'Wa).length))) (U _ (QAp (Wa:a.1<y.ns.length)) _ (QAp (Wa:b.1<(y.ns[a.1]'Wa).length)))) Z Z (.inr Z) (aR ?_ ?_);intro h7;refine YX Z Z Z Wc Wa Wa Z (Ke Z Z (YC Wa Wa) Z Z Z Z Z (aL ?_));refine BI (s':=⟨_,[(6,⟨[[.s4 60 (b.2.2).length]],1,92,false⟩),(60,⟨(b.2.2).map rI,1,3,true⟩),(19,⟨((b.2.1.set ((y.ns[a.1]'Wa)[b.1]'Wa).u.toNat true)).map rB,1,4,true⟩),(2,⟨[[.sl (w.map Zi)]],1,25,true⟩),(12,⟨[Fo ((y.ns[a.1]'Wa)[b.1]'Wa)],3,82,true⟩)]⟩) (Ql (l:=[1,2,5,6,12,48,49,50,54,55,56,900000]) (lH:=[6,60,19,2,12]) (Qrz Z Z Z Z Z Z Z Z Z Z Z Z) (Qa Z (Qa Z (Qa Z (Qa Z (Qa Z Qb))))) Z (Qwk Qky) Z) (D0 (l:=[_,_]) Z ?_);refine aK ?_;refine P1 (k:=60) (Hr:=[(6,⟨[[.s4 60 ((b.2.2++[((y.ns[a.1]'Wa)[b.1]'Wa).u])).length]],1,92,false⟩),(60,⟨((b.2.2++[((y.ns[a.1]'Wa)[b.1]'Wa).u])).map rI,1,3,true⟩),(19,⟨((b.2.1.set ((y.ns[a.1]'Wa)[b.1]'Wa).u.toNat true)).map rB,1,4,true⟩),(2,⟨[[.sl (w.map Zi)]],1,25,true⟩),(12,⟨[Fo ((y.ns[a.1]'Wa)[b.1]'Wa)],3,82,true⟩)]) rfl rfl We rfl rfl rfl rfl (Pc (b.2.2) (by intro p hp;simp only[QAm,QAl,or_false]at hp;rcases hp with rfl |rfl |rfl<;>exact⟨by simp,by first |rfl |exact Gy _ _⟩)) (Pc ((b.2.2++[((y.ns[a.1]'Wa)[b.1]'Wa).u])) (by intro p hp;simp only[QAm,QAl,or_false]at hp;rcases hp with rfl |rfl |rfl<;>exact⟨by simp,by first |rfl |exact Gy _ _⟩)) (QjR b.2.2 (by have:=O.2.1.inv.bd;omega) (prX rfl)) (aK ?_)
 refine Qc (b.1+1,b.2.1.set ((y.ns[a.1]'Wa)[b.1]'Wa).u.toNat true,b.2.2++[((y.ns[a.1]'Wa)[b.1]'Wa).u]) ?_ ?_ ?_;exact Ql (l:=[1,2,5,6,48,49,50,54,55,56,900000]) (lH:=[2,6,19,60]) (QfF Z Z Z Z Z Z Z Z Z Z Z) (Qa Z (Qa Z (Qa Z (Qa Z Qb)))) Wc Z Z
 ·exact⟨Wa,O.2.1.put Wa (QAp (Wa:b.1<(y.ns[a.1]'Wa).length)) er h7 hxu.1 Wa (by grind [NP]),(O.2.2.set Wa).next Wa λ_=>by grind [Z3]⟩
 omega;intro h7;refine Qc (b.1+1,b.2.1,b.2.2) ?_ ?_ ?_;exact Ql (l:=[1,2,5,6,48,49,50,54,55,56,900000]) (lH:=[2,6,19,60]) (QfF Z Z Z Z Z Z Z Z Z Z Z) (Qa Z (Qa Z (Qa Z (Qa Z Qb)))) Z Z Z
 ·exact⟨Wa,O.2.1,O.2.2.next Wa λh=>absurd h Wb⟩
 omega;intro h6;refine QH Z (aK ?_);refine Qc (b.1+1,b.2.1,b.2.2) ?_ ?_ ?_;exact Ql (l:=[1,2,5,6,48,49,50,54,55,56,900000]) (lH:=[2,6,19,60]) (QfF Z Z Z Z Z Z Z Z Z Z Z) (Qa Z (Qa Z (Qa Z (Qa Z Qb)))) Z Z Z
 ·exact⟨Wa,O.2.1,O.2.2.next Wa λ_=>by grind [NP]⟩
 omega;intro h5;refine Qc (a.1+1,b.2.1,b.2.2) ?_ ?_ ?_;exact Ql (l:=[1,2,5,6,48,49,50,900000]) (lH:=[2,6,19,60]) (kp8 Z Z Z Z Z Z Z Z) (Qa Z (Qa Z (Qa Z (Qa Z Qb)))) Z Z Z
 ·exact⟨Wa,O.2.1.next Wa O.2.2 Wa⟩
 omega;intro h4;refine Rh (N2 (GV (Nc (HV (ks5 rfl rfl rfl rfl rfl (BI (s':=⟨_,[(6,⟨[[.s4 60 (a.2.2).length]],1,92,false⟩),(60,⟨(a.2.2).map rI,1,3,true⟩),(19,⟨(a.2.1).map rB,1,4,true⟩),(2,⟨[[.sl (w.map Zi)]],1,25,true⟩)]⟩) (Ql (l:=[1,2,5,6,900000]) (lH:=[6,60,19,2]) (kp5 rfl rfl rfl rfl rfl) (Qa rfl (Qa rfl (Qa rfl (Qa rfl Qb)))) rfl (rfl) rfl) (Qda (l:=[]) rfl (P1 (k:=60) (Hr:=[(6,⟨[[.s4 60 (a.2.2.tail).length]],1,92,false⟩),(60,⟨(a.2.2.tail).map rI,1,3,true⟩),(19,⟨(a.2.1).map rB,1,4,true⟩),(2,⟨[[.sl (w.map Zi)]],1,25,true⟩)]) rfl rfl We rfl rfl rfl rfl (Pc (a.2.2) (by intro p hp;simp only[QAm,QAl,or_false]at hp;rcases hp with rfl |rfl<;>exact⟨by simp,by first |rfl |exact Gy _ _⟩)) (Pc (a.2.2.tail) (by intro p hp;simp only[QAm,QAl,or_false]at hp;rcases hp with rfl |rfl<;>exact⟨by simp,by first |rfl |exact Gy _ _⟩)) (QjS a.2.2 (prX rfl)) ?_))))))))
 refine aK ?_;have hT:=(hA.2.stop Wa er).take;refine Qc (tkQ a.2.1 a.2.2) ?_ ?_ ?_;exact Ql (l:=[1,2,5,6,7,8,900000]) (lH:=[2,6,19,60]) (kp7 Z Z Z Z Z Z Z) (Qa Z (Qa Z (Qa Z (Qa Z Qb)))) Z Z Z;omega;show muQ _<muQ s;have:=QmG hA.2.mu;have e:muQ s=(2*DS s.1+s.2.1.length)+1:=(by rw[muQ,if_pos h3]);omega;intro h3;exact Xb Z Z Z Wc (by rw[neededR,if_pos Wa,<- hI.stop Wa];rfl)
variable {c:List Int} {i:Nat} {w:Qe}
theorem Qzs (hi:i<c.length) (h:nddB w c i=false):((tidyUp w c i).map rI).set i [.int .i64 (-1)]=(tidyUp w c (i+1)).map rI:=by
 rw[<- TS hi,List.map_set,tdAt,if_neg Wb];rfl
theorem Qzt (hi:i<c.length) (h:nddB w c i=true):(((tidyUp w c i).map rI).set i [.int .i64 (-1)]).set i [.int .i64 c[i]]=(tidyUp w c (i+1)).map rI:=by
 rw[<- TS hi,List.map_set,tdAt,if_pos h,List.set_set,HX hi];rfl
theorem Qzr:List.replicate ((c.length:Nat):Int).toNat [D.int .i64 0]=(tidyUp w c 0).map rI:=by
 rw[tidyUp,List.take_zero,QBy,List.map_replicate];rfl
theorem Qgg {r C:List (List D)} {X:QAh} (h:r=C):(14,(⟨r,1,3,true⟩:u4))::X=(14,⟨C,1,3,true⟩)::X:=by rw[h]
theorem Qna {α:Type} {l:List α} {k:Nat} {x:α} (h:k<l.length):(l.set k x)[k]?=some x:=List.getElem?_set_self h
theorem Qs1 (hw:Po w) (C:c.length<=1048576) (h:mayC w c=true):Ok Tryz.prog 28 [QW w,Qz c,gD] (X9 (nddL w c)):=by
 grind [Y0,C2]
theorem Jg {w:Qe} (hw:Po w) {c:List Int} (T:c.length<=1048576):Ok Tryz.prog 21 [QW w,Qz c,gD] (Qz (tidyR w c)):=by
 refine Ok.ia (ds:=[QW w,Qz c]) (dg:=gD) tfol Tryz.func21 QzA (QAk Z) ?_;show TW _ _ tf21.body _ _;refine aS ?_;refine Qg (YP hw T) Z Z (.inr Z) (aB ?_ ?_);intro h1;refine QM Z ?_;rw[Qn8 Wa];rfl;intro h1;obtain⟨G,M⟩:=MH (w:=w) (c:=c) Wa;have C:=G.val hw;have hs:=C.se;have hr:=C.jf;have O:=M.ch;have Y:=O.len;have U:=C.len;refine aK ?_;refine Qeb Z Z Z Wa Wa Wa (aK ?_);refine Qg (Qs1 hw T Wa) Z Z (.inl Z) (aK ?_);refine Qt (ι:=Nat) (λi=>⟨[(1,Qz c),(5,.s4 14 (tidyUp w c i).length),(17,X9 (nddL w c)),(18,.int .i64 c.length),(19,.int .i64 i)],[(14,⟨(tidyUp w c i).map rI,1,3,true⟩)]⟩) (λi=>i<=c.length) (λi=>c.length - i) 0 ?_ ?_ ?_;exact Ql (l:=[1,5,17,18,19]) (lH:=[14]) (kp5 Z Z Z Z Z) (Qa Z Qb) (by simp[GZ (QAw _),PW]) (Qgg Qzr) Z;omega;intro i hI;have hlen:=GZ (w:=w) hI;have V:=PW w c;refine aB ?_ ?_;intro h2;refine YX Z Z Z Wc Wa Wa Z (Ke Z Z (YC Wa Wa) Z Z Z Z Z (aR ?_ ?_));intro h3;refine YX Z Z Z Wc Wa Wa Z (Ke Z Z (Qna Wb) Z Z Z Z Z (aK ?_));refine Qc (i+1) ?_ ?_ ?_;exact Ql (l:=[1,5,17,18,19]) (lH:=[14]) (kp5 Z Z Z Z Z) (Qa Z Qb) (by grind [GZ]) (Qgg (Qzt Wa (by grind [L1]))) Z;omega;omega;intro h3;refine Qc (i+1) ?_ ?_ ?_;exact Ql (l:=[1,5,17,18,19]) (lH:=[14]) (kp5 Z Z Z Z Z) (Qa Z Qb) (by grind [GZ]) (Qgg (Qzs Wa (by grind [L1]))) Z;omega;omega;intro h2;exact Xb Z Z Z Wc (by rw[Qa2 Wa,<- QdR (i:=i) Wa];rfl)
theorem Qs5:Ok Tryz.prog 25 [QW wAwk,Qz [0, -1, -1],gD] (Pp [⟨2,0,0⟩]):=by
 grind [Yw,Li,Qeo]
theorem Qs4:Ok Tryz.prog 21 [QW wAwk,Qz [0,0,0],gD] (Qz [0,0, -1]):=by
 grind [Jg,Li,QhX]
theorem Qs2:Ok Tryz.prog 18 [QW wAwk,Qz [0,0, -1],gD] (.bool true):=by
 grind [XB,Li,Qen]
theorem Qs3:Ok Tryz.prog 17 [QW wAwk,Qz [0,1, -1],gD] (.bool false):=by
 grind [YP,Li,Qo7]
theorem Z6:Ok Tryz.prog 23 [gD] (.bool true):=by
 refine Ok.ia (ds:=[]) (dg:=gD) tfol Tryz.func23 QzC (QAk Z) ?_;show TW _ _ tf23.body _ _;refine aS ?_;refine Qg (Nl) Z Z (.inl Z) (aK ?_);refine QG Z Z (QG Z Z (aK ?_));refine QG Z Z (aK ?_);refine QG Z Z (aK ?_);refine QG Z Z (aK ?_);refine QG Z Z (aK ?_);refine QG Z Z (Qg (Ok.ye Qs5 Wm) Z Z (.inl Z) (aK ?_));refine QG Z Z (Qg (Ok.ye Qs4 Wm) Z Z (.inl Z) (aK ?_));refine QG Z Z (Qg (Ok.ye Qs2 Wm) Z Z (.inr Z) (aK ?_));refine FF Z Z Z We Z Z (aK ?_);refine JY Z Z Z (aK ?_);refine FF Z Z Z We Z Z (aK ?_);refine FF Z Z Z We Z Z (aK ?_);refine QG Z Z (aK ?_);refine Qg (Ok.ye Qs3 Wm) Z Z (.inr Z) (aK ?_);rfl
end Go.Proofs
namespace Go.Proofs
open Go Go.Abs
set_option maxRecDepth 100000
set_option maxHeartbeats 0
set_option cbv.maxSteps 100000000
def t16:TT false Tryz.f16:=⟨_,by cbv⟩
def tf16:z5:=t16.1
theorem Qzv:Qj Tryz.prog Tryz.f16=some tf16.erase:=by kernel_rfl
open M3 M25
set_option maxRecDepth 4000
set_option maxHeartbeats 1000000
theorem Yq {w:Qe} (hw:Po w) {m:List Int} (G:(∀x∈m, -9223372036854775808<=x/\x<=9223372036854775807)) {up:Bool}:Ok Tryz.prog 16 [QW w,Qz m,.bool up] (Qz (YS w m up)):=by
 refine Ok.n6 tfol Tryz.func16 Qzv (QAk Z) ?_;show TW _ _ tf16.body _ _;have M:=hw.len;refine aS ?_;refine Qt (ι:=Nat) (λi=>⟨[(1,Qz m),(2,.bool up),(3,.ref 3 0 0),(7,.s4 7 (Fz w m up i).length),(8,.int .i64 i)],[(3,⟨[[.sl ((w).map Zi)]],1,25,true⟩),(7,⟨(Fz w m up i).map rI,1,3,true⟩)]⟩) (λi=>i<=w.length) (λi=>w.length - i) 0 ?_ ?_ ?_;exact le_trans (Q8 7 7 1 3 Z Z) (Ql (l:=[1,2,3,7,8]) (lH:=[3,7]) (kp5 Z Z Z Z Z) (Qa Z (Qa Z Qb)) Z Z Z);omega;intro i U;have hlen:(Fz w m up i).length=i:=by simp[Fz]
 refine aB ?_ ?_;intro h1;have O:=hw.cl _ (QAp (Wa:i<w.length));have T:=QbL (l:=m) (i:=i) (n:=(w[i].cs.length:Int)+1) Wa;refine aK ?_;refine Qg (Jw Wa G) Z Z (.inr Z) (aB ?_ ?_);intro h2
 skip
 subst h2;refine aK ?_;refine Qg (Jw Wa G) Z Z (.inr Z) (aB ?_ ?_);intro C;refine Qn Z Z (Zu Z Z (λ_ h=>ZN Z Z Z h) Z Wc Z Z Z Wb Wb (aK ?_));refine Qc (i+1) ?_ ?_ ?_;exact Ql (l:=[1,2,3,7,8]) (lH:=[3,7]) (kp5 Z Z Z Z Z) (Qa Z (Qa Z Qb)) (by rw[MO (QtQ Wa Z C),QAY]<;>rfl) (by rw[MO (QtQ Wa Z C),QBi]<;>rfl) Z
 omega;omega;intro C;refine Qn Z Z (Zu Z Z (λ_ h=>ZN Z Z Z h) Z Wc Z Z Z Wb Wb (aK ?_));refine Qc (i+1) ?_ ?_ ?_;exact Ql (l:=[1,2,3,7,8]) (lH:=[3,7]) (kp5 Z Z Z Z Z) (Qa Z (Qa Z Qb)) (by rw[MO (Qqs Wa (.inr C)),QAY]<;>rfl) (by rw[MO (Qqs Wa (.inr C)),QBi]<;>rfl) Z
 omega;omega;intro h2
 skip
 subst h2;refine aK ?_;refine QH Z (aK ?_);refine Qn Z Z (Zu Z Z (λ_ h=>ZN Z Z Z h) Z Wc Z Z Z Wb Wb (aK ?_));refine Qc (i+1) ?_ ?_ ?_;exact Ql (l:=[1,2,3,7,8]) (lH:=[3,7]) (kp5 Z Z Z Z Z) (Qa Z (Qa Z Qb)) (by rw[MO (Qqs Wa (.inl rfl)),QAY]<;>rfl) (by rw[MO (Qqs Wa (.inl rfl)),QBi]<;>rfl) Z
 omega;omega;intro h1;exact Xb Z Z Z Wc (by rw[YS,show w.length=i by omega];rfl)
variable {m:List Int} {w:Qe}
theorem Qta {n:Nat} {c:CandT} (h:QhS n c):cdR n c=true:=by
 simp only[cdR,cdN,BF,QAo,decide_eq_true_eq,QAu];exact⟨h.may,⟨h.nl,h.bl⟩,λr hr=>⟨λx hx=>(Qhq ((h.rows r hr).2 x hx).sm).2 ((h.rows r hr).2 x hx),(h.rows r hr).1⟩,λx hx=>(Qhq (h.bars x hx).sm).2 (h.bars x hx)⟩
theorem DL (h:ya w):fc w:=⟨h.len,λi hi=>⟨λhi=>h.cl _ (QAp hi),λhi e=>by subst e;exact h.r0 hi,λhi=>h.name i hi,λhi=>h.ah i hi,λhi k hk=>⟨Qta (h.a8 _ (QAp hi) _ (QAp hk)),h.dh _ (QAp hi) k hk⟩⟩⟩
theorem L9 {up:Bool}:wa w (YS w m up):=⟨Qcs,λi hi h2=>by
 have e:(YS w m up)[i]=pkC w m up i:=by simp[YS,Fz]
 rw[e]
 by_cases h:up=true/\0<FX m ((i:Int)+60) 5
 rw[QtQ hi h.1 h.2];omega;rw[Qqs hi (by cases up<;>simp_all)]
 have:=QbL (l:=m) (i:=i) (n:=(w[i].cs.length:Int)+1) Wa;omega⟩
theorem pick_may (h:ya w) {up:Bool}:mayC w (YS w m up)=true:=Pf (DL h) L9
section
variable {w:Qe} {c t:List Int}
structure QwA (w:Qe) (c t:List Int) (o:List Bool):Prop where
 len:t.length=c.length
 ol:o.length=c.length
 yes:∀i (h:i<c.length) (h2:i<t.length) (h3:i<o.length),o[i]=true->t[i]=c[i]
 no:∀i (h:i<c.length) (h2:i<t.length) (h3:i<o.length),o[i]=false->t[i]= -1
 lo:∀i (h:i<c.length), -1<=c[i]
 idem:tidyR w t=t
 sub:∀f∈wrongR w t,f∈wrongR w c
 hold:holdsR w c=true->holdsR w t=true
structure Qwy (w:Qe) (c:List Int) (o:List Bool):Prop where
 ol:o.length=c.length
 zero:∀(h:0<c.length) (h2:0<o.length),o[0]=decide (0<=c[0])
 pos:∀i (h:i<c.length) (h2:i<o.length),o[i]=true->0<=c[i]
 wi:∀i (h2:i<o.length),0<i->o[i]=true->∃j,∃hj:j<c.length,∃hj2:j<o.length,o[j]=true/\0<=c[j]/\∃r∈Jc w c j,∃x∈r,x.u=(i:Int)/\mtM w c x=true
end
instance:DecidableEq BO:=λa b=>decidable_of_iff (a.k=b.k/\a.u=b.u/\a.a=b.a) (by cases a;cases b;simp)
end Go.Proofs
namespace Go.Abs
open Go
theorem Zc.bj {P:Program} {f:Nat} {fn:Func} {tf:z5} {orc:Nat->AS->Option Out} {tb:Tb} {an:An} {c:Zc} (T:∀(id:Nat) (x:y5) (a:AS) (o:Out) (ν:List Int) (s:St),(id,x)∈HU tf.body->orc id a=some o->a.ok ν s->TX P tf.nt x (za ν o) s) (O:tb.ok P) (G:tb.xg P) (hm:P.follows .mixedOrders=true) (hf:P.funcs[f]?=some fn) (hp:Qj P fn=some tf.erase) (hn:Nat.ble c.az.length tf.nt=true)
 (he:(match JB orc tb an tf.body none ⟨Pr 0 c.az,c.bs,c.cs,c.nx⟩with
 |some outs=>outs.all (QhA c tf.rs)
 |none=>false)=true) (M:zcB c=true) (hg:Gm f=[]:=by rfl):c.ok P f:=λμ ds H h1 h2 h3 h4 h5=>by
 have ha:(⟨Pr 0 c.az,c.bs,c.cs,c.nx⟩:AS).ok μ ⟨Pr 0 ds,H⟩:=⟨Qaj h4,h5,h3,h1,h2⟩;split at he
 case h_2=>grind
 rename_i outs V;have ho:=he;have hx:=Yj (P:=P) (nt:=tf.nt) T O G (λ_ h=>h) ha V
 obtain⟨d,H',⟨g,q1,q2,q3,q4⟩,q5⟩:=s6.nh (R:=λd H'=>∃g,(μ++g).length=c.mx/\w7 (μ++g) c.rc/\c.rv.has (μ++g) d/\RL (Bx.has (μ++g)) c.rb H') hm hf hp (by rw[ZG h4];simp_all)
  (Ju (λe s ⟨a,U,f2,h6⟩=>by
   obtain⟨d,H',s2,w1,Y,w3,w4⟩:=Ql1 h6 h1 M (QAu.1 ho _ U);refine⟨d,H',s2,w1,Y,λk hk1 C=>?_,w3,w4⟩;obtain⟨g,_,_,_,w5⟩:=Y;rw[RL.isSome h5 k]at C;rw[RL.isSome w5 k];obtain⟨bx,hb⟩:=QAq.1 C;simp only[zcB,QAo]at M;have:=QAu.1 M.2 (k,bx) (QZ hb)
   (repeat clear hK K);simp_all [QBE]) hx) hg
 grind
def zcP (P:Program) (tb:Tb) (an:An) (c:Zc) (f:Nat):Bool:=
 match P.funcs[f]? with
 |some fn=>(match Qj P fn with
  |some af=>(match tfN af with
   |tf=>(Nat.ble c.az.length tf.nt&&zcB c)&&(match QlP tb an tf.body none ⟨Pr 0 c.az,c.bs,c.cs,c.nx⟩with
    |some outs=>outs.all (QhA c tf.rs)
    |none=>false))
  |none=>false)
 |none=>false
theorem Zc.zh {P:Program} {f:Nat} {tb:Tb} {c:Zc} (an:An) (G:tb.ok P) (C:tb.xg P) (hm:P.follows .mixedOrders=true) (hb:zcP P tb an c f=true) (M:Gm f=[]:=by rfl):c.ok P f:=by
 unfold zcP at hb;split at hb;rename_i fn e1;split at hb;rename_i af e2;simp only[QAo]at hb;obtain⟨⟨h1,h2⟩,O⟩:=hb;exact Zc.bj (orc:=λ_ _=>none) (λ_ _ _ _ _ _ _ h _=>by cases h) G C hm e1 (by grind [SJ]) h1 O h2 M
 grind
 grind
structure Sp where
 f:Nat
 ct:Ct
 an:An
 ow:List Nat:=[]
 z:Option Zc:=none
def tbS (g:Nat->List Ct):List Sp->Nat->List Ct
 |[],f=>g f
 |s::l,f=>match s.z with
  |none=>if Nat.beq f s.f=true then s.ct::tbS g l f else tbS g l f
  |some _=>tbS g l f
def zbS (g:Nat->List Zc):List Sp->Nat->List Zc
 |[],f=>g f
 |s::l,f=>match s.z with
  |none=>zbS g l f
  |some z=>if Nat.beq f s.f=true then z::zbS g l f else zbS g l f
def Qtb (P:Program) (g:Nat->List Ct) (gz:Nat->List Zc) (l:List Sp) (s:Sp):Bool:=
 (match s.z with
 |none=>ctP P ⟨tbS g l,s.ow,zbS gz l⟩ s.an s.ct s.f
 |some z=>zcP P ⟨tbS g l,s.ow,zbS gz l⟩ s.an z s.f)&&(Gm s.f).isEmpty
def YW (P:Program) (g:Nat->List Ct) (gz:Nat->List Zc):List Sp->Bool
 |[]=>true
 |s::l=>YW P g gz l&&Qtb P g gz l s
theorem Qg4 {P:Program} {g:Nat->List Ct} {gz:Nat->List Zc} (hm:P.follows .mixedOrders=true) (M:∀f,∀c∈g f,c.ok P f) (G:∀f,∀c∈gz f,c.ok P f):∀{l:List Sp},YW P g gz l=true->(∀f,∀c∈tbS g l f,c.ok P f)/\∀f,∀c∈zbS gz l f,c.ok P f
 |[],_=>⟨λf c C=>M f c C,λf c C=>G f c C⟩
 |s::l,h=>by
  simp only[YW,Qtb,QAo]at h;obtain⟨h1,h2,O⟩:=h;obtain⟨i1,i2⟩:=Qg4 hm M G h1;obtain⟨f0,ct,an,ow,z⟩:=s;cases z with
  |none=>
   have T:ct.ok P f0:=Ct.zh an (tb:=⟨tbS g l,ow,zbS gz l⟩) (λf c C=>i1 f c C) (λf c C=>i2 f c C) hm h2 (QBn.1 O);refine⟨λf c C=>?_,λf c C=>i2 f c C⟩;simp only[tbS]at C;split at C;rename_i e;have e:=QBC e
   grind
   grind
  |some z=>
   have T:z.ok P f0:=Zc.zh an (tb:=⟨tbS g l,ow,zbS gz l⟩) (λf c C=>i1 f c C) (λf c C=>i2 f c C) hm h2 (QBn.1 O);refine⟨λf c C=>i1 f c C,λf c C=>?_⟩;simp only[zbS]at C;split at C;rename_i e;have e:=QBC e
   grind
   grind
def Xl (P:Program) (g:Nat->List Ct) (gz:Nat->List Zc):Nat->List Sp->Bool
 |0,_=>true
 |_,[]=>true
 |n+1,s::l=>Xl P g gz n l&&Qtb P g gz l s
theorem QeL {P:Program} {g:Nat->List Ct} {gz:Nat->List Zc}:∀{n:Nat} {l m:List Sp},l.length=n->Xl P g gz n (l++m)=true->YW P g gz m=true->YW P g gz (l++m)=true
 |0,[],m,_,_,h=>h
 |n+1,s::l,m,hn,h,hm=>by
  rw[QBf]at h ⊢;simp only[Xl,QAo]at h;simp only[YW,QAo];exact⟨QeL Wb h.1 hm,h.2⟩
end Go.Abs
namespace Go.Proofs
open Go Go.Abs
def ty (t:Tp):Vl:=.ty t
def tb:Vl:=ty .b
def QaZ:Vl:=ty (pB 0 40)
def pL:Pm:=.u [tI]
def pc (t:List (List UInt8)):Pm:=.v (ty (.c t))
def c0 (ps:List Pm) (rv:Vl):Ct:=SU ps [] (λ_=>rv) 0 (λ_=>[])
def cPl (ps:List Pm) (x:Nat):Ct:=SU ps [] (λn=>.nn .i64 n 0) 1 (λn=>[(0,n,1),(n,x, -1)])
def pI:Pm:=.i (-9223372036854775808) 9223372036854775807
def cL (ps:List Pm) (row:List Tp) (bd:Nat->List Cn):Ct:=SU ps [] (λn=>.ll row n 0) 1 (λn=>(0,n,0)::bd n)
def cLk (ps:List Pm) (row:List Tp) (k:Nat):Ct:=cL ps row (λn=>[(n,0,(k:Int))])
def cS (ps:List Pm) (row:List Tp):Ct:=SU ps [] (λn=>.aa (opV n row)) (opN row) (λn=>QaM n row)
def nm:Pm:=.v (ty (.s 100))
def cLa (p q:Nat):Ct:=cLk [.l Yn p,.l Yn q] Yn (2*(p+q)+1)
def QAg (ps:List Pm) (rv:Nat->Vl) (k:Nat) (rc:Nat->List Cn) (rb:Nat->List (Nat × Bx)):Zc:=
 match pms 1 ps with
 |(a,c,n)=>⟨a,n,c,[],rv n,n+k,rc n,rb n⟩
def cNo:Ct:=⟨[],1,[],.dd .undef,1,[]⟩
def spG:Nat->List Ct:=λf=>
 if Nat.beq f 35=true then[⟨[ty tI,.nn .i64 1 0],2,[(0,1, -1),(1,0,1000)],.nn .i64 2 0,3,[(0,2,0),(2,1, -1)]⟩]else
 if Nat.beq f 128=true then[c0 [.v (.aa (tyV [pB 2 2,pB 3 3,pB 0 2,pB 0 1,pB 0 0,.c [[]],.c [[]]]))] (ty (.c tRange)),c0 [.v (.aa (tyV [pB 1 1,pB 3 3,pB 0 2,pB 0 1,pB 0 0,.c [[]],.c [[]]]))] (ty (.c tRange)),c0 [.v (.aa (tyV [pB 3 3,pB 3 3,pB 0 2,pB 0 1,pB 0 0,.c [[]],.c [[]]]))] (ty (.c tRange)),c0 [.v (.aa (tyV [pB 6 6,pB 3 3,pB 0 2,pB 0 1,pB 0 0,.c [[]],.c [[]]]))] (ty (.c tRange)),c0 [.v (.aa (tyV [pB 7 7,pB 3 3,pB 0 2,pB 0 1,pB 0 0,.c [[]],.c [[]]]))] (ty (.c tRange))]else
 if Nat.beq f 232=true then[c0 [pc MS] tb]else
 if Nat.beq f 175=true then[c0 [pc tRange] tb]else
 if Nat.beq f 222=true then[c0 [pc tRange] (.uu [.aa [ty (.l Yn 9),ty (.l Yn 9)],QaZ])]else
 if Nat.beq f 271=true then[cLa 1 9,cLa 25 9]else
 if Nat.beq f 185=true then[c0 [pc tRange] (.aa [ty (.px 0),ty (.px 1)])]else
 if Nat.beq f 184=true then[c0 [pc MS,.s GS] tb]else
 []
def noZ:Nat->List Zc:=λ_=>[]
def sp0:List Sp:=[⟨50,SU [pL,pI,.i 1 1000] [] (λn=>.nn .i64 n 0) 1 (λn=>[(0,n,0),(n,3, -1)]),Zr [] 14,[],none⟩,
 ⟨79,c0 [pL,pI] (ty tI),Zr [] 14,[],none⟩]
def sp1:List Sp:=[⟨88,c0 [.v (ty tI)] (ty (.c tName)),Zr [] 14,[],none⟩,
 ⟨68,c0 [.v (ty tI)] (ty (.c tWord)),Zr [] 14,[],none⟩]++sp0
def sp2:List Sp:=[⟨126,c0 [pL,.i 0 9000] (ty (.c MS)),Zr [] 14,[],none⟩,
 ⟨32,c0 [pL,.i 0 9000] (.aa (tyV GS)),Zr [] 14,[],none⟩]++sp1
def sp3:List Sp:=[⟨136,c0 [.v (ty (.i .u8 0 255))] tb,Zr [] 14,[],none⟩,
 ⟨135,c0 [.v (ty (.i .u8 0 255))] tb,Zr [] 14,[],none⟩]++sp2
def sp4:List Sp:=[⟨230,c0 [.v (ty QoH)] (ty (.s 49)),Zr [] 23,[],none⟩,
 ⟨199,c0 [.t 100000] (.uu [ty (pB 0 9999),tb]),Zr [] 14,[],none⟩]++sp3
def sp5:List Sp:=[⟨197,cL [.t 100,.v (ty (.i .u8 0 255))] [.s 100] (λn=>[(0,n, -1),(n,1,1)]),Zr [(0,λn=>⟨[(5,.oo 25 n 0),(6,.nn .i64 (n+1) 0),(7,.nn .i64 (n+2) 0)],[],[(25,.ww [.s 100] n 0 1 9)],[(0,n,0),(n,n+2,0),(0,n+1,0),(n+1,n+2,0),(0,n+2,0),(n+2,1,0)],3,(1,0),(n+2,0)⟩)] 14 |> λa=>{a with nj:=[1,999]},[],none⟩,
 ⟨202,c0 [.v (ty tI)] (ty (.s 50)),Zr [] 14,[],none⟩]++sp4
def sp6:List Sp:=[⟨200,c0 [.t 100000] tb,Zr [QlO 0 3 0 1 0] 14,[],none⟩,
 ⟨197,cL [.t 7,.v (ty (.i .u8 0 255))] [.s 7] (λn=>[(0,n, -1),(n,1,1)]),Zr [(0,λn=>⟨[(5,.oo 25 n 0),(6,.nn .i64 (n+1) 0),(7,.nn .i64 (n+2) 0)],[],[(25,.ww [.s 7] n 0 1 9)],[(0,n,0),(n,n+2,0),(0,n+1,0),(n+1,n+2,0),(0,n+2,0),(n+2,1,0)],3,(1,0),(n+2,0)⟩)] 14 |> λa=>{a with nj:=[1,999]},[],none⟩]++sp5
def sp7:List Sp:=[⟨162,c0 [.t 100,.v tb] tb,Zr [] 14,[],none⟩,
 ⟨198,c0 [.t 100000] tb,Zr [QlO 0 3 0 1 0] 14,[],none⟩]++sp6
def sp8:List Sp:=[⟨123,c0 [.s Su] tb,Zr [] 14,[],none⟩,
 ⟨161,c0 [.v (ty tI)] tb,Zr [] 14,[],none⟩]++sp7
def sp9:List Sp:=[⟨253,c0 [.v (ty (.s 1000)),.v (ty (.s 1000))] (ty (pB (-1) 1)),Zr [] 14,[],none⟩,
 ⟨189,c0 [.v (ty tI),.v (ty tI)] (ty (pB (-1) 1)),Zr [] 14,[],none⟩]++sp8
def QrT:List Sp:=[⟨190,c0 [.v (ty (.s 100)),.v (ty (.s 100))] (ty (pB (-1) 1)),Zr [(1,λn=>⟨[(7,.nn .i64 n 0)],[],[],[(0,n,0),(n,n - 3,0)],1,(n - 3,0),(n,0)⟩)] 14,[],none⟩,
 ⟨227,c0 [.v (ty (.s 1000)),.v (ty (.s 1000))] (ty (pB (-1) 1)),Zr [] 14,[],none⟩]++sp9
def QrU:List Sp:=[⟨236,c0 [.s QrN] (ty (.s 200)),Zr [] 14,[],none⟩,
 ⟨147,c0 [.s Su,.s Su] (ty (pB (-1) 1)),Zr [] 14,[],none⟩]++QrT
def QrV:List Sp:=[⟨168,c0 [.l [.s 100] 10,.v (ty (.i .u8 0 255))] (ty (.s 2000)),Zr [] 14,[],none⟩,
 ⟨208,c0 [.s QrN] (ty (.s 300)),Zr [] 14,[],none⟩]++QrU
def QrW:List Sp:=[⟨164,cS [pL,.i 0 8000,.i 0 5,.v tb] Qgt,Zr [] 14,[],none⟩,
 ⟨89,c0 [pL,.i 0 9000] (ty (.c tRange)),Zr [] 14,[],none⟩]++QrV
def QrX:List Sp:=[⟨165,cL [.l [.c tItem] 10,pc tItem] [.c tItem] (λn=>[(n,1,1)]),Zr [QlO 0 5 0 1 0] 14,[],none⟩,
 ⟨125,cS [pL,.i 0 7000,.i 0 5] Qi8,Zr [] 14,[],none⟩]++QrW
def QrY:List Sp:=[⟨87,cS [pL,.i 0 6000,.i 0 5] X1,Zr [] 14,[],none⟩,
 ⟨127,cLk [pL,.i 0 7000,.s X1] Py 4,Zr [] 14,[],none⟩]++QrX
def QrZ:List Sp:=[⟨134,c0 [.t 100000] tb,Zr [QlO 0 3 1 1 0] 14,[],none⟩,
 ⟨95,c0 [.t 100000] tb,Zr [QlO 0 3 0 1 0] 14,[],none⟩]++QrY
def Qr0:List Sp:=[⟨229,c0 [.s Qd0] tb,Zr [] 14,[],none⟩,
 ⟨256,c0 [.l [.s 100000] 10] tb,Zr [] 14,[],none⟩]++QrZ
def Qr1:List Sp:=[⟨201,c0 [.s Qd0,.s Su] tb,Zr [] 14,[],none⟩,
 ⟨195,c0 [.s Qd0,.s Qd0] (ty (pB (-1) 1)),Zr [] 14,[],none⟩]++Qr0
def Qr2:List Sp:=[⟨163,c0 [.s Yn,.s Su] tb,Zr [] 14,[],none⟩,
 ⟨194,c0 [.s Yn] tb,Zr [] 14,[],none⟩]++Qr1
def Qr3:List Sp:=[⟨109,c0 [] (.aa (tyV Qd0)),Zr [] 14,[],none⟩,
 ⟨108,c0 [] (.aa (tyV Qd0)),Zr [] 14,[],none⟩]++Qr2
def Qr4:List Sp:=[⟨124,c0 [.l Yn 10000000,.s Su] tb,Zr [Qtd [3] 0 5 0 1 0] 14,[],none⟩,
 ⟨159,c0 [.l Yn 10000000] tb,Zr [QlO 0 3 0 1 0] 14,[],none⟩]++Qr3
def Qr5:List Sp:=[⟨160,c0 [.s Qd0] tb,Zr [] 14,[],none⟩,
 ⟨196,c0 [.s Su] tb,Zr [] 14,[],none⟩]++Qr4
def Qr6:List Sp:=[⟨86,c0 [.s QdE,.s Su] tb,Zr [] 14,[],none⟩,
 ⟨122,c0 [.s QdE] tb,Zr [Qtd [1] 0 3 0 1 0] 14,[],none⟩]++Qr5
def Qr7:List Sp:=[⟨78,SU [] [] (λn=>.ll Yn n 0) 1 (λn=>cIn n 0 1),Zr [] 14,[],none⟩,
 ⟨213,c0 [] (.aa [.ll Yn 0 0,.ll Yn 0 0]),Zr [] 14,[],none⟩]++Qr6
def Qr8:List Sp:=[⟨203,c0 [.v (.ii .u64),.v (ty (.i .u64 0 13))] (ty QoH),Zr [] 14,[],none⟩,
 ⟨47,cS [] [.l Yn 1,.l Yn 1],Zr [] 14,[],none⟩]++Qr7
def Qr9:List Sp:=[⟨182,c0 [.t 100] (.uu [ty (pB 0 3),ty (.s 100),ty (.s 100)]),Zr [] 14,[],none⟩,
 ⟨171,c0 [.l [.i .u8 0 255] 1000000] (ty QoH),Zr [(0,λn=>⟨[(3,.ii .u64),(4,.nn .i64 n 0)],[],[],[(0,n,0),(n,1,0)],1,(1,0),(n,0)⟩)] 14,[],none⟩]++Qr8
def Qsa:List Sp:=[⟨179,c0 [.l Py 8,.v (ty (.s 100000))] tb,Zr [] 14,[],none⟩,
 ⟨218,cPl [.l Py 8,.v (ty (.s 100000))] 1,Zr [] 14,[],none⟩]++Qr9
def Qsb:List Sp:=[⟨206,c0 [.l Py 8] tb,Zr [] 14,[],none⟩,
 ⟨233,c0 [.l Py 8,.l [.c tItem] 8] tb,Zr [] 14,[],none⟩]++Qsa
def Qsc:List Sp:=[⟨252,cS [.s [.l Yn 25,.l Yn 25],.s [.l Yn 9,.l Yn 9]] [.l Yn 69,.l Yn 69],Zr [] 14,[],none⟩,
 ⟨181,cLk [.l Py 8,.v (ty (.s 100000))] [.c tItem] 5,Zr [] 14,[],none⟩]++Qsb
def Qsd:List Sp:=[⟨254,c0 [.l [.c Qa0] 6,.v tb] tb,Zr [] 14,[],none⟩,
 ⟨252,cS [.s [.l Yn 1,.l Yn 1],.s [.l Yn 9,.l Yn 9]] [.l Yn 21,.l Yn 21],Zr [] 14,[],none⟩]++Qsc
def Qse:List Sp:=[⟨204,c0 [.s X1,.s Qi8] QaZ,Zr [] 14,[],none⟩,
 ⟨231,c0 [.s X1,.s Qgt,.v tb] QaZ,Zr [] 14,[],none⟩]++Qsd
def Qsf:List Sp:=[⟨234,c0 [.s X1,.v (ty (.s 100))] tb,Zr [] 14,[],none⟩,
 ⟨205,c0 [.s X1,.s Qqy] QaZ,Zr [] 14,[],none⟩]++Qse
def Qsg:List Sp:=[⟨207,c0 [.s X1,.l [.c tItem] 6] QaZ,Zr [] 14,[],none⟩,
 ⟨235,c0 [.s X1,.v (ty (.s 100))] tb,anX [(0,some 6,true)] [] 14,[],none⟩]++Qsf
def Qsh:List Sp:=[⟨209,c0 [.s Qgt] (ty (.s 3000)),Zr [] 14,[],none⟩,
 ⟨173,c0 [.s X1] (.uu [QaZ,Qlh]),Zr [] 14,[],none⟩]++Qsg
def Qsi:List Sp:=[⟨174,c0 [.s X1] (ty (.s 100000)),anX [(0,some 6,true)] [] 14,[122],none⟩,
 ⟨210,c0 [.v (ty (.s 1000))] (ty (.s 1100)),Zr [] 14,[],none⟩]++Qsh
def Qsj:List Sp:=[⟨170,c0 [.s X1] (.uu [ty (.s 100000),QaZ]),Zr [] 14,[],none⟩,
 ⟨131,c0 [.s X1] (.uu [QaZ,Qlh]),Zr [] 14,[],none⟩]++Qsi
def Qsk:List Sp:=[⟨172,c0 [.s Su,.s Su] tb,Zr [] 14,[],none⟩,
 ⟨129,SU [.s X1] [] (λn=>.uu [.ty QoH,.nn .i64 n 0]) 1 (λn=>cIn n 0 40),Zr [] 14,[],none⟩]++Qsj
def Qsl:List Sp:=[⟨93,c0 [.s [.c QgV,.l TI 10]] tb,Zr [] 14,[],none⟩,
 ⟨130,cPl [.l TI 10,nm,.s QrN] 1,Zr [] 14,[],none⟩]++Qsk
def Qsm:List Sp:=[⟨61,cS [pL,.i 0 4000,pc QgV,.i 4 8] XP,Zr [] 14,[],none⟩,
 ⟨90,cNo,Zr [] 14,[],some (QAg [.s XP,.s X1] (λn=>.tp [.ty (.c QgV),.oo 500000 n 0] (.ei .i64 0 40 [(0,n, -1)])) 1 (λn=>[(0,n,0),(n,1,1)]) (λn=>[(500000,.ww TI n 0 11 157)]))⟩]++Qsl
def Qsn:List Sp:=[⟨60,cS [pL,.i 0 4000,.i 0 5] S7,Zr [] 14,[],none⟩,
 ⟨49,SU [pL,.i 200 200] [] (λn=>.ll XP n 0) 1 (λn=>cIn n 1 2),Zr [] 14,[10,20],none⟩]++Qsm
def Qso:List Sp:=[⟨48,SU [pL,.i 0 0] [] (λn=>.ll S7 n 0) 1 (λn=>cIn n 1 2),Zr [] 14,[10,20],none⟩,
 ⟨30,SU [pL,.i 0 1000] [] (λ_=>.uu [.ll S7 0 1,.ll XP 0 1]) 0 (λ_=>[]),Zr [] 14,[],none⟩]++Qsn
def Qsp:List Sp:=[⟨66,cPl [.l XP 4,nm] 1,Zr [] 14,[],none⟩,
 ⟨94,cPl [.l XP 4,nm] 1,Zr [] 14,[],none⟩]++Qso
def Qsq:List Sp:=[⟨269,c0 [.l BL 4] tb,Zr [] 14,[],none⟩,
 ⟨63,c0 [.l XP 4] tb,Zr [] 14,[],none⟩]++Qsp
def Qsr:List Sp:=[⟨133,c0 [.l Qqz 4] (.uu [QaZ,Qlh]),Zr [] 14,[],none⟩,
 ⟨132,c0 [.l BL 4] (.uu [QaZ,Qlh]),Zr [] 14,[],none⟩]++Qsq
def Qss:List Sp:=[⟨92,cPl [.l S7 4,nm] 1,Zr [] 14,[],none⟩,
 ⟨91,c0 [.s S7] (.uu [QaZ,Qlh]),Zr [] 14,[],none⟩]++Qsr
def Qst:List Sp:=[⟨96,SU [.l BL 4,.s BL] [] (λn=>.uu [.ll BL n 0,tb]) 1 (λn=>[(0,n,0),(n,1,1)]),Zr [Qtd [3] 0 6 0 1 0] 14,[],none⟩,
 ⟨62,SU [.l S7 4] [] (λn=>.uu [.nn .i64 n 0,Qlh]) 1 (λn=>cIn n 0 40),Zr [] 14,[],none⟩]++Qss
def Qsu:List Sp:=[⟨225,SU [.l S7 2,nm] [] (λn=>.uu [.aa (opV n QdE),QaZ]) 2 (λn=>QaM n QdE),anX [(0,none,true)] [] 14,[],none⟩,
 ⟨65,SU [.l S7 2] [] (λn=>.uu [.ll BL n 0,.nn .i64 (n+1) 0]) 2 (λn=>cIn n 0 4++cIn (n+1) 0 40),anX [(0,none,true)] [] 14,[],none⟩]++Qst
def Qsv:List Sp:=[⟨245,cL [.s Qgt] Qwm (λn=>cIn n 1 4),{anJ [] 14 [0,1,2,999]with vb:=true},[],none⟩,
 ⟨64,c0 [.s GS] tb,Zr [] 14,[],none⟩]++Qsu
def Qsw:List Sp:=[⟨180,cLk [.s X1,.s GS,pc tOpt] [.lm FB 4] 14,Zr [] 14,[],none⟩,
 ⟨219,cLk [.s Qi8] [.lm FB 4] 6,Zr [] 14,[],none⟩]++Qsv
def Qua:List Sp:=[⟨183,cLk [.s X1,.s GS,pc [[]],pc [[]]] [.lm FB 4] 0,Zr [] 14,[],none⟩,
 ⟨183,cLk [.s X1,.s GS,pc tName,pc [[120]]] [.lm FB 4] 14,Zr [] 14,[],none⟩]++Qsw
def spA:List Sp:=Qua
set_option maxRecDepth 100000
set_option maxHeartbeats 0
theorem QqJ:Xl Tryz.prog spG noZ 2 sp0=true:=by decide+kernel
theorem QqK:Xl Tryz.prog spG noZ 2 sp1=true:=by decide+kernel
theorem QqL:Xl Tryz.prog spG noZ 2 sp2=true:=by decide+kernel
theorem QqM:Xl Tryz.prog spG noZ 2 sp3=true:=by decide+kernel
theorem QqN:Xl Tryz.prog spG noZ 2 sp4=true:=by decide+kernel
theorem QqO:Xl Tryz.prog spG noZ 2 sp5=true:=by decide+kernel
theorem QqP:Xl Tryz.prog spG noZ 2 sp6=true:=by decide+kernel
theorem QqQ:Xl Tryz.prog spG noZ 2 sp7=true:=by decide+kernel
theorem QqR:Xl Tryz.prog spG noZ 2 sp8=true:=by decide+kernel
theorem QqS:Xl Tryz.prog spG noZ 2 sp9=true:=by decide+kernel
theorem Qng:Xl Tryz.prog spG noZ 2 QrT=true:=by decide+kernel
theorem Qnh:Xl Tryz.prog spG noZ 2 QrU=true:=by decide+kernel
theorem Qni:Xl Tryz.prog spG noZ 2 QrV=true:=by decide+kernel
theorem Qnj:Xl Tryz.prog spG noZ 2 QrW=true:=by decide+kernel
theorem Qnk:Xl Tryz.prog spG noZ 2 QrX=true:=by decide+kernel
theorem Qnl:Xl Tryz.prog spG noZ 2 QrY=true:=by decide+kernel
theorem Qnm:Xl Tryz.prog spG noZ 2 QrZ=true:=by decide+kernel
theorem Qnn:Xl Tryz.prog spG noZ 2 Qr0=true:=by decide+kernel
theorem Qno:Xl Tryz.prog spG noZ 2 Qr1=true:=by decide+kernel
theorem Qnp:Xl Tryz.prog spG noZ 2 Qr2=true:=by decide+kernel
theorem Qnq:Xl Tryz.prog spG noZ 2 Qr3=true:=by decide+kernel
theorem Qnr:Xl Tryz.prog spG noZ 2 Qr4=true:=by decide+kernel
theorem Qns:Xl Tryz.prog spG noZ 2 Qr5=true:=by decide+kernel
theorem Qnt:Xl Tryz.prog spG noZ 2 Qr6=true:=by decide+kernel
theorem Qnu:Xl Tryz.prog spG noZ 2 Qr7=true:=by decide+kernel
theorem Qnv:Xl Tryz.prog spG noZ 2 Qr8=true:=by decide+kernel
theorem Qnw:Xl Tryz.prog spG noZ 2 Qr9=true:=by decide+kernel
theorem Qnx:Xl Tryz.prog spG noZ 2 Qsa=true:=by decide+kernel
theorem Qny:Xl Tryz.prog spG noZ 2 Qsb=true:=by decide+kernel
theorem Qnz:Xl Tryz.prog spG noZ 2 Qsc=true:=by decide+kernel
theorem QnA:Xl Tryz.prog spG noZ 2 Qsd=true:=by decide+kernel
theorem QnB:Xl Tryz.prog spG noZ 2 Qse=true:=by decide+kernel
theorem QnC:Xl Tryz.prog spG noZ 2 Qsf=true:=by decide+kernel
theorem QnD:Xl Tryz.prog spG noZ 2 Qsg=true:=by decide+kernel
theorem QnE:Xl Tryz.prog spG noZ 2 Qsh=true:=by decide+kernel
theorem QnF:Xl Tryz.prog spG noZ 2 Qsi=true:=by decide+kernel
theorem QnG:Xl Tryz.prog spG noZ 2 Qsj=true:=by decide+kernel
theorem QnH:Xl Tryz.prog spG noZ 2 Qsk=true:=by decide+kernel
theorem QnI:Xl Tryz.prog spG noZ 2 Qsl=true:=by decide+kernel
theorem QnJ:Xl Tryz.prog spG noZ 2 Qsm=true:=by decide+kernel
theorem QnK:Xl Tryz.prog spG noZ 2 Qsn=true:=by decide+kernel
theorem QnL:Xl Tryz.prog spG noZ 2 Qso=true:=by decide+kernel
theorem QnM:Xl Tryz.prog spG noZ 2 Qsp=true:=by decide+kernel
theorem QnN:Xl Tryz.prog spG noZ 2 Qsq=true:=by decide+kernel
theorem QnO:Xl Tryz.prog spG noZ 2 Qsr=true:=by decide+kernel
theorem QnP:Xl Tryz.prog spG noZ 2 Qss=true:=by decide+kernel
theorem QnQ:Xl Tryz.prog spG noZ 2 Qst=true:=by decide+kernel
theorem QnR:Xl Tryz.prog spG noZ 2 Qsu=true:=by decide+kernel
theorem QnS:Xl Tryz.prog spG noZ 2 Qsv=true:=by decide+kernel
theorem QnT:Xl Tryz.prog spG noZ 2 Qsw=true:=by decide+kernel
theorem QnU:Xl Tryz.prog spG noZ 2 Qua=true:=by decide+kernel
set_option maxRecDepth 4000
set_option maxHeartbeats 1000000
theorem QQ {P:Program} {g:Nat->List Ct} {gz:Nat->List Zc} {n:Nat} {a l m:List Sp} (ha:a=l++m) (C:l.length=n) (h:Xl P g gz n a=true) (hm:YW P g gz m=true):YW P g gz a=true:=by
 subst ha;exact QeL C h hm
theorem cs0:YW Tryz.prog spG noZ sp0=true:=QQ (m:=[]) (QAP _).symm rfl QqJ rfl
theorem cs1:YW Tryz.prog spG noZ sp1=true:=QQ (m:=sp0) rfl rfl QqK cs0
theorem cs2:YW Tryz.prog spG noZ sp2=true:=QQ (m:=sp1) rfl rfl QqL cs1
theorem cs3:YW Tryz.prog spG noZ sp3=true:=QQ (m:=sp2) rfl rfl QqM cs2
theorem cs4:YW Tryz.prog spG noZ sp4=true:=QQ (m:=sp3) rfl rfl QqN cs3
theorem cs5:YW Tryz.prog spG noZ sp5=true:=QQ (m:=sp4) rfl rfl QqO cs4
theorem cs6:YW Tryz.prog spG noZ sp6=true:=QQ (m:=sp5) rfl rfl QqP cs5
theorem cs7:YW Tryz.prog spG noZ sp7=true:=QQ (m:=sp6) rfl rfl QqQ cs6
theorem cs8:YW Tryz.prog spG noZ sp8=true:=QQ (m:=sp7) rfl rfl QqR cs7
theorem cs9:YW Tryz.prog spG noZ sp9=true:=QQ (m:=sp8) rfl rfl QqS cs8
theorem QwF:YW Tryz.prog spG noZ QrT=true:=QQ (m:=sp9) rfl rfl Qng cs9
theorem QwG:YW Tryz.prog spG noZ QrU=true:=QQ (m:=QrT) rfl rfl Qnh QwF
theorem QwH:YW Tryz.prog spG noZ QrV=true:=QQ (m:=QrU) rfl rfl Qni QwG
theorem QwI:YW Tryz.prog spG noZ QrW=true:=QQ (m:=QrV) rfl rfl Qnj QwH
theorem QwJ:YW Tryz.prog spG noZ QrX=true:=QQ (m:=QrW) rfl rfl Qnk QwI
theorem QwK:YW Tryz.prog spG noZ QrY=true:=QQ (m:=QrX) rfl rfl Qnl QwJ
theorem QwL:YW Tryz.prog spG noZ QrZ=true:=QQ (m:=QrY) rfl rfl Qnm QwK
theorem QwM:YW Tryz.prog spG noZ Qr0=true:=QQ (m:=QrZ) rfl rfl Qnn QwL
theorem QwN:YW Tryz.prog spG noZ Qr1=true:=QQ (m:=Qr0) rfl rfl Qno QwM
theorem QwO:YW Tryz.prog spG noZ Qr2=true:=QQ (m:=Qr1) rfl rfl Qnp QwN
theorem QwP:YW Tryz.prog spG noZ Qr3=true:=QQ (m:=Qr2) rfl rfl Qnq QwO
theorem QwQ:YW Tryz.prog spG noZ Qr4=true:=QQ (m:=Qr3) rfl rfl Qnr QwP
theorem QwR:YW Tryz.prog spG noZ Qr5=true:=QQ (m:=Qr4) rfl rfl Qns QwQ
theorem QwS:YW Tryz.prog spG noZ Qr6=true:=QQ (m:=Qr5) rfl rfl Qnt QwR
theorem QwT:YW Tryz.prog spG noZ Qr7=true:=QQ (m:=Qr6) rfl rfl Qnu QwS
theorem QwU:YW Tryz.prog spG noZ Qr8=true:=QQ (m:=Qr7) rfl rfl Qnv QwT
theorem QwV:YW Tryz.prog spG noZ Qr9=true:=QQ (m:=Qr8) rfl rfl Qnw QwU
theorem QwW:YW Tryz.prog spG noZ Qsa=true:=QQ (m:=Qr9) rfl rfl Qnx QwV
theorem QwX:YW Tryz.prog spG noZ Qsb=true:=QQ (m:=Qsa) rfl rfl Qny QwW
theorem QwY:YW Tryz.prog spG noZ Qsc=true:=QQ (m:=Qsb) rfl rfl Qnz QwX
theorem QwZ:YW Tryz.prog spG noZ Qsd=true:=QQ (m:=Qsc) rfl rfl QnA QwY
theorem Qw0:YW Tryz.prog spG noZ Qse=true:=QQ (m:=Qsd) rfl rfl QnB QwZ
theorem Qw1:YW Tryz.prog spG noZ Qsf=true:=QQ (m:=Qse) rfl rfl QnC Qw0
theorem Qw2:YW Tryz.prog spG noZ Qsg=true:=QQ (m:=Qsf) rfl rfl QnD Qw1
theorem Qw3:YW Tryz.prog spG noZ Qsh=true:=QQ (m:=Qsg) rfl rfl QnE Qw2
theorem Qw4:YW Tryz.prog spG noZ Qsi=true:=QQ (m:=Qsh) rfl rfl QnF Qw3
theorem Qw5:YW Tryz.prog spG noZ Qsj=true:=QQ (m:=Qsi) rfl rfl QnG Qw4
theorem Qw6:YW Tryz.prog spG noZ Qsk=true:=QQ (m:=Qsj) rfl rfl QnH Qw5
theorem Qw7:YW Tryz.prog spG noZ Qsl=true:=QQ (m:=Qsk) rfl rfl QnI Qw6
theorem Qw8:YW Tryz.prog spG noZ Qsm=true:=QQ (m:=Qsl) rfl rfl QnJ Qw7
theorem Qw9:YW Tryz.prog spG noZ Qsn=true:=QQ (m:=Qsm) rfl rfl QnK Qw8
theorem Qxa:YW Tryz.prog spG noZ Qso=true:=QQ (m:=Qsn) rfl rfl QnL Qw9
theorem Qxb:YW Tryz.prog spG noZ Qsp=true:=QQ (m:=Qso) rfl rfl QnM Qxa
theorem Qxc:YW Tryz.prog spG noZ Qsq=true:=QQ (m:=Qsp) rfl rfl QnN Qxb
theorem Qxd:YW Tryz.prog spG noZ Qsr=true:=QQ (m:=Qsq) rfl rfl QnO Qxc
theorem Qxe:YW Tryz.prog spG noZ Qss=true:=QQ (m:=Qsr) rfl rfl QnP Qxd
theorem Qxf:YW Tryz.prog spG noZ Qst=true:=QQ (m:=Qss) rfl rfl QnQ Qxe
theorem Qxg:YW Tryz.prog spG noZ Qsu=true:=QQ (m:=Qst) rfl rfl QnR Qxf
theorem Qxh:YW Tryz.prog spG noZ Qsv=true:=QQ (m:=Qsu) rfl rfl QnS Qxg
theorem Qxi:YW Tryz.prog spG noZ Qsw=true:=QQ (m:=Qsv) rfl rfl QnT Qxh
theorem Qxj:YW Tryz.prog spG noZ Qua=true:=QQ (m:=Qsw) rfl rfl QnU Qxi
theorem QjJ (hm:Tryz.prog.follows .mixedOrders=true) (C:∀f,∀c∈spG f,c.ok Tryz.prog f):∀f,∀c∈tbS spG spA f,c.ok Tryz.prog f:=(Qg4 hm C (gz:=noZ) (λ_ _ h=>by cases h) Qxj).1
end Go.Proofs
namespace Go.Abs
open Go
variable {d:D} {l:List D} {t:Tp} {v:Vl} {ν:List Int}
mutual
def Tp.hasB:Tp->D->Bool
 | .i k lo hi,d=>match d with
  | .int j n=>decide (k=j)&&(decide (lo<=n)&&decide (n<=hi))
  |_=>false
 | .b,d=>match d with
  | .bool _=>true
  |_=>false
 | .s n,d=>match d with
  | .str x=>Nat.ble x.length n
  |_=>false
 | .c ls,d=>match d with
  | .str x=>ls.contains x
  |_=>false
 | .l row n,d=>match d with
  | .sl rows=>Nat.ble rows.length n&&rows.all λr=>Tp.uc row r
  | .z7 rows=>Nat.ble rows.length n&&rows.all λr=>Tp.uc row r
  |_=>false
 | .lm _ _,_=>false
 | .px k,d=>match d with
  | .sl rows=>xB k rows
  | .z7 rows=>xB k rows
  |_=>false
def Tp.uc:List Tp->List D->Bool
 |[],ds=>match ds with
  |[]=>true
  |_=>false
 |t::ts,ds=>match ds with
  |d::r=>Tp.hasB t d&&Tp.uc ts r
  |_=>false
end
mutual
theorem Tp.wc:∀{t:Tp} {d:D},t.hasB d=true->t.has d
 | .i k lo hi,d,h=>by
  simp only[Tp.hasB]at h;split at h;simp only[QAo,decide_eq_true_eq]at h;obtain⟨rfl,h1,h2⟩:=h;exact⟨_,rfl,h1,h2⟩
  grind
 | .b,d,h=>by
  simp only[Tp.hasB]at h;split at h;exact⟨_,rfl⟩
  grind
 | .s n,d,h=>by
  simp only[Tp.hasB]at h;split at h;exact⟨_,rfl,QAk h⟩
  grind
 | .c ls,d,h=>by
  simp only[Tp.hasB]at h;split at h;exact⟨_,by grind,rfl⟩
  grind
 | .l row n,d,h=>by
  simp only[Tp.hasB]at h;split at h;simp only[QAo,QAu]at h;exact⟨_,.inl rfl,QAk h.1,λr hr=>Tp.xb (h.2 r hr)⟩;simp only[QAo,QAu]at h;exact⟨_,.inr rfl,QAk h.1,λr hr=>Tp.xb (h.2 r hr)⟩
  grind
 | .lm _ _,d,h=>by trivial
 | .px k,d,h=>by
  simp only[Tp.hasB]at h;split at h;exact⟨_,.inl rfl,h⟩;exact⟨_,.inr rfl,h⟩;cases h
theorem Tp.xb:∀{ts:List Tp} {ds:List D},Tp.uc ts ds=true->Tp.u3 ts ds
 |[],ds,h=>by
  simp only[Tp.uc]at h;split at h;rfl
  grind
 |t::ts,ds,h=>by
  simp only[Tp.uc]at h;split at h;simp only[QAo]at h;exact⟨_,_,rfl,Tp.wc h.1,Tp.xb h.2⟩
  grind
end
def Qra:List Vl->List D->Bool
 |[],[]=>true
 | .ty t::vs,d::ds=>t.hasB d&&Qra vs ds
 |_,_=>false
def QgC:List (List Vl)->List (List D)->Bool
 |[],[]=>true
 |v::vs,d::ds=>Qra v d&&QgC vs ds
 |_,_=>false
theorem Qhd {ν:List Int}:∀{vs:List Vl} {ds:List D},Qra vs ds=true->Vl.n4 ν vs ds
 |[],[],_=>rfl
 |v::vs,d::ds,h=>by
  cases v with
  |ty t=>
   simp only[Qra,QAo]at h;exact⟨d,ds,rfl,Tp.wc h.1,Qhd h.2⟩
  |_=>trivial
 |[],_::_,h=>by trivial
 |_::_,[],h=>by grind [Qra]
theorem Dk {ν:List Int}:∀{vs:List (List Vl)} {ds:List (List D)},QgC vs ds=true->Vl.k7 ν vs ds
 |[],[],_=>rfl
 |v::vs,d::ds,h=>by
  simp only[QgC,QAo]at h;exact⟨d,ds,rfl,Qhd h.1,Dk h.2⟩
 |[],_::_,h=>by trivial
 |_::_,[],h=>by trivial
def Qh9:Vl->D->Bool
 | .ty t,d=>t.hasB d
 | .fx rows,d=>(match d with
  | .sl rs=>QgC rows rs
  | .z7 rs=>QgC rows rs
  |_=>false)
 |_,_=>false
theorem Qbl (h:Qh9 v d=true):v.has ν d:=by
 unfold Qh9 at h;split at h;exact Tp.wc h;split at h;exact⟨_,.inl rfl,Dk h⟩;exact⟨_,.inr rfl,Dk h⟩
 grind
 grind
def Qbm:List Vl->List D->Bool
 |[],[]=>true
 |v::vs,d::ds=>Qh9 v d&&Qbm vs ds
 |_,_=>false
theorem Cf {ν:List Int}:∀{vs:List Vl} {ds:List D},Qbm vs ds=true->Vl.n4 ν vs ds
 |[],[],_=>rfl
 |v::vs,d::ds,h=>by
  simp only[Qbm,QAo]at h;exact⟨d,ds,rfl,Qbl h.1,Cf h.2⟩
 |[],_::_,h=>by cases h
 |_::_,[],h=>by cases h
def Qsz:Vl->D->Bool
 | .aa cs,d=>match d with
  | .agg ds=>Qbm cs ds
  |_=>false
 |v,d=>Qh9 v d
theorem Qhi (h:Qsz v d=true):v.has ν d:=by
 unfold Qsz at h;split at h;split at h;exact⟨_,rfl,Cf h⟩
 grind
 grind [Qbl]
def Qjx:List Vl->List D->Bool
 |[],[]=>true
 |v::vs,d::ds=>Qsz v d&&Qjx vs ds
 |_,_=>false
theorem Qc1 {ν:List Int}:∀{vs:List Vl} {ds:List D},Qjx vs ds=true->Vl.n4 ν vs ds
 |[],[],_=>rfl
 |v::vs,d::ds,h=>by
  simp only[Qjx,QAo]at h;exact⟨d,ds,rfl,Qhi h.1,Qc1 h.2⟩
 |[],_::_,h=>by cases h
 |_::_,[],h=>by cases h
def QrQ:Vl->D->Bool
 | .uu vs,d=>match d with
  | .u7 ds=>Qjx vs ds
  |_=>false
 |v,d=>Qsz v d
theorem Qgy (h:QrQ v d=true):v.has ν d:=by
 unfold QrQ at h;split at h;split at h;exact⟨_,rfl,Qc1 h⟩
 grind
 grind [Qhi]
def enT:Tp->Option (List D)
 | .i k lo hi=>some ((List.range (hi - lo+1).toNat).map λ(n:Nat)=>.int k (lo+n))
 | .b=>some [.bool true,.bool false]
 | .c ls=>some (ls.map .str)
 |_=>none
theorem QeV (he:enT t=some l) (h:t.has d):d∈l:=by
 unfold enT at he;split at he<;>cases he;rename_i k lo hi;obtain⟨n,rfl,h1,h2⟩:=h;exact QAy.2 ⟨(n - lo).toNat,QAG.2 Wa,by grind⟩;obtain⟨b,rfl⟩:=h;simp;obtain⟨x,h1,rfl⟩:=h;grind
def Qpt:List Vl->Option (List (List D))
 |[]=>some [[]]
 |v::vs=>match v with
  | .ty t=>(match enT t,Qpt vs with
   |some l,some r=>some (l.flatMap λd=>r.map λq=>d::q)
   |_,_=>none)
  |_=>none
theorem QeW {ν:List Int}:∀{vs:List Vl} {ds:List D} {l:List (List D)},Qpt vs=some l->Vl.n4 ν vs ds->ds∈l
 |[],ds,l,he,h=>by
  grind [Qpt,Vl.n4]
 |v::vs,ds,l,he,h=>by
  simp only[Qpt]at he;split at he;split at he;rename_i l1 r e1 e2;cases he
  obtain⟨d,q,rfl,h1,h2⟩:=h;exact QAr.2 ⟨d,QeV e1 h1,QAy.2 ⟨q,QeW e2 h2,rfl⟩⟩
  grind
  grind
def Qps:List (List Vl)->Option (List (List (List D)))
 |[]=>some [[]]
 |v::vs=>match Qpt v,Qps vs with
  |some l,some r=>some (l.flatMap λd=>r.map λq=>d::q)
  |_,_=>none
theorem QeU {ν:List Int}:∀{vs:List (List Vl)} {ds:List (List D)} {l:List (List (List D))},Qps vs=some l->Vl.k7 ν vs ds->ds∈l
 |[],ds,l,he,h=>by
  grind [Qps,Vl.k7]
 |v::vs,ds,l,he,h=>by
  simp only[Qps]at he;split at he;rename_i l1 r e1 e2;cases he
  obtain⟨d,q,rfl,h1,h2⟩:=h;exact QAr.2 ⟨d,QeW e1 h1,QAy.2 ⟨q,QeU e2 h2,rfl⟩⟩
  grind
def enC:Vl->Option (List D)
 | .ty t=>enT t
 | .fx rows=>(match Qps rows with
  |some l=>some (l.map .sl)
  |none=>none)
 |_=>none
theorem QlW (he:enT t=some l) (h:t.has d):d.z6=d:=by
 unfold enT at he;split at he<;>cases he;obtain⟨n,rfl,_⟩:=h;rfl;obtain⟨b,rfl⟩:=h;rfl;obtain⟨x,_,rfl⟩:=h;rfl
theorem Qpr (he:enC v=some l) (h:v.has ν d):d.z6∈l:=by
 unfold enC at he;split at he;rw[QlW he h];exact QeV he h;split at he;rename_i l1 e1;cases he
 obtain⟨rs,hd,h1⟩:=h;have:d.z6=.sl rs:=by rcases hd with rfl |rfl<;>rfl
 rw[this];exact QAy.2 ⟨rs,QeU e1 h1,rfl⟩
 grind
 grind
def enL:List Vl->Option (List (List D))
 |[]=>some [[]]
 |v::vs=>match enC v,enL vs with
  |some l,some r=>some (l.flatMap λd=>r.map λq=>d::q)
  |_,_=>none
theorem QjZ {ν:List Int}:∀{vs:List Vl} {ds:List D} {l:List (List D)},enL vs=some l->Vl.n4 ν vs ds->ds.map D.z6∈l
 |[],ds,l,he,h=>by
  grind [enL,Vl.n4]
 |v::vs,ds,l,he,h=>by
  simp only[enL]at he;split at he;rename_i l1 r e1 e2;cases he
  obtain⟨d,q,rfl,h1,h2⟩:=h;exact QAr.2 ⟨_,Qpr e1 h1,QAy.2 ⟨_,QjZ e2 h2,rfl⟩⟩
  grind
def enV:Vl->Option (List D)
 | .aa cs=>(match enL cs with
  |some l=>some (l.map .agg)
  |none=>none)
 | .ty t=>enT t
 |_=>none
theorem Qil (he:enT t=some l) (h:t.has d):d.can=d:=by
 unfold enT at he;split at he<;>cases he;obtain⟨n,rfl,_⟩:=h;rfl;obtain⟨b,rfl⟩:=h;rfl;obtain⟨x,_,rfl⟩:=h;rfl
theorem Qpu (he:enV v=some l) (h:v.has ν d):d.can∈l:=by
 unfold enV at he;split at he;split at he;rename_i q e1;cases he
 obtain⟨ds,rfl,h1⟩:=h;exact QAy.2 ⟨_,QjZ e1 h1,rfl⟩
 grind
 rw[Qil he h];exact QeV he h
 grind
def Qoy:List Vl->Option (List (List D))
 |[]=>some [[]]
 |v::vs=>match enV v,Qoy vs with
  |some l,some r=>some (l.flatMap λd=>r.map λq=>d::q)
  |_,_=>none
theorem Qai {ν:List Int}:∀{vs:List Vl} {ds:List D} {l:List (List D)},Qoy vs=some l->Vl.n4 ν vs ds->ds.map D.can∈l
 |[],ds,l,he,h=>by
  grind [Qoy,Vl.n4]
 |v::vs,ds,l,he,h=>by
  simp only[Qoy]at he;split at he;rename_i l1 r e1 e2;cases he
  obtain⟨d,q,rfl,h1,h2⟩:=h;exact QAr.2 ⟨_,Qpu e1 h1,QAy.2 ⟨_,Qai e2 h2,rfl⟩⟩
  grind
theorem Bj {K:Kn}:∀{ds:List D} {vs:List Value},j5 K ds vs->j5 K (ds.map D.can) vs
 |[],_,h=>h
 |d::ds,[],h=>by trivial
 |d::ds,v::vs,h=>by
  simp only[QAX,j5]at h ⊢;exact⟨Qae h.1,Bj h.2⟩
theorem Ok.can {P:Program} {f:Nat} {ds:List D} {d:D} (h:Ok P f (ds.map D.can) d):Ok P f ds d:=⟨h.1,λK w vs hk C=>h.2 K w vs hk (Bj C)⟩
def QhF (P:Program):List Nat->List (Nat × z5)
 |[]=>[]
 |f::l=>match P.funcs[f]? with
  |some fn=>(match Qj P fn with
   |some af=>if(Gm f).isEmpty=true then(f,tfN af)::QhF P l else QhF P l
   |none=>QhF P l)
  |none=>QhF P l
theorem GB {P:Program}:∀l:List Nat,Qdb P (QhF P l)
 |[]=>Qn4
 |f::l=>by
  unfold QhF;split;rename_i fn e1;split;rename_i af e2;split;rename_i e3;exact Qjo e1 (by grind [SJ]) (GB l) (QBn.1 e3);exact GB l;exact GB l;exact GB l
def ctE (P:Program) (fs:List Nat) (n:Nat) (c:Ct) (f:Nat):Bool:=
 (Nat.beq c.nx 1&&(Nat.beq c.mx 1&&c.rc.isEmpty))&&(match Qoy c.az with
  |some l=>(match QhF P fs with
   |tab=>l.all λds=>match exF tab n f ds with
    |some d=>QrQ c.rv d
    |none=>false)
  |none=>false)
theorem Ct.ti {P:Program} {fs:List Nat} {n f:Nat} {c:Ct} (hm:P.follows .mixedOrders=true) (h:ctE P fs n c f=true):c.ok P f:=by
 intro μ ds U T O M;simp only[ctE,QAo]at h;obtain⟨⟨h1,h2,V⟩,G⟩:=h;split at G;rename_i l e1;have C:=QAu.1 G _ (Qai e1 M);split at C;rename_i d e2;refine⟨[],d, ?_, ?_,Qgy C,Ok.can (Cr hm (GB fs) n e2)⟩
 (repeat clear hK K);simp_all
 grind [QO]
 grind
 grind
end Go.Abs
namespace Go.Proofs
open Go Go.Abs
set_option maxRecDepth 100000
set_option maxHeartbeats 0
def Qxp:List Nat:=[123,128,136,161,162,166,167,168,169,197,198,199,200,202,230]
def prE (P:Program) (n:Nat):Bool:=(spG 128).all λc=>ctE P Qxp n c 128
theorem Qqw:prE Tryz.prog 60=true:=by decide+kernel
theorem QpI (hm:Tryz.prog.follows .mixedOrders=true):∀c∈spG 128,c.ok Tryz.prog 128:=λc C=>Ct.ti hm (QAu.1 Qqw c C)
open M3
set_option maxHeartbeats 1000000
theorem QpG:∀c∈spG 35,c.ok Tryz.prog 35:=by
 intro c C;have e:spG 35=[⟨[ty tI,.nn .i64 1 0],2,[(0,1, -1),(1,0,1000)],.nn .i64 2 0,3,[(0,2,0),(2,1, -1)]⟩]:=by rfl
 rw[e,QAt]at C;subst C;intro μ ds h1 h2 O h4
 match μ,h1,h2 with
 |[z,n],_,h2=>
  obtain rfl:z=0:=by simpa using h2
  obtain⟨d1,r1,rfl,⟨v,rfl,V,U⟩,d2,r2,rfl,⟨m,rfl,k,T,q4⟩,rfl⟩:=h4;obtain rfl:k=n:=by simpa using T.symm
  obtain rfl:m=k:=Wa;obtain⟨a,b,p1,p2,M⟩:=O (0,1, -1) Wc;obtain⟨a',b',p4,Y,G⟩:=O (1,0,1000) Wc;obtain rfl:0=a:=by simpa using p1
  obtain rfl:m=b:=by simpa using p2
  obtain rfl:m=a':=by simpa using p4
  obtain rfl:0=b':=by simpa using Y
  have M:(0:Int)<=m+ -1:=M;have G:m<=0+1000:=G;have t1:=Int.tmod_lt_of_pos v (Wa:0<m);have t2:=Int.lt_tmod_of_pos v (Wa:0<m);have g1:0<=Xp v m/\Xp v m<=m - 1:=by unfold Xp;split<;>constructor<;>omega
  refine⟨[Xp v m],.int .i64 (Xp v m),rfl, ?_,⟨_,rfl,_,rfl,Wa⟩,X2 ⟨Wa,Wa⟩ ⟨V,U⟩⟩;intro c C;simp only[QAm,QAl,or_false]at C;rcases C with rfl |rfl
  exact⟨0,Xp v m,rfl,rfl,by show(0:Int)<=Xp v m+0;omega⟩
  exact⟨Xp v m,m,rfl,rfl,by show Xp v m<=m+ -1;omega⟩
open M25
set_option maxRecDepth 4000
variable {l:List (Cu × Cu)}
section
variable {Q:Cu->Prop}
theorem QfN:∀{l:List Cu} {c:Cu},(∀x∈l,Q x)->Q c->∀x∈KR l c,Q x
 |[],c,_,hc,x,hx=>by grind [KR]
 |y::r,c,hl,hc,x,hx=>by
  simp only[KR]at hx;split at hx;rcases QAm.1 hx with rfl |hx
  grind
  exact QfN (λz C=>hl z Wb) hc x hx
  grind
theorem Qb7:∀{l:List (Cu × Cu)} {out:List Cu},(∀s∈l,Q s.1/\Q s.2)->(∀x∈out,Q x)->∀x∈l.foldl (λout s=>KR (KR out s.1) s.2) out,Q x
 |[],_,_,h=>h
 |s::l,out,hl,h=>by
  rw[List.foldl_cons];exact Qb7 (λt C=>hl t Wb) (QfN (QfN h (hl s Wc).1) (hl s Wc).2)
theorem Qmy (hF:Q ZS) (G:Q XW) (C:∀s∈l,Q s.1/\Q s.2):∀x∈Ye l,Q x:=Qb7 C (by
 grind)
theorem Qmz {out:List (Cu × Cu)} {x y:Cu} (h:∀s∈out,Q s.1/\Q s.2) (hx:Q x) (C:Q y):(KI out x y).length<=out.length+1/\∀s∈KI out x y,Q s.1/\Q s.2:=by
 unfold KI;split
 grind [List.dropLast_subset]
 grind
theorem Qe6 (f:Cu->Cu->Bool):∀(c:List Cu) (out:List (Cu × Cu)),(∀x∈c,Q x)->(∀s∈out,Q s.1/\Q s.2)->(HI f c out).length<=out.length+(c.length - 1)/\∀s∈HI f c out,Q s.1/\Q s.2
 |[],out,_,h=>⟨by simp[HI],by trivial⟩
 |[x],out,_,h=>⟨by simp[HI],by trivial⟩
 |x::y::r,out,hc,h=>by
  rw[HI];have G:=Qmz h (hc x Wc) (hc y Wc);split;have:=Qe6 f (y::r) (KI out x y) (λz C=>hc z (QBm _ C)) G.2
  grind
  have:=Qe6 f (y::r) out (λz C=>hc z (QBm _ C)) h
  grind
theorem Qpx (hF:Q ZS) (G:Q XW) (f:Cu->Cu->Bool) (C:∀s∈l,Q s.1/\Q s.2):(HI f (Ye l) []).length<=2*l.length+1/\∀s∈HI f (Ye l) [],Q s.1/\Q s.2:=by
 obtain⟨h1,h2⟩:=Qe6 f (Ye l) [] (Qmy hF G C) Wc;have:=Gr l
 grind
end
end Go.Proofs
