/- Part 10 of the means of the proof: a verified abstract evaluator and contracts of functions. It states nothing of the claim by itself. -/
import Derived.Test.YtggcpapoljmiaaaGreatDoorB9
set_option maxRecDepth 4000
set_option maxHeartbeats 4000000
set_option linter.unusedSimpArgs false
set_option linter.unusedVariables false
set_option linter.unusedSectionVars false
namespace Go.Proofs
open Go Go.Abs M3 M25
set_option maxRecDepth 100000
variable {l:List (Cu × Cu)} {r:List D}
theorem QeI {d:D} {rows:List (List D)} (h:isL d rows):d.can=.sl rows:=by
 rcases h with rfl |rfl<;>rfl
def QC (c:Cu):Prop:=Tp.u3 Qd0 (dCu c)
theorem QhO:QC ZS:=by
 refine⟨_,_,rfl,⟨_,rfl,by decide,by decide⟩,_,_,rfl,⟨_,rfl,by decide,by decide⟩,_,_,rfl,⟨_,rfl,by decide,by decide⟩,_,_,rfl,⟨_,rfl,by decide,by decide⟩,_,_,rfl,⟨_,rfl,by decide⟩,_,_,rfl,⟨_,rfl,by decide⟩,_,_,rfl,⟨_,rfl⟩,rfl⟩
theorem QkQ:QC XW:=by
 refine⟨_,_,rfl,⟨_,rfl,by decide,by decide⟩,_,_,rfl,⟨_,rfl,by decide,by decide⟩,_,_,rfl,⟨_,rfl,by decide,by decide⟩,_,_,rfl,⟨_,rfl,by decide,by decide⟩,_,_,rfl,⟨_,rfl,by decide⟩,_,_,rfl,⟨_,rfl,by decide⟩,_,_,rfl,⟨_,rfl⟩,rfl⟩
theorem QoU {c:Cu} (h:QC c):Cu.sm c:=by
 obtain⟨d1,r1,e1,_,d2,r2,e2,_,d3,r3,e3,_,d4,Y,M,_,d5,V,G,⟨p,T,q2⟩,d6,U,C,⟨q,O,q4⟩,_⟩:=h;simp only[dCu,QBz]at e1;obtain⟨_,rfl⟩:=e1;simp only[QBz]at e2;obtain⟨_,rfl⟩:=e2;simp only[QBz]at e3;obtain⟨_,rfl⟩:=e3;simp only[QBz]at M;obtain⟨_,rfl⟩:=M;simp only[QBz]at G;obtain⟨rfl,rfl⟩:=G;simp only[QBz]at C;obtain⟨rfl,rfl⟩:=C;cases T;cases O;exact⟨Wa,Wa⟩
theorem GM:∀{a b:List Tp} {r:List D},Tp.u3 (a++b) r->∃x y,r=x++y/\Tp.u3 a x/\Tp.u3 b y
 |[],b,r,h=>⟨[],r,rfl,rfl,h⟩
 |t::a,b,r,h=>by
  obtain⟨d,M,rfl,h1,h2⟩:=h;obtain⟨x,y,rfl,G,C⟩:=GM h2;exact⟨d::x,y,rfl,⟨d,x,rfl,h1,G⟩,C⟩
theorem Qbd:∀{a b:List Tp} {x y:List D},Tp.u3 a x->Tp.u3 b y->Tp.u3 (a++b) (x++y)
 |[],b,x,y,h,h2=>by obtain rfl:x=[]:=h;exact h2
 |t::a,b,x,y,h,h2=>by
  obtain⟨d,C,rfl,h1,G⟩:=h;exact⟨d,C++y,rfl,h1,Qbd G h2⟩
theorem QjV (h:Tp.u3 Qd0 r):∃c:Cu,r=dCu c/\QC c:=by
 have h0:=h;obtain⟨d1,V,rfl,⟨e,rfl,_⟩,d2,U,rfl,⟨a,rfl,_⟩,d3,T,rfl,⟨b,rfl,_⟩,d4,O,rfl,⟨c,rfl,_⟩,d5,M,rfl,⟨p,rfl,_⟩,d6,G,rfl,⟨q,rfl,_⟩,d7,C,rfl,⟨f,rfl⟩,rfl⟩:=h;exact⟨⟨e,a,b,c,p,q,f⟩,rfl,h0⟩
theorem QnV (h:Tp.u3 Yn r):∃s:Cu × Cu,r=JT s/\QC s.1/\QC s.2:=by
 obtain⟨x,y,rfl,h1,h2⟩:=GM h;obtain⟨c,rfl,G⟩:=QjV h1;obtain⟨d,rfl,C⟩:=QjV h2;exact⟨(c,d),rfl,G,C⟩
theorem N3:∀{rows:List (List D)},(∀r∈rows,Tp.u3 Yn r)->∃l:List (Cu × Cu),rows=l.map JT/\∀s∈l,QC s.1/\QC s.2
 |[],_=>⟨[],rfl,by simp⟩
 |r::rows,h=>by
  obtain⟨s,rfl,h1⟩:=QnV (h r Wc);obtain⟨l,rfl,h2⟩:=N3 (λr hr=>h r (QBm _ hr));refine⟨s::l,rfl,λt C=>?_⟩;rcases QAm.1 C with rfl |C
  exact h1;exact h2 t C
theorem Qcn (h:∀s∈l,QC s.1/\QC s.2):∀r∈l.map JT,Tp.u3 Yn r:=λr hr=>by
 obtain⟨s,C,rfl⟩:=QAy.1 hr;exact Qbd (h s C).1 (h s C).2
theorem Qjh (h:∀s∈l,QC s.1/\QC s.2) (n:l.length<=4194304):Sm l:=⟨n,λs C=>⟨QoU (h s C).1,QoU (h s C).2⟩⟩
variable {a b:List (Cu × Cu)}
theorem Qpd {P:Program} {f:Nat} {op:List (Cu × Cu)->List (Cu × Cu)->List (Cu × Cu)} (G:∀a b,(∀s∈a,QC s.1/\QC s.2)->(∀s∈b,QC s.1/\QC s.2)->(op a b).length<=2*(a.length+b.length)+1/\∀s∈op a b,QC s.1/\QC s.2)
 (h:∀a b,Sm a->Sm b->a.length+b.length<=4194304->Ok P f [Qw a,Qw b] (Qw (op a b))) {p q:Nat} (hpq:p+q<=4194304):(cLa p q).ok P f:=by
 intro μ ds h1 h2 T h4;have h1:μ.length=3:=h1
 match μ,h1,h2 with
 |[z,m,n],_,h2=>
  obtain rfl:z=0:=by simpa using h2
  obtain⟨d1,r1,rfl,⟨ra,i1,⟨v1,j1,k1⟩,t1⟩,d2,r2,rfl,⟨rb,i2,⟨v2,j2,k2⟩,t2⟩,rfl⟩:=h4;obtain rfl:m=v1:=by simpa using j1
  obtain rfl:n=v2:=by simpa using j2
  obtain⟨a,rfl,ha⟩:=N3 t1;obtain⟨b,rfl,hb⟩:=N3 t2;obtain⟨x1,V,p1,p2,O⟩:=T (1,0,(p:Int)) (by simp[cLa,cLk,cL,SU,pms]);obtain⟨Y,U,p4,p5,M⟩:=T (2,0,(q:Int)) (by simp[cLa,cLk,cL,SU,pms]);obtain rfl:m=x1:=by simpa using p1
  obtain rfl:0=V:=by simpa using p2
  obtain rfl:n=Y:=by simpa using p4
  obtain rfl:0=U:=by simpa using p5
  have O:m<=0+(p:Int):=O;have M:n<=0+(q:Int):=M;simp only[QBd]at k1 k2;obtain⟨g1,g2⟩:=G a b ha hb;refine⟨[((op a b).length:Int)],Qw (op a b),rfl, ?_,⟨_,.inl rfl,⟨_,rfl,by simp⟩,Qcn g2⟩,Ok.can ?_⟩;intro c C;have C:c∈[((0:Nat),(3:Nat),(0:Int)),(3,0,((2*(p+q)+1:Nat):Int))]:=C;simp only[QAm,QAl,or_false]at C;rcases C with rfl |rfl
  exact⟨0,_,rfl,rfl,by show(0:Int)<=((op a b).length:Int)+0;omega⟩
  exact⟨_,0,rfl,rfl,by show((op a b).length:Int)<=0+((2*(p+q)+1:Nat):Int);omega⟩
  have e:[d1,d2].map D.can=[Qw a,Qw b]:=by simp only[QAX,QBr,QeI i1,QeI i2,Qw]
  rw[e];exact h a b (Qjh ha Wa) (Qjh hb Wa) Wa
theorem QiS (ha:∀s∈a,QC s.1/\QC s.2) (hb:∀s∈b,QC s.1/\QC s.2):∀s∈a++b,QC s.1/\QC s.2:=λs C=>(QAv.1 C).elim (ha s) (hb s)
theorem QsP (ha:∀s∈a,QC s.1/\QC s.2) (hb:∀s∈b,QC s.1/\QC s.2):(CO a b).length<=2*(a.length+b.length)+1/\∀s∈CO a b,QC s.1/\QC s.2:=by
 unfold CO;split;have:=Qpx QhO QkQ (λx y=>mIn a x y&&mIn b x y) (QiS ha hb);rw[QAY]at this;exact this;exact⟨QAw _,by simp⟩
theorem Qxr:∀c∈spG 271,c.ok Tryz.prog 271:=by
 intro c G;have e:spG 271=[(1,9),(25,9)].map λp=>cLa p.1 p.2:=rfl;rw[e]at G;obtain⟨p,hp,rfl⟩:=QAy.1 G;exact Qpd (λa b ha hb=>QsP ha hb) (λa b ha hb C=>J3 ha hb C) ((by decide:∀p∈[((1:Nat),(9:Nat)),(25,9)],p.1+p.2<=4194304) p hp)
end Go.Proofs
namespace Go.Abs
open Go
variable {H:QAh} {P:Program} {d:D} {f n:Nat} {s:St} {α:Type}
def gZ:List Nat:=[500000]
def Qtq:D->Bool
 | .ref _ _ _=>true
 |_=>false
def idZ (H:QAh):Bool:=H.all λp=>okN gZ p.1&&p.2.rows.all λr=>r.all λd=>d.l4.all (okN gZ)
def Qms (zcall:Nat->List D->QAh->Option (D × QAh)) (op:a6) (dst:Option Nat) (s:St):Option St:=
 match op,dst with
 | .call f args,some t=>ob (QF s args) λds=>gd (ds.any Qtq&&s.fr.all λp=>p.2.ids.all λk=>!gZ.contains k)
   (ob (zcall f (ds.map λd=>(d.n5 (ZM gZ)).can) (Xv gZ s.H)) λq=>
    gd (q.1.ids.isEmpty&&(idZ q.2&&((s.H.all λp=>(lk (KL (unZ gZ) q.2) p.1).isSome)&&(KL (unZ gZ) q.2).all λp=>gZ.contains p.1||(lk s.H p.1).isSome))) (some ⟨(t,q.1)::s.fr,KL (unZ gZ) q.2⟩))
 |_,_=>none
theorem K9 {l:List (Nat × α)} {j:Nat} (h:(lk l j).isSome=true):∃b,(j,b)∈l:=by
 obtain⟨b,hb⟩:=QAq.1 h;exact⟨b,QZ hb⟩
section
variable {P:Program} {zcall:Nat->List D->QAh->Option (D × QAh)} {call:Nat->List D->Option D}
theorem QaD (hz:∀f ds H d H',zcall f ds H=some (d,H')->s6 P f ds H d H') {op:a6} {dst:Option Nat} {g:Option (Nat × Bool)} {s':St} {K:St->Prop} (T:gw s g=some true) (h:Qms zcall op dst s=some s') (hk:K s'):Qcq P ⟨dst,op,g⟩ K s:=by
 unfold Qms at h;split at h;rename_i f args t;obtain⟨ds,h1,h2⟩:=Qh h;obtain⟨M,Y⟩:=Q3 h2;obtain⟨⟨d,H1⟩,h5,V⟩:=Qh Y;obtain⟨G,U⟩:=Q3 V;cases U
 simp only[QAo]at M G;obtain⟨a1,a2,a3,a4⟩:=G;have O:d.ids=[]:=QBn.1 a1
 have hm:Xv gZ (KL (unZ gZ) H1)=H1:=PT (f:=ZM gZ) (g:=unZ gZ) λp hp=>by
  have:=QAu.1 a2 p hp;rw[QAo]at this;exact⟨QBC this.1,λr hr d hd k hk=>QBC (QAu.1 (QAu.1 (QAu.1 this.2 r hr) d hd) k hk)⟩
 refine⟨s,le_refl s,T,t,f,args,gZ,KL (unZ gZ) H1,d,rfl,.inl rfl,⟨ds,h1,rfl,Qqe M.2,λk hk=>by grind,λj C=>?_,λj C=>?_,by grind⟩,hk⟩;obtain⟨b,hb⟩:=K9 C
 grind
 obtain⟨b,hb⟩:=K9 C
 grind
 grind
def Dl (call:Nat->List D->Option D) (zcall:Nat->List D->QAh->Option (D × QAh)):List z1->St->Option St
 |[],s=>some s
 |⟨dst,op,g⟩::r,s=>match gw s g with
  |some true=>(match Qms zcall op dst s with
   |some s1=>Dl call zcall r s1
   |none=>ob (QcQ call false .fixed [⟨dst,op,g⟩] s) λs1=>Dl call zcall r s1)
  |_=>ob (QcQ call false .fixed [⟨dst,op,g⟩] s) λs1=>Dl call zcall r s1
theorem Hg (G:∀f ds d,call f ds=some d->Ok P f ds d) (C:∀f ds H d H',zcall f ds H=some (d,H')->s6 P f ds H d H'):∀{l:List z1} {s s':St},Dl call zcall l s=some s'->∀K:St->Prop,K s'->Yu P l K s
 |[],s,s',h,K,hk=>by simp only[Dl,QAn]at h;subst h;exact hk
 |⟨dst,op,g⟩::r,s,s',h,K,hk=>by
  have one:(ob (QcQ call false .fixed [⟨dst,op,g⟩] s) λs1=>Dl call zcall r s1)=some s'->Yu P (⟨dst,op,g⟩::r) K s:=λh=>by
   obtain⟨s1,h1,h2⟩:=Qh h;exact SB (l:=[⟨dst,op,g⟩]) (r:=r) (ZX (w:=false) G h1 (Hg G C h2 K hk)) rfl
  simp only[Dl]at h;split at h;rename_i M;split at h;rename_i s1 h1;exact Br (QaD C M h1 (Hg G C h K hk))
  grind
  grind
theorem Qea {nt:Nat} {Q:AExit->St->Prop} {l:List z1} (h:Yu P l (Q .normal) s):TW P nt (.region false l) Q s:=FE h
theorem TP {g:Gh} {c:Array Value}:∀{off:Nat} {rs:List (List D)} (n:Nat),o5 g c off rs->o5 g c off (rs.take n)
 |_,[],n,h=>by grind
 |_,_::_,0,_=>by trivial
 |off,r::rs,n+1,h=>by
  simp only[List.take_succ_cons,o5]at h ⊢;exact⟨h.1,TP n h.2⟩
theorem QiL {fr:QAi} (k n:Nat) {b:u4} (hb:lk H k=some b) (hz:b.l0≠0):St.le ⟨fr,H⟩ ⟨fr,(k,{b with rows:=b.rows.take n})::H⟩:=λE g a w r=>by
 have C:∀i,(lk ((k,{b with rows:=b.rows.take n})::H) i).isSome=(lk H i).isSome:=λi=>by
  grind [Qf]
 have get:∀i x,lk ((k,{b with rows:=b.rows.take n})::H) i=some x->∃x',lk H i=some x':=λi x h=>by
  grind [Qf]
 refine⟨g,r.nt,r.df,r.fr,λt d h i hi=>by rw[C];exact r.r9 t d h i hi,λi x h j Y=>?_,λi x h=>?_,λi i' x x' B e e' h1 h2=>?_,r.kr,r.ext,r.kx,λi hi=>let⟨U,T,O,M⟩:=r.kp i hi;⟨U,T,O,by grind⟩⟩
 rw[Qf]at h;rw[C];split at h;cases h
 refine r.v9 k _ hb j ?_;revert Y;unfold u4.ids
 grind
 exact r.v9 i x h j Y;rw[Qf]at h;split at h;rename_i e;cases h;subst e;obtain⟨U,T,O⟩:=r.bx k b hb;refine⟨λr0 G=>U r0 (QAE G),λhp r0 G=>T hp r0 (QAE G), ?_⟩;rcases O with⟨M,q5⟩ |⟨_,B,c,p1,p2,p3,p4,p5⟩
 have e:({b with rows:=b.rows.take n}:u4)=b:=by rw[M,List.take_nil,<- M]
 grind
 grind [TP]
 exact r.bx i x h;obtain⟨y,hy⟩:=get i x h1;obtain⟨y',V⟩:=get i' x' h2;exact r.inj i i' y y' B e e' hy V
def Qrf (k:Nat):D->Nat
 | .s4 j n=>if Nat.beq j k=true then n else 0
 |d=>if d.l4.contains k=true then 1000000000 else 0
def QvK (k:Nat) (d:D):Nat:=match d with
 | .agg cs=>cs.foldl (λm c=>max m (Qrf k c)) 0
 |d=>Qrf k d
def QgY (k n:Nat) (s:St):St:=
 match lk s.H k with
 |some b=>if(!Nat.beq b.l0 0&&(Nat.ble (n+1) b.rows.length&&(s.fr.all (λp=>Nat.ble (QvK k p.2) n)&&s.H.all λp=>p.2.pr||!p.2.ids.contains k)))=true then⟨s.fr,(k,{b with rows:=b.rows.take n})::s.H⟩else s
 |none=>s
theorem QgZ (k n:Nat) (s:St):s.le (QgY k n s):=by
 unfold QgY;split;rename_i b hb;split;rename_i C;simp only[QAo,QBq]at C;exact QiL k n hb λe=>by simp_all
 grind [le_refl]
 grind [le_refl]
def Qg0:QAi->St->St
 |[],s=>s
 |p::l,s=>match p.2 with
  | .s4 k n=>Qg0 l (QgY k n s)
  |_=>Qg0 l s
theorem DC:∀(l:QAi) (s:St),s.le (Qg0 l s)
 |[],s=>le_refl s
 |p::l,s=>by
  unfold Qg0;split;exact le_trans (QgZ _ _ s) (DC l _);exact DC l s
def Qob (l:List Nat) (s:St):St:=match Qhc l s with
 |s1=>Qg0 s1.fr s1
theorem Qjr (l:List Nat) (s:St):s.le (Qob l s):=le_trans (QcZ l s) (DC _ _)
def Qrw (ops:List z1) (s:St):St:=s.s8 ((ops.flatMap λo=>match o.op with
 | .call _ args=>args.flatMap λx=>Qdx (s.ev (QoI (λt=>(lk s.fr t).isSome) ops 3 x))
 |_=>[]).filter λk=>Nat.ble (k+1) 1000000)
theorem Qfd (ops:List z1) (s:St):s.le (Qrw ops s):=My _ s λk hk=>QAk (List.mem_filter.1 hk).2
def orE (a:Option α) (b:Unit->Option α):Option α:=match a with
 |some x=>some x
 |none=>b ()
def RI (call:Nat->List D->Option D) (zcall:Nat->List D->QAh->Option (D × QAh)):Nat->y5->St->Option (AExit × St)
 |0,_,_=>none
 |n+1,c,s=>match c with
  | .skip=>some (.normal,s)
  | .region dr ops=>(match dr with
   |true=>ob (orE (QcQ call false (Dr.of (J8 ops (QhB ops s)).H true) ops (J8 ops (QhB ops s))) λ_=>QcQ call false (Dr.of (J8 ops (Qrw ops s)).H true) ops (J8 ops (Qrw ops s))) λs1=>some (.normal,s1)
   |false=>ob (orE (Dl call zcall ops (J8 ops (QhB ops s))) λ_=>Dl call zcall ops (J8 ops (Qrw ops s))) λs1=>some (.normal,s1))
  | .ba ops=>ob (QcQ call true (Dr.of (J8 ops (QhB ops s)).H true) ops (J8 ops (QhB ops s))) λs1=>some (.normal,s1)
  | .seq a l b=>ob (RI call zcall n a s) λ(e,s1)=>match e with
   | .normal=>RI call zcall n b (Qob l s1)
   | .exit i=>some (.exit i,s1)
   | .ret=>some (.ret,s1)
  | .cond c a b=>ob (s.ev c) λd=>match d with
   | .bool true=>RI call zcall n a s
   | .bool false=>RI call zcall n b s
   |_=>none
  | .block id a=>ob (RI call zcall n a s) λ(e,s1)=>match e with
   | .exit i=>if i=id then some (.normal,s1)else some (.exit i,s1)
   | .normal=>some (.normal,s1)
   | .ret=>some (.ret,s1)
  | .loop a=>ob (RI call zcall n a s) λ(e,s1)=>match e with
   | .normal=>RI call zcall n (.loop a) s1
   | .exit i=>some (.exit i,s1)
   | .ret=>some (.ret,s1)
  | .scope a=>RI call zcall n a s
  | .exit id=>some (.exit id,s)
  | .ret=>some (.ret,s)
  | .n8 _ _ _ _=>none
theorem To (O:∀f ds d,call f ds=some d->Ok P f ds d) (U:∀f ds H d H',zcall f ds H=some (d,H')->s6 P f ds H d H') {nt:Nat}:∀(n:Nat),(∀{c:y5} {s s1:St} {e:AExit},RI call zcall n c s=some (e,s1)->TW P nt c (λe2 s2=>e2=e/\s2=s1) s)/\
  ∀{a:y5} {s s1:St} {e:AExit},RI call zcall n (.loop a) s=some (e,s1)->∃m,x8 P nt a e s1 m s
 |0=>⟨λh=>(by cases h),λh=>(by cases h)⟩
 |n+1=>by
  obtain⟨G,T⟩:=To O U (nt:=nt) n
  have V:∀{a:y5} {s s1:St} {e:AExit},RI call zcall (n+1) (.loop a) s=some (e,s1)->∃m,x8 P nt a e s1 m s:=by
   intro a s s1 e h;simp only[RI]at h;obtain⟨⟨e2,s2⟩,h1,h2⟩:=Qh h;dsimp only at h2;have C:=G h1;split at h2
   ·obtain⟨m,Y⟩:=T h2;exact⟨m+1,.next C (le_refl _) Y⟩
   cases h2;exact⟨0,.stop C Wc⟩
   cases h2;exact⟨0,.stop C Wc⟩
  refine⟨?_,V⟩;intro c s s1 e h;cases c with
  |skip=>simp only[RI,QAn,QBc]at h;obtain⟨rfl,rfl⟩:=h;exact Tf ⟨rfl,rfl⟩
  |region dr ops=>
   cases dr with
   |true=>
    simp only[RI]at h;obtain⟨s2,h1,h2⟩:=Qh h;cases h2
    unfold orE at h1;split at h1;rename_i C;cases h1;exact BI (le_trans (RQ ops s) (XM ops _)) (MW λK M=>ZX O C (M _ ⟨rfl,rfl⟩));exact BI (le_trans (Qfd ops s) (XM ops _)) (MW λK M=>ZX O h1 (M _ ⟨rfl,rfl⟩))
   |false=>
    simp only[RI]at h;obtain⟨s2,h1,h2⟩:=Qh h;cases h2
    unfold orE at h1;split at h1;rename_i C;cases h1;exact BI (le_trans (RQ ops s) (XM ops _)) (Qea (Hg O U C _ ⟨rfl,rfl⟩));exact BI (le_trans (Qfd ops s) (XM ops _)) (Qea (Hg O U h1 _ ⟨rfl,rfl⟩))
  |ba ops=>
   simp only[RI]at h;obtain⟨s2,h1,h2⟩:=Qh h;cases h2
   exact BI (le_trans (RQ ops s) (XM ops _)) (T5 λK M=>ZX (w:=true) O h1 (M _ ⟨rfl,rfl⟩))
  |seq a l b=>
   simp only[RI]at h;obtain⟨⟨e2,s2⟩,h1,h2⟩:=Qh h;dsimp only at h2;have C:=G h1;split at h2;exact HO (ι:=Unit) (λ_=>Qob l s2) (λ_=>True) (Zk (λ_ _ ⟨p,q⟩=>by subst p q;exact⟨(),Qjr l _,trivial⟩) C) λ_ _=>G h2
   cases h2;exact Hy (Zk (λ_ _ ⟨p,q⟩=>by subst p q;trivial) C)
   cases h2;exact Hy (Zk (λ_ _ ⟨p,q⟩=>by subst p q;trivial) C)
  |cond c a b=>
   grind [RI,Qs,QH]
  |block id a=>
   simp only[RI]at h;obtain⟨⟨e2,s2⟩,h1,h2⟩:=Qh h;dsimp only at h2;have C:=G h1;refine HN (Zk (λe3 s3 ⟨p,q⟩=>?_) C);subst p q;split at h2;split at h2
   (repeat clear M K);simp_all [YZ]
   (repeat clear M K);simp_all [YZ]
   cases h2;trivial
   cases h2;trivial
  |loop a=>obtain⟨m,h1⟩:=V h;exact h1.tw
  |scope a=>grind [RI,Ri]
  |exit id=>simp only[RI,QAn,QBc]at h;obtain⟨rfl,rfl⟩:=h;exact Rh ⟨rfl,rfl⟩
  |ret=>simp only[RI,QAn,QBc]at h;obtain⟨rfl,rfl⟩:=h;exact BY ⟨rfl,rfl⟩
  |n8 x p q a=>trivial
def QqC (s:St):XE->Option D
 | .tmp t=>ob (lk s.fr t) λp=>some (F7 small s p)
 | .cell t agg sz=>ob (lk s.fr t) λp=>ob (s.yc p) λcells=>match agg with
  |true=>gd (Nat.ble sz cells.length) (some (F7 small s (.agg (cells.take sz))))
  |false=>ob cells.head? λq=>some (F7 small s q)
theorem QaP {r:XE} (h:QqC s r=some d):XQ small s r d:=by
 cases r with
 |tmp t=>
  obtain⟨p,h1,h2⟩:=Qh h;cases h2;exact⟨p,h1,rfl⟩
 |cell t agg sz=>
  obtain⟨p,h1,h2⟩:=Qh h;obtain⟨cells,G,C⟩:=Qh h2;refine⟨p,cells,h1,HS.2 G, ?_⟩;cases agg
  grind
  obtain⟨O,M⟩:=Q3 C;simp_all
def QsU (H:QAh):List Nat:=((H.map Prod.fst).filter λk=>Nat.ble 1000000 k).eraseDups
def Qqq (H:QAh):List Nat:=((QsU H).flatMap λk=>match lk H k with
 |some b=>b.ids.filter λj=>Nat.ble (j+1) 1000000
 |none=>[]).eraseDups
def MI (s:St):St:=
 match Qqq s.H with
 |[k]=>if Nat.beq k 500000=true then s else s.n5 (Zy k 500000)
 |_=>s
theorem QmU {k:Nat} (h:k∈Qqq H):k<1000000:=by
 unfold Qqq at h;rw[List.mem_eraseDups]at h;obtain⟨j,_,h⟩:=QAr.1 h;split at h;exact QAk (List.mem_filter.1 h).2
 grind
theorem QiW (s:St):s.le (MI s):=by
 grind [MI,le_refl,K5,QmU]
def Qrs (rs:List XE) (H0:QAh) (s:St):Option (D × QAh):=
 match MI s,rs with
 |s2,[r]=>ob (QqC s2 r) λd=>match Zv (QsU s2.H++Qqq s2.H) s2.H with
  |H'=>gd (d.ids.isEmpty&&((H0.all λp=>!Nat.ble 1000000 p.1||(lk H' p.1).isSome)&&H'.all λp=>Nat.ble 500000 p.1&&p.2.ids.all λj=>(lk H' j).isSome)) (some (d,H'))
 |_,_=>none
theorem Qdo {rs:List XE} {H0 H':QAh} (h:Qrs rs H0 s=some (d,H')):∃s2,s.le s2/\(∀k,1000000<=k->(lk H0 k).isSome=true->(lk H' k).isSome=true)/\(∀k b,lk H' k=some b->500000<=k/\∀j∈b.ids,(lk H' j).isSome=true)/\∀e,(∀i,e≠.exit i)->Na rs d H' e s2:=by
 unfold Qrs at h;split at h;rename_i r;obtain⟨d1,h1,h2⟩:=Qh h;dsimp only at h2;obtain⟨M,T⟩:=Q3 h2;cases T
 simp only[QAo]at M;obtain⟨Y,V,U⟩:=M;refine⟨MI s,QiW s,λk hk O=>?_,λk b hb=>?_,λe he=>?_⟩;obtain⟨b,hb⟩:=K9 O;have:=QAu.1 V _ hb
 (repeat clear hK K);simp_all [QBE]
 have:=QAu.1 U _ (QZ hb)
 (repeat clear hK K);simp_all
 have hp:((([r]:List XE)=[]/\d=.u7 [])\/(∃C,[r]=[C]/\XQ small (MI s) C d)\/(∃C G d1 d2,[r]=[C,G]/\d=.u7 [d1,d2]/\d1.pure=true/\d2.pure=true/\XQ small (MI s) C d1/\XQ small (MI s) G d2)\/∃C G cs d2,[r]=[C,G]/\d=.w9 cs d2/\d2.pure=true/\XQ small (MI s) C (.agg cs)/\XQ small (MI s) G d2)/\∀k b,lk (Zv (QsU (MI s).H++Qqq (MI s).H) (MI s).H) k=some b->lk (MI s).H k=some b:=by
  refine⟨.inr (.inl ⟨r,rfl,QaP h1⟩),λk b hb=>?_⟩
  (repeat clear hK K);simp_all [JJ]
 cases e with
 |exit i=>grind
 |normal=>exact hp
 |ret=>exact hp
 grind
def exX (orc:Nat->List D->Option D) (tab:List (Nat × z5)):Nat->Nat->List D->QAh->Option (D × QAh)
 |0,_,_,_=>none
 |n+1,f,ds,H=>ob (lk tab f) λtf=>gd (Nat.ble ds.length tf.nt) (ob (RI (λf ds=>match orc f ds with
   |some d=>some d
   |none=>ob (exX orc tab n f ds []) λp=>some p.1) (λf ds H=>match H with
   |[]=>none
   |p::H=>exX orc tab n f ds (p::H)) n tf.body ⟨Pr 0 ds,H⟩) λq=>match q.1 with
  | .exit _=>none
  |_=>(match H with
   |[]=>ob (Qt1 q.2 tf.rs) λd=>some (d,[])
   |_=>Qrs tf.rs H q.2))
theorem Gj (hm:P.follows .mixedOrders=true) {orc:Nat->List D->Option D} (ho:∀f ds d,orc f ds=some d->Ok P f ds d) {M:List (Nat × z5)} (O:Qdb P M):∀(n:Nat) {f:Nat} {ds:List D} {H H':QAh} {d:D},exX orc M n f ds H=some (d,H')->(H=[]->Ok P f ds d)/\(H≠[]->s6 P f ds H d H')
 |0,_,_,_,_,_,h=>by cases h
 |n+1,f,ds,H,H',d,h=>by
  simp only[exX]at h;obtain⟨tf,h1,h2⟩:=Qh h;obtain⟨h3,h4⟩:=Q3 h2;obtain⟨⟨e,s⟩,h5,T⟩:=Qh h4;obtain⟨V,fn,Y,hp⟩:=O f tf h1
  have U:=(To (P:=P) (nt:=tf.nt) (λf ds d h=>by
   split at h;rename_i e;cases h;exact ho _ _ _ e;obtain⟨⟨d1,H1⟩,G,C⟩:=Qh h;cases C
   exact(Gj hm ho O n G).1 rfl) (λf ds H d H' h=>by
   cases H with
   |nil=>cases h
   |cons p H=>exact(Gj hm ho O n h).2 Wc) n).1 h5
  dsimp only at T;refine⟨λhH=>?_,λhH=>?_⟩;subst hH;refine Ok.n6 hm Y hp (QAk h3) (Zk (λe2 s2 ⟨p,q⟩=>?_) U) V;subst p q;cases e2 with
  |exit i=>grind
  |normal=>obtain⟨d1,G,C⟩:=Qh T;cases C;exact GU G
  |ret=>obtain⟨d1,G,C⟩:=Qh T;cases C;exact GU G
  have key:Qrs tf.rs H s=some (d,H')/\∀i,e≠.exit i:=by
   grind
  obtain⟨s2,G,C,q3,q4⟩:=Qdo key.1;exact s6.n6 hm Y hp (QAk h3) C q3 (D1 (Zk (λe2 s3 ⟨p,q⟩=>by grind) U)) V
end
def ctX (P:Program) (orc:Nat->List D->Option D) (fs:List Nat) (n:Nat) (c:Ct) (f:Nat):Bool:=
 (Nat.beq c.nx 1&&(Nat.beq c.mx 1&&c.rc.isEmpty))&&(match Qoy c.az with
  |some l=>(match QhF P fs with
   |tab=>l.all λds=>match exX orc tab n f ds []with
    |some p=>QrQ c.rv p.1
    |none=>false)
  |none=>false)
theorem Ct.md {orc:Nat->List D->Option D} {fs:List Nat} {c:Ct} (hm:P.follows .mixedOrders=true) (ho:∀f ds d,orc f ds=some d->Ok P f ds d) (h:ctX P orc fs n c f=true):c.ok P f:=by
 intro μ ds U T O M;simp only[ctX,QAo]at h;obtain⟨⟨h1,h2,V⟩,G⟩:=h;split at G;rename_i l e1;have C:=QAu.1 G _ (Qai e1 M);split at C;rename_i p e2;refine⟨[],p.1, ?_, ?_,Qgy C,Ok.can ((Gj hm ho (GB fs) n (H':=p.2) e2).1 rfl)⟩
 (repeat clear hK K);simp_all
 grind [QO]
 grind
 grind
theorem Ct.parts {ls:List (List UInt8)} {az:List Vl} {cs:List Cn} {rv:Vl} {m:Nat} {rc:List Cn} {gs:List (List (List UInt8))} (T:(ls.all λl=>gs.any λg=>g.contains l)=true) (h:∀g∈gs,Ct.ok P f ⟨.ty (.c g)::az,n,cs,rv,m,rc⟩):Ct.ok P f ⟨.ty (.c ls)::az,n,cs,rv,m,rc⟩:=by
 intro μ ds O M G C;obtain⟨d,r,rfl,⟨l,h1,rfl⟩,h2⟩:=C;obtain⟨g,U,V⟩:=QBs.1 (QAu.1 T l h1);exact h g U μ _ O M G ⟨_,r,rfl,⟨l,by grind,rfl⟩,h2⟩
end Go.Abs
namespace Go.Proofs
open Go Go.Abs
set_option maxRecDepth 100000
set_option maxHeartbeats 0
def rIs:List Tp:=[pB 1 1,pB 0 0,pB 0 0,pB 0 2,.c tWord]
def Qwn:List Tp:=[pB 2 2,pB 0 0,pB 0 0,pB 0 0,.c [[]]]
def shM (i:Nat):List (List Tp):=if Nat.beq i 0=true then[]else if Nat.beq i 1=true then[rIs]else[rIs,Qwn]
def fxM (i:Nat):Vl:=.fx ((shM i).map λr=>r.map Vl.ty)
def tW1 (s:List UInt8):List (List UInt8):=tKey.flatMap λk=>tWord.map λw=>k++s++w
def Qjn (i:Nat):List (List UInt8):=if Nat.beq i 0=true then[[]]else if Nat.beq i 1=true then tW1 [32,61,32]else tW1 [32,33,61,32]
def Qou (i:Nat):Ct:=c0 [pc (Qjn i)] (.uu [.aa [fxM i],QaZ])
def Qdi (i:Nat):Ct:=c0 [.v (.aa [fxM i])] tb
def Qov (i:Nat):Ct:=c0 [.v (.aa [fxM i])] (ty (.s 300))
def fsW:List Nat:=[220,246,247,261,262,263,264,265,273,274,275,283,284,285,291,197,95,135,136,255]
def gW:Nat->List Ct:=λf=>if Nat.beq f 220=true then[Qou 0,Qou 1,Qou 2]else if Nat.beq f 247=true then[Qdi 0,Qdi 1,Qdi 2]else if Nat.beq f 255=true then[Qov 0,Qov 1,Qov 2]else[]
def an0:An:=Zr [] 14
def Qh2 (i:Nat):Ct:=c0 [pc (Qjn i)] tb
def Qh1 (i:Nat):Ct:=c0 [pc (Qjn i),.s GS] tb
def spW:List Sp:=[⟨184,Qh1 0,an0,[],none⟩,⟨184,Qh1 1,an0,[],none⟩,⟨184,Qh1 2,an0,[],none⟩,⟨232,Qh2 0,an0,[],none⟩,⟨232,Qh2 1,an0,[],none⟩,⟨232,Qh2 2,an0,[],none⟩,
 ⟨221,c0 [.v (.aa [fxM 0]),.s GS] (ty (pB 0 2)),an0,[],none⟩,⟨221,c0 [.v (.aa [fxM 1]),.s GS] (ty (pB 0 2)),an0,[],none⟩,⟨221,c0 [.v (.aa [fxM 2]),.s GS] (ty (pB 0 2)),an0,[],none⟩,
 ⟨248,c0 [.v (.aa [fxM 1]),.s GS] (.ll [pB 0 2] 0 1),an0,[],none⟩,⟨248,c0 [.v (.aa [fxM 2]),.s GS] (.ll [pB 0 2] 0 2),an0,[],none⟩,
 ⟨266,c0 [.s rIs,.l [pB 0 2] 2,.s GS] (ty (pB 0 2)),an0,[],none⟩,⟨266,c0 [.s Qwn,.e [pB 0 2] 1,.s GS] (ty (pB 0 2)),an0,[],none⟩,
 ⟨64,c0 [.s GS] tb,an0,[],none⟩,⟨95,c0 [.t 100000] tb,Zr [QlO 0 3 0 1 0] 14,[],none⟩,⟨136,c0 [.v (ty (.i .u8 0 255))] tb,an0,[],none⟩,⟨135,c0 [.v (ty (.i .u8 0 255))] tb,an0,[],none⟩]
theorem QqU:YW Tryz.prog gW noZ spW=true:=by decide+kernel
theorem Qxx:ctX Tryz.prog (λ_ _=>none) fsW 60 (Qou 0) 220=true:=by decide+kernel
theorem Qxu:ctX Tryz.prog (λ_ _=>none) fsW 60 (Qdi 0) 247=true:=by decide+kernel
theorem QxA:ctX Tryz.prog (λ_ _=>none) fsW 60 (Qov 0) 255=true:=by decide+kernel
theorem Qxy:ctX Tryz.prog (λ_ _=>none) fsW 60 (Qou 1) 220=true:=by decide+kernel
theorem Qxv:ctX Tryz.prog (λ_ _=>none) fsW 60 (Qdi 1) 247=true:=by decide+kernel
theorem QxB:ctX Tryz.prog (λ_ _=>none) fsW 60 (Qov 1) 255=true:=by decide+kernel
theorem Qxz:ctX Tryz.prog (λ_ _=>none) fsW 60 (Qou 2) 220=true:=by decide+kernel
theorem Qxw:ctX Tryz.prog (λ_ _=>none) fsW 60 (Qdi 2) 247=true:=by decide+kernel
theorem QxC:ctX Tryz.prog (λ_ _=>none) fsW 60 (Qov 2) 255=true:=by decide+kernel
theorem Qtm (hm:Tryz.prog.follows .mixedOrders=true):∀f,∀c∈gW f,c.ok Tryz.prog f:=λf c C=>by
 unfold gW at C;split at C;rename_i e;have e:=QBC e;subst e;simp only[QAm,QAl,or_false]at C;rcases C with rfl |rfl |rfl
 exact Ct.md hm (λ_ _ _ h=>by cases h) Qxx;exact Ct.md hm (λ_ _ _ h=>by cases h) Qxy;exact Ct.md hm (λ_ _ _ h=>by cases h) Qxz;split at C;rename_i e;have e:=QBC e;subst e;simp only[QAm,QAl,or_false]at C;rcases C with rfl |rfl |rfl
 exact Ct.md hm (λ_ _ _ h=>by cases h) Qxu;exact Ct.md hm (λ_ _ _ h=>by cases h) Qxv;exact Ct.md hm (λ_ _ _ h=>by cases h) Qxw;split at C;rename_i e;have e:=QBC e;subst e;simp only[QAm,QAl,or_false]at C;rcases C with rfl |rfl |rfl
 exact Ct.md hm (λ_ _ _ h=>by cases h) QxA;exact Ct.md hm (λ_ _ _ h=>by cases h) QxB;exact Ct.md hm (λ_ _ _ h=>by cases h) QxC;cases C
theorem Qwx (hm:Tryz.prog.follows .mixedOrders=true):∀f,∀c∈tbS gW spW f,c.ok Tryz.prog f:=(Qg4 hm (Qtm hm) (gz:=noZ) (λ_ _ h=>by cases h) QqU).1
theorem Qwh {α:Type} {a b c:α} {p:α->Prop} (ha:p a) (hb:p b) (C:p c):∀x∈[a,b,c],p x:=λx hx=>by
 simp only[QAm,QAl,or_false]at hx;rcases hx with rfl |rfl |rfl<;>assumption
theorem QpH (hm:Tryz.prog.follows .mixedOrders=true):∀c∈spG 232,c.ok Tryz.prog 232:=λc C=>by
 have e:spG 232=[c0 [pc MS] tb]:=by rfl
 rw[e,QAt]at C;subst C;have w:tbS gW spW 232=[Qh2 0,Qh2 1,Qh2 2]:=by rfl
 have h:=λc C=>Qwx hm 232 c (by rw[w];exact C)
 exact Ct.parts (gs:=[Qjn 0,Qjn 1,Qjn 2]) (by decide+kernel) (Qwh (h (Qh2 0) Wc) (h (Qh2 1) Wc) (h (Qh2 2) Wc))
theorem gOn (hm:Tryz.prog.follows .mixedOrders=true):∀c∈spG 184,c.ok Tryz.prog 184:=λc C=>by
 have e:spG 184=[c0 [pc MS,.s GS] tb]:=by rfl
 rw[e,QAt]at C;subst C;have w:tbS gW spW 184=[Qh1 0,Qh1 1,Qh1 2]:=by rfl
 have h:=λc C=>Qwx hm 184 c (by rw[w];exact C)
 exact Ct.parts (gs:=[Qjn 0,Qjn 1,Qjn 2]) (by decide+kernel) (Qwh (h (Qh1 0) Wc) (h (Qh1 1) Wc) (h (Qh1 2) Wc))
def fsR:List Nat:=[175,123,128,136,161,162,166,167,168,169,197,198,199,200,202,211,212,230,237,238,239,240,241,242,257,258,259,272]
def BM (i:Nat):List (List UInt8):=(tRange.drop (4*i)).take 4
theorem QxM:ctX Tryz.prog (λ_ _=>none) fsR 200 (c0 [pc (BM 0)] tb) 175=true:=by decide+kernel
theorem QxN:ctX Tryz.prog (λ_ _=>none) fsR 200 (c0 [pc (BM 1)] tb) 175=true:=by decide+kernel
theorem QxO:ctX Tryz.prog (λ_ _=>none) fsR 200 (c0 [pc (BM 2)] tb) 175=true:=by decide+kernel
theorem QxP:ctX Tryz.prog (λ_ _=>none) fsR 200 (c0 [pc (BM 3)] tb) 175=true:=by decide+kernel
theorem QxQ:ctX Tryz.prog (λ_ _=>none) fsR 200 (c0 [pc (BM 4)] tb) 175=true:=by decide+kernel
theorem QxR:ctX Tryz.prog (λ_ _=>none) fsR 200 (c0 [pc (BM 5)] tb) 175=true:=by decide+kernel
theorem QxS:ctX Tryz.prog (λ_ _=>none) fsR 200 (c0 [pc (BM 6)] tb) 175=true:=by decide+kernel
theorem QxT:ctX Tryz.prog (λ_ _=>none) fsR 200 (c0 [pc (BM 7)] tb) 175=true:=by decide+kernel
theorem Qxs (hm:Tryz.prog.follows .mixedOrders=true):∀c∈spG 175,c.ok Tryz.prog 175:=λc G=>by
 have e:spG 175=[c0 [pc tRange] tb]:=rfl;rw[e,QAt]at G;subst G;refine Ct.parts (gs:=[BM 0,BM 1,BM 2,BM 3,BM 4,BM 5,BM 6,BM 7]) (by decide+kernel) λg C=>?_;simp only[QAm,QAl,or_false]at C;rcases C with rfl |rfl |rfl |rfl |rfl |rfl |rfl |rfl
 exact Ct.md hm (λ_ _ _ h=>by cases h) QxM;exact Ct.md hm (λ_ _ _ h=>by cases h) QxN;exact Ct.md hm (λ_ _ _ h=>by cases h) QxO;exact Ct.md hm (λ_ _ _ h=>by cases h) QxP;exact Ct.md hm (λ_ _ _ h=>by cases h) QxQ;exact Ct.md hm (λ_ _ _ h=>by cases h) QxR;exact Ct.md hm (λ_ _ _ h=>by cases h) QxS;exact Ct.md hm (λ_ _ _ h=>by cases h) QxT
open M3 M25
set_option maxHeartbeats 1000000
variable {l:List (Cu × Cu)}
def smL (l:List (Cu × Cu)):Bool:=Nat.ble l.length 1000&&l.all λs=>Nat.ble s.1.p.length 1000&&(Nat.ble s.1.q.length 1000&&(Nat.ble s.2.p.length 1000&&Nat.ble s.2.q.length 1000))
theorem QcU (h:smL l=true):Sm l/\l.length<=1000:=by
 simp only[smL,QAo,Nat.ble_eq,QAu]at h;refine⟨⟨Wa,λs C=>?_⟩,h.1⟩;have:=h.2 s C;exact⟨⟨Wa,Wa⟩,Wa,Wa⟩
def spL (a:List (List D)):Option (List (Cu × Cu)):=match BC a with
 |some l=>if smL l=true then some l else none
 |none=>none
theorem TR {a:List (List D)} (h:spL a=some l):a=l.map JT/\Sm l/\l.length<=1000:=by
 unfold spL at h;split at h;rename_i l2 e;split at h;rename_i h2;cases h;exact⟨N8 e,QcU h2⟩;cases h
 cases h
def orS (f:Nat) (ds:List D):Option D:=match ds with
 |[.sl a]=>if Nat.beq f 288=true then(match spL a with
   |some x=>some (Qw (QdA x))
   |none=>none)else if Nat.beq f 286=true then(match spL a with
   |some x=>some (.u7 [Qw (QaG x),.bool (x.all Gt)])
   |none=>none)else none
 |[.sl a,.sl b]=>if Nat.beq f 271=true then(match spL a,spL b with
   |some x,some y=>some (Qw (CO x y))
   |_,_=>none)else if Nat.beq f 276=true then(match spL a,spL b with
   |some x,some y=>some (Qw (Qp0 x y))
   |_,_=>none)else none
 |_=>none
theorem Qqp (f:Nat) (ds:List D) (d:D) (h:orS f ds=some d):Ok Tryz.prog f ds d:=by
 unfold orS at h;split at h;split at h;rename_i e;have e:=QBC e;subst e;split at h;rename_i x ex;cases h;obtain⟨rfl,h1,_⟩:=TR ex;exact Nk h1;cases h
 split at h;rename_i e;have e:=QBC e;subst e;split at h;rename_i x ex;cases h;obtain⟨rfl,h1,_⟩:=TR ex;exact JA h1;cases h
 cases h
 split at h;rename_i e;have e:=QBC e;subst e;split at h;rename_i x y ex C;cases h;obtain⟨rfl,h1,g1⟩:=TR ex;obtain⟨rfl,h2,g2⟩:=TR C;exact J3 h1 h2 Wa;cases h
 split at h;rename_i e;have e:=QBC e;subst e;split at h;rename_i x y ex C;cases h;obtain⟨rfl,h1,g1⟩:=TR ex;obtain⟨rfl,h2,g2⟩:=TR C;exact Mn h1 h2 Wa;cases h
 cases h
 cases h
def fsS:List Nat:=[222,47,78,108,109,110,116,122,123,128,136,147,155,159,160,161,162,166,167,168,169,189,190,194,195,196,197,198,199,200,202,211,213,214,215,216,217,227,229,230,237,238,239,240,241,242,243,244,249,253,257,258,259,260,267,268,272,277,278,279,287,289,292,293]
def QpO (n:Int):Bool:=decide (-9223372036854775808<=n)&&decide (n<=9223372036854775807)
def cuB (c:Cu):Bool:=(decide (-1<=c.e)&&decide (c.e<=1))&&(QpO c.a&&(QpO c.b&&QpO c.c))
def QqV (l:List (Cu × Cu)):Bool:=l.all λs=>cuB s.1&&cuB s.2
def QrS (k:Nat) (a:List (List D)):Bool:=match BC a with
 |some x=>spB k x&&QqV x
 |none=>false
def ofB (P:Program) (t:List UInt8):Bool:=match exX orS (QhF P fsS) 200 222 [.str t] []with
 |some (.u7 [.agg [.sl a,.sl b],.int .i64 e],_)=>(decide (0<=e)&&decide (e<=40))&&(QrS 0 a&&QrS 1 b)
 |_=>false
end Go.Proofs
namespace Go.Proofs
open Go Go.Abs
set_option maxRecDepth 100000
set_option maxHeartbeats 0
theorem QxK:ofB Tryz.prog [42]=true:=by decide+kernel
theorem QtB:((tVer.take 3).map λv=>[94]++v).all (ofB Tryz.prog)=true:=by decide+kernel
theorem QtC:((tVer.drop 3).map λv=>[94]++v).all (ofB Tryz.prog)=true:=by decide+kernel
theorem QtD:((tVer.take 3).map λv=>[62,61]++v).all (ofB Tryz.prog)=true:=by decide+kernel
theorem QtE:((tVer.drop 3).map λv=>[62,61]++v).all (ofB Tryz.prog)=true:=by decide+kernel
theorem QtF:((tVer.take 3).map λv=>[60]++v).all (ofB Tryz.prog)=true:=by decide+kernel
theorem QtG:((tVer.drop 3).map λv=>[60]++v).all (ofB Tryz.prog)=true:=by decide+kernel
theorem QtH:((tVer.take 3).map λv=>[61]++v).all (ofB Tryz.prog)=true:=by decide+kernel
theorem QtI:((tVer.drop 3).map λv=>[61]++v).all (ofB Tryz.prog)=true:=by decide+kernel
theorem QtJ:((tVer.take 2).map λv=>[33,61]++v).all (ofB Tryz.prog)=true:=by decide+kernel
theorem QtK:(((tVer.drop 2).take 2).map λv=>[33,61]++v).all (ofB Tryz.prog)=true:=by decide+kernel
theorem QtL:((tVer.drop 4).map λv=>[33,61]++v).all (ofB Tryz.prog)=true:=by decide+kernel
open M3 M25
set_option maxHeartbeats 1000000
theorem P0 {o:List UInt8} {p:List UInt8->Bool} (h1:((tVer.take 3).map λv=>o++v).all p=true) (h2:((tVer.drop 3).map λv=>o++v).all p=true):∀v∈tVer,p (o++v)=true:=λv C=>by
 rw[<- QAT 3 tVer]at C;rcases QAv.1 C with C |C
 exact QAu.1 h1 _ (QAy.2 ⟨v,C,rfl⟩);exact QAu.1 h2 _ (QAy.2 ⟨v,C,rfl⟩)
theorem Qqg:∀t∈tRange,ofB Tryz.prog t=true:=λt G=>by
 rcases QAm.1 G with rfl |G;exact QxK;obtain⟨o,ho,G⟩:=QAr.1 G
 obtain⟨v,C,rfl⟩:=QAy.1 G;simp only[tOp,QAm,QAl,or_false]at ho;rcases ho with rfl |rfl |rfl |rfl |rfl
 exact P0 QtB QtC v C;exact P0 QtD QtE v C;exact P0 QtF QtG v C;exact P0 QtH QtI v C;have e:tVer=tVer.take 2++((tVer.drop 2).take 2++tVer.drop 4):=rfl;rw[e]at C;rcases QAv.1 C with C |C
 exact QAu.1 QtJ _ (QAy.2 ⟨v,C,rfl⟩);rcases QAv.1 C with C |C
 exact QAu.1 QtK _ (QAy.2 ⟨v,C,rfl⟩);exact QAu.1 QtL _ (QAy.2 ⟨v,C,rfl⟩)
structure Qwz (s:Je):Prop where
 h1:spB 0 s.1=true
 h2:spB 1 s.2=true
 g1:QqV s.1=true
 g2:QqV s.2=true
theorem QgP {k:Nat} {a:List (List D)} (h:QrS k a=true):∃l,a=l.map JT/\spB k l=true/\QqV l=true:=by
 unfold QrS at h;split at h;rename_i x e;simp only[QAo]at h;exact⟨x,N8 e,h.1,h.2⟩;cases h
theorem Qqi (hm:Tryz.prog.follows .mixedOrders=true) {t:List UInt8} (T:t∈tRange):∃s:Je,∃e:Int,(0<=e/\e<=40)/\Qwz s/\Ok Tryz.prog 222 [.str t] (.u7 [.agg [Qw s.1,Qw s.2],.int .i64 e]):=by
 have h:=Qqg t T;unfold ofB at h;split at h;rename_i a b e H q;simp only[QAo,decide_eq_true_eq]at h;obtain⟨h1,h2,U⟩:=h;obtain⟨x,rfl,O,M⟩:=QgP h2;obtain⟨y,rfl,G,C⟩:=QgP U;exact⟨(x,y),e,h1,⟨O,G,M,C⟩,(Gj hm Qqp (GB fsS) 200 q).1 rfl⟩;cases h
end Go.Proofs
namespace Go.Proofs
open Go Go.Abs
set_option maxRecDepth 100000
set_option maxHeartbeats 0
set_option cbv.maxSteps 100000000
def t92:TT false Tryz.f92:=⟨_,by cbv⟩
def tf92:z5:=t92.1
theorem Qz8:Qj Tryz.prog Tryz.f92=some tf92.erase:=by kernel_rfl
def t93:TT false Tryz.f93:=⟨_,by cbv⟩
def tf93:z5:=t93.1
theorem Qz9:Qj Tryz.prog Tryz.f93=some tf93.erase:=by kernel_rfl
def t94:TT false Tryz.f94:=⟨_,by cbv⟩
def tf94:z5:=t94.1
theorem QAa:Qj Tryz.prog Tryz.f94=some tf94.erase:=by kernel_rfl
def Qyh:TT false Tryz.f130:=⟨_,by cbv⟩
def tf130:z5:=Qyh.1
theorem Qux:Qj Tryz.prog Tryz.f130=some tf130.erase:=by kernel_rfl
def Qyk:TT false Tryz.f138:=⟨_,by cbv⟩
def tf138:z5:=Qyk.1
theorem Quz:Qj Tryz.prog Tryz.f138=some tf138.erase:=by kernel_rfl
def Qyl:TT false Tryz.f139:=⟨_,by cbv⟩
def tf139:z5:=Qyl.1
theorem QuA:Qj Tryz.prog Tryz.f139=some tf139.erase:=by kernel_rfl
def QyG:TT false Tryz.f172:=⟨_,by cbv⟩
def tf172:z5:=QyG.1
theorem QuU:Qj Tryz.prog Tryz.f172=some tf172.erase:=by kernel_rfl
def QyH:TT false Tryz.f176:=⟨_,by cbv⟩
def tf176:z5:=QyH.1
theorem QuV:Qj Tryz.prog Tryz.f176=some tf176.erase:=by kernel_rfl
def QyI:TT false Tryz.f177:=⟨_,by cbv⟩
def tf177:z5:=QyI.1
theorem QuW:Qj Tryz.prog Tryz.f177=some tf177.erase:=by kernel_rfl
open M3 M25
set_option maxRecDepth 4000
set_option maxHeartbeats 1000000
variable {k:Za} {l:List Za} {p:Prop}
theorem Fb {a b:Za}:Ok Tryz.prog 176 [.agg (Ht a),.agg (Ht b)] (.bool (K6 a b)):=by
 refine Ok.n6 tfol Tryz.func176 QuV (QAk Z) ?_;show TW _ _ tf176.body _ _;refine aX ?_ ?_;intro h1
 (repeat clear hK K);simp_all [K6]
 intro h1;refine aB ?_ ?_;intro h2
 (repeat clear hK K);simp_all [K6]
 intro h2
 (repeat clear hK K);simp_all [K6]
theorem XI (G:l.length<=1000000):Ok Tryz.prog 177 [XK l,.agg (Ht k)] (.int .i64 (plA l k)):=by
 refine Ok.n6 tfol Tryz.func177 QuW (QAk Z) ?_;show TW _ _ tf177.body _ _;refine aS ?_;refine Qt (ι:=Nat) (λi=>⟨[(0,XK l),(3,.ref 3 0 0),(5,.int .i64 i)],[(3,⟨[Ht k],2,170,true⟩)]⟩) (λi=>i<=l.length/\plA l k=plP (λx=>decide (x=k)) (l.drop i) i) (λi=>l.length - i) 0 ?_ ?_ ?_;exact Ql (l:=[0,3,5]) (lH:=[3]) (kp3 Z Z Z) (Qa Z Qb) Z Z Z;exact⟨QAw _,rfl⟩;intro i C
 try dsimp only
 refine aB ?_ ?_;intro h1;refine JY Z Z K1 (aB ?_ ?_);intro h2;rw[show plA l k=_ from Da Wa (by simpa using h2) C.2];intro h2;refine Qc (i+1) ?_ ?_ ?_;exact Ql (l:=[0,3,5]) (lH:=[3]) (kp3 Z Z Z) (Qa Z Qb) Z Z Z;exact⟨Wa,NQ Wa (by simpa using h2) C.2⟩
 first |omega |(simp only;omega) |(dsimp only;omega)
 intro h1;rw[show plA l k=_ from P4 Wa C.2]
theorem _root_.Wh (h:p:=by first |exact .inl (by omega) |exact .inr ⟨by omega,by assumption,by assumption⟩):p:=h
theorem Jx (T:l.length<=1000000):Ok Tryz.prog 138 [XK l,.agg (Ht k)] (XK (HK l k)):=by
 refine Ok.n6 tfol Tryz.func138 Quz (QAk Z) ?_;show TW _ _ tf138.body _ _;refine aS ?_;refine Qt (ι:=Nat) (λi=>⟨[(0,XK l),(3,.ref 3 0 0),(5,.int .i64 i)],[(3,⟨[Ht k],2,170,true⟩)]⟩) (λi=>i<=l.length/\HK l k=l.take i++HK (l.drop i) k) (λi=>l.length - i) 0 ?_ ?_ ?_;exact Ql (l:=[0,3,5]) (lH:=[3]) (kp3 Z Z Z) (Qa Z Qb) Z Z Z;exact⟨QAw _,by simp⟩;intro i C
 try dsimp only
 refine aB ?_ ?_;intro h1;refine Qr (ds0:=[0]) (Fb) Z Z (.inr Z) Z Z (aB ?_ ?_);intro h2;refine Qc (i+1) ?_ ?_ ?_;exact Ql (l:=[0,3,5]) (lH:=[3]) (kp3 Z Z Z) (Qa Z Qb) Z Z Z;exact⟨Wa,Qgs Wa h2 C.2⟩
 first |omega |(simp only;omega) |(dsimp only;omega)
 intro h2;refine aB ?_ ?_;intro M;refine JY Z Z K1 (aB ?_ ?_);intro O;refine QM Z ?_;rw[Qgr (k:=i) Wa (by assumption) (by assumption) C.2];rfl;intro O;refine XT Z Z Z Z Wa Wa Wd Bm Z (Md (ds0:=[5,1,0]) Z Z (λ_ h=>⟨QcK,h⟩) Z (.inl Z) Wc Wd Wd Z Z (aK ?_));refine Qn Z Z (YK (ds0:=[1,0]) Z Z Wf ⟨_,rfl,rfl,rfl,rfl,rfl⟩ Z Z Wc Z Z Wd Wd Z Z (aK ?_));refine XT Z Z Z Z Wa Wd Wc Bm Z (YK (ds0:=[0]) Z Z Wf ⟨rfl,QcK,rfl⟩ Z Z Wc Z Z Wd Wd Z Z (aK ?_));refine QM Z ?_;rw[QcA (k:=i) Wh C.2];simp[XS,D.fz,D.n7,JS,lk,D.can,D.z6,XK,D.l4,(show∀a b:Nat,a+1+b=a+(b+1) fromλa b=>Wa),QAA (show(l.map Ht).length<=l.length by simp)]<;>rfl;intro M;exact absurd h1 M;intro h1;refine QH Z (aB ?_ ?_);intro G;exact absurd G h1;intro G;refine QH Z (aK ?_);refine XT Z Z Z Z Wa Wa Wd Bm Z (Md (ds0:=[5,1,0]) Z Z (λ_ h=>⟨QcK,h⟩) Z (.inl Z) Wc Wd Wd Z Z (aK ?_));refine Qn Z Z (YK (ds0:=[1,0]) Z Z Wf ⟨_,rfl,rfl,rfl,rfl,rfl⟩ Z Z Wc Z Z Wd Wd Z Z (aK ?_));refine XT Z Z Z Z Wa Wd Wc Bm Z (YK (ds0:=[0]) Z Z Wf ⟨rfl,QcK,rfl⟩ Z Z Wc Z Z Wd Wd Z Z (aK ?_));refine QM Z ?_;rw[QcA (k:=i) Wh C.2];simp[XS,D.fz,D.n7,JS,lk,D.can,D.z6,XK,D.l4,(show∀a b:Nat,a+1+b=a+(b+1) fromλa b=>Wa),QAA (show(l.map Ht).length<=l.length by simp)]<;>rfl
theorem _root_.Wk (h:p:=by first |(simp;done) |(simp;omega)):p:=h
theorem Yr {all:List Za} (M:all.length<=1000000) {rs:List (List AskT)} (hr:rs.length<=1000000) (C:∀r∈rs,r.length<=1000000):Ok Tryz.prog 139 [XK all,ZL rs] (Xm (Ta all rs)):=by
 refine Ok.n6 tfol Tryz.func139 QuA (QAk Z) ?_;show TW _ _ tf139.body _ _;refine aS ?_;refine Qt (ι:=Nat) (λi=>⟨[(0,XK all),(5,.s4 5 i),(11,ZL rs),(12,.int .i64 rs.length),(13,.int .i64 i)],[(5,⟨(rs.take i).map λr=>[ZR (r.map (QjA all))],1,68,true⟩)]⟩) (λi=>i<=rs.length) (λi=>rs.length - i) 0 ?_ ?_ ?_;exact le_trans (Q8 5 5 1 68 Z Z) (Ql (l:=[0,5,11,12,13]) (lH:=[5]) (kp5 Z Z Z Z Z) (Qa Z Qb) Z Z Z);exact QAw _;intro i O
 try dsimp only
 refine aB ?_ ?_;intro h1;have G:=C _ (QAp (Wa:i<rs.length));refine Qt (ι:=Nat) (λj=>⟨[(0,XK all),(5,.s4 5 i),(8,.s4 8 j),(11,ZL rs),(12,.int .i64 rs.length),(13,.int .i64 i),(17,Mu (rs[i]'Wa)),(18,.int .i64 ((rs[i]'Wa).length:Nat)),(19,.int .i64 j)],[(5,⟨(rs.take i).map λr=>[ZR (r.map (QjA all))],1,68,true⟩),(8,⟨(((rs[i]'Wa).take j).map (QjA all)).map Fo,3,82,true⟩)]⟩) (λj=>j<=(rs[i]'Wa).length) (λj=>(rs[i]'Wa).length - j) 0 ?_ ?_ ?_;exact le_trans (Q8 8 8 3 82 Z Z) (Ql (l:=[0,5,8,11,12,13,17,18,19]) (lH:=[5,8]) (kp9 Z Z Z Z Z Z Z Z Z) (Qa Z (Qa Z Qb)) Z Z Z);exact QAw _;intro j O
 try dsimp only
 refine aV ?_ ?_;intro h2;refine aK ?_;refine Qr (ds0:=dn 4) (XI (k:=((rs[i]'Wa)[j]'Wa).k) M) Z Z (.inr Z) Z Z (aK ?_);refine Qn Z Z (YK (ds0:=[0]) Z Z Wf ⟨_,rfl,rfl,rfl,rfl,rfl⟩ Z Z Wd Z Z Wd Wd Z Z (aK ?_));refine Qc (j+1) ?_ ?_ ?_;exact le_trans (MD (l:=[0,5,11,12,13,17,18,19]) (lH:=[5]) 32 8 8 (kp8 Z Z Z Z Z Z Z Z) (Qa Z Qb) Z Z Z Z Z Z Z) (Ql (l:=[0,5,8,11,12,13,17,18,19]) (lH:=[5,8]) (kp9 Z Z Z Z Z Z Z Z Z) (Qa Z (Qa Z Qb)) Z (by rw[QBv (Wa:j<(rs[i]'Wa).length),QBi,QBi];rfl) Z)
 omega
 first |omega |(simp only;omega) |(dsimp only;omega)
 intro h2;refine Rh (N2 (GV (Nc (ks6 Z Z Z Z Z Z (BI (Qb2 (l:=[0,5,11,12,13]) (lH:=[5]) 8 8 (kp5 Z Z Z Z Z) (Qa Z Qb) Z Z Z Wk Z Z Z Z) ?_)))));refine aK ?_;refine Qn Z Z (Zu Z Z (λ_ h=>ZN Z Z Z h) Z Wd Z Z Z Wd Wd (aK ?_));refine Qc (i+1) ?_ ?_ ?_;exact Ql (l:=[0,5,11,12,13]) (lH:=[5]) (kp5 Z Z Z Z Z) (Qa Z Qb) Z (by rw[QBv (Wa:i<rs.length),QBi,QAA (Wa:(rs[i]'Wa).length<=j)];rfl) Z
 omega
 first |omega |(simp only;omega) |(dsimp only;omega)
 intro h1;exact Xb Z Z Z Wd (by rw[QAA (Wa:rs.length<=i)];simp[Xm,Ta])
variable {n:List UInt8} {v:Vr}
structure Qla:Prop where
 lg:∀rows:List (List D),rows.length<=2->(∀r∈rows,Tp.u3 S7 r)->∃e n,Ok Tryz.prog 62 [.sl rows] (.u7 [.int .i64 e,.int .i64 n])
 ph:∀n:List UInt8,n.length<=100->∃b,Ok Tryz.prog 134 [.str n] (.bool b)
 kh:∀r:List D,Tp.u3 X1 r->∃s e,(0<=s/\s<=18446744073709551615)/\Ok Tryz.prog 129 [.agg r] (.u7 [.int .u64 s,.int .i64 e])
 qg:∀ps:List QhM,ps.length<=4->(∀p∈ps,Tp.u3 BL (QeR p))->∃b,Ok Tryz.prog 269 [RF ps] (.bool b)
 oh:∀a b c:List UInt8,Tp.u3 GS [.str a,.str b,.str c]->∃t,Ok Tryz.prog 64 [.agg [.str a,.str b,.str c]] (.bool t)
 sg:∀rows:List (List D),rows.length<=2->(∀r∈rows,Tp.u3 S7 r)->∃(ps:List QhM) (e:Int),ps.length<=4/\(∀p∈ps,Tp.u3 BL (QeR p))/\Ok Tryz.prog 65 [.sl rows] (.u7 [RF ps,.int .i64 e])
 jg:∀rows:List (List D),rows.length<=2->(∀r∈rows,Tp.u3 XP r)->∃b,Ok Tryz.prog 63 [.sl rows] (.bool b)
 ng:∀rows:List (List D),rows.length<=2->(∀r∈rows,Tp.u3 S7 r)->∀n:List UInt8,n.length<=100->∃s:Je,∃e,(Sm s.1/\Sm s.2)/\Ok Tryz.prog 225 [.sl rows,.str n] (.u7 [.agg [Qw s.1,Qw s.2],.int .i64 e])
structure Qrl (s:ShR):Prop where
 n:s.n.length<=100
 l:s.es.length<=100
 t:∀e∈s.es,Tp.u3 X1 (JC e.r)
 v:∀e∈s.es,fb e.r.v
theorem H6 {l:List Qhu} (G:l.length<=1000):Ok Tryz.prog 92 [Nu l,.str n] (.int .i64 (plP (nmM n) l 0)):=by
 refine Ok.n6 tfol Tryz.func92 Qz8 (QAk Z) ?_;show TW _ _ tf92.body _ _;refine aS ?_;refine Qt (ι:=Nat) (λi=>⟨[(0,Nu l),(1,.str n),(5,.int .i64 i)],[]⟩) (λi=>i<=l.length/\plP (nmM n) l 0=plP (nmM n) (l.drop i) i) (λi=>l.length - i) 0 ?_ ?_ ?_;exact QB (kp3 Z Z Z);exact⟨QAw _,rfl⟩;intro i C
 try dsimp only
 refine aB ?_ ?_;intro h1;refine aB ?_ ?_;intro h2;rw[Da Wa (by exact decide_eq_true h2) C.2];intro h2;refine Qc (i+1) ?_ ?_ ?_;exact QB (kp3 Z Z Z);exact⟨Wa,NQ Wa (by exact decide_eq_false h2) C.2⟩
 first |omega |(simp only;omega) |(dsimp only;omega)
 intro h1;rw[P4 Wa C.2]
theorem XH {l:List ShR} (G:l.length<=1000):Ok Tryz.prog 94 [Cm l,.str n] (.int .i64 (plP (nmS n) l 0)):=by
 refine Ok.n6 tfol Tryz.func94 QAa (QAk Z) ?_;show TW _ _ tf94.body _ _;refine aS ?_;refine Qt (ι:=Nat) (λi=>⟨[(0,Cm l),(1,.str n),(5,.int .i64 i)],[]⟩) (λi=>i<=l.length/\plP (nmS n) l 0=plP (nmS n) (l.drop i) i) (λi=>l.length - i) 0 ?_ ?_ ?_;exact QB (kp3 Z Z Z);exact⟨QAw _,rfl⟩;intro i C
 try dsimp only
 refine aB ?_ ?_;intro h1;refine aB ?_ ?_;intro h2;rw[Da Wa (by exact decide_eq_true h2) C.2];intro h2;refine Qc (i+1) ?_ ?_ ?_;exact QB (kp3 Z Z Z);exact⟨Wa,NQ Wa (by exact decide_eq_false h2) C.2⟩
 first |omega |(simp only;omega) |(dsimp only;omega)
 intro h1;rw[P4 Wa C.2]
theorem FM {u:Vr} (C:fb v) (hu:fb u):Ok Tryz.prog 172 [.agg (dV5 v),.agg (dV5 u)] (.bool (QoG v u)):=by
 refine Ok.n6 tfol Tryz.func172 QuU (QAk Z) ?_;show TW _ _ tf172.body _ _;refine aS ?_;refine Qg (Qv (C.sm).1 (C.sm).2) Z Z (.inr Z) (aB ?_ ?_);intro h1;refine Qg (Qv (hu.sm).1 (hu.sm).2) Z Z (.inr Z) (aB ?_ ?_);intro h2;refine Qg (Zf (C.sm).1 (C.sm).2 (hu.sm).1 (hu.sm).2) Z Z (.inr Z) (aK ?_)
 (repeat clear hK K);simp_all [QoG,SS]<;>rfl
 intro h2
 (repeat clear hK K);simp_all [QoG,SS]<;>rfl
 intro h1
 (repeat clear hK K);simp_all [QoG,SS]<;>rfl
theorem H4 {l:List Fs} (O:l.length<=1000) (G:fb v) (he:∀e∈l,fb e.r.v):Ok Tryz.prog 130 [Qif l,.str n,.agg (dV5 v)] (.int .i64 (plP (QhE n v) l 0)):=by
 refine Ok.n6 tfol Tryz.func130 Qux (QAk Z) ?_;show TW _ _ tf130.body _ _;refine aS ?_;refine Qt (ι:=Nat) (λi=>⟨[(0,Qif l),(1,.str n),(5,.ref 5 0 0),(7,.int .i64 i)],[(5,⟨[dV5 v],5,66,true⟩)]⟩) (λi=>i<=l.length/\plP (QhE n v) l 0=plP (QhE n v) (l.drop i) i) (λi=>l.length - i) 0 ?_ ?_ ?_;exact Ql (l:=[0,1,5,7]) (lH:=[5]) (kp4 Z Z Z Z) (Qa Z Qb) Z Z Z;exact⟨QAw _,rfl⟩;intro i C
 try dsimp only
 refine aB ?_ ?_;intro h1;refine aB ?_ ?_;intro h2;refine Qr (ds0:=[0]) (FM (v:=(l[i]'Wa).r.v) (he _ (QAp Wa)) G) Z Z (.inr Z) Z Z (aB ?_ ?_);intro M;rw[Da Wa (by simp_all [QhE]) C.2];intro M;refine Qc (i+1) ?_ ?_ ?_;exact Ql (l:=[0,1,5,7]) (lH:=[5]) (kp4 Z Z Z Z) (Qa Z Qb) Z Z Z;exact⟨Wa,NQ Wa (by simp_all [QhE]) C.2⟩
 first |omega |(simp only;omega) |(dsimp only;omega)
 intro h2;refine QH Z (aK ?_);refine Qc (i+1) ?_ ?_ ?_;exact Ql (l:=[0,1,5,7]) (lH:=[5]) (kp4 Z Z Z Z) (Qa Z Qb) Z Z Z;exact⟨Wa,NQ Wa (by simp_all [QhE]) C.2⟩
 first |omega |(simp only;omega) |(dsimp only;omega)
 intro h1;rw[P4 Wa C.2]
theorem FL (wk:Qla) {s:ShR} (U:s.n.length<=100) (hl:s.es.length<=100) (T:∀e∈s.es,Tp.u3 X1 (JC e.r)) (he:∀e∈s.es,fb e.r.v):∃d,(∃b,d=.bool b/\(b=true->Qd3 s.es))/\Ok Tryz.prog 93 [.agg (dSh s)] d:=by
 refine Ok.uf (R:=λd=>(∃b,d=.bool b/\(b=true->Qd3 s.es))) tfol Tryz.func93 Qz9 (QAk Z) ?_;show TX _ _ tf93.body _ _;refine aS ?_;obtain⟨b1,M⟩:=wk.ph s.n U;refine Qg (M) Z Z (.inr Z) (aB ?_ ?_);intro h1;refine Rk Z (aK ?_);refine⟨_, ?_,Xc Z rfl⟩
 first |exact⟨false,rfl,λh=>by cases h⟩ |exact⟨true,rfl,λ_ i hi=>C.2 i hi Wa⟩
 intro h1;refine aB ?_ ?_;intro h2;refine⟨_, ?_,Xc Z rfl⟩
 first |exact⟨false,rfl,λh=>by cases h⟩ |exact⟨true,rfl,λ_ i hi=>C.2 i hi Wa⟩
 intro h2;refine Kx (ι:=Nat) (λi=>⟨[(1,.ref 1 0 0),(3,.int .i64 i)],[(1,⟨[dSh s],2,108,true⟩)]⟩) (λi=>i<=s.es.length/\∀j (O:j<s.es.length),j<i->plP (QhE s.es[j].r.n s.es[j].r.v) s.es 0=j) (λi=>s.es.length - i) 0 ?_ ?_ ?_;exact Ql (l:=[1,3]) (lH:=[1]) (kp2 Z Z) (Qa Z Qb) Z Z Z;exact⟨QAw _,λj O h=>Wa⟩;intro i C
 try dsimp only
 refine aB ?_ ?_;intro h3;obtain⟨m2,e2,_,G⟩:=wk.kh _ (T _ (QAp (Wa:i<s.es.length)));refine Qg (G) Z Z (.inr Z) (aB ?_ ?_);intro h4;refine Rk Z (aK ?_);refine⟨_, ?_,Xc Z rfl⟩
 first |exact⟨false,rfl,λh=>by cases h⟩ |exact⟨true,rfl,λ_ i hi=>C.2 i hi Wa⟩
 intro h4;refine aB ?_ ?_;intro Y;refine Rk Z (aK ?_);refine⟨_, ?_,Xc Z rfl⟩
 first |exact⟨false,rfl,λh=>by cases h⟩ |exact⟨true,rfl,λ_ i hi=>C.2 i hi Wa⟩
 intro Y;refine Qg (H4 (l:=s.es) (n:=(s.es[i]'Wa).r.n) (v:=(s.es[i]'Wa).r.v) Wa (he _ (QAp Wa)) he) Z Z (.inr Z) (aB ?_ ?_);intro V;refine⟨_, ?_,Xc Z rfl⟩
 first |exact⟨false,rfl,λh=>by cases h⟩ |exact⟨true,rfl,λ_ i hi=>C.2 i hi Wa⟩
 intro V;refine Qc (i+1) ?_ ?_ ?_;exact Ql (l:=[1,3]) (lH:=[1]) (kp2 Z Z) (Qa Z Qb) Z Z Z;exact⟨Wa,λj O h=>by rcases Nat.lt_succ_iff_lt_or_eq.1 h with h |rfl;exact C.2 j O h;simp_all⟩
 first |omega |(simp only;omega) |(dsimp only;omega)
 intro h3;refine⟨_, ?_,Xc Z rfl⟩
 first |exact⟨false,rfl,λh=>by cases h⟩ |exact⟨true,rfl,λ_ i hi=>C.2 i hi Wa⟩
end Go.Proofs
namespace Go.Proofs
open Go Go.Abs
set_option maxRecDepth 100000
set_option maxHeartbeats 0
set_option cbv.maxSteps 100000000
def Qy6:TT false Tryz.f223:=⟨_,by cbv⟩
def tf223:z5:=Qy6.1
theorem Qvk:Qj Tryz.prog Tryz.f223=some tf223.erase:=by kernel_rfl
def Qzf:TT false Tryz.f251:=⟨_,by cbv⟩
def tf251:z5:=Qzf.1
theorem Qvt:Qj Tryz.prog Tryz.f251=some tf251.erase:=by kernel_rfl
open M3 M25
set_option maxRecDepth 4000
set_option maxHeartbeats 1000000
variable {n:List UInt8}
theorem HB (wk:Qla) {l:List Qhu} (T:l.length<=2) (O:∀m∈l,Tp.u3 S7 (QeQ m)):∃d,(∃k:Int,d=.int .i64 k/\(k= -1\/∃i,∃h:i<l.length,k=i/\l[i].r.n=n))/\Ok Tryz.prog 223 [Nu l,.str n] d:=by
 refine Ok.uf (R:=λd=>(∃k:Int,d=.int .i64 k/\(k= -1\/∃i,∃h:i<l.length,k=i/\l[i].r.n=n))) tfol Tryz.func223 Qvk (QAk Z) ?_;show TX _ _ tf223.body _ _;refine aS ?_;obtain⟨e1,U,G⟩:=wk.lg (l.map QeQ) (by simpa using T) (λr hr=>by obtain⟨x,hx,rfl⟩:=QAy.1 hr;exact O x hx)
 refine Qg (G) Z Z (.inr Z) (aB ?_ ?_);intro h1;refine⟨_, ?_,Sr Z rfl⟩;exact⟨-1,rfl,.inl rfl⟩;intro h1;refine Qg (H6 (n:=n) (l:=l) Wa) Z Z (.inr Z) (aK ?_);refine⟨_, ?_,Sr Z rfl⟩;refine⟨_,rfl, ?_⟩;rcases TE (p:=nmM n) l 0 with⟨C,_⟩ |⟨i,hi,C,M,_⟩
 exact .inl C;exact .inr ⟨i,hi,by rw[C];simp,of_decide_eq_true M⟩
theorem _root_.Wg {p:Prop} (h:p:=by first |exact .inl (by omega) |exact .inr ⟨by omega,by rw[Mt (Y7 (QAp (by omega))).2.1 (by omega)];assumption⟩):p:=h
theorem G5 (wk:Qla) {s:ShR} (V:s.n.length<=100) (hl:s.es.length<=100) (U:∀e∈s.es,Tp.u3 X1 (JC e.r)) (he:∀e∈s.es,fb e.r.v):∃d,(∃l:List Nat,d=SZ l/\te s.es n l)/\Ok Tryz.prog 251 [.agg (dSh s),.str n] d:=by
 refine Ok.uf (R:=λd=>(∃l:List Nat,d=SZ l/\te s.es n l)) tfol Tryz.func251 Qvt (QAk Z) ?_;show TX _ _ tf251.body _ _;refine aS ?_;obtain⟨_,⟨b1,rfl,O⟩,M⟩:=FL wk V hl U he;refine Qg (M) Z Z (.inr Z) (aB ?_ ?_);intro h1;refine⟨_, ?_,QM Z rfl⟩;exact⟨[],rfl,te.nil _ _⟩;intro h1;refine Kx (ι:=Nat) (λi=>⟨[(1,.str n),(2,.ref 2 0 0),(5,SZ (Fq s.es n i)),(6,.int .i64 i)],[(2,⟨[dSh s],2,108,true⟩)]⟩) (λi=>i<=s.es.length) (λi=>s.es.length - i) 0 ?_ ?_ ?_;exact le_trans (Qmo 5 Z) (Ql (l:=[1,2,5,6]) (lH:=[2]) (kp4 Z Z Z Z) (Qa Z Qb) Z Z Z);exact QAw _;intro i hI;have Y:=LS s.es n i
 try dsimp only
 refine aB ?_ ?_;intro h2;refine aB ?_ ?_;intro G;refine Qc (i+1) ?_ ?_ ?_;exact Ql (l:=[1,2,5,6]) (lH:=[2]) (kp4 Z Z Z Z) (Qa Z Qb) (by rw[Qmt Wa G];rfl) Z Z
 omega
 first |omega |(simp only;omega) |(dsimp only;omega)
 intro G;refine Kx (ι:=Nat) (λk=>⟨[(1,.str n),(2,.ref 2 0 0),(5,SZ (Fq s.es n i)),(6,.int .i64 i),(7,.int .i64 k)],[(2,⟨[dSh s],2,108,true⟩)]⟩) (λk=>k<=(Fq s.es n i).length/\R1 s.es (Fq s.es n i) i=(Fq s.es n i).take k++R1 s.es ((Fq s.es n i).drop k) i) (λk=>(Fq s.es n i).length - k) 0 ?_ ?_ ?_;exact Ql (l:=[1,2,5,6,7]) (lH:=[2]) (kp5 Z Z Z Z Z) (Qa Z Qb) Z Z Z;exact⟨QAw _,by simp⟩;intro k C
 try dsimp only
 refine aB ?_ ?_;intro h4;refine FF Z Z Z Wa (MA (show((Fq s.es n i)[k]'Wa)<s.es.length from(Y7 (QAp (Wa:k<(Fq s.es n i).length))).2.1)) Z (aK ?_);refine Qr (ds0:=[1,0]) (Zf (he _ (QAp (Y7 (QAp (Wa:k<(Fq s.es n i).length))).2.1)).sm.1 (he _ (QAp (Y7 (QAp (Wa:k<(Fq s.es n i).length))).2.1)).sm.2 (he _ (QAp (Wa:i<s.es.length))).sm.1 (he _ (QAp (Wa:i<s.es.length))).sm.2) Z Z (.inr Z) Z Z (aB ?_ ?_);intro T;refine Qc (k+1) ?_ ?_ ?_;exact Ql (l:=[1,2,5,6,7]) (lH:=[2]) (kp5 Z Z Z Z Z) (Qa Z Qb) Z Z Z;exact⟨Wa,Qfx Wa (by rw[Mt (Y7 (QAp Wa)).2.1 Wa];exact T) C.2⟩
 first |omega |(simp only;omega) |(dsimp only;omega)
 intro T;refine XT Z Z Z Z Wa Wa Wd Bp Z (Md (ds0:=[5,1,0]) Z Z (λ_ h=>⟨QcN,h⟩) Z (.inl Z) Wc Wd Wd Z Z (aK ?_));refine Qn Z Z (YK (ds0:=[1,0]) Z Z Wf ⟨_,rfl,rfl,rfl,rfl,rfl⟩ Z Z Wc Z Z Wd Wd Z Z (aK ?_));refine XT Z Z Z Z Wa Wd Wc Bp Z (YK (ds0:=[0]) Z Z Wf ⟨rfl,QcN,rfl⟩ Z Z Wc Z Z Wd Wd Z Z (aK ?_));refine Qc (i+1) ?_ ?_ ?_;exact le_trans (Qb2 (l:=[1,2,6]) (lH:=[2]) 64 5 (kp3 Z Z Z) (Qa Z Qb) Z Z Z Wk Z Z Z Z) (Ql (l:=[1,2,5,6]) (lH:=[2]) (kp4 Z Z Z Z) (Qa Z Qb) (by rw[Qb5 Wa (by simpa using G),QbV (k:=k) Wg C.2];simp[SZ,QAA (show((Fq s.es n i).map λ(i:Nat)=>[D.int .i64 (i:Int)]).length<=(Fq s.es n i).length by simp)]) Z Z)
 omega
 first |omega |(simp only;omega) |(dsimp only;omega)
 intro h4;refine B3 Z (aK ?_);refine XT Z Z Z Z Wa Wa Wd Bp Z (Md (ds0:=[5,1,0]) Z Z (λ_ h=>⟨QcN,h⟩) Z (.inl Z) Wc Wd Wd Z Z (aK ?_));refine Qn Z Z (YK (ds0:=[1,0]) Z Z Wf ⟨_,rfl,rfl,rfl,rfl,rfl⟩ Z Z Wc Z Z Wd Wd Z Z (aK ?_));refine XT Z Z Z Z Wa Wd Wc Bp Z (YK (ds0:=[0]) Z Z Wf ⟨rfl,QcN,rfl⟩ Z Z Wc Z Z Wd Wd Z Z (aK ?_));refine Qc (i+1) ?_ ?_ ?_;exact le_trans (Qb2 (l:=[1,2,6]) (lH:=[2]) 64 5 (kp3 Z Z Z) (Qa Z Qb) Z Z Z Wk Z Z Z Z) (Ql (l:=[1,2,5,6]) (lH:=[2]) (kp4 Z Z Z Z) (Qa Z Qb) (by rw[Qb5 Wa (by simpa using G),QbV (k:=k) Wg C.2];simp[SZ,QAA (show((Fq s.es n i).map λ(i:Nat)=>[D.int .i64 (i:Int)]).length<=(Fq s.es n i).length by simp)]) Z Z)
 omega
 first |omega |(simp only;omega) |(dsimp only;omega)
 intro h2;refine⟨_, ?_,QM Z rfl⟩;refine⟨_,rfl, ?_⟩;rw[show i=s.es.length by omega];exact te.of he (O (by simp_all))
end Go.Proofs
namespace Go.Proofs
open Go Go.Abs
set_option maxRecDepth 100000
set_option maxHeartbeats 0
set_option cbv.maxSteps 100000000
def Qy7:TT false Tryz.f224:=⟨_,by cbv⟩
def tf224:z5:=Qy7.1
theorem Qvl:Qj Tryz.prog Tryz.f224=some tf224.erase:=by kernel_rfl
def Qy8:TT false Tryz.f226:=⟨_,by cbv⟩
def tf226:z5:=Qy8.1
theorem Qvm:Qj Tryz.prog Tryz.f226=some tf226.erase:=by kernel_rfl
def Qze:TT false Tryz.f250:=⟨_,by cbv⟩
def tf250:z5:=Qze.1
theorem Qvs:Qj Tryz.prog Tryz.f250=some tf250.erase:=by kernel_rfl
def Qzi:TT false Tryz.f270:=⟨_,by cbv⟩
def tf270:z5:=Qzi.1
theorem Qvw:Qj Tryz.prog Tryz.f270=some tf270.erase:=by kernel_rfl
open M3 M25
set_option maxRecDepth 4000
set_option maxHeartbeats 1000000
variable {n:List UInt8} {ps:List QhM} {ss:List ShR}
theorem FN {s:ShR} (C:s.es.length<=100):∃d,(∃b,d=.bool b)/\Ok Tryz.prog 270 [.agg (dSh s),.str n] d:=by
 refine Ok.uf (R:=λd=>(∃b,d=.bool b)) tfol Tryz.func270 Qvw (QAk Z) ?_;show TX _ _ tf270.body _ _;refine aS ?_;refine Kx (ι:=Nat) (λi=>⟨[(1,.str n),(2,.ref 2 0 0),(5,.int .i64 i)],[(2,⟨[dSh s],2,108,true⟩)]⟩) (λi=>i<=s.es.length) (λi=>s.es.length - i) 0 ?_ ?_ ?_;exact Ql (l:=[1,2,5]) (lH:=[2]) (kp3 Z Z Z) (Qa Z Qb) Z Z Z;exact QAw _;intro i G
 try dsimp only
 refine aB ?_ ?_;intro h1;refine aB ?_ ?_;intro h2;refine⟨_, ?_,Xc Z rfl⟩;exact⟨_,rfl⟩;intro h2;refine Qc (i+1) ?_ ?_ ?_;exact Ql (l:=[1,2,5]) (lH:=[2]) (kp3 Z Z Z) (Qa Z Qb) Z Z Z;omega
 first |omega |(simp only;omega) |(dsimp only;omega)
 intro h1;refine⟨_, ?_,Xc Z rfl⟩;exact⟨_,rfl⟩
theorem G6 (wk:Qla) (hl:ss.length<=2) (V:∀s∈ss,Tp.u3 XP (dSh s)) (Y:∀s∈ss,Qrl s) (hp:ps.length<=4) (T:∀p∈ps,Tp.u3 BL (QeR p)):∃d,(∃k e:Int,d=.u7 [.int .i64 k,.int .i64 e]/\(e=0->∃i,i<ss.length/\k=i))/\Ok Tryz.prog 250 [Cm ss,RF ps,.str n] d:=by
 refine Ok.uf (R:=λd=>(∃k e:Int,d=.u7 [.int .i64 k,.int .i64 e]/\(e=0->∃i,i<ss.length/\k=i))) tfol Tryz.func250 Qvs (QAk Z) ?_;show TX _ _ tf250.body _ _;refine aS ?_;obtain⟨b1,O⟩:=wk.jg (ss.map dSh) (by simpa using hl) (λr hr=>by obtain⟨x,hx,rfl⟩:=QAy.1 hr;exact V x hx)
 refine Qg (O) Z Z (.inr Z) (aB ?_ ?_);intro h1;refine⟨_, ?_,QX Z Z ⟨rfl,rfl⟩⟩;exact⟨0,1,rfl,λh=>Wa⟩;intro h1;obtain⟨b2,M⟩:=wk.qg ps hp T;refine Qg (M) Z Z (.inr Z) (aB ?_ ?_);intro h2;refine⟨_, ?_,QX Z Z ⟨rfl,rfl⟩⟩;exact⟨0,15,rfl,λh=>Wa⟩;intro h2;refine Kx (ι:=Nat) (λi=>⟨[(0,Cm ss),(1,RF ps),(2,.str n),(8,.int .i64 i)],[]⟩) (λi=>i<=ps.length) (λi=>ps.length - i) 0 ?_ ?_ ?_;exact QB (kp4 Z Z Z Z);exact QAw _;intro i hI
 try dsimp only
 refine aB ?_ ?_;intro h3;refine aB ?_ ?_;intro h4;refine Qc (i+1) ?_ ?_ ?_;exact QB (kp4 Z Z Z Z);omega
 first |omega |(simp only;omega) |(dsimp only;omega)
 intro h4;refine Qg (XH (n:=(ps[i]'Wa).s) (l:=ss) Wa) Z Z (.inr Z) (aB ?_ ?_);intro U;refine⟨_, ?_,QX Z Z ⟨rfl,rfl⟩⟩;exact⟨0,12,rfl,λh=>Wa⟩;intro U;refine⟨_, ?_,QX Z Z ⟨rfl,rfl⟩⟩;refine⟨_,0,rfl,λ_=>?_⟩;rcases TE (p:=nmS (ps[i]'Wa).s) ss 0 with⟨C,_⟩ |⟨k,hk,C,_⟩
 rw[C]at U;omega;exact⟨k,hk,by rw[C];simp⟩
 intro h3;refine Kx (ι:=Nat) (λi=>⟨[(0,Cm ss),(2,.str n),(10,.int .i64 i)],[]⟩) (λi=>i<=ss.length) (λi=>ss.length - i) 0 ?_ ?_ ?_;exact QB (kp3 Z Z Z);exact QAw _;intro i hI
 try dsimp only
 refine aB ?_ ?_;intro h6;obtain⟨_,⟨b3,rfl⟩,G⟩:=FN (s:=ss[i]'Wa) (Y _ (QAp Wa)).l (n:=n);refine Qg (G) Z Z (.inr Z) (aB ?_ ?_);intro h7;refine⟨_, ?_,QX Z Z ⟨rfl,rfl⟩⟩;exact⟨_,0,rfl,λ_=>⟨i,Wa,rfl⟩⟩;intro h7;refine Qc (i+1) ?_ ?_ ?_;exact QB (kp3 Z Z Z);omega
 first |omega |(simp only;omega) |(dsimp only;omega)
 intro h6;refine⟨_, ?_,QX Z Z ⟨rfl,rfl⟩⟩;exact⟨0,9,rfl,λh=>Wa⟩
theorem G7 (wk:Qla) (Y:ss.length<=2) (V:∀s∈ss,Tp.u3 XP (dSh s)) (C:∀s∈ss,Qrl s) (hp:ps.length<=4) (O:∀p∈ps,Tp.u3 BL (QeR p)):∃d,(∃k e:Int,∃l:List Nat,d=.u7 [.int .i64 k,SZ l,.int .i64 e]/\(e=0->∃i,∃h:i<ss.length,k=i/\te ss[i].es n l))/\Ok Tryz.prog 224 [Cm ss,RF ps,.str n] d:=by
 refine Ok.uf (R:=λd=>(∃k e:Int,∃l:List Nat,d=.u7 [.int .i64 k,SZ l,.int .i64 e]/\(e=0->∃i,∃h:i<ss.length,k=i/\te ss[i].es n l))) tfol Tryz.func224 Qvl (QAk Z) ?_;show TX _ _ tf224.body _ _;refine aS ?_;obtain⟨_,⟨k1,e1,rfl,U⟩,M⟩:=G6 wk Y V C hp O (n:=n);refine Qg (M) Z Z (.inl Z) (aB ?_ ?_);intro h1;refine⟨_, ?_,Bc Z Z Z ⟨rfl,rfl,rfl⟩⟩;exact⟨0,e1,[],rfl,λh=>absurd h h1⟩;intro h1;obtain⟨j,hj,rfl⟩:=U (by simpa using h1);refine aK ?_;obtain⟨_,⟨l2,rfl,T⟩,G⟩:=G5 wk (s:=ss[j]'Wa) (C _ (QAp Wa)).n (C _ (QAp Wa)).l (C _ (QAp Wa)).t (C _ (QAp Wa)).v (n:=n);refine Qg (G) Z Z (.inl Z) (aK ?_);refine⟨_, ?_,Bc Z Z Z ⟨rfl,rfl,rfl⟩⟩;exact⟨j,0,l2,rfl,λ_=>⟨j,hj,rfl,T⟩⟩
theorem Fa {y:YdT} {ps:List D} {x:FH}:Ok Tryz.prog 226 [.agg (dYd y (.ptr ps)),.agg (JC x)] (.bool false):=by
 refine Ok.n6 tfol Tryz.func226 Qvm (QAk Z) ?_;show TW _ _ tf226.body _ _;refine aS ?_;refine Qt (ι:=Unit) (λ_=>⟨[(2,.ref 2 0 0),(3,.ref 3 0 0),(5,.int .i64 0)],[(2,⟨[dYd y (.ptr ps)],8,127,true⟩),(3,⟨[JC x],9,100,true⟩)]⟩) (λ_=>True) (λ_=>0) () ?_ ?_ ?_;exact Ql (l:=[2,3,5]) (lH:=[2,3]) (kp3 Z Z Z) (Qa Z (Qa Z Qb)) Z Z Z;trivial;intro _ C
 try dsimp only
 refine aR ?_ ?_;intro h1
 try simp only[qB,List.length_nil]at h1
 exact absurd h1 We;intro h1
 try simp only[qB,List.length_nil]at h1
 refine aK ?_;rfl
end Go.Proofs
namespace Go.Proofs
open Go Go.Abs
set_option maxRecDepth 100000
set_option maxHeartbeats 0
set_option cbv.maxSteps 100000000
def Qym:TT false Tryz.f140:=⟨_,by cbv⟩
def tf140:z5:=Qym.1
theorem QuB:Qj Tryz.prog Tryz.f140=some tf140.erase:=by kernel_rfl
def Qyp:TT false Tryz.f143:=⟨_,by cbv⟩
def tf143:z5:=Qyp.1
theorem QuD:Qj Tryz.prog Tryz.f143=some tf143.erase:=by kernel_rfl
end Go.Proofs
