/- Part 4 of the means of the proof: a verified abstract evaluator and contracts of functions. It states nothing of the claim by itself. -/
import Derived.Test.YtggcpapoljmiaaaGreatDoorB3
set_option maxRecDepth 4000
set_option maxHeartbeats 4000000
set_option linter.unusedSimpArgs false
set_option linter.unusedVariables false
set_option linter.unusedSectionVars false
namespace Go.Abs
open Go
variable {S:Nat->Bool} {a:AS} {d:D} {s:St} {ν:List Int}
def QhD (n0:Nat):AS->Sg->List Vl->List Vl->Option (Sg × AS)
 |a,σ,[],[]=>some (σ,a)
 |a,σ,v::l,p::r=>match Qp8 n0 a σ v p with
  |some (σ1,a1)=>QhD n0 a1 σ1 l r
  |none=>none
 |_,_,_,_=>none
theorem Sd {s:St} {ν0:List Int}:∀{l r:List Vl} {m:List D} {f μ:List Int} {a a':AS} {σ τ:Sg},a.ok (ν0++f) s->QhD ν0.length a σ l r=some (τ,a')->Vl.n4 (ν0++f) l m->Sg.o7 (ν0++f) μ σ->∃e ρ,a'.ok (ν0++(f++e)) s/\Sg.o7 (ν0++(f++e)) (μ++ρ) τ/\Vl.n4 (ν0++(μ++ρ)) r m
 |[],[],m,f,μ,a,a',σ,τ,h,he,hr,hm=>by
  simp only[QhD,QAn,QBc]at he;obtain⟨rfl,rfl⟩:=he;exact⟨[],[],by grind,by grind,hr⟩
 |p::l,q::r,m,f,μ,a,a',σ,τ,h,he,hr,hm=>by
  simp only[QhD]at he;split at he;rename_i σ1 a1 e1;obtain⟨d,G,rfl,h1,h2⟩:=hr;obtain⟨g,ρ,T,O,M⟩:=QaJ h e1 h1 hm;have C:Vl.n4 (ν0++(f++g)) l G:=by rw[<- QA9];exact h2.ext g
  obtain⟨g2,ρ2,Y,V,U⟩:=Sd T he C O;refine⟨g++g2,ρ++ρ2,by grind,by grind,d,G,rfl, ?_,by grind⟩;have:=M.ext ρ2
  grind
  grind
 |[],_::_,m,f,μ,a,a',σ,τ,h,he,hr,hm=>by trivial
 |_::_,[],m,f,μ,a,a',σ,τ,h,he,hr,hm=>by trivial
section
variable {P:Program} {nt:Nat} {Q:AExit->St->Prop} {s:St}
theorem D1 {c:y5} (h:TW P nt c (λe s=>∃s2,s.le s2/\Q e s2) s):TW P nt c Q s:=λcode E g a w hm hp O G r=>
 wpIn_mono (h code E g a w hm hp O G r) λe a' w' C=>by
  cases e<;>simp only[AQ]at C ⊢<;>try exact C
  all_goals
   obtain⟨s',g',⟨s2,hle,C⟩,M⟩:=C;obtain⟨g2,T⟩:=hle _ _ _ _ M
   grind
theorem s6.nh {f:Nat} {fn:Func} {tf:z5} {ds:List D} {H:QAh} {R:D->QAh->Prop} (hm:P.follows .mixedOrders=true) (M:P.funcs[f]?=some fn) (hp:Qj P fn=some tf.erase) (C:ds.length<=tf.nt)
 (h:TX P tf.nt tf.body (λe s=>∃d H' s2,s.le s2/\R d H'/\(∀k,1000000<=k->(lk H k).isSome=true->(lk H' k).isSome=true)/\(∀k b,lk H' k=some b->500000<=k/\∀j∈b.ids,(lk H' j).isSome=true)/\Na tf.rs d H' e s2) ⟨Pr 0 ds,H⟩) (G:Gm f=[]:=by rfl):∃d H',R d H'/\s6 P f ds H d H':=by
 obtain⟨e,s,⟨d,H',s2,h0,h1,h2,T,U⟩,O⟩:=h;exact⟨d,H',h1,s6.n6 hm M hp C h2 T (D1 (Zk (λ_ _ ⟨p,q⟩=>by grind) O)) G⟩
end
def Qgz (a:AS):XE->Option Vl
 | .tmp t=>(match lk a.fr t with
  |some v=>if v.ids.isEmpty=true then QjM a v else none
  |none=>none)
 | .cell t agg sz=>(match lk a.fr t with
  |some p=>(match atA a p with
   |some cs=>if agg=true/\Nat.ble sz cs.length=true/\(Vl.aa (cs.take sz)).ids.isEmpty=true then QjM a (.aa (cs.take sz))else none
   |none=>none)
  |none=>none)
theorem D3 (h:d.ids=[]):F7 S s d=XS s d:=by
 grind [F7,XS,Qff]
theorem QcF {r:XE} {v:Vl} (h:a.ok ν s) (he:Qgz a r=some v):∃d,v.has ν d/\XQ S s r d:=by
 cases r with
 |tmp t=>
  simp only[Qgz]at he;split at he;rename_i w e1;split at he;rename_i hi;obtain⟨d,h1,h2⟩:=RL.get h.fr e1;refine⟨_,Mi h he h2,d,h1, ?_⟩;rw[D3 (by rw[Vl.v7 h2];grind)]
  grind
  grind
 |cell t agg sz=>
  simp only[Qgz]at he;split at he;rename_i p e1;obtain⟨d,h1,h2⟩:=RL.get h.fr e1;split at he;rename_i cs e2;obtain⟨ds,O,M⟩:=Qbf h e2 h2;split at he;rename_i C;obtain⟨ha,hb,hi⟩:=C;subst ha;have G:(Vl.aa (cs.take sz)).has ν (.agg (ds.take sz)):=⟨_,rfl,XN sz M⟩;refine⟨_,Mi h he G,d,ds,h1,HS.2 O, ?_⟩;simp only[if_true]
  grind [ZG,Nat.le_of_ble_eq_true,D3,Vl.v7]
  grind
  grind
  grind
def nm1 (k j want:Nat) (a:AS):AS:=
 match lk a.H k with
 |some (.cc cells _ _)=>(match cells[j]? with
  |some (.oo hv _ _)=>if Nat.ble (hv+1) 1000000=true/\Nat.ble (want+1) 1000000=true/\Nat.beq hv want=false then a.n5 (Zy hv want)else a
  |_=>a)
 |_=>a
theorem Qqc (h:a.ok ν s) (k j C:Nat):∃s',s.le s'/\(nm1 k j C a).ok ν s':=by
 have same:∃s',s.le s'/\a.ok ν s':=⟨s,le_refl s,h⟩;unfold nm1;split;split;split;rename_i G;exact⟨_,K5 _ _ (QAk G.1) (QAk G.2.1) s,h.n5 _⟩;omega;omega;omega
def nmC (k:Nat):Nat->List Vl->AS->AS
 |_,[],a=>a
 |j,.oo want _ _::r,a=>nmC k (j+1) r (nm1 k j want a)
 |j,_::r,a=>nmC k (j+1) r a
theorem Qcj {ν:List Int} {k:Nat}:∀{l:List Vl} {j:Nat} {a:AS} {s:St},a.ok ν s->∃s',s.le s'/\(nmC k j l a).ok ν s'
 |[],j,a,s,h=>⟨s,le_refl s,h⟩
 |v::r,j,a,s,h=>by
  cases v with
  |oo want _ _=>
   obtain⟨s1,h1,h2⟩:=Qqc h k j want;obtain⟨s2,G,C⟩:=Qcj (l:=r) (j:=j+1) h2;exact⟨s2,le_trans h1 G,C⟩
  |_=>exact Qcj (l:=r) (j:=j+1) h
def nmH:List (Nat × Bx)->AS->AS
 |[],a=>a
 |(k,.cc cells _ _)::r,a=>nmH r (nmC k 0 cells a)
 |_::r,a=>nmH r a
theorem Qck {ν:List Int}:∀{l:List (Nat × Bx)} {a:AS} {s:St},a.ok ν s->∃s',s.le s'/\(nmH l a).ok ν s'
 |[],a,s,h=>⟨s,le_refl s,h⟩
 |(k,b)::r,a,s,h=>by
  cases b with
  |cc cells et pr=>
   obtain⟨s1,h1,h2⟩:=Qcj (k:=k) (l:=cells) (j:=0) h;obtain⟨s2,G,C⟩:=Qck (l:=r) h2;exact⟨s2,le_trans h1 G,C⟩
  |ww=>exact Qck (l:=r) h
def QdH (a:AS):List XE->Option (List Vl)
 |[]=>some []
 |r::rs=>(match Qgz a r,QdH a rs with
  |some v,some vs=>some (v::vs)
  |_,_=>none)
theorem QcG {ν:List Int} {a:AS} {s:St} {S:Nat->Bool} (h:a.ok ν s):∀{rs:List XE} {vs:List Vl},QdH a rs=some vs->∃ds,Vl.n4 ν vs ds/\Sw S s rs ds
 |[],vs,he=>by simp only[QdH,QAn]at he;subst he;exact⟨[],rfl,rfl⟩
 |r::rs,vs,he=>by
  simp only[QdH]at he;split at he;rename_i v ws e1 e2;cases he
  obtain⟨d,h1,h2⟩:=QcF (S:=S) h e1;obtain⟨ds,G,C⟩:=QcG h e2;exact⟨d::ds,⟨d,ds,rfl,h1,G⟩,d,ds,rfl,h2,C⟩
  grind
def Zc.pg (c:Zc) (rs:List XE):Option (List Vl):=
 match rs with
 |[_]=>some [c.rv]
 |[_,_]=>(match c.rv with
  | .uu vs=>some vs
  |_=>none)
 |_=>none
def Qwr (a:AS) (rs:List XE):List Nat:=(rs.flatMap λr=>match r with
 | .tmp t=>(match lk a.fr t with
  |some v=>v.ids
  |none=>[])
 | .cell t _ _=>(match lk a.fr t with
  |some p=>(match atA a p with
   |some cs=>cs.flatMap Vl.l4
   |none=>[])
  |none=>[])).filter λk=>Nat.ble (k+1) 500000
def QlX (c:Zc) (rs:List XE) (a:AS):AS:=nmH c.rb (Qj3 (Qwr a rs) a)
def zcB (c:Zc):Bool:=(c.rb.all λp=>Nat.ble 500000 p.1&&p.2.ids.all λj=>(lk c.rb j).isSome)&&c.bs.all λp=>!Nat.ble 1000000 p.1||(lk c.rb p.1).isSome
def Qv9 (c:Zc) (rs:List XE) (p:AExit × AS):Bool:=
 match p.1 with
 | .exit _=>false
 |_=>(match QdH (QlX c rs p.2) rs,c.pg rs with
  |some vs,some ps=>(ps.all λv=>v.ids.isEmpty)&&(match QhD c.nx (QlX c rs p.2) [] vs ps with
   |some (σ,a)=>(match mtH c.nx a σ (JU (c.rb.map Prod.fst) (QlX c rs p.2).H) c.rb with
    |some (τ,a2)=>Nat.beq (c.nx+τ.length) c.mx&&c.rc.all (Qdp a2 c.nx τ)
    |none=>false)
   |none=>false)
  |_,_=>false)
theorem Qcw (h:d.ids=[]):d.pure=true:=by
 have one:∀d:D,d.l4=[]->d.own=false:=λd h=>by cases d<;>first |rfl |(trivial)
 have all:∀cs:List D,cs.flatMap D.l4=[]->(cs.all λd=>!d.own)=true:=λcs h=>QAu.2 λd hd=>by
  (repeat clear hK K);simp_all
 cases d<;>first |rfl |exact all _ h |trivial
theorem Ql5 {c:Zc} {rs:List XE} {e:AExit} {μ f:List Int} (h:a.ok (μ++f) s) (hμ:μ.length=c.nx) (hz:zcB c=true) (C:Qv9 c rs (e,a)=true):
  ∃d H' s2,s.le s2/\(∃g,(μ++g).length=c.mx/\w7 (μ++g) c.rc/\c.rv.has (μ++g) d/\RL (Bx.has (μ++g)) c.rb H')/\(∀k b,lk H' k=some b->500000<=k/\∀j∈b.ids,(lk H' j).isSome=true)/\Na rs d H' e s2:=by
 obtain⟨s1,l1,h1⟩:=Mz (ks:=Qwr a rs) h;obtain⟨s2,l2,h2⟩:=Qck (l:=c.rb) h1
 have key:(match QdH (QlX c rs a) rs,c.pg rs with
  |some vs,some ps=>(ps.all λv=>v.ids.isEmpty)&&(match QhD c.nx (QlX c rs a) [] vs ps with
   |some (σ,a1)=>(match mtH c.nx a1 σ (JU (c.rb.map Prod.fst) (QlX c rs a).H) c.rb with
    |some (τ,a2)=>Nat.beq (c.nx+τ.length) c.mx&&c.rc.all (Qdp a2 c.nx τ)
    |none=>false)
   |none=>false)
  |_,_=>false)=true->∃d H',(∃g,(μ++g).length=c.mx/\w7 (μ++g) c.rc/\c.rv.has (μ++g) d/\RL (Bx.has (μ++g)) c.rb H')/\(∀k b,lk H' k=some b->500000<=k/\∀j∈b.ids,(lk H' j).isSome=true)/\
   (((rs=[]/\d=.u7 [])\/(∃r,rs=[r]/\XQ small s2 r d)\/(∃O G d1 d2,rs=[O,G]/\d=.u7 [d1,d2]/\d1.pure=true/\d2.pure=true/\XQ small s2 O d1/\XQ small s2 G d2)\/∃O G cs d2,rs=[O,G]/\d=.w9 cs d2/\d2.pure=true/\XQ small s2 O (.agg cs)/\XQ small s2 G d2)/\∀k b,lk H' k=some b->lk s2.H k=some b):=λC=>by
  split at C;rename_i vs ps e1 e2;rw[QAo]at C;obtain⟨hid,C⟩:=C;split at C;rename_i σ a1 e3;split at C;rename_i τ a2 e4;simp only[QAo]at C;obtain⟨ds,V,T⟩:=QcG (S:=small) h2 e1;rw[<- hμ]at e3 e4;obtain⟨g,ρ,h3,h4,h5⟩:=Sd (μ:=[]) h2 e3 V rfl;rw[QBy]at h4 h5;have hH:RL (Bx.has (μ++(f++g))) (JU (c.rb.map Prod.fst) (QlX c rs a).H) (Zv (c.rb.map Prod.fst) s2.H):=RL.mono (λb x q=>by rw[<- QA9];exact q.ext g) (R2 h2.H _)
  obtain⟨g2,ρ2,h6,h7,h8⟩:=C0 h3 e4 hH h4;have hl:=YJ h7;have hn:=QBC C.1;have hrc:w7 (μ++(ρ++ρ2)) c.rc:=λk hk=>KW h6 h7 Wb;have hlen:(μ++(ρ++ρ2)).length=c.mx:=by grind
  have M:Vl.n4 (μ++(ρ++ρ2)) ps ds:=by rw[<- QA9];exact h5.ext ρ2
  have hcl:∀k b,lk (Zv (c.rb.map Prod.fst) s2.H) k=some b->500000<=k/\∀j∈b.ids,(lk (Zv (c.rb.map Prod.fst) s2.H) j).isSome=true:=λk b hk=>by
   have hs:(lk c.rb k).isSome=true:=by grind [RL.isSome]
   obtain⟨bx,hb⟩:=QAq.1 hs;obtain⟨b',U,w2⟩:=RL.get h8 hb;rw[hk]at U;cases U;simp only[zcB,QAo]at hz;have:=QAu.1 hz.1 (k,bx) (QZ hb);simp only[QAo]at this;refine⟨QAk this.1,λj hj=>?_⟩
   grind [Bx.v7,RL.isSome]
  have Y:∀k b,lk (Zv (c.rb.map Prod.fst) s2.H) k=some b->lk s2.H k=some b:=λk b hk=>Jk _ _ k b hk;unfold Zc.pg at e2;split at e2;rename_i r;cases e2
  obtain⟨d,G,rfl,U,w2⟩:=M;simp only[Vl.n4]at w2;subst w2;obtain⟨d2,ds2,v1,v2,v3⟩:=T
  grind
  rename_i O G;split at e2;rename_i vs2 e5;cases e2
  obtain⟨d1,ds1,v1,v2,d2,ds2,v3,v4,v5⟩:=T;simp only[Sw]at v5;subst v5 v3 v1
  have hp:∀(ps:List Vl) (ds:List D),Vl.n4 (μ++(ρ++ρ2)) ps ds->(ps.all λv=>v.ids.isEmpty)=true->∀d∈ds,d.pure=true:=by
   intro ps
   induction ps with
   |nil=>grind [Vl.n4]
   |cons p ps ih=>
    intro ds hh ha d hd;obtain⟨d0,r0,rfl,U,w2⟩:=hh;simp only[QBg,QAo]at ha;rcases QAm.1 hd with rfl |hd
    exact Qcw (by rw[Vl.v7 U];grind)
    grind
  have hp:=hp _ _ M hid;exact⟨.u7 [d1,d2],_,⟨ρ++ρ2,hlen,hrc,by rw[e5];exact⟨_,rfl,M⟩,h8⟩,hcl,.inr (.inr (.inl ⟨_,_,d1,d2,rfl,rfl,hp d1 Wc,hp d2 Wc,v2,v4⟩)),Y⟩
  grind
  grind
  grind
  grind
  grind
 cases e with
 |normal=>obtain⟨d,H',V,T,q3⟩:=key C;exact⟨d,H',s2,le_trans l1 l2,V,T,q3⟩
 |ret=>obtain⟨d,H',V,T,q3⟩:=key C;exact⟨d,H',s2,le_trans l1 l2,V,T,q3⟩
 |exit i=>cases C
variable {b:Bx} {m n:Nat} {x:u4}
section
variable {f g:Nat->Nat}
theorem NW (h:∀k∈d.l4,f (g k)=k):(d.y6 g).y6 f=d:=by
 cases d<;>first |rfl |(have:=h _ (QAt.2 rfl);grind [D.y6])
theorem QcC {cs:List D} (h:∀k∈cs.flatMap D.l4,f (g k)=k):(cs.map (D.y6 g)).map (D.y6 f)=cs:=by
 induction cs with
 |nil=>rfl
 |cons d cs ih=>
  rw[QAO]at h
  (repeat clear hK K);simp_all [NW]
theorem Qgw (h:∀k∈d.ids,f (g k)=k):(d.n5 g).n5 f=d:=by
 cases d<;>first
  |rfl
  |(simp only[D.n5];rw[QcC h];done)
  |exact NW (d:=.s4 _ _) h
  |exact NW (d:=.y9 _ _ _ _) h
  |exact NW (d:=.ref _ _ _) h
  |exact NW (d:=.o9 _ _ _) h
theorem QlA {b:u4} (h:∀r∈b.rows,∀d∈r,∀k∈d.l4,f (g k)=k):(b.n5 g).n5 f=b:=by
 obtain⟨rows,l0,et,pr⟩:=b
 have e:(rows.map λr=>r.map (D.y6 g)).map (λr=>r.map (D.y6 f))=rows:=by
  rw[QBD]
  conv=>rhs;rw[<- List.map_id rows]
  grind [List.map_congr_left,QcC]
 grind [u4.n5]
theorem PT {H:QAh} (h:∀p∈H,f (g p.1)=p.1/\∀r∈p.2.rows,∀d∈r,∀k∈d.l4,f (g k)=k):KL f (KL g H)=H:=by
 unfold KL;rw[QBD]
 conv=>rhs;rw[<- List.map_id H]
 refine QBl λp hp=>?_;obtain⟨h1,h2⟩:=h p hp;obtain⟨k,b⟩:=p;simp only[Function.comp,id]
 grind [QlA]
end
def Bx.xe:Bx->List Nat
 | .cc cells _ _=>cells.flatMap Vl.l4
 | .ww _ _ _ _ _=>[]
theorem Bx.je (h:b.has ν x):∀r∈x.rows,∀d∈r,∀k∈d.l4,k∈b.xe:=by
 cases b with
 |cc cells et pr=>
  obtain⟨ds,rfl,h1⟩:=h;intro r hr d hd k hk;simp only[QAt]at hr;subst hr;show k∈cells.flatMap Vl.l4;rw[<- F5 h1]
  grind
 |ww row x o l0 et=>
  obtain⟨rows,rfl,_,h2⟩:=h
  grind [Tp.xf]
theorem RL.each {α β:Type} {R:α->β->Prop} {q:Nat->β->Prop} {p:Nat->α->Bool} (hp:∀t a b,R a b->p t a=true->q t b):∀{l:List (Nat × α)} {m:List (Nat × β)},RL R l m->(l.all λx=>p x.1 x.2)=true->∀y∈m,q y.1 y.2
 |[],m,h,_,y,C=>by grind [RL]
 |x::l,m,h,ha,y,C=>by
  obtain⟨b,r,rfl,h1,h2⟩:=h;simp only[QBg,QAo]at ha;rcases QAm.1 C with rfl |C
  grind
  exact RL.each hp h2 ha.2 y C
theorem RL.sub {α β:Type} {R:α->β->Prop} (q:Nat->Bool):∀{l:List (Nat × α)} {m:List (Nat × β)},RL R l m->RL R (l.filter λx=>q x.1) (m.filter λx=>q x.1)
 |[],m,h=>by grind [RL]
 |x::l,m,h=>by
  obtain⟨b,r,rfl,h1,h2⟩:=h;rw[List.filter_cons,List.filter_cons]
  by_cases e:q x.1=true
  rw[if_pos e,if_pos e];exact⟨b,_,rfl,h1,RL.sub q h2⟩;rw[if_neg e,if_neg e];exact RL.sub q h2
theorem R7 {α:Type} (q:Nat->Bool):∀(l:List (Nat × α)) (k:Nat),lk (l.filter λx=>q x.1) k=if q k=true then lk l k else none
 |[],k=>by simp[lk]
 |(j,v)::l,k=>by
  rw[List.filter_cons]
  by_cases e:q j=true
  rw[if_pos e,Qf,Qf,R7 q l k]
  grind
  rw[if_neg e,R7 q l k,Qf]
  grind
def Bx.sub (σ:Sg):Bx->Bx
 | .cc cells et pr=>.cc (Vl.jd σ cells) et pr
 | .ww row x o l0 et=>.ww row (σ.at x).1 ((σ.at x).2+o) l0 et
theorem Bx.ja {μ:List Int} {σ:Sg} (hσ:σ.ok ν μ) (h:b.has μ x):(b.sub σ).has ν x:=by
 cases b with
 |cc cells et pr=>obtain⟨ds,h1,h2⟩:=h;exact⟨ds,h1,Vl.da hσ h2⟩
 |ww row x o l0 et=>obtain⟨rows,h1,h2,C⟩:=h;exact⟨rows,h1,x6.sub hσ h2,C⟩
def Qs7 (a:AS) (f:Nat->Nat) (v:Vl):Option Vl:=
 match v with
 | .rr k o=>some (.rr (f k) o)
 |v=>if v.l4.isEmpty=true then Qlk a v else none
theorem QlG {a:AS} {f:Nat->Nat} {v w:Vl} (h:a.ok ν s) (he:Qs7 a f v=some w) (C:v.has ν d):w.has ν ((d.y6 f).z6):=by
 unfold Qs7 at he;split at he;cases he
 simp only[Vl.has]at C;subst C;rfl;split at he;rename_i hi;have G:d.l4=[]:=by rw[Vl.ub C];grind
 have h1:=(Rp h he C).1;rw[Kk (λk hk=>by grind)]at h1;have e:d.y6 f=d:=by cases d<;>first |rfl |(trivial)
 grind
 grind
theorem JJ:∀(l:List Nat) (H:QAh) (k:Nat),lk (Zv l H) k=if l.contains k=true then lk H k else none
 |[],H,k=>rfl
 |t::l,H,k=>by
  unfold Zv
  by_cases e:t=k
  subst e;have C:(t::l).contains t=true:=by simp
  rw[if_pos C];cases h:lk H t with
  |none=>
   show lk (Zv l H) t=none;rw[JJ l H t,h];simp
  |some d=>show lk ((t,d)::Zv l H) t=some d;rw[Qf,if_pos rfl]
  have C:(t::l).contains k=l.contains k:=by
   grind
  rw[C];cases h:lk H t with
  |none=>exact JJ l H k
  |some d=>show lk ((t,d)::Zv l H) k=_;rw[Qf,if_neg e];exact JJ l H k
def unZ (G:List Nat) (j:Nat):Nat:=if G.contains j=true then j else j - 1000000
theorem Qm3 (hm:1000000<=m) (C:1000000<=n):Rn (Zy m n) (Zy m n):=⟨ZJ m n,λk=>by
 grind [Zy]⟩
theorem Qh7 {P:Program} {f:Nat} {args:List l5} {G names:List Nat} {ds:List D} {Y HF H1 Hr:QAh} (hm:1000000<=m) (hn:1000000<=n) (hds:QF s args=some ds) (hG:SD G=true) (V:∀t x,lk s.fr t=some x->∀k∈x.ids,G.contains k=false)
 (hY:Y=KL (Zy m n) (Xv G s.H)) (hHF:HF=Y.filter λp=>!names.contains p.1) (hHr:Hr=KL (unZ G) (KL (Zy m n) (H1++HF)))
 (T:s6 P f ((ds.map λd=>(d.n5 (ZM G)).can).map (D.n5 (Zy m n))) (Zv names Y) d H1) (hd:d.ids=[])
 (hcl:∀k b,lk (Zv names Y) k=some b->∀j∈b.ids,(lk (Zv names Y) j).isSome=true)
 (hF:∀k b,lk HF k=some b->1000000<=k/\∀j∈b.ids,(lk HF j).isSome=true\/(1000000<=j/\(lk (Zv names Y) j).isSome=true))
 (hk:∀k,(lk H1 k).isSome=(lk (Zv names Y) k).isSome) (U:∀x∈(ds.map λd=>(d.n5 (ZM G)).can).map (D.n5 (Zy m n)),∀k∈x.ids,(lk (Zv names Y) k).isSome=true)
 (hZ:∀p∈KL (Zy m n) (H1++HF),ZM G (unZ G p.1)=p.1/\∀r∈p.2.rows,∀d∈r,∀k∈d.l4,ZM G (unZ G k)=k):SX P f args s G Hr d:=by
 have hρ:=Qm3 hm hn
 have O:∀k,lk HF k=if names.contains k=true then none else lk Y k:=λk=>by
  rw[hHF,R7 (λk=>!names.contains k)];simp
 have M:∀k,lk (Zv names Y) k=if names.contains k=true then lk Y k else none:=JJ names Y
 have fN:∀k b,lk HF k=some b->lk (Zv names Y) k=none:=λk b h=>by
  grind
 have fN1:∀k b,lk HF k=some b->lk H1 k=none:=λk b h=>by
  have:=hk k;rw[fN k b h]at this;cases e:lk H1 k with
  |none=>rfl
  |some x=>grind
 have C:∀k,lk Y k=lk (Zv names Y++HF) k:=λk=>by
  rw[Yy,M,O]
  grind
 have h1:=s6.frame (HF:=HF) T hcl (λk b h=>⟨(hF k b h).1,fN k b h,fN1 k b h,(hF k b h).2⟩) (λk _ h=>by grind) U (λk h=>by grind);have h2:=h1.ai (H1:=Y) (H1':=H1++HF) C λ_=>rfl
 have e1:((ds.map λd=>(d.n5 (ZM G)).can).map (D.n5 (Zy m n))).map (D.n5 (Zy m n))=ds.map λd=>(d.n5 (ZM G)).can:=by
  rw[QBD]
  grind [List.map_congr_left,Qgw,ZJ]
 have e2:KL (Zy m n) Y=Xv G s.H:=by simp_all [PT,ZJ]
 have e3:d.n5 (Zy m n)=d:=by
  have:=Qgw (f:=Zy m n) (g:=Zy m n) (d:=d) λk h=>by grind
  have q:∀d:D,d.ids=[]->d.n5 (Zy m n)=d:=λd h=>by
   have one:∀d:D,d.l4=[]->d.y6 (Zy m n)=d:=λd h=>by cases d<;>first |rfl |(trivial)
   have all:∀cs:List D,cs.flatMap D.l4=[]->cs.map (D.y6 (Zy m n))=cs:=λcs=>by
    induction cs with
    |nil=>simp
    |cons d cs ih=>
     (repeat clear hK K);simp_all
   cases d<;>first |rfl |(simp only[D.n5];rw[all _ h];done) |trivial
  grind
 have e4:Xv G Hr=KL (Zy m n) (H1++HF):=by rw[hHr];exact PT hZ
 have h3:=s6.og hρ h2 e1 e2 e3 e4.symm
 have hn1:∀j,(lk (H1++HF) j).isSome=(lk Y j).isSome:=λj=>by
  rw[C,Yy,Yy];have:=hk j;cases e:lk H1 j<;>cases e':lk (Zv names Y) j<;>rw[e,e']at this<;>first |rfl |(grind)
 have hdom:∀j,(lk Hr j).isSome=(lk s.H j).isSome:=λj=>by
  have q1:=Yd hG Hr j;have q2:=Yd hG s.H j;have q3:=Y8 hρ (H1++HF) (Zy m n (ZM G j))
  grind [Y8,ZJ,Option.isSome_map]
 exact⟨ds,hds,hG,V,λk h=>by grind,λj h=>by grind,λj h=>.inr Wb,h3⟩
variable {P:Program} {a':AS} {c:Zc} {f:Nat->Nat} {k t:Nat} {xs:List l5}
theorem Dg (h:d.ids=[]):d.n5 f=d:=by
 have one:∀d:D,d.l4=[]->d.y6 f=d:=λd h=>by cases d<;>first |rfl |(trivial)
 have all:∀cs:List D,cs.flatMap D.l4=[]->cs.map (D.y6 f)=cs:=λcs=>by
  induction cs with
  |nil=>simp
  |cons d cs ih=>
   (repeat clear hK K);simp_all
 cases d<;>first |rfl |(simp only[D.n5];rw[all _ h];done) |trivial
theorem RL.app {α β:Type} {R:α->β->Prop}:∀{l l2:List (Nat × α)} {m C:List (Nat × β)},RL R l m->RL R l2 C->RL R (l++l2) (m++C)
 |[],l2,m,C,h,h2=>by grind [RL]
 |x::l,l2,m,C,h,h2=>by obtain⟨b,r,rfl,h1,G⟩:=h;exact⟨b,r++C,rfl,h1,RL.app G h2⟩
def QeH (a:AS) (f:Nat->Nat):List Vl->Option (List Vl)
 |[]=>some []
 |v::vs=>(match Qs7 a f v,QeH a f vs with
  |some w,some ws=>some (w::ws)
  |_,_=>none)
theorem Qbj {ν:List Int} {a:AS} {s:St} {f:Nat->Nat} (h:a.ok ν s):∀{vs ws:List Vl} {ds:List D},QeH a f vs=some ws->Vl.n4 ν vs ds->Vl.n4 ν ws ((ds.map (D.y6 f)).map D.z6)
 |[],ws,ds,he,hv=>by grind [QeH,Vl.n4]
 |v::vs,ws,ds,he,hv=>by
  simp only[QeH]at he;split at he;rename_i w C e1 e2;cases he
  obtain⟨d,r,rfl,h1,h2⟩:=hv;exact⟨_,_,rfl,QlG h e1 h1,Qbj h e2 h2⟩
  grind
def Qs8 (a:AS) (f:Nat->Nat) (v:Vl):Option Vl:=
 match v with
 | .aa cs=>(match QeH a f cs with
  |some ws=>some (.aa ws)
  |none=>none)
 | .rr k o=>some (.rr (f k) o)
 |v=>if v.ids.isEmpty=true then Qlk a v else none
theorem QlH {v w:Vl} (h:a.ok ν s) (he:Qs8 a f v=some w) (C:v.has ν d):w.has ν (d.n5 f).can:=by
 unfold Qs8 at he;split at he;split at he;rename_i cs _ ws e1;cases he
 obtain⟨ds,rfl,h1⟩:=C;exact⟨_,rfl,Qbj h e1 h1⟩
 grind
 cases he
 simp only[Vl.has]at C;subst C;rfl;split at he;rename_i hi;have G:d.ids=[]:=by rw[Vl.v7 C];grind
 obtain⟨h1,h2⟩:=Rp h he C
 grind [Qff,Dg]
 grind
def Qos (a:AS) (f:Nat->Nat):List l5->Option (List Vl)
 |[]=>some []
 |x::r=>(match evA a x with
  |some v=>(match Qs8 a f v,Qos a f r with
   |some w,some ws=>some (w::ws)
   |_,_=>none)
  |none=>none)
theorem B5 {ν:List Int} {a:AS} {s:St} {f:Nat->Nat} (h:a.ok ν s):∀{xs:List l5} {ws:List Vl},Qos a f xs=some ws->∃ds,QF s xs=some ds/\Vl.n4 ν ws (ds.map λd=>(d.n5 f).can)
 |[],ws,he=>by simp only[Qos,QAn]at he;subst he;exact⟨[],rfl,rfl⟩
 |x::r,ws,he=>by
  simp only[Qos]at he;split at he;rename_i v e1;split at he;rename_i w C e2 e3;cases he
  obtain⟨d,h1,h2⟩:=Qp h e1;obtain⟨ds,M,G⟩:=B5 h e3;exact⟨d::ds,by grind [QF],_,_,rfl,QlH h e2 h2,G⟩
  grind
  grind
theorem QbS {ν:List Int} {ρ:Nat->Nat}:∀{vs:List Vl} {ds:List D},Vl.n4 ν vs ds->Vl.n4 ν (vs.map (Vl.n5 ρ)) (ds.map (D.n5 ρ))
 |[],ds,h=>by grind [Vl.n4]
 |v::vs,ds,h=>by obtain⟨d,r,rfl,h1,h2⟩:=h;exact⟨_,_,rfl,Vl.ca h1,QbS h2⟩
theorem RY {ν:List Int} {q:D->Prop} {p:Vl->Bool} (hp:∀v d,v.has ν d->p v=true->q d):∀{vs:List Vl} {ds:List D},Vl.n4 ν vs ds->vs.all p=true->∀d∈ds,q d
 |[],ds,h,_,d,hd=>by grind [Vl.n4]
 |v::vs,ds,h,ha,d,hd=>by
  obtain⟨d0,r,rfl,h1,h2⟩:=h;simp only[QBg,QAo]at ha;rcases QAm.1 hd with rfl |hd
  grind
  exact RY hp h2 ha.2 d hd
def rrV:Vl->Option Nat
 | .rr k _=>some k
 | .aa cs=>cs.findSome? λw=>match w with
  | .rr k _=>some k
  |_=>none
 |_=>none
def rrO (a:AS) (xs:List l5):Option Nat:=xs.findSome? λx=>match evA a x with
 |some v=>rrV v
 |none=>none
def Zc.nm (c:Zc):List Nat:=c.bs.map Prod.fst
def Zc.G (c:Zc):List Nat:=c.nm.filter λk=>!Nat.ble 1000000 k
def Zc.zg (c:Zc) (k:Nat):List (Nat × Bx):=c.bs.map λp=>(if Nat.ble 1000000 p.1=true then k else p.1,p.2)
def Qwl (c:Zc) (k:Nat) (a:AS):AS:=nmH (c.zg k) (emC ⟨[],c.zg k,[],0⟩ (c.zg k) a)
theorem QmX (h:a.ok ν s):∃s',s.le s'/\(Qwl c k a).ok ν s':=by
 obtain⟨s1,l1,h1⟩:=Qby (J:=⟨[],c.zg k,[],0⟩) (l:=c.zg k) h;obtain⟨s2,l2,h2⟩:=Qck (l:=c.zg k) h1;exact⟨s2,le_trans l1 l2,h2⟩
def Qjg (c:Zc) (k:Nat) (a:AS):List (Nat × Bx):=((a.n5 (ZM c.G)).n5 (Zy (upN k) 1000000)).H
def QdI (c:Zc) (k:Nat) (a:AS):List (Nat × Bx):=(Qjg c k a).filter λp=>!c.nm.contains p.1
def okN (G:List Nat) (j:Nat):Bool:=Nat.beq (ZM G (unZ G j)) j
def Qv6 (c:Zc) (k:Nat) (a:AS) (ws:List Vl):Bool:=
 SD c.G&&((a.fr.all λp=>p.2.ids.all λj=>!c.G.contains j)&&((ws.all λv=>v.ids.all λj=>(lk c.bs j).isSome)&&((c.bs.all λp=>p.2.ids.all λj=>(lk c.bs j).isSome)&&(((QdI c k a).all λp=>Nat.ble 1000000 p.1&&p.2.ids.all λj=>(lk (QdI c k a) j).isSome||(Nat.ble 1000000 j&&(lk c.bs j).isSome))&&
  (decide (c.rb.map Prod.fst=c.bs.map Prod.fst)&&(c.rv.ids.isEmpty&&(((c.rb.map λp=>(Zy (upN k) 1000000 p.1,p.2.n5 (Zy (upN k) 1000000))).all λp=>okN c.G p.1&&p.2.xe.all (okN c.G))&&((QdI c k a).map λp=>(Zy (upN k) 1000000 p.1,p.2.n5 (Zy (upN k) 1000000))).all λp=>okN c.G p.1&&p.2.xe.all (okN c.G))))))))
def sgZ (c:Zc) (σ:Sg) (n:Nat):Sg:=(0,0)::(σ++Qkj n (c.mx - c.nx))
def QxJ (c:Zc) (k:Nat) (a:AS) (σ:Sg):List (Nat × Bx):=(((c.rb.map λp=>(p.1,p.2.sub σ))++QdI c k a).map λp=>(Zy (upN k) 1000000 p.1,p.2.n5 (Zy (upN k) 1000000))).map λp=>(unZ c.G p.1,p.2.n5 (unZ c.G))
def QeB (c:Zc) (a:AS) (xs:List l5) (t k:Nat):Option AS:=
 match Qos a (ZM c.G) xs with
 |some ws=>(match QhD 1 a [] (ws.map (Vl.n5 (Zy (upN k) 1000000))) c.az with
  |some (σ1,a3)=>(match mtH 1 a3 σ1 (JU c.nm (Qjg c k a)) c.bs with
   |some (σ2,a4)=>if Nat.beq (1+σ2.length) c.nx=true/\Nat.ble c.nx c.mx=true/\c.cs.all (Qdp a4 1 σ2)=true/\Qv6 c k a (ws.map (Vl.n5 (Zy (upN k) 1000000)))=true then
     some ⟨(t,c.rv.sub (sgZ c σ2 a4.nx))::a.fr,QxJ c k a (sgZ c σ2 a4.nx),c.rc.map (Cn.sub (sgZ c σ2 a4.nx))++a4.cs,a4.nx+(c.mx - c.nx)⟩else none
   |none=>none)
  |none=>none)
 |none=>none
def QlE (c:Zc) (a:AS) (xs:List l5) (t:Nat):Option AS:=
 match rrO a xs with
 |some k=>QeB c (Qwl c k a) xs t k
 |none=>none
theorem RL.wg {α β:Type} {R R':α->β->Prop} {f:α->α} (C:∀a b,R a b->R' (f a) b):∀{l:List (Nat × α)} {m:List (Nat × β)},RL R l m->RL R' (l.map λp=>(p.1,f p.2)) m
 |[],m,h=>by trivial
 |p::l,m,h=>by obtain⟨b,r,rfl,h1,h2⟩:=h;exact⟨b,r,rfl,C _ _ h1,RL.wg C h2⟩
theorem QfE {α β:Type}:∀{l:List (Nat × α)} {m:List (Nat × β)},l.map Prod.fst=m.map Prod.fst->∀k,(lk l k).isSome=(lk m k).isSome
 |[],[],_,k=>rfl
 |(i,x)::l,(j,y)::m,h,k=>by
  simp only[QAX,QBz]at h;obtain⟨rfl,h⟩:=h;rw[Qf,Qf];split;rfl;exact QfE h k
 |[],_::_,h,k=>by grind
 |_::_,[],h,k=>by grind
theorem QeC {f:Nat} (hc:c.ok P f) (h:a.ok ν s) (he:QeB c a xs t k=some a'):∃e d Hr,SX P f xs s c.G Hr d/\a'.ok (ν++e) ⟨(t,d)::s.fr,Hr⟩:=by
 unfold QeB at he;split at he;rename_i ws e1;split at he;rename_i σ1 a3 e2;split at he;rename_i σ2 a4 e3;split at he;rename_i hh;cases he
 obtain⟨k1,k2,k3,k4⟩:=hh;have k1:=QBC k1;have k2:=QAk k2;obtain⟨ds,q1,q2⟩:=B5 h e1;have q3:=QbS (ρ:=Zy (upN k) 1000000) q2;have O:RL (Bx.has ν) (Qjg c k a) (KL (Zy (upN k) 1000000) (Xv c.G s.H)):=((h.n5 (ZM c.G)).n5 (Zy (upN k) 1000000)).H;obtain⟨Y,hY⟩:∃Y,Y=KL (Zy (upN k) 1000000) (Xv c.G s.H):=⟨_,rfl⟩;rw[<- hY]at O;obtain⟨HF,hHF⟩:∃HF,HF=Y.filter λp=>!c.nm.contains p.1:=⟨_,rfl⟩;have hR:RL (Bx.has ν) (QdI c k a) HF:=by rw[hHF];exact RL.sub (λj=>!c.nm.contains j) O
 obtain⟨f0,rfl⟩:∃f0,ν=[0]++f0:=by
  cases ν with
  |nil=>have:=h.z;grind
  |cons x l=>have:=h.z;simp_all
 obtain⟨g,ρ,w1,w2,w3⟩:=Sd (ν0:=[0]) (μ:=[]) h e2 q3 rfl;rw[QBy]at w2 w3;have hH:RL (Bx.has ([0]++(f0++g))) (JU c.nm (Qjg c k a)) (Zv c.nm Y):=RL.mono (λb x q=>by rw[<- QA9];exact q.ext g) (R2 O _)
 obtain⟨g2,ρ2,w4,w5,w6⟩:=C0 (ν0:=[0]) w1 e3 hH w2;have hl:=YJ w5;have hcs:w7 ([0]++(ρ++ρ2)) c.cs:=λx hx=>KW w4 w5 (QAu.1 k3 x hx);have has:Vl.n4 ([0]++(ρ++ρ2)) c.az ((ds.map λd=>(d.n5 (ZM c.G)).can).map (D.n5 (Zy (upN k) 1000000))):=by rw[<- QA9];exact w3.ext ρ2
 obtain⟨e,d,H1,v1,v2,v3,v4,v5⟩:=hc ([0]++(ρ++ρ2)) _ (Zv c.nm Y) Wb rfl hcs has w6;simp only[Qv6,QAo,decide_eq_true_eq]at k4;obtain⟨c1,c2,c3,c4,c5,c6,c7,c8,c9⟩:=k4;have hd:d.ids=[]:=by rw[Vl.v7 v3];grind
 have kp:∀j,(lk (Zv c.nm Y) j).isSome=(lk c.bs j).isSome:=λj=>RL.isSome w6 j;obtain⟨Hr,V⟩:∃Hr,Hr=KL (unZ c.G) (KL (Zy (upN k) 1000000) (H1++HF)):=⟨_,rfl⟩
 have hz:SX P f xs s c.G Hr d:=by
  refine Qh7 (m:=upN k) (n:=1000000) (names:=c.nm) (by grind [upN]) (QAK _) q1 c1 (λt x hx j M=>?_) hY hHF V v5 hd (λi b hb j M=>?_) (λi b hb=>?_) (λi=>?_) (λx hx j M=>?_) (λp hp=>?_);have T:(lk a.fr t).isSome=true:=by rw[<- RL.isSome h.fr t,hx];rfl
  obtain⟨v,hv⟩:=QAq.1 T;obtain⟨d2,u1,u2⟩:=RL.get h.fr hv;rw[hx]at u1;cases u1;have:=QAu.1 (QAu.1 c2 (t,v) (QZ hv)) j (by grind [Vl.v7])
  grind
  have T:(lk c.bs i).isSome=true:=by grind
  obtain⟨bx,C⟩:=QAq.1 T;obtain⟨b2,u1,u2⟩:=RL.get w6 C;rw[hb]at u1;cases u1;rw[kp];exact QAu.1 (QAu.1 c4 (i,bx) (QZ C)) j (by grind [Bx.v7]);have T:(lk (QdI c k a) i).isSome=true:=by grind [RL.isSome]
  obtain⟨bx,C⟩:=QAq.1 T;obtain⟨b2,u1,u2⟩:=RL.get hR C;rw[hb]at u1;cases u1;have:=QAu.1 c5 (i,bx) (QZ C);simp only[QAo]at this;refine⟨QAk this.1,λj M=>?_⟩;have h3:=QAu.1 this.2 j (by grind [Bx.v7]);simp only[QBp,QAo]at h3;rw[RL.isSome hR j,kp]
  (repeat clear hK K);simp_all
  rw[kp,RL.isSome v4 i];grind [QfE];rw[kp]
  exact RY (q:=λx=>∀j∈x.ids,(lk c.bs j).isSome=true) (λv d hv hp j M=>by
   grind [Vl.v7]) q3 c3 x hx j M
  have U:∀t (b:Bx) (x:u4),(∃ν,b.has ν x)->(okN c.G t&&b.xe.all (okN c.G))=true->ZM c.G (unZ c.G t)=t/\∀r∈x.rows,∀d∈r,∀k∈d.l4,ZM c.G (unZ c.G k)=k:=λt b x ⟨ν,hb⟩ hp=>by
   simp only[QAo]at hp;exact⟨QBC hp.1,λr hr d hd j M=>QBC (QAu.1 hp.2 j (Bx.je hb r hr d hd j M))⟩
  rw[KL,QBi,QAv]at hp;rcases hp with hp |hp
  exact RL.each (q:=λt (x:u4)=>ZM c.G (unZ c.G t)=t/\∀r∈x.rows,∀d∈r,∀k∈d.l4,ZM c.G (unZ c.G k)=k) (λt b x hb hq=>U t b x ⟨_,hb⟩ hq) (RL.xd (ρ:=Zy (upN k) 1000000) (λb x q=>Bx.ca q) v4) c8 p hp;exact RL.each (q:=λt (x:u4)=>ZM c.G (unZ c.G t)=t/\∀r∈x.rows,∀d∈r,∀k∈d.l4,ZM c.G (unZ c.G k)=k) (λt b x hb hq=>U t b x ⟨_,hb⟩ hq) (RL.xd (ρ:=Zy (upN k) 1000000) (λb x q=>Bx.ca q) hR) c9 p hp
 have hel:e.length=c.mx - c.nx:=by
  grind
 have hn4:a4.nx=([0]++(f0++g++g2)).length:=w4.nx.symm
 have hv2:Sg.o7 ([0]++(f0++g++g2)++e) ([0]++(ρ++ρ2)++e) (sgZ c σ2 a4.nx):=by
  refine⟨_,_,rfl,YV (show([0]++(f0++g++g2)++e)[0]?=some 0 from rfl) 0, ?_⟩;refine Hl (Jm e w5) ?_
  grind [NM]
 have hσ:=GD hv2;refine⟨g++g2++e,d,Hr,hz, ?_⟩;have en:[0]++f0++(g++g2++e)=[0]++(f0++g++g2)++e:=by simp
 have ex:∀{b:Bx} {x:u4},b.has ([0]++f0) x->b.has ([0]++(f0++g++g2)++e) x:=λq=>by rw[<- en];exact q.ext _
 rw[en];refine⟨⟨d,_,rfl,Vl.ja hσ v3,RL.mono (λv x q=>by rw[<- en];exact q.ext _) h.fr⟩, ?_,w7.app (w7.sub hσ v2) (w4.cs.ext e), ?_,by rfl⟩
 rw[V];exact RL.xd (ρ:=unZ c.G) (λb x q=>Bx.ca q) (RL.xd (ρ:=Zy (upN k) 1000000) (λb x q=>Bx.ca q) (RL.app (RL.wg (λb x q=>Bx.ja hσ q) v4) (RL.mono (λb x q=>ex q) hR)))
 all_goals grind
theorem Qh3 {f:Nat} (C:c.ok P f) (h:a.ok ν s) (he:QlE c a xs t=some a'):∃s1,s.le s1/\∃e d Hr,SX P f xs s1 c.G Hr d/\a'.ok (ν++e) ⟨(t,d)::s1.fr,Hr⟩:=by
 unfold QlE at he;split at he;rename_i k e1;obtain⟨s1,h1,h2⟩:=QmX (c:=c) (k:=k) h
 grind [QeC]
 grind
variable {f μ:List Int} {rs:List XE} {w:Vl}
def gN:List Nat:=[500000]
def rrI (a:AS) (xs:List l5):List Nat:=xs.flatMap λx=>match evA a x with
 |some v=>v.ids
 |none=>[]
def Qv5 (c:Zc) (a:AS) (ws:List Vl):Bool:=
 (a.fr.all λp=>p.2.ids.all λj=>!gN.contains j)&&((a.H.all λp=>!gN.contains p.1&&p.2.ids.all λj=>(lk a.H j).isSome)&&((ws.all λv=>v.ids.isEmpty)&&((c.rv.ids.all λj=>gN.contains j&&(lk c.rb j).isSome)&&((c.rb.all λp=>gN.contains p.1)&&c.rb.all λp=>okN gN p.1&&p.2.xe.all (okN gN)))))
def QeE (c:Zc) (a:AS) (xs:List l5) (t:Nat):Option AS:=
 match Qos a (ZM gN) xs with
 |some ws=>(match QhD 1 a [] ws c.az with
  |some (σ,a2)=>if Nat.beq (1+σ.length) c.nx=true/\Nat.ble c.nx c.mx=true/\c.cs.all (Qdp a2 1 σ)=true/\Qv5 c a ws=true then
    some ⟨(t,c.rv.sub (sgZ c σ a2.nx))::a.fr,(c.rb.map λp=>(p.1,p.2.sub (sgZ c σ a2.nx))).map (λp=>(unZ gN p.1,p.2.n5 (unZ gN)))++a.H,c.rc.map (Cn.sub (sgZ c σ a2.nx))++a2.cs,a2.nx+(c.mx - c.nx)⟩else none
  |none=>none)
 |none=>none
theorem QeF {f:Nat} (hc:c.ok P f) (hb:c.bs=[]) (h:a.ok ν s) (he:QeE c a xs t=some a'):∃e d Hr,SX P f xs s gN Hr d/\a'.ok (ν++e) ⟨(t,d)::s.fr,Hr⟩:=by
 unfold QeE at he;split at he;rename_i ws e1;split at he;rename_i σ a2 e2;split at he;rename_i hh;cases he
 obtain⟨k1,k2,k3,k4⟩:=hh;have k1:=QBC k1;have k2:=QAk k2;obtain⟨ds,q1,q2⟩:=B5 h e1
 obtain⟨f0,rfl⟩:∃f0,ν=[0]++f0:=by
  cases ν with
  |nil=>have:=h.z;grind
  |cons x l=>have:=h.z;simp_all
 obtain⟨g,ρ,w1,V,w3⟩:=Sd (ν0:=[0]) (μ:=[]) h e2 q2 rfl;rw[QBy]at V w3;have hl:=YJ V;have hcs:w7 ([0]++ρ) c.cs:=λx hx=>KW w1 V (QAu.1 k3 x hx);obtain⟨e,d,H1,v1,v2,v3,v4,v5⟩:=hc ([0]++ρ) _ [] Wb rfl hcs w3 (by rw[hb];rfl)
 simp only[Qv5,QAo]at k4;obtain⟨c1,c2,c3,c4,c5,c6⟩:=k4
 have rbG:∀k,(lk H1 k).isSome=true->gN.contains k=true:=λk hk=>by
  rw[RL.isSome v4 k]at hk;obtain⟨b,hb⟩:=QAq.1 hk;exact QAu.1 c5 _ (QZ hb)
 have gLt:∀k,gN.contains k=true->k<1000000:=λk hk=>KQ (G:=gN) rfl hk
 have sG:∀k b,lk s.H k=some b->gN.contains k=false/\∀j∈b.ids,(lk s.H j).isSome=true:=λk b hk=>by
  have hs:(lk a.H k).isSome=true:=by rw[<- RL.isSome h.H k,hk];rfl
  obtain⟨bx,U⟩:=QAq.1 hs;obtain⟨b2,u1,u2⟩:=RL.get h.H U;rw[hk]at u1;cases u1;have:=QAu.1 c2 (k,bx) (QZ U);simp only[QAo,QBq]at this;refine⟨this.1,λj C=>?_⟩;rw[Bx.v7 u2]at C;rw[RL.isSome h.H j]
  grind
 have rBig:∀k,gN.contains k=false->1000000<=ZM gN k:=λk hk=>by
  unfold ZM;simp_all [upN]
 have M:∀k,(lk (Xv gN s.H) k).isSome=true->1000000<=k:=λk hk=>by
  obtain⟨b,hb⟩:=QAq.1 hk;obtain⟨j,b0,rfl,h1,_⟩:=Zl hb
  grind
 have nB:∀k,1000000<=k->lk H1 k=none:=λk hk=>by
  cases e1:lk H1 k with
  |none=>rfl
  |some b=>grind
 have T:∀k∈d.ids,gN.contains k=true/\(lk H1 k).isSome=true:=λk hk=>by
  rw[Vl.v7 v3]at hk;have:=QAu.1 c4 k hk;rw[QAo]at this
  grind [RL.isSome]
 have hfr:s6 P f (ds.map λd=>(d.n5 (ZM gN)).can) ([]++Xv gN s.H) d (H1++Xv gN s.H):=by
  refine s6.frame v5 (λk b hk=>by cases hk) (λk b hk=>⟨M k Wb,rfl,nB k (M k Wb),λj C=>?_⟩) (λk hk hs=>by grind) (λx hx k hk=>?_) (λk hk=>?_);obtain⟨i,b0,rfl,h1,rfl⟩:=Zl hk;rw[u4.j7]at C;obtain⟨j0,hj0,rfl⟩:=QAy.1 C;refine .inl ?_;rw[Yd (G:=gN) rfl,QAC]
  grind
  have:=RY (q:=λx=>x.ids=[]) (λv d Y hp=>by rw[Vl.v7 Y];grind) q2 c3 x hx
  grind
  grind
 have e4:Xv gN (KL (unZ gN) H1++s.H)=H1++Xv gN s.H:=by
  have h1:Xv gN (KL (unZ gN) H1)=H1:=PT (f:=ZM gN) (g:=unZ gN) λp hp=>RL.each (q:=λt (x:u4)=>ZM gN (unZ gN t)=t/\∀r∈x.rows,∀d∈r,∀k∈d.l4,ZM gN (unZ gN k)=k) (p:=λt b=>okN gN t&&b.xe.all (okN gN)) (λt b x hb hp=>by
   simp only[QAo]at hp;exact⟨QBC hp.1,λr hr d hd j C=>QBC (QAu.1 hp.2 j (Bx.je hb r hr d hd j C))⟩) v4 c6 p hp
  grind [Xv]
 have O:∀j,(lk (KL (unZ gN) H1++s.H) j).isSome=(lk (H1++Xv gN s.H) (ZM gN j)).isSome:=λj=>by
  rw[<- e4,Yd (G:=gN) rfl,QAC]
 have hz:SX P f xs s gN (KL (unZ gN) H1++s.H) d:=by
  refine⟨ds,q1,rfl,λt x hx j C=>?_,λk hk=>⟨(T k hk).1, ?_⟩,λj C=>?_,λj C=>?_,by grind⟩;have hs:(lk a.fr t).isSome=true:=by rw[<- RL.isSome h.fr t,hx];rfl
  obtain⟨v,Y⟩:=QAq.1 hs;obtain⟨d2,u1,u2⟩:=RL.get h.fr Y;rw[hx]at u1;cases u1;have:=QAu.1 (QAu.1 c1 (t,v) (QZ Y)) j (by grind [Vl.v7])
  grind
  rw[O];have e5:ZM gN k=k:=if_pos (T k hk).1
  grind [Option.isSome_iff_exists,Zo]
  rw[O,Yy];split;rfl;rw[Yd (G:=gN) rfl,QAC];omega;rw[O,Yy]at C;split at C
  grind
  rw[Yd (G:=gN) rfl,QAC]at C;grind
 have hel:e.length=c.mx - c.nx:=by
  grind
 have hn4:a2.nx=([0]++(f0++g)).length:=w1.nx.symm
 have hv2:Sg.o7 ([0]++(f0++g)++e) ([0]++ρ++e) (sgZ c σ a2.nx):=by
  refine⟨_,_,rfl,YV (show([0]++(f0++g)++e)[0]?=some 0 from rfl) 0, ?_⟩;refine Hl (Jm e V) ?_
  grind [NM]
 have hσ:=GD hv2;have en:[0]++f0++(g++e)=[0]++(f0++g)++e:=by simp
 refine⟨g++e,d,_,hz, ?_⟩;rw[en];refine⟨⟨d,_,rfl,Vl.ja hσ v3,RL.mono (λv x q=>by rw[<- en];exact q.ext _) h.fr⟩, ?_,w7.app (w7.sub hσ v2) (w1.cs.ext e), ?_,by rfl⟩
 exact RL.app (RL.xd (ρ:=unZ gN) (λb x q=>Bx.ca q) (RL.wg (λb x q=>Bx.ja hσ q) v4)) (RL.mono (λb x q=>by rw[<- en];exact q.ext _) h.H)
 all_goals grind
def Qh4 (c:Zc) (a:AS) (xs:List l5) (t:Nat):Option AS:=
 match c.bs with
 |[]=>QeE c (Qj3 (rrI a xs) a) xs t
 |_=>QlE c a xs t
theorem Qbi {f:Nat} (C:c.ok P f) (h:a.ok ν s) (he:Qh4 c a xs t=some a'):∃s1,s.le s1/\∃G e d Hr,SX P f xs s1 G Hr d/\a'.ok (ν++e) ⟨(t,d)::s1.fr,Hr⟩:=by
 unfold Qh4 at he;split at he;rename_i hb;obtain⟨s1,l1,h1⟩:=Mz (ks:=rrI a xs) h
 grind [QeF]
 grind [Qh3]
def QlJ (a:AS) (v:Vl):Option Vl:=
 match v with
 | .oo k x o=>if Nat.ble 500000 k=true then some (.oo k x o)else none
 |v=>if v.l4.isEmpty=true then Qlk a v else none
theorem Qia {v:Vl} {d:D} (h:a.ok ν s) (he:QlJ a v=some w) (C:v.has ν d):w.has ν ((d.n7 s.H small).z6):=by
 unfold QlJ at he;split at he;split at he;rename_i k x o hk;cases he
 obtain⟨n,rfl,h1⟩:=C;have hk:=QAk hk
 have e:(D.s4 k n).n7 s.H small=.s4 k n:=by
  (repeat clear hK K);simp_all [D.n7,if_neg,small]
 rw[e];exact⟨n,rfl,h1⟩
 grind
 split at he;rename_i hi;have G:d.l4=[]:=by rw[Vl.ub C];grind
 have h1:=(Rp h he C).1
 grind [Kk]
 grind
def Ch (a:AS):List Vl->Option (List Vl)
 |[]=>some []
 |v::vs=>match QlJ a v,Ch a vs with
  |some w,some ws=>some (w::ws)
  |_,_=>none
theorem Ci {ν:List Int} {a:AS} {s:St} (h:a.ok ν s):∀{vs ws:List Vl} {ds:List D},Ch a vs=some ws->Vl.n4 ν vs ds->Vl.n4 ν ws (ds.map λd=>(d.n7 s.H small).z6)
 |[],ws,ds,he,hv=>by grind [Ch,Vl.n4]
 |v::vs,ws,ds,he,hv=>by
  simp only[Ch]at he;split at he;rename_i w C e1 e2;cases he
  obtain⟨d,r,rfl,h1,h2⟩:=hv;exact⟨_,_,rfl,Qia h e1 h1,Ci h e2 h2⟩
  grind
def Ql2 (c:Zc) (t sz:Nat) (r2:XE) (ps:List Vl) (w:Vl) (a:AS):Bool:=
 match lk a.fr t with
 |some q=>(match atA a q with
  |some cs=>(match Ch a (cs.take sz),Qgz a r2 with
   |some vs,some v2=>(Nat.ble sz cs.length&&w.ids.isEmpty)&&(match mtC c.nx a [] vs ps with
    |some (σ1,a1)=>(match Qp8 c.nx a1 σ1 v2 w with
     |some (σ2,a2)=>(match mtH c.nx a2 σ2 (JU (c.rb.map Prod.fst) a.H) c.rb with
      |some (τ,a3)=>Nat.beq (c.nx+τ.length) c.mx&&c.rc.all (Qdp a3 c.nx τ)
      |none=>false)
     |none=>false)
    |none=>false)
   |_,_=>false)
  |none=>false)
 |none=>false
theorem Qis {sz:Nat} {Y:XE} {ps:List Vl} (h:a.ok (μ++f) s) (hμ:μ.length=c.nx) (O:c.rv=.tp ps w) (hz:zcB c=true) (C:Ql2 c t sz Y ps w a=true):
  ∃d H',(∃g,(μ++g).length=c.mx/\w7 (μ++g) c.rc/\c.rv.has (μ++g) d/\RL (Bx.has (μ++g)) c.rb H')/\(∀k b,lk H' k=some b->500000<=k/\∀j∈b.ids,(lk H' j).isSome=true)/\
   (∃cs d2,d=.w9 cs d2/\d2.pure=true/\XQ small s (.cell t true sz) (.agg cs)/\XQ small s Y d2)/\∀k b,lk H' k=some b->lk s.H k=some b:=by
 unfold Ql2 at C;split at C;rename_i q e1;split at C;rename_i cs e2;split at C;rename_i vs v2 e3 e4;simp only[QAo]at C;obtain⟨⟨hsz,hw⟩,C⟩:=C;split at C;rename_i σ1 a1 e5;split at C;rename_i σ2 a2 e6;split at C;rename_i τ a3 e7;simp only[QAo]at C;obtain⟨d0,q1,q2⟩:=RL.get h.fr e1;obtain⟨ds,q3,q4⟩:=Qbf h e2 q2;have q5:=Ci h e3 (XN sz q4);obtain⟨d2,q6,q7⟩:=QcF (S:=small) h e4;rw[<- hμ]at e5 e6 e7;obtain⟨g,ρ,h3,h4,h5⟩:=Qcg (μ:=[]) h e5 q5 rfl;rw[QBy]at h4 h5;have G:v2.has (μ++(f++g)) d2:=by rw[<- QA9];exact q6.ext g
 obtain⟨g1,ρ1,i3,i4,i5⟩:=QaJ h3 e6 G h4
 have hH:RL (Bx.has (μ++(f++g++g1))) (JU (c.rb.map Prod.fst) a.H) (Zv (c.rb.map Prod.fst) s.H):=RL.mono (λb x q=>by
  have:=(q.ext g).ext g1
  grind) (R2 h.H _)
 obtain⟨g2,ρ2,h6,h7,h8⟩:=C0 i3 e7 hH i4;have hl:=YJ h7;have hn:=QBC C.1;have T:w7 (μ++(ρ++ρ1++ρ2)) c.rc:=λk hk=>KW h6 h7 Wb;have hlen:(μ++(ρ++ρ1++ρ2)).length=c.mx:=by grind
 have U:Vl.n4 (μ++(ρ++ρ1++ρ2)) ps ((ds.take sz).map λd=>(d.n7 s.H small).z6):=by
  have:=(h5.ext ρ1).ext ρ2
  grind
 have M:w.has (μ++(ρ++ρ1++ρ2)) d2:=by
  have:=i5.ext ρ2
  grind
 refine⟨.w9 ((ds.take sz).map λd=>(d.n7 s.H small).z6) d2,Zv (c.rb.map Prod.fst) s.H,⟨ρ++ρ1++ρ2,hlen,T,by rw[O];exact⟨_,_,rfl,U,M⟩,h8⟩,λk b hk=>?_,⟨_,_,rfl, ?_,⟨d0,ds,q1,HS.2 q3, ?_⟩,q7⟩,λk b hk=>Jk _ _ k b hk⟩
 have hs:(lk c.rb k).isSome=true:=by grind [RL.isSome]
 obtain⟨bx,hb⟩:=QAq.1 hs;obtain⟨b',V,w2⟩:=RL.get h8 hb;rw[hk]at V;cases V;simp only[zcB,QAo]at hz;have:=QAu.1 hz.1 (k,bx) (QZ hb);simp only[QAo]at this;refine⟨QAk this.1,λj hj=>?_⟩
 grind [Bx.v7,RL.isSome]
 exact Qcw (by rw[Vl.v7 i5];grind)
 simp only[if_true];refine⟨by rw[ZG q4];simp_all, ?_⟩
 unfold F7;simp only[D.fz,D.can,QBD];rfl
 all_goals grind
def Ql3 (c:Zc) (rs:List XE) (a:AS):Bool:=
 match rs with
 |[.cell t true sz,r2]=>(match c.rv with
  | .tp ps w=>(match lk a.fr t with
   |some (.rr k0 _)=>Ql2 c t sz r2 ps w (nmC k0 0 ps (QjY ⟨[],c.rb,[],0⟩ k0 0 ps a))
   |_=>false)
  |_=>false)
 |_=>false
theorem QbE (h:a.ok (μ++f) s) (hμ:μ.length=c.nx) (hz:zcB c=true) (C:Ql3 c rs a=true):
  ∃d H' s2,s.le s2/\(∃g,(μ++g).length=c.mx/\w7 (μ++g) c.rc/\c.rv.has (μ++g) d/\RL (Bx.has (μ++g)) c.rb H')/\(∀k b,lk H' k=some b->500000<=k/\∀j∈b.ids,(lk H' j).isSome=true)/\(∃O G cs d2,rs=[O,G]/\d=.w9 cs d2/\d2.pure=true/\XQ small s2 O (.agg cs)/\XQ small s2 G d2)/\∀k b,lk H' k=some b->lk s2.H k=some b:=by
 unfold Ql3 at C;split at C;rename_i t sz G;split at C;rename_i ps w M;split at C;rename_i k0 o e1;obtain⟨s1,l1,h1⟩:=Mw (J:=⟨[],c.rb,[],0⟩) (k0:=k0) (l:=ps) (j:=0) h;obtain⟨s2,l2,h2⟩:=Qcj (k:=k0) (l:=ps) (j:=0) h1;obtain⟨d,H',q1,q2,⟨cs,d2,q3,Y,V,U⟩,T⟩:=Qis h2 hμ M hz C;exact⟨d,H',s2,le_trans l1 l2,q1,q2,⟨_,_,cs,d2,rfl,q3,Y,V,U⟩,T⟩
 all_goals grind
def Qxn (c:Zc) (rs:List XE) (p:AExit × AS):Bool:=
 match p.1 with
 | .exit _=>false
 |_=>Ql3 c rs p.2
def QhA (c:Zc) (rs:List XE) (p:AExit × AS):Bool:=
 match c.rv with
 | .tp _ _=>Qxn c rs p
 |_=>Qv9 c rs p
theorem Ql1 {e:AExit} (h:a.ok (μ++f) s) (V:μ.length=c.nx) (Y:zcB c=true) (C:QhA c rs (e,a)=true):
  ∃d H' s2,s.le s2/\(∃g,(μ++g).length=c.mx/\w7 (μ++g) c.rc/\c.rv.has (μ++g) d/\RL (Bx.has (μ++g)) c.rb H')/\(∀k b,lk H' k=some b->500000<=k/\∀j∈b.ids,(lk H' j).isSome=true)/\Na rs d H' e s2:=by
 unfold QhA at C;split at C;cases e with
 |normal=>obtain⟨d,H',s2,U,T,O,M,G⟩:=QbE h V Y C;exact⟨d,H',s2,U,T,O,.inr (.inr (.inr M)),G⟩
 |ret=>obtain⟨d,H',s2,U,T,O,M,G⟩:=QbE h V Y C;exact⟨d,H',s2,U,T,O,.inr (.inr (.inr M)),G⟩
 |exit i=>cases C
 grind [Ql5]
variable {K:St->Prop} {g:Option (Nat × Bool)} {o:z1} {r:List z1}
def Pk (zs:Nat->List Zc):List z1->Option (List z1 × Nat × Nat × List l5 × Option (Nat × Bool) × List z1)
 |[]=>none
 |o::r=>match o with
  |⟨some t,.call f args,g⟩=>if(zs f).isEmpty=true then(match Pk zs r with
    |some (l,x)=>some (o::l,x)
    |none=>none)else some ([],t,f,args,g,r)
  |_=>(match Pk zs r with
    |some (l,x)=>some (o::l,x)
    |none=>none)
theorem N4 {C:Nat->List Zc}:∀{ops l lr:List z1} {t f:Nat} {args:List l5} {g:Option (Nat × Bool)},Pk C ops=some (l,t,f,args,g,lr)->ops=l++⟨some t,.call f args,g⟩::lr
 |[],l,lr,t,f,args,g,h=>by cases h
 |o::r,l,lr,t,f,args,g,h=>by
  have more:(match Pk C r with
    |some (l,x)=>some (o::l,x)
    |none=>none)=some (l,t,f,args,g,lr)->o::r=l++⟨some t,.call f args,g⟩::lr:=λh=>by
   split at h;rename_i l2 x e;cases h
   rw[N4 e];rfl
   grind
  unfold Pk at h
  grind
def gdZ (g:Option (Nat × Bool)) (a:AS):Option (List (Bool × AS)):=
 match g with
 |none=>some [(true,a)]
 |some (t,b)=>if Qsx (lk a.fr t)=true then some [(false,a)]else(match spl a (.s t)with
  |some l=>some (l.map λp=>(p.1==b,p.2))
  |none=>none)
theorem QpK {l:List (Bool × AS)} (h:a.ok ν s) (he:gdZ g a=some l):∃c a',(c,a')∈l/\gw s g=some c/\a'.ok ν s:=by
 unfold gdZ at he;split at he;cases he;exact⟨true,a,by simp,rfl,h⟩;rename_i t b;split at he;rename_i hu;cases he
 have:=Qhf h.fr hu
 grind [gw]
 split at he;rename_i G e1;cases he
 obtain⟨c,C,hm,hx,h1⟩:=QcW h e1;have hx:lk s.fr t=some (.bool c):=hx;exact⟨c==b,C,QAy.2 ⟨(c,C),hm,rfl⟩,by grind [gw],h1⟩
 grind
def gdT (g:Option (Nat × Bool)) (t:Nat) (a:AS):Bool:=
 match g with
 |none=>true
 |some (u,b)=>!Nat.beq t u&&(match lk a.fr u with
  |some v=>(match Qb1 v with
   |some c=>c==b
   |none=>false)
  |none=>false)
theorem QpJ {s1:St} {H:QAh} {t:Nat} {d:D} (h:a.ok ν ⟨(t,d)::s1.fr,H⟩) (hb:gdT g t a=true):gw s1 g=some true:=by
 unfold gdT at hb;split at hb;rfl;rename_i u b;simp only[QAo,QBq]at hb;obtain⟨h1,h2⟩:=hb;split at h2;rename_i v e1;split at h2;rename_i c e2;obtain⟨d2,M,G⟩:=RL.get h.fr e1;have C:=R3 h.z G e2;subst C;rw[Qf,if_neg (λe=>by simp_all)]at M
 grind [gw]
 grind
 grind
def QgK (tb:Tb) (zs:Nat->List Zc):Nat->List z1->AS->Option (List AS)
 |0,_,_=>none
 |n+1,ops,a=>match Pk zs ops with
  |none=>QcP tb false (DA.of false) ops a
  |some (l,t,f,args,g,lr)=>(match QcP tb false (DA.of false) l a with
   |some az=>Qdk (λa1=>(match gdZ g a1 with
    |some ws=>Qdk (λ(p:Bool × AS)=>if p.1=true then(match QoD (λc=>Qh4 c p.2 args t) (zs f)with
     |some a2=>if gdT g t a2=true then QgK tb zs n lr a2 else none
     |none=>none)else QgK tb zs n lr (DT p.2 (some t) (.dd .undef))) ws
    |none=>none)) az
   |none=>none)
theorem QgL (C:gw s o.guard=some false) (h:Yu P r K (s.apply o.dst .undef none)):Yu P (o::r) K s:=by
 refine .inl ?_
 grind [Qhw]
theorem Br (h:Qcq P o (Yu P r K) s):Yu P (o::r) K s:=.inr h
theorem SB {l ol:List z1} (h:run P .fixed l (Yu P r K) s) (C:ol=l++r):Yu P ol K s:=by
 grind [GH,Zs]
theorem Dm {P:Program} {tb:Tb} (O:tb.ok P) {zs:Nat->List Zc} (U:∀f,∀c∈zs f,c.ok P f):∀{n:Nat} {ops:List z1} {a:AS} {outs:List AS} {ν:List Int} {s:St},a.ok ν s->QgK tb zs n ops a=some outs->∃a'∈outs,∃e s',a'.ok (ν++e) s'/\∀K:St->Prop,K s'->Yu P ops K s
 |0,ops,a,outs,ν,s,h,he=>by cases he
 |n+1,ops,a,outs,ν,s,h,he=>by
  simp only[QgK]at he;split at he;obtain⟨a',ha,e,s',h1,h2⟩:=Ks (P:=P) O (DA.sc false s.H) h he;exact⟨a',ha,e,s',h1,λK V=>XC (h2 K V)⟩;rename_i l t f args g lr e0;split at he;rename_i az e1;obtain⟨a1,hm,e,s1,h1,h2⟩:=Ks (P:=P) O (DA.sc false s.H) h e1;obtain⟨q,hq,T⟩:=Y3 he hm;split at hq;rename_i ws e2;obtain⟨c,a2,Y,hg,h3⟩:=QpK h1 e2;obtain⟨q2,C,M⟩:=Y3 hq Y;cases c with
  |true=>
   simp only[if_true]at C;split at C;rename_i a3 e3;obtain⟨c,hc,e4⟩:=PJ e3;obtain⟨s2,hle,G,e5,d,Hr,hz,h4⟩:=Qbi (U f c hc) h3 e4;split at C;rename_i hgt;obtain⟨a',ha,e6,s',h5,h6⟩:=Dm O U h4 C;refine⟨a',T _ (M _ ha),e++e5++e6,s',by grind,λK V=>?_⟩;exact SB (r:=⟨some t,.call f args,g⟩::lr) (h2 _ (Br ⟨s2,hle,QpJ h4 hgt,t,f,args,G,Hr,d,rfl,.inl rfl,hz,h6 K V⟩)) (N4 e0)
   grind
   grind
  |false=>
   simp only[QAs,if_false]at C;obtain⟨a',ha,e6,s',h5,h6⟩:=Dm O U (Xi (dst:=some t) (v:=.dd .undef) (d:=.undef) h3 rfl) C;exact⟨a',T _ (M _ ha),e++e6,s',by grind,λK V=>SB (r:=⟨some t,.call f args,g⟩::lr) (h2 _ (QgL hg (h6 K V))) (N4 e0)⟩
  grind
  grind
def Qm5 (tb:Tb) (zs:Nat->List Zc) (ops:List z1) (a:AS):Option (List AS):=
 match Pk zs ops with
 |none=>none
 |some (l,t,f,args,some _,lr)=>none
 |some (l,t,f,args,none,lr)=>if(QhY l ⟨some t,.call f args,none⟩ lr&&Qox l (⟨some t,.call f args,none⟩::lr))=true then(match QcP tb false (DA.of true) l a with
   |some az=>Qdk (λa1=>(match QoD (λc=>Qh4 c a1 args t) (zs f)with
    |some a2=>QcP tb false (DA.of true) lr a2
    |none=>none)) az
   |none=>none)else none
theorem Qjf {nt:Nat} {tb:Tb} (C:tb.ok P) {T:Nat->List Zc} (O:∀f,∀c∈T f,c.ok P f) {ops:List z1} {outs:List AS} (h:a.ok ν s) (he:Qm5 tb T ops a=some outs):∃a'∈outs,∃e s',a'.ok (ν++e) s'/\∀Q:AExit->St->Prop,Q .normal s'->AW P nt (.region true ops) Q s:=by
 simp only[Qm5]at he;split at he
 grind
 grind
 rename_i l t f args lr e0;split at he;rename_i hb;rw[QAo]at hb;split at he;rename_i az e1;obtain⟨a1,hm,e,s1,h1,h2⟩:=Ks (P:=P) C (DA.sc true s.H) h e1;obtain⟨q,U,M⟩:=Y3 he hm;split at U;rename_i a2 e2;obtain⟨c,Y,e3⟩:=PJ e2;obtain⟨s2,hle,G,e4,d,Hr,V,h3⟩:=Qbi (O f c Y) h1 e3;obtain⟨a',ha,e5,s',h4,h5⟩:=Ks (P:=P) C (DA.sc true Hr) h3 U;refine⟨a',M _ ha,e++e4++e5,s',by grind,λQ hQ=>?_⟩;rw[N4 e0];exact Rb hb.1 hb.2 (h2 _ ⟨s2,hle,rfl,t,f,args,G,Hr,d,rfl,.inl rfl,V,h5 _ hQ⟩)
 all_goals grind
end Go.Abs
