/- Part 4 of the means of the proof: a verified evaluator and contracts of functions. -/
import Derived.Test.YtggcpapoljmiaaaGreatDoorC3
import Derived.KernelRfl
set_option maxRecDepth 4000
set_option maxHeartbeats 4000000
set_option linter.unusedSimpArgs false
set_option linter.unusedVariables false
set_option linter.unusedSectionVars false
namespace Go.Abs
open Go
theorem n6.frame {P:Program} {f:Nat} {ds:List D} {H H' HF:QzK} {d:D} (h:n6 P f ds H d H') (hcl:∀k b,lk H k=some b->∀j∈b.ids,(lk H j).isSome=true)
 (hF:∀k b,lk HF k=some b->1000000<=k/\lk H k=none/\lk H' k=none/\∀j∈b.ids,(lk HF j).isSome=true\/(1000000<=j/\(lk H j).isSome=true))
 (hbig:∀k,1000000<=k->(lk H' k).isSome=true->(lk H k).isSome=true) (hds:∀x∈ds,∀k∈x.ids,(lk H k).isSome=true) (hd:∀k∈d.ids,(lk HF k).isSome=false):n6 P f ds (H++HF) d (H'++HF):=by
 have nF:∀k,(lk H k).isSome=true->(lk HF k).isSome=false:=λk hk=>by
  cases e:lk HF k with
  |none=>rfl
  |some b=>grind
 have G:∀k,(lk H' k).isSome=true->(lk HF k).isSome=false:=λk hk=>by
  cases e:lk HF k with
  |none=>rfl
  |some b=>grind
 have inL:∀(A:QzK) k,(lk A k).isSome=true->(lk (A++HF) k).isSome=true:=λA k hk=>by
  grind [Option.isSome_iff_exists,Zm]
 have M:∀(A:QzK) k b,lk A k=none->lk HF k=some b->lk (A++HF) k=some b:=λA k b h1 h2=>by grind [Zv]
 have split:∀(A:QzK) k b,lk (A++HF) k=some b->lk A k=some b\/(lk A k=none/\lk HF k=some b):=λA k b hb=>by
  cases e:lk A k with
  |none=>rw[Zv e]at hb;grind
  |some b2=>grind [Zm]
 refine⟨h.1,λg w vs C hargs _=>?_⟩;have hr:ia g H w:=⟨hcl,λk b hk=>C.bx k b (Zm hk),λk k' b b' B e e' h1 h2=>C.inj k k' b b' B e e' (Zm h1) (Zm h2),C.kr⟩;refine(h.2 g w vs hr hargs hds).mono λe w' ⟨v,g',he,hv,O,hsz,hfr,hfx,hkeep,hnew⟩=>?_
 have hno:∀k b B e,lk HF k=some b->g.β k=some (B,e)->B<w.heap.size/\¬NW g H B:=λk b B e hk hβ=>by
  have h1:=M H k b (hF k b hk).2.1 hk;refine⟨((C.bx k b h1).gb hβ).1,λ⟨k2,e2,q1,V⟩=>?_⟩;obtain⟨b2,T⟩:=QzT.1 q1;have:=C.inj k2 k b2 b B e2 e (Zm T) h1 V hβ
  grind
 have hKle:g.K.le g'.K:=λb q x hx=>by
  have hb:=C.kr.lt hx
  have hno:¬NW g H b:=λ⟨k2,e2,q1,V⟩=>by
   obtain⟨b2,T⟩:=QzT.1 q1;rw[((hr.bx k2 b2 T).gb V).2.1 q]at hx;grind
  grind
 obtain⟨g2,gK,gB,gS⟩:∃g2:Gh,g2.K=g'.K/\(∀j,g2.β j=if(lk HF j).isSome=true then g.β j else g'.β j)/\∀j,g2.σ j=if(lk HF j).isSome=true then g.σ j else g'.σ j:=
  ⟨⟨g'.K,λj=>if(lk HF j).isSome=true then g.β j else g'.β j,λj=>if(lk HF j).isSome=true then g.σ j else g'.σ j⟩,rfl,λ_=>rfl,λ_=>rfl⟩
 have eF:∀j,(lk HF j).isSome=true->g2.β j=g.β j/\g2.σ j=g.σ j:=λj Y=>by grind
 have eN:∀j,(lk HF j).isSome=false->g2.β j=g'.β j/\g2.σ j=g'.σ j:=λj Y=>by grind
 have eB:∀j,1000000<=j->(lk H j).isSome=true->g2.β j=g.β j/\g2.σ j=g.σ j:=λj h1 h2=>by
  grind
 refine⟨v,g2,he,hv.congr (by grind [Kn.le_refl]) λj Y=>eN j (hd j Y),⟨λk b hk j Y=>?_,λk b hk=>?_,λk k' b b' B e e' h1 h2 U h4=>?_,by rw[gK];exact O.kr⟩,hsz,λb hb hn=>?_,hfx,λk h1 h2=>?_,λk B e h1 h2 U=>?_⟩
 rcases split H' k b hk with hk |⟨hk0,hk⟩;exact inL H' j (O.u9 k b hk j Y)
 grind [Option.isSome_iff_exists]
 rcases split H' k b hk with hk |⟨hk0,hk⟩;have hb:=O.bx k b hk
 refine hb.move (eN k (G k Wb)) (λr hr d hd j Y=>eN j (G j ?_)) (by grind [Kn.le_refl]) λB e _=>⟨rfl,λo ho=>by grind,λh=>h⟩;cases hp:b.pr with
 |true=>rw[hb.2.1 hp r hr d hd]at Y;grind
 |false=>exact O.u9 k b hk j (by simp only[u4.ids,hp];grind)
 have h1:=M H k b (hF k b hk).2.1 hk;have hb:=C.bx k b h1;refine hb.move (eF k Wb) (λr hr d hd j Y=>?_) Wb λB e hβ=>?_;cases hp:b.pr with
 |true=>rw[hb.2.1 hp r hr d hd]at Y;grind
 |false=>
  rcases(hF k b hk).2.2.2 j (by simp only[u4.ids,hp];grind)with q |⟨q1,V⟩
  grind
  grind
 obtain⟨q1,V⟩:=hno k b B e hk hβ;obtain⟨q3,q4⟩:=hfr B q1 V;exact⟨q3,λo ho=>by grind,λ_=>.inl (QzZ _)⟩
 have mixed:∀k k' b b' e e',lk H' k=some b->lk HF k'=some b'->g2.β k=some (B,e)->g2.β k'=some (B,e')->k=k':=λk k' b b' e e' h1 h2 U h4=>by
  rw[(eN k (G k Wb)).1]at U;rw[(eF k' Wb).1]at h4;have h5:=M H k' b' (hF k' b' h2).2.1 h2
  by_cases hk:1000000<=k
  have hs:=hbig k hk Wb;rw[(hkeep k hk hs).2.1]at U;obtain⟨b2,T⟩:=QzT.1 hs;exact C.inj k k' b2 b' B e e' (Zm T) h5 U h4;obtain⟨q1,V⟩:=hno k' b' B e' h2 h4;rcases hnew k B e Wa Wb U with h6 |⟨k2,e2,_,q3,q4⟩
  omega;exact(V ⟨k2,e2,q3,q4⟩).elim
 rcases split H' k b h1 with a1 |⟨_,a1⟩<;>rcases split H' k' b' h2 with a2 |⟨_,a2⟩
 rw[(eN k (G k Wb)).1]at U;rw[(eN k' (G k' Wb)).1]at h4;exact O.inj k k' b b' B e e' a1 a2 U h4
 grind
 grind
 rw[(eF k Wb).1]at U;rw[(eF k' Wb).1]at h4;exact C.inj k k' b b' B e e' (M H k b (hF k b a1).2.1 a1) (M H k' b' (hF k' b' a2).2.1 a2) U h4;obtain⟨q1,V⟩:=hfr b hb λ⟨k,e,h1,h2⟩=>hn ⟨k,e,inL H k h1,h2⟩
 grind
 grind [Option.isSome_iff_exists]
 have e0:(lk HF k).isSome=false:=by
  cases e1:lk HF k with
  |none=>rfl
  |some b=>grind
 have hs:(lk H' k).isSome=true:=by
  cases e1:lk H' k with
  |none=>grind [Zv]
  |some b=>rfl
 grind
variable {S:Nat->Bool} {a:AS} {d:D} {s:St} {ν:List Int}
def Qhg (n0:Nat):AS->Sg->List Vl->List Vl->Option (Sg × AS)
 |a,σ,[],[]=>some (σ,a)
 |a,σ,v::l,p::r=>match QpT n0 a σ v p with
  |some (σ1,a1)=>Qhg n0 a1 σ1 l r
  |none=>none
 |_,_,_,_=>none
theorem RR {s:St} {ν0:List Int}:∀{l r:List Vl} {m:List D} {f μ:List Int} {a a':AS} {σ τ:Sg},a.ok (ν0++f) s->Qhg ν0.length a σ l r=some (τ,a')->Vl.n4 (ν0++f) l m->Sg.r7 (ν0++f) μ σ->∃e ρ,a'.ok (ν0++(f++e)) s/\Sg.r7 (ν0++(f++e)) (μ++ρ) τ/\Vl.n4 (ν0++(μ++ρ)) r m
 |[],[],m,f,μ,a,a',σ,τ,h,he,hr,hm=>by
  simp only[Qhg,QzQ,QAG]at he;obtain⟨rfl,rfl⟩:=he;exact⟨[],[],by grind,by grind,hr⟩
 |p::l,q::r,m,f,μ,a,a',σ,τ,h,he,hr,hm=>by
  simp only[Qhg]at he;split at he;rename_i σ1 a1 e1;obtain⟨d,G,rfl,h1,h2⟩:=hr;obtain⟨g,ρ,T,O,M⟩:=Qah h e1 h1 hm;have C:Vl.n4 (ν0++(f++g)) l G:=by rw[<- QAD];exact h2.ext g
  obtain⟨g2,ρ2,Y,V,U⟩:=RR T he C O;refine⟨g++g2,ρ++ρ2,by grind,by grind,d,G,rfl, ?_,by grind⟩;have:=M.ext ρ2
  grind
  grind
 |[],_::_,m,f,μ,a,a',σ,τ,h,he,hr,hm=>by trivial
 |_::_,[],m,f,μ,a,a',σ,τ,h,he,hr,hm=>by trivial
section
variable {P:Program} {nt:Nat} {Q:AExit->St->Prop} {s:St}
theorem DM {c:y5} (h:TW P nt c (λe s=>∃s2,s.le s2/\Q e s2) s):TW P nt c Q s:=λcode E g a w hm hp O G r=>
 wpIn_mono (h code E g a w hm hp O G r) λe a' w' C=>by
  cases e<;>simp only[AQ]at C ⊢<;>try exact C
  all_goals
   obtain⟨s',g',⟨s2,hle,C⟩,M⟩:=C;obtain⟨g2,T⟩:=hle _ _ _ _ M
   grind
theorem n6.ph {f:Nat} {fn:Func} {tf:a6} {ds:List D} {H:QzK} {R:D->QzK->Prop} (hm:P.follows .mixedOrders=true) (M:P.funcs[f]?=some fn) (hp:Qk P fn=some tf.erase) (C:ds.length<=tf.nt)
 (h:TX P tf.nt tf.body (λe s=>∃d H' s2,s.le s2/\R d H'/\(∀k,1000000<=k->(lk H k).isSome=true->(lk H' k).isSome=true)/\(∀k b,lk H' k=some b->500000<=k/\∀j∈b.ids,(lk H' j).isSome=true)/\Fm tf.rs d H' e s2) ⟨MB 0 ds,H⟩) (G:HD f=[]:=by rfl):∃d H',R d H'/\n6 P f ds H d H':=by
 obtain⟨e,s,⟨d,H',s2,h0,h1,h2,T,U⟩,O⟩:=h;exact⟨d,H',h1,n6.b7 hm M hp C h2 T (DM (Zh (λ_ _ ⟨p,q⟩=>by grind) O)) G⟩
end
def Qf8 (a:AS):Xy->Option Vl
 | .tmp t=>(match lk a.fr t with
  |some v=>if v.ids.isEmpty=true then Qju a v else none
  |none=>none)
 | .cell t agg sz=>(match lk a.fr t with
  |some p=>(match atA a p with
   |some cs=>if agg=true/\Nat.ble sz cs.length=true/\(Vl.aa (cs.take sz)).ids.isEmpty=true then Qju a (.aa (cs.take sz))else none
   |none=>none)
  |none=>none)
theorem DR (h:d.ids=[]):FN S s d=XL s d:=by
 grind [FN,XL,QeK]
theorem Qcb {r:Xy} {v:Vl} (h:a.ok ν s) (he:Qf8 a r=some v):∃d,v.has ν d/\XJ S s r d:=by
 cases r with
 |tmp t=>
  simp only[Qf8]at he;split at he;rename_i w e1;split at he;rename_i hi;obtain⟨d,h1,h2⟩:=RL.get h.fr e1;refine⟨_,N3 h he h2,d,h1, ?_⟩;rw[DR (by rw[Vl.w7 h2];grind)]
  grind
  grind
 |cell t agg sz=>
  simp only[Qf8]at he;split at he;rename_i p e1;obtain⟨d,h1,h2⟩:=RL.get h.fr e1;split at he;rename_i cs e2;obtain⟨ds,O,M⟩:=QaM h e2 h2;split at he;rename_i C;obtain⟨ha,hb,hi⟩:=C;subst ha;have G:(Vl.aa (cs.take sz)).has ν (.agg (ds.take sz)):=⟨_,rfl,XH sz M⟩;refine⟨_,N3 h he G,d,ds,h1,HK.2 O, ?_⟩;simp only[if_true]
  grind [ZF,Nat.le_of_ble_eq_true,DR,Vl.w7]
  grind
  grind
  grind
def nm1 (k j want:Nat) (a:AS):AS:=
 match lk a.H k with
 |some (.cc cells _ _)=>(match cells[j]? with
  |some (.oo hv _ _)=>if Nat.ble (hv+1) 1000000=true/\Nat.ble (want+1) 1000000=true/\Nat.beq hv want=false then a.o5 (Zw hv want)else a
  |_=>a)
 |_=>a
theorem QpZ (h:a.ok ν s) (k j C:Nat):∃s',s.le s'/\(nm1 k j C a).ok ν s':=by
 have same:∃s',s.le s'/\a.ok ν s':=⟨s,le_refl s,h⟩;unfold nm1;split;split;split;rename_i G;exact⟨_,KZ _ _ (QzN G.1) (QzN G.2.1) s,h.o5 _⟩;omega;omega;omega
def nmC (k:Nat):Nat->List Vl->AS->AS
 |_,[],a=>a
 |j,.oo want _ _::r,a=>nmC k (j+1) r (nm1 k j want a)
 |j,_::r,a=>nmC k (j+1) r a
theorem QbS {ν:List Int} {k:Nat}:∀{l:List Vl} {j:Nat} {a:AS} {s:St},a.ok ν s->∃s',s.le s'/\(nmC k j l a).ok ν s'
 |[],j,a,s,h=>⟨s,le_refl s,h⟩
 |v::r,j,a,s,h=>by
  cases v with
  |oo want _ _=>
   obtain⟨s1,h1,h2⟩:=QpZ h k j want;obtain⟨s2,G,C⟩:=QbS (l:=r) (j:=j+1) h2;exact⟨s2,le_trans h1 G,C⟩
  |_=>exact QbS (l:=r) (j:=j+1) h
def nmH:List (Nat × Bx)->AS->AS
 |[],a=>a
 |(k,.cc cells _ _)::r,a=>nmH r (nmC k 0 cells a)
 |_::r,a=>nmH r a
theorem QbT {ν:List Int}:∀{l:List (Nat × Bx)} {a:AS} {s:St},a.ok ν s->∃s',s.le s'/\(nmH l a).ok ν s'
 |[],a,s,h=>⟨s,le_refl s,h⟩
 |(k,b)::r,a,s,h=>by
  cases b with
  |cc cells et pr=>
   obtain⟨s1,h1,h2⟩:=QbS (k:=k) (l:=cells) (j:=0) h;obtain⟨s2,G,C⟩:=QbT (l:=r) h2;exact⟨s2,le_trans h1 G,C⟩
  |ww=>exact QbT (l:=r) h
def Qdb (a:AS):List Xy->Option (List Vl)
 |[]=>some []
 |r::rs=>(match Qf8 a r,Qdb a rs with
  |some v,some vs=>some (v::vs)
  |_,_=>none)
theorem Qcc {ν:List Int} {a:AS} {s:St} {S:Nat->Bool} (h:a.ok ν s):∀{rs:List Xy} {vs:List Vl},Qdb a rs=some vs->∃ds,Vl.n4 ν vs ds/\R6 S s rs ds
 |[],vs,he=>by simp only[Qdb,QzQ]at he;subst he;exact⟨[],rfl,rfl⟩
 |r::rs,vs,he=>by
  simp only[Qdb]at he;split at he;rename_i v ws e1 e2;cases he
  obtain⟨d,h1,h2⟩:=Qcb (S:=S) h e1;obtain⟨ds,G,C⟩:=Qcc h e2;exact⟨d::ds,⟨d,ds,rfl,h1,G⟩,d,ds,rfl,h2,C⟩
  grind
def Zc.pg (c:Zc) (rs:List Xy):Option (List Vl):=
 match rs with
 |[_]=>some [c.rv]
 |[_,_]=>(match c.rv with
  | .uu vs=>some vs
  |_=>none)
 |_=>none
def Qwb (a:AS) (rs:List Xy):List Nat:=(rs.flatMap λr=>match r with
 | .tmp t=>(match lk a.fr t with
  |some v=>v.ids
  |none=>[])
 | .cell t _ _=>(match lk a.fr t with
  |some p=>(match atA a p with
   |some cs=>cs.flatMap Vl.l4
   |none=>[])
  |none=>[])).filter λk=>Nat.ble (k+1) 500000
def QlG (c:Zc) (rs:List Xy) (a:AS):AS:=nmH c.rb (QjM (Qwb a rs) a)
def zcB (c:Zc):Bool:=(c.rb.all λp=>Nat.ble 500000 p.1&&p.2.ids.all λj=>(lk c.rb j).isSome)&&c.bs.all λp=>!Nat.ble 1000000 p.1||(lk c.rb p.1).isSome
def QvT (c:Zc) (rs:List Xy) (p:AExit × AS):Bool:=
 match p.1 with
 | .exit _=>false
 |_=>(match Qdb (QlG c rs p.2) rs,c.pg rs with
  |some vs,some ps=>(ps.all λv=>v.ids.isEmpty)&&(match Qhg c.nx (QlG c rs p.2) [] vs ps with
   |some (σ,a)=>(match mtH c.nx a σ (JK (c.rb.map Prod.fst) (QlG c rs p.2).H) c.rb with
    |some (τ,a2)=>Nat.beq (c.nx+τ.length) c.mx&&c.rc.all (QcX a2 c.nx τ)
    |none=>false)
   |none=>false)
  |_,_=>false)
theorem Qb2 (h:d.ids=[]):d.pure=true:=by
 have one:∀d:D,d.l4=[]->d.own=false:=λd h=>by cases d<;>first |rfl |(trivial)
 have all:∀cs:List D,cs.flatMap D.l4=[]->(cs.all λd=>!d.own)=true:=λcs h=>QzX.2 λd hd=>by
  (repeat clear hK K);simp_all
 cases d<;>first |rfl |exact all _ h |trivial
theorem QlP {c:Zc} {rs:List Xy} {e:AExit} {μ f:List Int} (h:a.ok (μ++f) s) (hμ:μ.length=c.nx) (hz:zcB c=true) (C:QvT c rs (e,a)=true):
  ∃d H' s2,s.le s2/\(∃g,(μ++g).length=c.mx/\v7 (μ++g) c.rc/\c.rv.has (μ++g) d/\RL (Bx.has (μ++g)) c.rb H')/\(∀k b,lk H' k=some b->500000<=k/\∀j∈b.ids,(lk H' j).isSome=true)/\Fm rs d H' e s2:=by
 obtain⟨s1,l1,h1⟩:=Mh (ks:=Qwb a rs) h;obtain⟨s2,l2,h2⟩:=QbT (l:=c.rb) h1
 have key:(match Qdb (QlG c rs a) rs,c.pg rs with
  |some vs,some ps=>(ps.all λv=>v.ids.isEmpty)&&(match Qhg c.nx (QlG c rs a) [] vs ps with
   |some (σ,a1)=>(match mtH c.nx a1 σ (JK (c.rb.map Prod.fst) (QlG c rs a).H) c.rb with
    |some (τ,a2)=>Nat.beq (c.nx+τ.length) c.mx&&c.rc.all (QcX a2 c.nx τ)
    |none=>false)
   |none=>false)
  |_,_=>false)=true->∃d H',(∃g,(μ++g).length=c.mx/\v7 (μ++g) c.rc/\c.rv.has (μ++g) d/\RL (Bx.has (μ++g)) c.rb H')/\(∀k b,lk H' k=some b->500000<=k/\∀j∈b.ids,(lk H' j).isSome=true)/\
   (((rs=[]/\d=.l7 [])\/(∃r,rs=[r]/\XJ small s2 r d)\/(∃O G d1 d2,rs=[O,G]/\d=.l7 [d1,d2]/\d1.pure=true/\d2.pure=true/\XJ small s2 O d1/\XJ small s2 G d2)\/∃O G cs d2,rs=[O,G]/\d=.w9 cs d2/\d2.pure=true/\XJ small s2 O (.agg cs)/\XJ small s2 G d2)/\∀k b,lk H' k=some b->lk s2.H k=some b):=λC=>by
  split at C;rename_i vs ps e1 e2;rw[QzR]at C;obtain⟨hid,C⟩:=C;split at C;rename_i σ a1 e3;split at C;rename_i τ a2 e4;simp only[QzR]at C;obtain⟨ds,V,T⟩:=Qcc (S:=small) h2 e1;rw[<- hμ]at e3 e4;obtain⟨g,ρ,h3,h4,h5⟩:=RR (μ:=[]) h2 e3 V rfl;rw[QA2]at h4 h5;have hH:RL (Bx.has (μ++(f++g))) (JK (c.rb.map Prod.fst) (QlG c rs a).H) (Zs (c.rb.map Prod.fst) s2.H):=RL.mono (λb x q=>by rw[<- QAD];exact q.ext g) (RA h2.H _)
  obtain⟨g2,ρ2,h6,h7,h8⟩:=CK h3 e4 hH h4;have hl:=YK h7;have hn:=QA6 C.1;have hrc:v7 (μ++(ρ++ρ2)) c.rc:=λk hk=>KT h6 h7 Wb;have hlen:(μ++(ρ++ρ2)).length=c.mx:=by grind
  have M:Vl.n4 (μ++(ρ++ρ2)) ps ds:=by rw[<- QAD];exact h5.ext ρ2
  have hcl:∀k b,lk (Zs (c.rb.map Prod.fst) s2.H) k=some b->500000<=k/\∀j∈b.ids,(lk (Zs (c.rb.map Prod.fst) s2.H) j).isSome=true:=λk b hk=>by
   have hs:(lk c.rb k).isSome=true:=by grind [RL.isSome]
   obtain⟨bx,hb⟩:=QzT.1 hs;obtain⟨b',U,w2⟩:=RL.get h8 hb;rw[hk]at U;cases U;simp only[zcB,QzR]at hz;have:=QzX.1 hz.1 (k,bx) (QV hb);simp only[QzR]at this;refine⟨QzN this.1,λj hj=>?_⟩
   grind [Bx.w7,RL.isSome]
  have Y:∀k b,lk (Zs (c.rb.map Prod.fst) s2.H) k=some b->lk s2.H k=some b:=λk b hk=>X8 _ _ k b hk;unfold Zc.pg at e2;split at e2;rename_i r;cases e2
  obtain⟨d,G,rfl,U,w2⟩:=M;simp only[Vl.n4]at w2;subst w2;obtain⟨d2,ds2,v1,v2,v3⟩:=T
  grind
  rename_i O G;split at e2;rename_i vs2 e5;cases e2
  obtain⟨d1,ds1,v1,v2,d2,ds2,v3,v4,v5⟩:=T;simp only[R6]at v5;subst v5 v3 v1
  have hp:∀(ps:List Vl) (ds:List D),Vl.n4 (μ++(ρ++ρ2)) ps ds->(ps.all λv=>v.ids.isEmpty)=true->∀d∈ds,d.pure=true:=by
   intro ps
   induction ps with
   |nil=>grind [Vl.n4]
   |cons p ps ih=>
    intro ds hh ha d hd;obtain⟨d0,r0,rfl,U,w2⟩:=hh;simp only[QAK,QzR]at ha;rcases QzP.1 hd with rfl |hd
    exact Qb2 (by rw[Vl.w7 U];grind)
    grind
  have hp:=hp _ _ M hid;exact⟨.l7 [d1,d2],_,⟨ρ++ρ2,hlen,hrc,by rw[e5];exact⟨_,rfl,M⟩,h8⟩,hcl,.inr (.inr (.inl ⟨_,_,d1,d2,rfl,rfl,hp d1 Wc,hp d2 Wc,v2,v4⟩)),Y⟩
  grind
  grind
  grind
  grind
  grind
 cases e with
 |normal=>obtain⟨d,H',V,T,q3⟩:=key C;exact⟨d,H',s2,le_trans l1 l2,V,T,q3⟩
 |ret=>obtain⟨d,H',V,T,q3⟩:=key C;exact⟨d,H',s2,le_trans l1 l2,V,T,q3⟩
 |exit i=>cases C
variable {b:Bx} {m n:Nat} {x:u4}
section
variable {f g:Nat->Nat}
theorem NF (h:∀k∈d.l4,f (g k)=k):(d.o6 g).o6 f=d:=by
 cases d<;>first |rfl |(have:=h _ (QzW.2 rfl);grind [D.o6])
theorem Qb8 {cs:List D} (h:∀k∈cs.flatMap D.l4,f (g k)=k):(cs.map (D.o6 g)).map (D.o6 f)=cs:=by
 induction cs with
 |nil=>rfl
 |cons d cs ih=>
  rw[QAi]at h
  (repeat clear hK K);simp_all [NF]
theorem Qf6 (h:∀k∈d.ids,f (g k)=k):(d.o5 g).o5 f=d:=by
 cases d<;>first
  |rfl
  |(simp only[D.o5];rw[Qb8 h];done)
  |exact NF (d:=.s4 _ _) h
  |exact NF (d:=.y9 _ _ _ _) h
  |exact NF (d:=.ref _ _ _) h
  |exact NF (d:=.r9 _ _ _) h
theorem Qlj {b:u4} (h:∀r∈b.rows,∀d∈r,∀k∈d.l4,f (g k)=k):(b.o5 g).o5 f=b:=by
 obtain⟨rows,l0,et,pr⟩:=b
 have e:(rows.map λr=>r.map (D.o6 g)).map (λr=>r.map (D.o6 f))=rows:=by
  rw[QA7]
  conv=>rhs;rw[<- List.map_id rows]
  grind [List.map_congr_left,Qb8]
 grind [u4.o5]
theorem Ps {H:QzK} (h:∀p∈H,f (g p.1)=p.1/\∀r∈p.2.rows,∀d∈r,∀k∈d.l4,f (g k)=k):Ko f (Ko g H)=H:=by
 unfold Ko;rw[QA7]
 conv=>rhs;rw[<- List.map_id H]
 refine QAP λp hp=>?_;obtain⟨h1,h2⟩:=h p hp;obtain⟨k,b⟩:=p;simp only[Function.comp,id]
 grind [Qlj]
end
def Bx.jf:Bx->List Nat
 | .cc cells _ _=>cells.flatMap Vl.l4
 | .ww _ _ _ _ _=>[]
theorem Bx.se (h:b.has ν x):∀r∈x.rows,∀d∈r,∀k∈d.l4,k∈b.jf:=by
 cases b with
 |cc cells et pr=>
  obtain⟨ds,rfl,h1⟩:=h;intro r hr d hd k hk;simp only[QzW]at hr;subst hr;show k∈cells.flatMap Vl.l4;rw[<- FL h1]
  grind
 |ww row x o l0 et=>
  obtain⟨rows,rfl,_,h2⟩:=h
  grind [Tp.xf]
theorem RL.each {α β:Type} {R:α->β->Prop} {q:Nat->β->Prop} {p:Nat->α->Bool} (hp:∀t a b,R a b->p t a=true->q t b):∀{l:List (Nat × α)} {m:List (Nat × β)},RL R l m->(l.all λx=>p x.1 x.2)=true->∀y∈m,q y.1 y.2
 |[],m,h,_,y,C=>by grind [RL]
 |x::l,m,h,ha,y,C=>by
  obtain⟨b,r,rfl,h1,h2⟩:=h;simp only[QAK,QzR]at ha;rcases QzP.1 C with rfl |C
  grind
  exact RL.each hp h2 ha.2 y C
theorem RL.sub {α β:Type} {R:α->β->Prop} (q:Nat->Bool):∀{l:List (Nat × α)} {m:List (Nat × β)},RL R l m->RL R (l.filter λx=>q x.1) (m.filter λx=>q x.1)
 |[],m,h=>by grind [RL]
 |x::l,m,h=>by
  obtain⟨b,r,rfl,h1,h2⟩:=h;rw[List.filter_cons,List.filter_cons]
  by_cases e:q x.1=true
  rw[if_pos e,if_pos e];exact⟨b,_,rfl,h1,RL.sub q h2⟩;rw[if_neg e,if_neg e];exact RL.sub q h2
theorem RG {α:Type} (q:Nat->Bool):∀(l:List (Nat × α)) (k:Nat),lk (l.filter λx=>q x.1) k=if q k=true then lk l k else none
 |[],k=>by simp[lk]
 |(j,v)::l,k=>by
  rw[List.filter_cons]
  by_cases e:q j=true
  rw[if_pos e,Qe,Qe,RG q l k]
  grind
  rw[if_neg e,RG q l k,Qe]
  grind
def Bx.sub (σ:Sg):Bx->Bx
 | .cc cells et pr=>.cc (Vl.sd σ cells) et pr
 | .ww row x o l0 et=>.ww row (σ.at x).1 ((σ.at x).2+o) l0 et
theorem Bx.la {μ:List Int} {σ:Sg} (hσ:σ.ok ν μ) (h:b.has μ x):(b.sub σ).has ν x:=by
 cases b with
 |cc cells et pr=>obtain⟨ds,h1,h2⟩:=h;exact⟨ds,h1,Vl.da hσ h2⟩
 |ww row x o l0 et=>obtain⟨rows,h1,h2,C⟩:=h;exact⟨rows,h1,x6.sub hσ h2,C⟩
def QsQ (a:AS) (f:Nat->Nat) (v:Vl):Option Vl:=
 match v with
 | .rr k o=>some (.rr (f k) o)
 |v=>if v.l4.isEmpty=true then Qk2 a v else none
theorem Qlp {a:AS} {f:Nat->Nat} {v w:Vl} (h:a.ok ν s) (he:QsQ a f v=some w) (C:v.has ν d):w.has ν ((d.o6 f).y6):=by
 unfold QsQ at he;split at he;cases he
 simp only[Vl.has]at C;subst C;rfl;split at he;rename_i hi;have G:d.l4=[]:=by rw[Vl.wb C];grind
 have h1:=(PW h he C).1;rw[Kb (λk hk=>by grind)]at h1;have e:d.o6 f=d:=by cases d<;>first |rfl |(trivial)
 grind
 grind
theorem Jx:∀(l:List Nat) (H:QzK) (k:Nat),lk (Zs l H) k=if l.contains k=true then lk H k else none
 |[],H,k=>rfl
 |t::l,H,k=>by
  unfold Zs
  by_cases e:t=k
  subst e;have C:(t::l).contains t=true:=by simp
  rw[if_pos C];cases h:lk H t with
  |none=>
   show lk (Zs l H) t=none;rw[Jx l H t,h];simp
  |some d=>show lk ((t,d)::Zs l H) t=some d;rw[Qe,if_pos rfl]
  have C:(t::l).contains k=l.contains k:=by
   grind
  rw[C];cases h:lk H t with
  |none=>exact Jx l H k
  |some d=>show lk ((t,d)::Zs l H) k=_;rw[Qe,if_neg e];exact Jx l H k
def unZ (G:List Nat) (j:Nat):Nat:=if G.contains j=true then j else j - 1000000
theorem QmS (hm:1000000<=m) (C:1000000<=n):Rn (Zw m n) (Zw m n):=⟨ZK m n,λk=>by
 grind [Zw]⟩
theorem QhM {P:Program} {f:Nat} {args:List n5} {G names:List Nat} {ds:List D} {Y HF H1 Hr:QzK} (hm:1000000<=m) (hn:1000000<=n) (hds:QD s args=some ds) (hG:Sd G=true) (V:∀t x,lk s.fr t=some x->∀k∈x.ids,G.contains k=false)
 (hY:Y=Ko (Zw m n) (Xq G s.H)) (hHF:HF=Y.filter λp=>!names.contains p.1) (hHr:Hr=Ko (unZ G) (Ko (Zw m n) (H1++HF)))
 (T:n6 P f ((ds.map λd=>(d.o5 (ZN G)).can).map (D.o5 (Zw m n))) (Zs names Y) d H1) (hd:d.ids=[])
 (hcl:∀k b,lk (Zs names Y) k=some b->∀j∈b.ids,(lk (Zs names Y) j).isSome=true)
 (hF:∀k b,lk HF k=some b->1000000<=k/\∀j∈b.ids,(lk HF j).isSome=true\/(1000000<=j/\(lk (Zs names Y) j).isSome=true))
 (hk:∀k,(lk H1 k).isSome=(lk (Zs names Y) k).isSome) (U:∀x∈(ds.map λd=>(d.o5 (ZN G)).can).map (D.o5 (Zw m n)),∀k∈x.ids,(lk (Zs names Y) k).isSome=true)
 (hZ:∀p∈Ko (Zw m n) (H1++HF),ZN G (unZ G p.1)=p.1/\∀r∈p.2.rows,∀d∈r,∀k∈d.l4,ZN G (unZ G k)=k):SB P f args s G Hr d:=by
 have hρ:=QmS hm hn
 have O:∀k,lk HF k=if names.contains k=true then none else lk Y k:=λk=>by
  rw[hHF,RG (λk=>!names.contains k)];simp
 have M:∀k,lk (Zs names Y) k=if names.contains k=true then lk Y k else none:=Jx names Y
 have fN:∀k b,lk HF k=some b->lk (Zs names Y) k=none:=λk b h=>by
  grind
 have fN1:∀k b,lk HF k=some b->lk H1 k=none:=λk b h=>by
  have:=hk k;rw[fN k b h]at this;cases e:lk H1 k with
  |none=>rfl
  |some x=>grind
 have C:∀k,lk Y k=lk (Zs names Y++HF) k:=λk=>by
  rw[Z8,M,O]
  grind
 have h1:=n6.frame (HF:=HF) T hcl (λk b h=>⟨(hF k b h).1,fN k b h,fN1 k b h,(hF k b h).2⟩) (λk _ h=>by grind) U (λk h=>by grind);have h2:=h1.yh (H1:=Y) (H1':=H1++HF) C λ_=>rfl
 have e1:((ds.map λd=>(d.o5 (ZN G)).can).map (D.o5 (Zw m n))).map (D.o5 (Zw m n))=ds.map λd=>(d.o5 (ZN G)).can:=by
  rw[QA7]
  grind [List.map_congr_left,Qf6,ZK]
 have e2:Ko (Zw m n) Y=Xq G s.H:=by simp_all [Ps,ZK]
 have e3:d.o5 (Zw m n)=d:=by
  have:=Qf6 (f:=Zw m n) (g:=Zw m n) (d:=d) λk h=>by grind
  have q:∀d:D,d.ids=[]->d.o5 (Zw m n)=d:=λd h=>by
   have one:∀d:D,d.l4=[]->d.o6 (Zw m n)=d:=λd h=>by cases d<;>first |rfl |(trivial)
   have all:∀cs:List D,cs.flatMap D.l4=[]->cs.map (D.o6 (Zw m n))=cs:=λcs=>by
    induction cs with
    |nil=>simp
    |cons d cs ih=>
     (repeat clear hK K);simp_all
   cases d<;>first |rfl |(simp only[D.o5];rw[all _ h];done) |trivial
  grind
 have e4:Xq G Hr=Ko (Zw m n) (H1++HF):=by rw[hHr];exact Ps hZ
 have h3:=n6.cg hρ h2 e1 e2 e3 e4.symm
 have hn1:∀j,(lk (H1++HF) j).isSome=(lk Y j).isSome:=λj=>by
  rw[C,Z8,Z8];have:=hk j;cases e:lk H1 j<;>cases e':lk (Zs names Y) j<;>rw[e,e']at this<;>first |rfl |(grind)
 have hdom:∀j,(lk Hr j).isSome=(lk s.H j).isSome:=λj=>by
  have q1:=Yb hG Hr j;have q2:=Yb hG s.H j;have q3:=Y5 hρ (H1++HF) (Zw m n (ZN G j))
  grind [Y5,ZK,Option.isSome_map]
 exact⟨ds,hds,hG,V,λk h=>by grind,λj h=>by grind,λj h=>.inr Wb,h3⟩
variable {P:Program} {a':AS} {c:Zc} {f:Nat->Nat} {k t:Nat} {xs:List n5}
theorem L3 (h:d.ids=[]):d.o5 f=d:=by
 have one:∀d:D,d.l4=[]->d.o6 f=d:=λd h=>by cases d<;>first |rfl |(trivial)
 have all:∀cs:List D,cs.flatMap D.l4=[]->cs.map (D.o6 f)=cs:=λcs=>by
  induction cs with
  |nil=>simp
  |cons d cs ih=>
   (repeat clear hK K);simp_all
 cases d<;>first |rfl |(simp only[D.o5];rw[all _ h];done) |trivial
theorem RL.app {α β:Type} {R:α->β->Prop}:∀{l l2:List (Nat × α)} {m C:List (Nat × β)},RL R l m->RL R l2 C->RL R (l++l2) (m++C)
 |[],l2,m,C,h,h2=>by grind [RL]
 |x::l,l2,m,C,h,h2=>by obtain⟨b,r,rfl,h1,G⟩:=h;exact⟨b,r++C,rfl,h1,RL.app G h2⟩
def Qea (a:AS) (f:Nat->Nat):List Vl->Option (List Vl)
 |[]=>some []
 |v::vs=>(match QsQ a f v,Qea a f vs with
  |some w,some ws=>some (w::ws)
  |_,_=>none)
theorem QaR {ν:List Int} {a:AS} {s:St} {f:Nat->Nat} (h:a.ok ν s):∀{vs ws:List Vl} {ds:List D},Qea a f vs=some ws->Vl.n4 ν vs ds->Vl.n4 ν ws ((ds.map (D.o6 f)).map D.y6)
 |[],ws,ds,he,hv=>by grind [Qea,Vl.n4]
 |v::vs,ws,ds,he,hv=>by
  simp only[Qea]at he;split at he;rename_i w C e1 e2;cases he
  obtain⟨d,r,rfl,h1,h2⟩:=hv;exact⟨_,_,rfl,Qlp h e1 h1,QaR h e2 h2⟩
  grind
def QsR (a:AS) (f:Nat->Nat) (v:Vl):Option Vl:=
 match v with
 | .aa cs=>(match Qea a f cs with
  |some ws=>some (.aa ws)
  |none=>none)
 | .rr k o=>some (.rr (f k) o)
 |v=>if v.ids.isEmpty=true then Qk2 a v else none
theorem Qlq {v w:Vl} (h:a.ok ν s) (he:QsR a f v=some w) (C:v.has ν d):w.has ν (d.o5 f).can:=by
 unfold QsR at he;split at he;split at he;rename_i cs _ ws e1;cases he
 obtain⟨ds,rfl,h1⟩:=C;exact⟨_,rfl,QaR h e1 h1⟩
 grind
 cases he
 simp only[Vl.has]at C;subst C;rfl;split at he;rename_i hi;have G:d.ids=[]:=by rw[Vl.w7 C];grind
 obtain⟨h1,h2⟩:=PW h he C
 grind [QeK,L3]
 grind
def Qoe (a:AS) (f:Nat->Nat):List n5->Option (List Vl)
 |[]=>some []
 |x::r=>(match evA a x with
  |some v=>(match QsR a f v,Qoe a f r with
   |some w,some ws=>some (w::ws)
   |_,_=>none)
  |none=>none)
theorem BC {ν:List Int} {a:AS} {s:St} {f:Nat->Nat} (h:a.ok ν s):∀{xs:List n5} {ws:List Vl},Qoe a f xs=some ws->∃ds,QD s xs=some ds/\Vl.n4 ν ws (ds.map λd=>(d.o5 f).can)
 |[],ws,he=>by simp only[Qoe,QzQ]at he;subst he;exact⟨[],rfl,rfl⟩
 |x::r,ws,he=>by
  simp only[Qoe]at he;split at he;rename_i v e1;split at he;rename_i w C e2 e3;cases he
  obtain⟨d,h1,h2⟩:=Qp h e1;obtain⟨ds,M,G⟩:=BC h e3;exact⟨d::ds,by grind [QD],_,_,rfl,Qlq h e2 h2,G⟩
  grind
  grind
theorem Qbq {ν:List Int} {ρ:Nat->Nat}:∀{vs:List Vl} {ds:List D},Vl.n4 ν vs ds->Vl.n4 ν (vs.map (Vl.o5 ρ)) (ds.map (D.o5 ρ))
 |[],ds,h=>by grind [Vl.n4]
 |v::vs,ds,h=>by obtain⟨d,r,rfl,h1,h2⟩:=h;exact⟨_,_,rfl,Vl.ca h1,Qbq h2⟩
theorem Rw {ν:List Int} {q:D->Prop} {p:Vl->Bool} (hp:∀v d,v.has ν d->p v=true->q d):∀{vs:List Vl} {ds:List D},Vl.n4 ν vs ds->vs.all p=true->∀d∈ds,q d
 |[],ds,h,_,d,hd=>by grind [Vl.n4]
 |v::vs,ds,h,ha,d,hd=>by
  obtain⟨d0,r,rfl,h1,h2⟩:=h;simp only[QAK,QzR]at ha;rcases QzP.1 hd with rfl |hd
  grind
  exact Rw hp h2 ha.2 d hd
def rrV:Vl->Option Nat
 | .rr k _=>some k
 | .aa cs=>cs.findSome? λw=>match w with
  | .rr k _=>some k
  |_=>none
 |_=>none
def rrO (a:AS) (xs:List n5):Option Nat:=xs.findSome? λx=>match evA a x with
 |some v=>rrV v
 |none=>none
def Zc.nm (c:Zc):List Nat:=c.bs.map Prod.fst
def Zc.G (c:Zc):List Nat:=c.nm.filter λk=>!Nat.ble 1000000 k
def Zc.zg (c:Zc) (k:Nat):List (Nat × Bx):=c.bs.map λp=>(if Nat.ble 1000000 p.1=true then k else p.1,p.2)
def Qv5 (c:Zc) (k:Nat) (a:AS):AS:=nmH (c.zg k) (emC ⟨[],c.zg k,[],0⟩ (c.zg k) a)
theorem QmM (h:a.ok ν s):∃s',s.le s'/\(Qv5 c k a).ok ν s':=by
 obtain⟨s1,l1,h1⟩:=Qa7 (J:=⟨[],c.zg k,[],0⟩) (l:=c.zg k) h;obtain⟨s2,l2,h2⟩:=QbT (l:=c.zg k) h1;exact⟨s2,le_trans l1 l2,h2⟩
def QiV (c:Zc) (k:Nat) (a:AS):List (Nat × Bx):=((a.o5 (ZN c.G)).o5 (Zw (upN k) 1000000)).H
def Qdc (c:Zc) (k:Nat) (a:AS):List (Nat × Bx):=(QiV c k a).filter λp=>!c.nm.contains p.1
def okN (G:List Nat) (j:Nat):Bool:=Nat.beq (ZN G (unZ G j)) j
def QvQ (c:Zc) (k:Nat) (a:AS) (ws:List Vl):Bool:=
 Sd c.G&&((a.fr.all λp=>p.2.ids.all λj=>!c.G.contains j)&&((ws.all λv=>v.ids.all λj=>(lk c.bs j).isSome)&&((c.bs.all λp=>p.2.ids.all λj=>(lk c.bs j).isSome)&&(((Qdc c k a).all λp=>Nat.ble 1000000 p.1&&p.2.ids.all λj=>(lk (Qdc c k a) j).isSome||(Nat.ble 1000000 j&&(lk c.bs j).isSome))&&
  (decide (c.rb.map Prod.fst=c.bs.map Prod.fst)&&(c.rv.ids.isEmpty&&(((c.rb.map λp=>(Zw (upN k) 1000000 p.1,p.2.o5 (Zw (upN k) 1000000))).all λp=>okN c.G p.1&&p.2.jf.all (okN c.G))&&((Qdc c k a).map λp=>(Zw (upN k) 1000000 p.1,p.2.o5 (Zw (upN k) 1000000))).all λp=>okN c.G p.1&&p.2.jf.all (okN c.G))))))))
def sgZ (c:Zc) (σ:Sg) (n:Nat):Sg:=(0,0)::(σ++Qj4 n (c.mx - c.nx))
def Qxp (c:Zc) (k:Nat) (a:AS) (σ:Sg):List (Nat × Bx):=(((c.rb.map λp=>(p.1,p.2.sub σ))++Qdc c k a).map λp=>(Zw (upN k) 1000000 p.1,p.2.o5 (Zw (upN k) 1000000))).map λp=>(unZ c.G p.1,p.2.o5 (unZ c.G))
def Qd4 (c:Zc) (a:AS) (xs:List n5) (t k:Nat):Option AS:=
 match Qoe a (ZN c.G) xs with
 |some ws=>(match Qhg 1 a [] (ws.map (Vl.o5 (Zw (upN k) 1000000))) c.az with
  |some (σ1,a3)=>(match mtH 1 a3 σ1 (JK c.nm (QiV c k a)) c.bs with
   |some (σ2,a4)=>if Nat.beq (1+σ2.length) c.nx=true/\Nat.ble c.nx c.mx=true/\c.cs.all (QcX a4 1 σ2)=true/\QvQ c k a (ws.map (Vl.o5 (Zw (upN k) 1000000)))=true then
     some ⟨(t,c.rv.sub (sgZ c σ2 a4.nx))::a.fr,Qxp c k a (sgZ c σ2 a4.nx),c.rc.map (Cn.sub (sgZ c σ2 a4.nx))++a4.cs,a4.nx+(c.mx - c.nx)⟩else none
   |none=>none)
  |none=>none)
 |none=>none
def Qln (c:Zc) (a:AS) (xs:List n5) (t:Nat):Option AS:=
 match rrO a xs with
 |some k=>Qd4 c (Qv5 c k a) xs t k
 |none=>none
theorem RL.wg {α β:Type} {R R':α->β->Prop} {f:α->α} (C:∀a b,R a b->R' (f a) b):∀{l:List (Nat × α)} {m:List (Nat × β)},RL R l m->RL R' (l.map λp=>(p.1,f p.2)) m
 |[],m,h=>by trivial
 |p::l,m,h=>by obtain⟨b,r,rfl,h1,h2⟩:=h;exact⟨b,r,rfl,C _ _ h1,RL.wg C h2⟩
theorem Qfa {α β:Type}:∀{l:List (Nat × α)} {m:List (Nat × β)},l.map Prod.fst=m.map Prod.fst->∀k,(lk l k).isSome=(lk m k).isSome
 |[],[],_,k=>rfl
 |(i,x)::l,(j,y)::m,h,k=>by
  simp only[QAr,QA3]at h;obtain⟨rfl,h⟩:=h;rw[Qe,Qe];split;rfl;exact Qfa h k
 |[],_::_,h,k=>by grind
 |_::_,[],h,k=>by grind
theorem Qd5 {f:Nat} (hc:c.ok P f) (h:a.ok ν s) (he:Qd4 c a xs t k=some a'):∃e d Hr,SB P f xs s c.G Hr d/\a'.ok (ν++e) ⟨(t,d)::s.fr,Hr⟩:=by
 unfold Qd4 at he;split at he;rename_i ws e1;split at he;rename_i σ1 a3 e2;split at he;rename_i σ2 a4 e3;split at he;rename_i hh;cases he
 obtain⟨k1,k2,k3,k4⟩:=hh;have k1:=QA6 k1;have k2:=QzN k2;obtain⟨ds,q1,q2⟩:=BC h e1;have q3:=Qbq (ρ:=Zw (upN k) 1000000) q2;have O:RL (Bx.has ν) (QiV c k a) (Ko (Zw (upN k) 1000000) (Xq c.G s.H)):=((h.o5 (ZN c.G)).o5 (Zw (upN k) 1000000)).H;obtain⟨Y,hY⟩:∃Y,Y=Ko (Zw (upN k) 1000000) (Xq c.G s.H):=⟨_,rfl⟩;rw[<- hY]at O;obtain⟨HF,hHF⟩:∃HF,HF=Y.filter λp=>!c.nm.contains p.1:=⟨_,rfl⟩;have hR:RL (Bx.has ν) (Qdc c k a) HF:=by rw[hHF];exact RL.sub (λj=>!c.nm.contains j) O
 obtain⟨f0,rfl⟩:∃f0,ν=[0]++f0:=by
  cases ν with
  |nil=>have:=h.z;grind
  |cons x l=>have:=h.z;simp_all
 obtain⟨g,ρ,w1,w2,w3⟩:=RR (ν0:=[0]) (μ:=[]) h e2 q3 rfl;rw[QA2]at w2 w3;have hH:RL (Bx.has ([0]++(f0++g))) (JK c.nm (QiV c k a)) (Zs c.nm Y):=RL.mono (λb x q=>by rw[<- QAD];exact q.ext g) (RA O _)
 obtain⟨g2,ρ2,w4,w5,w6⟩:=CK (ν0:=[0]) w1 e3 hH w2;have hl:=YK w5;have hcs:v7 ([0]++(ρ++ρ2)) c.cs:=λx hx=>KT w4 w5 (QzX.1 k3 x hx);have has:Vl.n4 ([0]++(ρ++ρ2)) c.az ((ds.map λd=>(d.o5 (ZN c.G)).can).map (D.o5 (Zw (upN k) 1000000))):=by rw[<- QAD];exact w3.ext ρ2
 obtain⟨e,d,H1,v1,v2,v3,v4,v5⟩:=hc ([0]++(ρ++ρ2)) _ (Zs c.nm Y) Wb rfl hcs has w6;simp only[QvQ,QzR,decide_eq_true_eq]at k4;obtain⟨c1,c2,c3,c4,c5,c6,c7,c8,c9⟩:=k4;have hd:d.ids=[]:=by rw[Vl.w7 v3];grind
 have kp:∀j,(lk (Zs c.nm Y) j).isSome=(lk c.bs j).isSome:=λj=>RL.isSome w6 j;obtain⟨Hr,V⟩:∃Hr,Hr=Ko (unZ c.G) (Ko (Zw (upN k) 1000000) (H1++HF)):=⟨_,rfl⟩
 have hz:SB P f xs s c.G Hr d:=by
  refine QhM (m:=upN k) (n:=1000000) (names:=c.nm) (by grind [upN]) (QAe _) q1 c1 (λt x hx j M=>?_) hY hHF V v5 hd (λi b hb j M=>?_) (λi b hb=>?_) (λi=>?_) (λx hx j M=>?_) (λp hp=>?_);have T:(lk a.fr t).isSome=true:=by rw[<- RL.isSome h.fr t,hx];rfl
  obtain⟨v,hv⟩:=QzT.1 T;obtain⟨d2,u1,u2⟩:=RL.get h.fr hv;rw[hx]at u1;cases u1;have:=QzX.1 (QzX.1 c2 (t,v) (QV hv)) j (by grind [Vl.w7])
  grind
  have T:(lk c.bs i).isSome=true:=by grind
  obtain⟨bx,C⟩:=QzT.1 T;obtain⟨b2,u1,u2⟩:=RL.get w6 C;rw[hb]at u1;cases u1;rw[kp];exact QzX.1 (QzX.1 c4 (i,bx) (QV C)) j (by grind [Bx.w7]);have T:(lk (Qdc c k a) i).isSome=true:=by grind [RL.isSome]
  obtain⟨bx,C⟩:=QzT.1 T;obtain⟨b2,u1,u2⟩:=RL.get hR C;rw[hb]at u1;cases u1;have:=QzX.1 c5 (i,bx) (QV C);simp only[QzR]at this;refine⟨QzN this.1,λj M=>?_⟩;have h3:=QzX.1 this.2 j (by grind [Bx.w7]);simp only[QAT,QzR]at h3;rw[RL.isSome hR j,kp]
  (repeat clear hK K);simp_all
  rw[kp,RL.isSome v4 i];grind [Qfa];rw[kp]
  exact Rw (q:=λx=>∀j∈x.ids,(lk c.bs j).isSome=true) (λv d hv hp j M=>by
   grind [Vl.w7]) q3 c3 x hx j M
  have U:∀t (b:Bx) (x:u4),(∃ν,b.has ν x)->(okN c.G t&&b.jf.all (okN c.G))=true->ZN c.G (unZ c.G t)=t/\∀r∈x.rows,∀d∈r,∀k∈d.l4,ZN c.G (unZ c.G k)=k:=λt b x ⟨ν,hb⟩ hp=>by
   simp only[QzR]at hp;exact⟨QA6 hp.1,λr hr d hd j M=>QA6 (QzX.1 hp.2 j (Bx.se hb r hr d hd j M))⟩
  rw[Ko,QAM,QzY]at hp;rcases hp with hp |hp
  exact RL.each (q:=λt (x:u4)=>ZN c.G (unZ c.G t)=t/\∀r∈x.rows,∀d∈r,∀k∈d.l4,ZN c.G (unZ c.G k)=k) (λt b x hb hq=>U t b x ⟨_,hb⟩ hq) (RL.ke (ρ:=Zw (upN k) 1000000) (λb x q=>Bx.ca q) v4) c8 p hp;exact RL.each (q:=λt (x:u4)=>ZN c.G (unZ c.G t)=t/\∀r∈x.rows,∀d∈r,∀k∈d.l4,ZN c.G (unZ c.G k)=k) (λt b x hb hq=>U t b x ⟨_,hb⟩ hq) (RL.ke (ρ:=Zw (upN k) 1000000) (λb x q=>Bx.ca q) hR) c9 p hp
 have hel:e.length=c.mx - c.nx:=by
  grind
 have hn4:a4.nx=([0]++(f0++g++g2)).length:=w4.nx.symm
 have hv2:Sg.r7 ([0]++(f0++g++g2)++e) ([0]++(ρ++ρ2)++e) (sgZ c σ2 a4.nx):=by
  refine⟨_,_,rfl,YU (show([0]++(f0++g++g2)++e)[0]?=some 0 from rfl) 0, ?_⟩;refine Hi (Jb e w5) ?_
  grind [Nv]
 have hσ:=Gw hv2;refine⟨g++g2++e,d,Hr,hz, ?_⟩;have en:[0]++f0++(g++g2++e)=[0]++(f0++g++g2)++e:=by simp
 have ex:∀{b:Bx} {x:u4},b.has ([0]++f0) x->b.has ([0]++(f0++g++g2)++e) x:=λq=>by rw[<- en];exact q.ext _
 rw[en];refine⟨⟨d,_,rfl,Vl.la hσ v3,RL.mono (λv x q=>by rw[<- en];exact q.ext _) h.fr⟩, ?_,v7.app (v7.sub hσ v2) (w4.cs.ext e), ?_,by rfl⟩
 rw[V];exact RL.ke (ρ:=unZ c.G) (λb x q=>Bx.ca q) (RL.ke (ρ:=Zw (upN k) 1000000) (λb x q=>Bx.ca q) (RL.app (RL.wg (λb x q=>Bx.la hσ q) v4) (RL.mono (λb x q=>ex q) hR)))
 all_goals grind
theorem QhI {f:Nat} (C:c.ok P f) (h:a.ok ν s) (he:Qln c a xs t=some a'):∃s1,s.le s1/\∃e d Hr,SB P f xs s1 c.G Hr d/\a'.ok (ν++e) ⟨(t,d)::s1.fr,Hr⟩:=by
 unfold Qln at he;split at he;rename_i k e1;obtain⟨s1,h1,h2⟩:=QmM (c:=c) (k:=k) h
 grind [Qd5]
 grind
variable {f μ:List Int} {rs:List Xy} {w:Vl}
def gN:List Nat:=[500000]
def rrI (a:AS) (xs:List n5):List Nat:=xs.flatMap λx=>match evA a x with
 |some v=>v.ids
 |none=>[]
def QvP (c:Zc) (a:AS) (ws:List Vl):Bool:=
 (a.fr.all λp=>p.2.ids.all λj=>!gN.contains j)&&((a.H.all λp=>!gN.contains p.1&&p.2.ids.all λj=>(lk a.H j).isSome)&&((ws.all λv=>v.ids.isEmpty)&&((c.rv.ids.all λj=>gN.contains j&&(lk c.rb j).isSome)&&((c.rb.all λp=>gN.contains p.1)&&c.rb.all λp=>okN gN p.1&&p.2.jf.all (okN gN)))))
def Qd7 (c:Zc) (a:AS) (xs:List n5) (t:Nat):Option AS:=
 match Qoe a (ZN gN) xs with
 |some ws=>(match Qhg 1 a [] ws c.az with
  |some (σ,a2)=>if Nat.beq (1+σ.length) c.nx=true/\Nat.ble c.nx c.mx=true/\c.cs.all (QcX a2 1 σ)=true/\QvP c a ws=true then
    some ⟨(t,c.rv.sub (sgZ c σ a2.nx))::a.fr,(c.rb.map λp=>(p.1,p.2.sub (sgZ c σ a2.nx))).map (λp=>(unZ gN p.1,p.2.o5 (unZ gN)))++a.H,c.rc.map (Cn.sub (sgZ c σ a2.nx))++a2.cs,a2.nx+(c.mx - c.nx)⟩else none
  |none=>none)
 |none=>none
theorem Qd8 {f:Nat} (hc:c.ok P f) (hb:c.bs=[]) (h:a.ok ν s) (he:Qd7 c a xs t=some a'):∃e d Hr,SB P f xs s gN Hr d/\a'.ok (ν++e) ⟨(t,d)::s.fr,Hr⟩:=by
 unfold Qd7 at he;split at he;rename_i ws e1;split at he;rename_i σ a2 e2;split at he;rename_i hh;cases he
 obtain⟨k1,k2,k3,k4⟩:=hh;have k1:=QA6 k1;have k2:=QzN k2;obtain⟨ds,q1,q2⟩:=BC h e1
 obtain⟨f0,rfl⟩:∃f0,ν=[0]++f0:=by
  cases ν with
  |nil=>have:=h.z;grind
  |cons x l=>have:=h.z;simp_all
 obtain⟨g,ρ,w1,V,w3⟩:=RR (ν0:=[0]) (μ:=[]) h e2 q2 rfl;rw[QA2]at V w3;have hl:=YK V;have hcs:v7 ([0]++ρ) c.cs:=λx hx=>KT w1 V (QzX.1 k3 x hx);obtain⟨e,d,H1,v1,v2,v3,v4,v5⟩:=hc ([0]++ρ) _ [] Wb rfl hcs w3 (by rw[hb];rfl)
 simp only[QvP,QzR]at k4;obtain⟨c1,c2,c3,c4,c5,c6⟩:=k4
 have rbG:∀k,(lk H1 k).isSome=true->gN.contains k=true:=λk hk=>by
  rw[RL.isSome v4 k]at hk;obtain⟨b,hb⟩:=QzT.1 hk;exact QzX.1 c5 _ (QV hb)
 have gLt:∀k,gN.contains k=true->k<1000000:=λk hk=>KH (G:=gN) rfl hk
 have sG:∀k b,lk s.H k=some b->gN.contains k=false/\∀j∈b.ids,(lk s.H j).isSome=true:=λk b hk=>by
  have hs:(lk a.H k).isSome=true:=by rw[<- RL.isSome h.H k,hk];rfl
  obtain⟨bx,U⟩:=QzT.1 hs;obtain⟨b2,u1,u2⟩:=RL.get h.H U;rw[hk]at u1;cases u1;have:=QzX.1 c2 (k,bx) (QV U);simp only[QzR,QAU]at this;refine⟨this.1,λj C=>?_⟩;rw[Bx.w7 u2]at C;rw[RL.isSome h.H j]
  grind
 have rBig:∀k,gN.contains k=false->1000000<=ZN gN k:=λk hk=>by
  unfold ZN;simp_all [upN]
 have M:∀k,(lk (Xq gN s.H) k).isSome=true->1000000<=k:=λk hk=>by
  obtain⟨b,hb⟩:=QzT.1 hk;obtain⟨j,b0,rfl,h1,_⟩:=Zj hb
  grind
 have nB:∀k,1000000<=k->lk H1 k=none:=λk hk=>by
  cases e1:lk H1 k with
  |none=>rfl
  |some b=>grind
 have T:∀k∈d.ids,gN.contains k=true/\(lk H1 k).isSome=true:=λk hk=>by
  rw[Vl.w7 v3]at hk;have:=QzX.1 c4 k hk;rw[QzR]at this
  grind [RL.isSome]
 have hfr:n6 P f (ds.map λd=>(d.o5 (ZN gN)).can) ([]++Xq gN s.H) d (H1++Xq gN s.H):=by
  refine n6.frame v5 (λk b hk=>by cases hk) (λk b hk=>⟨M k Wb,rfl,nB k (M k Wb),λj C=>?_⟩) (λk hk hs=>by grind) (λx hx k hk=>?_) (λk hk=>?_);obtain⟨i,b0,rfl,h1,rfl⟩:=Zj hk;rw[u4.j7]at C;obtain⟨j0,hj0,rfl⟩:=Qz1.1 C;refine .inl ?_;rw[Yb (G:=gN) rfl,Qz5]
  grind
  have:=Rw (q:=λx=>x.ids=[]) (λv d Y hp=>by rw[Vl.w7 Y];grind) q2 c3 x hx
  grind
  grind
 have e4:Xq gN (Ko (unZ gN) H1++s.H)=H1++Xq gN s.H:=by
  have h1:Xq gN (Ko (unZ gN) H1)=H1:=Ps (f:=ZN gN) (g:=unZ gN) λp hp=>RL.each (q:=λt (x:u4)=>ZN gN (unZ gN t)=t/\∀r∈x.rows,∀d∈r,∀k∈d.l4,ZN gN (unZ gN k)=k) (p:=λt b=>okN gN t&&b.jf.all (okN gN)) (λt b x hb hp=>by
   simp only[QzR]at hp;exact⟨QA6 hp.1,λr hr d hd j C=>QA6 (QzX.1 hp.2 j (Bx.se hb r hr d hd j C))⟩) v4 c6 p hp
  grind [Xq]
 have O:∀j,(lk (Ko (unZ gN) H1++s.H) j).isSome=(lk (H1++Xq gN s.H) (ZN gN j)).isSome:=λj=>by
  rw[<- e4,Yb (G:=gN) rfl,Qz5]
 have hz:SB P f xs s gN (Ko (unZ gN) H1++s.H) d:=by
  refine⟨ds,q1,rfl,λt x hx j C=>?_,λk hk=>⟨(T k hk).1, ?_⟩,λj C=>?_,λj C=>?_,by grind⟩;have hs:(lk a.fr t).isSome=true:=by rw[<- RL.isSome h.fr t,hx];rfl
  obtain⟨v,Y⟩:=QzT.1 hs;obtain⟨d2,u1,u2⟩:=RL.get h.fr Y;rw[hx]at u1;cases u1;have:=QzX.1 (QzX.1 c1 (t,v) (QV Y)) j (by grind [Vl.w7])
  grind
  rw[O];have e5:ZN gN k=k:=if_pos (T k hk).1
  grind [Option.isSome_iff_exists,Zm]
  rw[O,Z8];split;rfl;rw[Yb (G:=gN) rfl,Qz5];omega;rw[O,Z8]at C;split at C
  grind
  rw[Yb (G:=gN) rfl,Qz5]at C;grind
 have hel:e.length=c.mx - c.nx:=by
  grind
 have hn4:a2.nx=([0]++(f0++g)).length:=w1.nx.symm
 have hv2:Sg.r7 ([0]++(f0++g)++e) ([0]++ρ++e) (sgZ c σ a2.nx):=by
  refine⟨_,_,rfl,YU (show([0]++(f0++g)++e)[0]?=some 0 from rfl) 0, ?_⟩;refine Hi (Jb e V) ?_
  grind [Nv]
 have hσ:=Gw hv2;have en:[0]++f0++(g++e)=[0]++(f0++g)++e:=by simp
 refine⟨g++e,d,_,hz, ?_⟩;rw[en];refine⟨⟨d,_,rfl,Vl.la hσ v3,RL.mono (λv x q=>by rw[<- en];exact q.ext _) h.fr⟩, ?_,v7.app (v7.sub hσ v2) (w1.cs.ext e), ?_,by rfl⟩
 exact RL.app (RL.ke (ρ:=unZ gN) (λb x q=>Bx.ca q) (RL.wg (λb x q=>Bx.la hσ q) v4)) (RL.mono (λb x q=>by rw[<- en];exact q.ext _) h.H)
 all_goals grind
def QhJ (c:Zc) (a:AS) (xs:List n5) (t:Nat):Option AS:=
 match c.bs with
 |[]=>Qd7 c (QjM (rrI a xs) a) xs t
 |_=>Qln c a xs t
theorem QaQ {f:Nat} (C:c.ok P f) (h:a.ok ν s) (he:QhJ c a xs t=some a'):∃s1,s.le s1/\∃G e d Hr,SB P f xs s1 G Hr d/\a'.ok (ν++e) ⟨(t,d)::s1.fr,Hr⟩:=by
 unfold QhJ at he;split at he;rename_i hb;obtain⟨s1,l1,h1⟩:=Mh (ks:=rrI a xs) h
 grind [Qd8]
 grind [QhI]
def Qlr (a:AS) (v:Vl):Option Vl:=
 match v with
 | .oo k x o=>if Nat.ble 500000 k=true then some (.oo k x o)else none
 |v=>if v.l4.isEmpty=true then Qk2 a v else none
theorem QhP {v:Vl} {d:D} (h:a.ok ν s) (he:Qlr a v=some w) (C:v.has ν d):w.has ν ((d.o7 s.H small).y6):=by
 unfold Qlr at he;split at he;split at he;rename_i k x o hk;cases he
 obtain⟨n,rfl,h1⟩:=C;have hk:=QzN hk
 have e:(D.s4 k n).o7 s.H small=.s4 k n:=by
  (repeat clear hK K);simp_all [D.o7,if_neg,small]
 rw[e];exact⟨n,rfl,h1⟩
 grind
 split at he;rename_i hi;have G:d.l4=[]:=by rw[Vl.wb C];grind
 have h1:=(PW h he C).1
 grind [Kb]
 grind
def D4 (a:AS):List Vl->Option (List Vl)
 |[]=>some []
 |v::vs=>match Qlr a v,D4 a vs with
  |some w,some ws=>some (w::ws)
  |_,_=>none
theorem D5 {ν:List Int} {a:AS} {s:St} (h:a.ok ν s):∀{vs ws:List Vl} {ds:List D},D4 a vs=some ws->Vl.n4 ν vs ds->Vl.n4 ν ws (ds.map λd=>(d.o7 s.H small).y6)
 |[],ws,ds,he,hv=>by grind [D4,Vl.n4]
 |v::vs,ws,ds,he,hv=>by
  simp only[D4]at he;split at he;rename_i w C e1 e2;cases he
  obtain⟨d,r,rfl,h1,h2⟩:=hv;exact⟨_,_,rfl,QhP h e1 h1,D5 h e2 h2⟩
  grind
def QlM (c:Zc) (t sz:Nat) (r2:Xy) (ps:List Vl) (w:Vl) (a:AS):Bool:=
 match lk a.fr t with
 |some q=>(match atA a q with
  |some cs=>(match D4 a (cs.take sz),Qf8 a r2 with
   |some vs,some v2=>(Nat.ble sz cs.length&&w.ids.isEmpty)&&(match mtC c.nx a [] vs ps with
    |some (σ1,a1)=>(match QpT c.nx a1 σ1 v2 w with
     |some (σ2,a2)=>(match mtH c.nx a2 σ2 (JK (c.rb.map Prod.fst) a.H) c.rb with
      |some (τ,a3)=>Nat.beq (c.nx+τ.length) c.mx&&c.rc.all (QcX a3 c.nx τ)
      |none=>false)
     |none=>false)
    |none=>false)
   |_,_=>false)
  |none=>false)
 |none=>false
theorem Qh7 {sz:Nat} {Y:Xy} {ps:List Vl} (h:a.ok (μ++f) s) (hμ:μ.length=c.nx) (O:c.rv=.tp ps w) (hz:zcB c=true) (C:QlM c t sz Y ps w a=true):
  ∃d H',(∃g,(μ++g).length=c.mx/\v7 (μ++g) c.rc/\c.rv.has (μ++g) d/\RL (Bx.has (μ++g)) c.rb H')/\(∀k b,lk H' k=some b->500000<=k/\∀j∈b.ids,(lk H' j).isSome=true)/\
   (∃cs d2,d=.w9 cs d2/\d2.pure=true/\XJ small s (.cell t true sz) (.agg cs)/\XJ small s Y d2)/\∀k b,lk H' k=some b->lk s.H k=some b:=by
 unfold QlM at C;split at C;rename_i q e1;split at C;rename_i cs e2;split at C;rename_i vs v2 e3 e4;simp only[QzR]at C;obtain⟨⟨hsz,hw⟩,C⟩:=C;split at C;rename_i σ1 a1 e5;split at C;rename_i σ2 a2 e6;split at C;rename_i τ a3 e7;simp only[QzR]at C;obtain⟨d0,q1,q2⟩:=RL.get h.fr e1;obtain⟨ds,q3,q4⟩:=QaM h e2 q2;have q5:=D5 h e3 (XH sz q4);obtain⟨d2,q6,q7⟩:=Qcb (S:=small) h e4;rw[<- hμ]at e5 e6 e7;obtain⟨g,ρ,h3,h4,h5⟩:=QbP (μ:=[]) h e5 q5 rfl;rw[QA2]at h4 h5;have G:v2.has (μ++(f++g)) d2:=by rw[<- QAD];exact q6.ext g
 obtain⟨g1,ρ1,i3,i4,i5⟩:=Qah h3 e6 G h4
 have hH:RL (Bx.has (μ++(f++g++g1))) (JK (c.rb.map Prod.fst) a.H) (Zs (c.rb.map Prod.fst) s.H):=RL.mono (λb x q=>by
  have:=(q.ext g).ext g1
  grind) (RA h.H _)
 obtain⟨g2,ρ2,h6,h7,h8⟩:=CK i3 e7 hH i4;have hl:=YK h7;have hn:=QA6 C.1;have T:v7 (μ++(ρ++ρ1++ρ2)) c.rc:=λk hk=>KT h6 h7 Wb;have hlen:(μ++(ρ++ρ1++ρ2)).length=c.mx:=by grind
 have U:Vl.n4 (μ++(ρ++ρ1++ρ2)) ps ((ds.take sz).map λd=>(d.o7 s.H small).y6):=by
  have:=(h5.ext ρ1).ext ρ2
  grind
 have M:w.has (μ++(ρ++ρ1++ρ2)) d2:=by
  have:=i5.ext ρ2
  grind
 refine⟨.w9 ((ds.take sz).map λd=>(d.o7 s.H small).y6) d2,Zs (c.rb.map Prod.fst) s.H,⟨ρ++ρ1++ρ2,hlen,T,by rw[O];exact⟨_,_,rfl,U,M⟩,h8⟩,λk b hk=>?_,⟨_,_,rfl, ?_,⟨d0,ds,q1,HK.2 q3, ?_⟩,q7⟩,λk b hk=>X8 _ _ k b hk⟩
 have hs:(lk c.rb k).isSome=true:=by grind [RL.isSome]
 obtain⟨bx,hb⟩:=QzT.1 hs;obtain⟨b',V,w2⟩:=RL.get h8 hb;rw[hk]at V;cases V;simp only[zcB,QzR]at hz;have:=QzX.1 hz.1 (k,bx) (QV hb);simp only[QzR]at this;refine⟨QzN this.1,λj hj=>?_⟩
 grind [Bx.w7,RL.isSome]
 exact Qb2 (by rw[Vl.w7 i5];grind)
 simp only[if_true];refine⟨by rw[ZF q4];simp_all, ?_⟩
 unfold FN;simp only[D.fz,D.can,QA7];rfl
 all_goals grind
def QlN (c:Zc) (rs:List Xy) (a:AS):Bool:=
 match rs with
 |[.cell t true sz,r2]=>(match c.rv with
  | .tp ps w=>(match lk a.fr t with
   |some (.rr k0 _)=>QlM c t sz r2 ps w (nmC k0 0 ps (QjH ⟨[],c.rb,[],0⟩ k0 0 ps a))
   |_=>false)
  |_=>false)
 |_=>false
theorem Qbd (h:a.ok (μ++f) s) (hμ:μ.length=c.nx) (hz:zcB c=true) (C:QlN c rs a=true):
  ∃d H' s2,s.le s2/\(∃g,(μ++g).length=c.mx/\v7 (μ++g) c.rc/\c.rv.has (μ++g) d/\RL (Bx.has (μ++g)) c.rb H')/\(∀k b,lk H' k=some b->500000<=k/\∀j∈b.ids,(lk H' j).isSome=true)/\(∃O G cs d2,rs=[O,G]/\d=.w9 cs d2/\d2.pure=true/\XJ small s2 O (.agg cs)/\XJ small s2 G d2)/\∀k b,lk H' k=some b->lk s2.H k=some b:=by
 unfold QlN at C;split at C;rename_i t sz G;split at C;rename_i ps w M;split at C;rename_i k0 o e1;obtain⟨s1,l1,h1⟩:=Me (J:=⟨[],c.rb,[],0⟩) (k0:=k0) (l:=ps) (j:=0) h;obtain⟨s2,l2,h2⟩:=QbS (k:=k0) (l:=ps) (j:=0) h1;obtain⟨d,H',q1,q2,⟨cs,d2,q3,Y,V,U⟩,T⟩:=Qh7 h2 hμ M hz C;exact⟨d,H',s2,le_trans l1 l2,q1,q2,⟨_,_,cs,d2,rfl,q3,Y,V,U⟩,T⟩
 all_goals grind
def Qw5 (c:Zc) (rs:List Xy) (p:AExit × AS):Bool:=
 match p.1 with
 | .exit _=>false
 |_=>QlN c rs p.2
def Qhc (c:Zc) (rs:List Xy) (p:AExit × AS):Bool:=
 match c.rv with
 | .tp _ _=>Qw5 c rs p
 |_=>QvT c rs p
theorem QlL {e:AExit} (h:a.ok (μ++f) s) (V:μ.length=c.nx) (Y:zcB c=true) (C:Qhc c rs (e,a)=true):
  ∃d H' s2,s.le s2/\(∃g,(μ++g).length=c.mx/\v7 (μ++g) c.rc/\c.rv.has (μ++g) d/\RL (Bx.has (μ++g)) c.rb H')/\(∀k b,lk H' k=some b->500000<=k/\∀j∈b.ids,(lk H' j).isSome=true)/\Fm rs d H' e s2:=by
 unfold Qhc at C;split at C;cases e with
 |normal=>obtain⟨d,H',s2,U,T,O,M,G⟩:=Qbd h V Y C;exact⟨d,H',s2,U,T,O,.inr (.inr (.inr M)),G⟩
 |ret=>obtain⟨d,H',s2,U,T,O,M,G⟩:=Qbd h V Y C;exact⟨d,H',s2,U,T,O,.inr (.inr (.inr M)),G⟩
 |exit i=>cases C
 grind [QlP]
variable {K:St->Prop} {g:Option (Nat × Bool)} {o:z1} {r:List z1}
def MV (zs:Nat->List Zc):List z1->Option (List z1 × Nat × Nat × List n5 × Option (Nat × Bool) × List z1)
 |[]=>none
 |o::r=>match o with
  |⟨some t,.call f args,g⟩=>if(zs f).isEmpty=true then(match MV zs r with
    |some (l,x)=>some (o::l,x)
    |none=>none)else some ([],t,f,args,g,r)
  |_=>(match MV zs r with
    |some (l,x)=>some (o::l,x)
    |none=>none)
theorem NM {C:Nat->List Zc}:∀{ops l lr:List z1} {t f:Nat} {args:List n5} {g:Option (Nat × Bool)},MV C ops=some (l,t,f,args,g,lr)->ops=l++⟨some t,.call f args,g⟩::lr
 |[],l,lr,t,f,args,g,h=>by cases h
 |o::r,l,lr,t,f,args,g,h=>by
  have more:(match MV C r with
    |some (l,x)=>some (o::l,x)
    |none=>none)=some (l,t,f,args,g,lr)->o::r=l++⟨some t,.call f args,g⟩::lr:=λh=>by
   split at h;rename_i l2 x e;cases h
   rw[NM e];rfl
   grind
  unfold MV at h
  grind
def gdZ (g:Option (Nat × Bool)) (a:AS):Option (List (Bool × AS)):=
 match g with
 |none=>some [(true,a)]
 |some (t,b)=>if Qsf (lk a.fr t)=true then some [(false,a)]else(match spl a (.s t)with
  |some l=>some (l.map λp=>(p.1==b,p.2))
  |none=>none)
theorem Qpv {l:List (Bool × AS)} (h:a.ok ν s) (he:gdZ g a=some l):∃c a',(c,a')∈l/\gw s g=some c/\a'.ok ν s:=by
 unfold gdZ at he;split at he;cases he;exact⟨true,a,by simp,rfl,h⟩;rename_i t b;split at he;rename_i hu;cases he
 have:=QgO h.fr hu
 grind [gw]
 split at he;rename_i G e1;cases he
 obtain⟨c,C,hm,hx,h1⟩:=Qcs h e1;have hx:lk s.fr t=some (.bool c):=hx;exact⟨c==b,C,Qz1.2 ⟨(c,C),hm,rfl⟩,by grind [gw],h1⟩
 grind
def gdT (g:Option (Nat × Bool)) (t:Nat) (a:AS):Bool:=
 match g with
 |none=>true
 |some (u,b)=>!Nat.beq t u&&(match lk a.fr u with
  |some v=>(match QbA v with
   |some c=>c==b
   |none=>false)
  |none=>false)
theorem Qpu {s1:St} {H:QzK} {t:Nat} {d:D} (h:a.ok ν ⟨(t,d)::s1.fr,H⟩) (hb:gdT g t a=true):gw s1 g=some true:=by
 unfold gdT at hb;split at hb;rfl;rename_i u b;simp only[QzR,QAU]at hb;obtain⟨h1,h2⟩:=hb;split at h2;rename_i v e1;split at h2;rename_i c e2;obtain⟨d2,M,G⟩:=RL.get h.fr e1;have C:=RB h.z G e2;subst C;rw[Qe,if_neg (λe=>by simp_all)]at M
 grind [gw]
 grind
 grind
def Qgj (tb:Tb) (zs:Nat->List Zc):Nat->List z1->AS->Option (List AS)
 |0,_,_=>none
 |n+1,ops,a=>match MV zs ops with
  |none=>Qcl tb false (DA.of false) ops a
  |some (l,t,f,args,g,lr)=>(match Qcl tb false (DA.of false) l a with
   |some az=>QcU (λa1=>(match gdZ g a1 with
    |some ws=>QcU (λ(p:Bool × AS)=>if p.1=true then(match Qoo (λc=>QhJ c p.2 args t) (zs f)with
     |some a2=>if gdT g t a2=true then Qgj tb zs n lr a2 else none
     |none=>none)else Qgj tb zs n lr (DC p.2 (some t) (.dd .undef))) ws
    |none=>none)) az
   |none=>none)
theorem Qgk (C:gw s o.guard=some false) (h:Yx P r K (s.apply o.dst .undef none)):Yx P (o::r) K s:=by
 refine .inl ?_
 grind [Qg8]
theorem Bb (h:QbY P o (Yx P r K) s):Yx P (o::r) K s:=.inr h
theorem Sb {l ol:List z1} (h:run P .fixed l (Yx P r K) s) (C:ol=l++r):Yx P ol K s:=by
 grind [GA,Zq]
theorem L8 {P:Program} {tb:Tb} (O:tb.ok P) {zs:Nat->List Zc} (U:∀f,∀c∈zs f,c.ok P f):∀{n:Nat} {ops:List z1} {a:AS} {outs:List AS} {ν:List Int} {s:St},a.ok ν s->Qgj tb zs n ops a=some outs->∃a'∈outs,∃e s',a'.ok (ν++e) s'/\∀K:St->Prop,K s'->Yx P ops K s
 |0,ops,a,outs,ν,s,h,he=>by cases he
 |n+1,ops,a,outs,ν,s,h,he=>by
  simp only[Qgj]at he;split at he;obtain⟨a',ha,e,s',h1,h2⟩:=Kj (P:=P) O (DA.vc false s.H) h he;exact⟨a',ha,e,s',h1,λK V=>Xw (h2 K V)⟩;rename_i l t f args g lr e0;split at he;rename_i az e1;obtain⟨a1,hm,e,s1,h1,h2⟩:=Kj (P:=P) O (DA.vc false s.H) h e1;obtain⟨q,hq,T⟩:=Y0 he hm;split at hq;rename_i ws e2;obtain⟨c,a2,Y,hg,h3⟩:=Qpv h1 e2;obtain⟨q2,C,M⟩:=Y0 hq Y;cases c with
  |true=>
   simp only[if_true]at C;split at C;rename_i a3 e3;obtain⟨c,hc,e4⟩:=Pg e3;obtain⟨s2,hle,G,e5,d,Hr,hz,h4⟩:=QaQ (U f c hc) h3 e4;split at C;rename_i hgt;obtain⟨a',ha,e6,s',h5,h6⟩:=L8 O U h4 C;refine⟨a',T _ (M _ ha),e++e5++e6,s',by grind,λK V=>?_⟩;exact Sb (r:=⟨some t,.call f args,g⟩::lr) (h2 _ (Bb ⟨s2,hle,Qpu h4 hgt,t,f,args,G,Hr,d,rfl,.inl rfl,hz,h6 K V⟩)) (NM e0)
   grind
   grind
  |false=>
   simp only[QzV,if_false]at C;obtain⟨a',ha,e6,s',h5,h6⟩:=L8 O U (Xe (dst:=some t) (v:=.dd .undef) (d:=.undef) h3 rfl) C;exact⟨a',T _ (M _ ha),e++e6,s',by grind,λK V=>Sb (r:=⟨some t,.call f args,g⟩::lr) (h2 _ (Qgk hg (h6 K V))) (NM e0)⟩
  grind
  grind
def QmU (tb:Tb) (zs:Nat->List Zc) (ops:List z1) (a:AS):Option (List AS):=
 match MV zs ops with
 |none=>none
 |some (l,t,f,args,some _,lr)=>none
 |some (l,t,f,args,none,lr)=>if(QhD l ⟨some t,.call f args,none⟩ lr&&Qoi l (⟨some t,.call f args,none⟩::lr))=true then(match Qcl tb false (DA.of true) l a with
   |some az=>QcU (λa1=>(match Qoo (λc=>QhJ c a1 args t) (zs f)with
    |some a2=>Qcl tb false (DA.of true) lr a2
    |none=>none)) az
   |none=>none)else none
theorem QiU {nt:Nat} {tb:Tb} (C:tb.ok P) {T:Nat->List Zc} (O:∀f,∀c∈T f,c.ok P f) {ops:List z1} {outs:List AS} (h:a.ok ν s) (he:QmU tb T ops a=some outs):∃a'∈outs,∃e s',a'.ok (ν++e) s'/\∀Q:AExit->St->Prop,Q .normal s'->AW P nt (.region true ops) Q s:=by
 simp only[QmU]at he;split at he
 grind
 grind
 rename_i l t f args lr e0;split at he;rename_i hb;rw[QzR]at hb;split at he;rename_i az e1;obtain⟨a1,hm,e,s1,h1,h2⟩:=Kj (P:=P) C (DA.vc true s.H) h e1;obtain⟨q,U,M⟩:=Y0 he hm;split at U;rename_i a2 e2;obtain⟨c,Y,e3⟩:=Pg e2;obtain⟨s2,hle,G,e4,d,Hr,V,h3⟩:=QaQ (O f c Y) h1 e3;obtain⟨a',ha,e5,s',h4,h5⟩:=Kj (P:=P) C (DA.vc true Hr) h3 U;refine⟨a',M _ ha,e++e4++e5,s',by grind,λQ hQ=>?_⟩;rw[NM e0];exact PK hb.1 hb.2 (h2 _ ⟨s2,hle,rfl,t,f,args,G,Hr,d,rfl,.inl rfl,V,h5 _ hQ⟩)
 all_goals grind
variable {csG:List Cn}
abbrev Out:=List (AExit × AS)
def TE (ν:List Int) (x:Nat × Int):Int:=ν.getD x.1 0+x.2
theorem Km {x:Nat × Int} (h:x.1<ν.length):x6 ν x.1 x.2 (TE ν x):=⟨ν[x.1],QAB h,by simp[TE,h]⟩
def Qkf (J:AS) (n0:Nat) (hd:Hd) (p:AExit × AS):Option Out:=
 match p.1 with
 | .normal=>(match MO p.2 J n0 hd.k hd.cs with
  |some (σ,a2)=>if(XO a2.cs (R0 n0 σ hd.up.1 hd.up.2).1 (R0 n0 σ hd.up.1 hd.up.2).2 hd.up.1 hd.up.2=true/\XO a2.cs hd.dn.1 (hd.dn.2+1) (R0 n0 σ hd.dn.1 hd.dn.2).1 (R0 n0 σ hd.dn.1 hd.dn.2).2=true)\/(XO a2.cs (R0 n0 σ hd.up.1 hd.up.2).1 ((R0 n0 σ hd.up.1 hd.up.2).2+1) hd.up.1 hd.up.2=true/\XO a2.cs hd.dn.1 hd.dn.2 (R0 n0 σ hd.dn.1 hd.dn.2).1 (R0 n0 σ hd.dn.1 hd.dn.2).2=true)then some []else none
  |none=>none)
 |e=>some [(e,p.2)]
def ghA (J:AS) (wS m:Nat) (B:Int) (csG:List Cn):AS:=⟨J.fr,J.H,csG++(wS,J.nx,0)::(J.nx,wS,m*B)::J.cs,J.nx+1⟩
theorem Qpw {J:AS} {C m:Nat} {B v w:Int} (h:J.ok ν s) (hw:ν[C]?=some w) (h0:0<=v) (O:v<=B) (M:v7 (ν++[w+(m:Int)*v]) csG):(ghA J C m B csG).ok (ν++[w+(m:Int)*v]) s:=by
 have G:=h.new (w+m*v);have z:=XA [w+m*v] hw;have p1:0<=m*v:=Int.mul_nonneg Wa h0;have p2:m*v<=m*B:=Int.mul_le_mul_of_nonneg_left O Wa;refine h.ext _ rfl (v7.app M λc hm=>?_);rcases QzP.1 hm with rfl |hm
 exact⟨w,_,z,G,by grind⟩;rcases QzP.1 hm with rfl |hm
 exact⟨_,w,G,z,by grind⟩;exact h.cs.ext _ c hm
def ghC (a2:AS) (n0:Nat) (σ:Sg) (y0 gS iS m:Nat) (csG:List Cn):Bool:=
 match σ[iS - n0]? with
 |some p=>Nat.beq p.1 y0&&csG.all (QcX a2 n0 (σ++[(gS,m*p.2)]))
 |none=>false
theorem QjP {ν0 f μ:List Int} {U:AS} {σ:Sg} {T O C m:Nat} {u w0:Int} (h:U.ok (ν0++f) s) (hm:Sg.r7 (ν0++f) μ σ) (he:ghC U ν0.length σ T O C m csG=true) (V:(ν0++f)[T]?=some u) (hg:(ν0++f)[O]?=some (w0+(m:Int)*u)) (hi:ν0.length<=C):∃v,(ν0++μ)[C]?=some v/\v7 (ν0++μ++[w0+(m:Int)*v]) csG:=by
 unfold ghC at he;split at he;rename_i p e1;simp only[QzR]at he;obtain⟨e2,e3⟩:=he;have e2:=QA6 e2;have hl:=YK hm;have i1:C - ν0.length<μ.length:=by grind
 have g1:=QAB i1
 have g2:x6 (ν0++f) p.1 p.2 (μ[C - ν0.length]):=by
  obtain⟨w,G,M⟩:=Gw hm _ _ g1
  have:σ.at (C - ν0.length)=p:=by
   show σ.getD (C - ν0.length) (0,0)=p
   grind
  rw[this]at G M;exact⟨w,G,M⟩
 obtain⟨w,G,M⟩:=g2;rw[e2,V]at G;refine⟨μ[C - ν0.length],by grind, ?_⟩;have Y:Sg.r7 (ν0++f) (μ++[w0+m*μ[C - ν0.length]]) (σ++[(O,m*p.2)]):=Hi hm ⟨_,[],rfl,⟨_,hg,by grind⟩,rfl⟩;rw[QAD];exactλc hc=>KT h Y (QzX.1 e3 c hc)
 grind
def ghB (a:AS) (hd:Hd) (wS iS m:Nat) (csG:List Cn):Option AS:=
 match MO a (M1 a hd) a.nx hd.k hd.cs with
 |some (σ,a2)=>(match lbX (M1 a hd).cs iS,ubX (M1 a hd).cs iS with
  |some L,some B=>if(decide (0<=L)=true/\Nat.ble a.nx iS=true/\Nat.ble (iS+1) (a.nx+hd.k)=true)/\ghC a2 a.nx σ 0 wS iS m csG=true/\Nat.ble (wS+1) a.nx=true/\Nat.ble (hd.up.1+1) (a.nx+hd.k)=true/\Nat.ble (hd.dn.1+1) (a.nx+hd.k)=true/\XO (M1 a hd).cs hd.dn.1 hd.dn.2 hd.up.1 hd.up.2=true then some (ghA (M1 a hd) wS m B csG)else none
  |_,_=>none)
 |none=>none
def Qkg (J:AS) (n0:Nat) (hd:Hd) (iS m:Nat) (csG:List Cn) (p:AExit × AS):Option Out:=
 match p.1 with
 | .normal=>(match MO p.2 J n0 hd.k hd.cs with
  |some (σ,a2)=>if((XO a2.cs (R0 n0 σ hd.up.1 hd.up.2).1 (R0 n0 σ hd.up.1 hd.up.2).2 hd.up.1 hd.up.2=true/\XO a2.cs hd.dn.1 (hd.dn.2+1) (R0 n0 σ hd.dn.1 hd.dn.2).1 (R0 n0 σ hd.dn.1 hd.dn.2).2=true)\/(XO a2.cs (R0 n0 σ hd.up.1 hd.up.2).1 ((R0 n0 σ hd.up.1 hd.up.2).2+1) hd.up.1 hd.up.2=true/\XO a2.cs hd.dn.1 hd.dn.2 (R0 n0 σ hd.dn.1 hd.dn.2).1 (R0 n0 σ hd.dn.1 hd.dn.2).2=true))/\ghC a2 n0 σ iS (n0+hd.k) iS m csG=true then some []else none
  |none=>none)
 |e=>some [(e,p.2)]
def QtE (id:Nat) (p:AExit × AS):AExit × AS:=
 match p.1 with
 | .exit i=>if i=id then(.normal,p.2)else p
 |_=>p
def CM:Out->List AS
 |[]=>[]
 |(e,a)::r=>match e with
  | .normal=>a::CM r
  |_=>CM r
def SF:Out->Out
 |[]=>[]
 |(e,a)::r=>match e with
  | .normal=>SF r
  |e=>(e,a)::SF r
theorem Nw {a:AS}:∀{o:Out},(AExit.normal,a)∈o->a∈CM o
 |(e,b)::r,h=>by
  rcases QzP.1 h with h |h
  grind [CM]
  have:=Nw h;unfold CM
  grind
theorem Nb {e:AExit} {a:AS} (C:e≠.normal):∀{o:Out},(e,a)∈o->(e,a)∈SF o
 |(e2,b)::r,h=>by
  rcases QzP.1 h with h |h;cases h
  cases e<;>first |grind |simp[SF]
  have:=Nb C h;unfold SF
  grind
def Qsg (body:AS->Option Out) (n0:Nat) (c0:List Cn):Nat->AS->Option Out
 |0,_=>none
 |n+1,a=>(match body a with
  |some o=>(match CM o with
   |[]=>some (SF o)
   |ns=>(match jnA n0 c0 ns with
    |some (fr,H,cs,k)=>(match Qsg body n0 c0 n ⟨fr,H,cs++c0,n0+k⟩with
     |some o2=>some (SF o++o2)
     |none=>none)
    |none=>none))
  |none=>none)
def Qtc (nj:List Nat):y5->Bool
 | .region _ _=>false
 | .ba _=>false
 | .skip=>false
 | .block id _=>!nj.contains id
 |_=>!nj.contains 999
def QjL (tb:Tb) (f:Nat):Bool:=(tb.f f).all λc=>Qrd c.rv
def sqJ (nj:List Nat) (x:y5) (n0:Nat) (c0:List Cn) (l:List AS):Option (List (Nat × Vl) × List (Nat × Bx) × List Cn × Nat):=
 match Qtc nj x,l with
 |true,_::_::_=>jnA n0 c0 l
 |_,_=>none
structure An where
 hd:Nat->Option (AS->Hd)
 un:Nat
 nj:List Nat
 ox:List (Nat × Option Nat × Bool):=[]
 gh:Nat->AS->Option (Nat × Nat × Nat × List Cn):=λ_ _=>none
 vb:Bool:=false
def HM:y5->List (Nat × y5)
 | .seq a _ b=>HM a++HM b
 | .cond _ a b=>HM a++HM b
 | .block id x=>(id,x)::HM x
 | .loop x=>HM x
 | .scope x=>HM x
 |_=>[]
def Jq (orc:Nat->AS->Option Out) (tb:Tb) (an:An):y5->Option Nat->AS->Option Out
 | .skip,_,a=>some [(.normal,a)]
 | .region dr ops,_,a=>(match dr,MV tb.z ops with
  |false,some _=>(match Qgj tb tb.z (ops.length+1) ops (Qqm (QjL tb) tb.ow false ops a)with
   |some l=>some (l.map λa1=>(.normal,a1))
   |none=>none)
  |true,some _=>(match QmU tb tb.z ops (Qqm (QjL tb) tb.ow true ops a)with
   |some l=>some (l.map λa1=>(.normal,a1))
   |none=>none)
  |_,_=>(match Qcl tb false (DA.of dr) ops (Qqm (QjL tb) tb.ow dr ops a)with
   |some l=>some (l.map λa1=>(.normal,a1))
   |none=>none))
 | .ba ops,_,a=>(match Qcl tb true (DA.of true) ops (Qqm (QjL tb) tb.ow true ops a)with
  |some l=>some (l.map λa1=>(.normal,a1))
  |none=>none)
 | .seq x l y,_,a=>(match Jq orc tb an x none a with
  |some o=>(match sqJ an.nj x a.nx a.cs ((CM o).map (Qim l))with
   |some (fr,H,cs,k)=>(match Jq orc tb an y none ⟨fr,H,cs++a.cs,a.nx+k⟩with
    |some o2=>some (SF o++o2)
    |none=>none)
   |none=>QcU (λ(p:AExit × AS)=>match p.1 with
    | .normal=>Jq orc tb an y none (Qim l p.2)
    |e=>some [(e,p.2)]) o)
  |none=>none)
 | .cond c x y,_,a=>(match spl a c with
  |some l=>QcU (λ(p:Bool × AS)=>if p.1=true then Jq orc tb an x none p.2 else Jq orc tb an y none p.2) l
  |none=>none)
 | .block id x,_,a=>(match(match orc id a with
  |some o=>some o
  |none=>Jq orc tb an x (some id) a)with
  |some o=>some (o.map (QtE id))
  |none=>none)
 | .loop x,bl,a=>(match bl with
  |some b=>(match an.hd b with
   |some g=>(match an.gh b a with
    |some (wS,iS,m,csG)=>(match ghB a (g a) wS iS m csG with
     |some a1=>(match Jq orc tb an x none a1 with
      |some o=>QcU (Qkg (M1 a (g a)) a.nx (g a) iS m csG) o
      |none=>none)
     |none=>none)
    |none=>(match MO a (M1 a (g a)) a.nx (g a).k (g a).cs with
    |some _=>if Nat.ble ((g a).up.1+1) (a.nx+(g a).k)=true/\Nat.ble ((g a).dn.1+1) (a.nx+(g a).k)=true/\XO (M1 a (g a)).cs (g a).dn.1 (g a).dn.2 (g a).up.1 (g a).up.2=true then(match Jq orc tb an x none (M1 a (g a))with
     |some o=>QcU (Qkf (M1 a (g a)) a.nx (g a)) o
     |none=>none)else none
    |none=>none))
   |none=>Qsg (λa1=>Jq orc tb an x none a1) a.nx a.cs an.un a)
  |none=>none)
 | .scope x,_,a=>Jq orc tb an x none a
 | .exit i,_,a=>some [(.exit i,a)]
 | .ret,_,a=>some [(.ret,a)]
 | .l8 _ _ _ _,_,_=>none
def xa (ν:List Int) (outs:Out) (e:AExit) (s:St):Prop:=∃a,(e,a)∈outs/\∃f,a.ok (ν++f) s
theorem xa.sub {o C:Out} {e:AExit} (h:xa ν o e s) (G:∀y∈o,y∈C):xa ν C e s:=let⟨a,h1,h2⟩:=h;⟨a,G _ h1,h2⟩
theorem QgP {P:Program} {nt:Nat} {x:y5} {body:AS->Option Out} (hb:∀{a:AS} {o:Out} {ν:List Int} {s:St},a.ok ν s->body a=some o->TX P nt x (xa ν o) s) {ν:List Int} {c0:List Cn} (h0:v7 ν c0) (z:ν[0]?=some 0):∀{n:Nat} {a:AS} {f:List Int} {outs:Out} {s:St},a.ok (ν++f) s->Qsg body ν.length c0 n a=some outs->∃e s',xa ν outs e s'/\∃m,x8 P nt x e s' m s
 |0,a,f,outs,s,h,he=>by trivial
 |n+1,a,f,outs,s,h,he=>by
  simp[Qsg]at he;split at he;rename_i o e1;obtain⟨e,s1,⟨a1,hm,g,h1⟩,h2⟩:=hb h e1
  have stop:e≠.normal->(∀y∈SF o,y∈outs)->∃e s',xa ν outs e s'/\∃m,x8 P nt x e s' m s:=λC Y=>
   ⟨e,s1,⟨a1,Y _ (Nb C hm),f++g,by grind⟩,0,.stop h2 C⟩
  split at he;cases e with
  |normal=>have:=Nw hm;grind
  |exit i=>simp_all
  |ret=>simp_all
  split at he;rename_i fr H cs k e2;split at he
  ·rename_i o2 e3;cases he
   cases e with
   |normal=>
    rw[QAD]at h1;obtain⟨μ,s2,U,T⟩:=QjR e2 h0 z (Nw hm) h1;obtain⟨e4,G,O,m,M⟩:=QgP hb h0 z T e3;exact⟨e4,G,O.sub λy V=>Qz2 _ V,m+1,.next h2 U M⟩
   |exit i=>grind
   |ret=>grind
  grind
  grind
  grind
theorem _root_.Wi {p:Prop} (h:p:=by simp only[HM];grind):p:=h
theorem Yj {P:Program} {nt:Nat} {orc:Nat->AS->Option Out} {tb:Tb} {B:List (Nat × y5)} (Y:∀(id:Nat) (x:y5) (a:AS) (o:Out) (ν:List Int) (s:St),(id,x)∈B->orc id a=some o->a.ok ν s->TX P nt x (xa ν o) s) (M:tb.ok P) (T:tb.xg P) {an:An}:∀{c:y5} {bl:Option Nat} {a:AS} {outs:Out} {ν:List Int} {s:St},(∀p∈HM c,p∈B)->a.ok ν s->Jq orc tb an c bl a=some outs->TX P nt c (xa ν outs) s
 | .skip,bl,a,outs,ν,s,hb,h,he=>by
  simp only[Jq,QzQ]at he;subst he;exact QdM ⟨a,by simp,[],by grind⟩
 | .region dr ops,bl,a,outs,ν,s,hb,h,he=>by
  simp only[Jq]at he;split at he;split at he;rename_i l e1;cases he
  obtain⟨s0,hle,h0⟩:=L0 h (QjL tb) tb.ow false ops;obtain⟨O,hm,f,s',h1,h2⟩:=L8 M T h0 e1;exact QoN hle ⟨.normal,s',⟨O,Qz1.2 ⟨O,hm,rfl⟩,f,h1⟩,Fk (h2 _ ⟨rfl,rfl⟩)⟩
  grind
  split at he;rename_i l e1;cases he
  obtain⟨s0,hle,h0⟩:=L0 h (QjL tb) tb.ow true ops;obtain⟨O,hm,f,s',h1,h2⟩:=QiU M T h0 e1;exact QoN hle ⟨.normal,s',⟨O,Qz1.2 ⟨O,hm,rfl⟩,f,h1⟩,h2 _ ⟨rfl,rfl⟩⟩
  grind
  split at he;rename_i l e1;cases he
  obtain⟨s0,hle,h0⟩:=L0 h (QjL tb) tb.ow _ ops;obtain⟨O,hm,f,s',h1,h2⟩:=Kj M (DA.vc _ s0.H) h0 e1;exact QoN hle ⟨.normal,s',⟨O,Qz1.2 ⟨O,hm,rfl⟩,f,h1⟩,Mw λK hK=>h2 K (hK s' ⟨rfl,rfl⟩)⟩
  grind
 | .ba ops,bl,a,outs,ν,s,hb,h,he=>by
  simp only[Jq]at he;split at he;rename_i l e1;cases he
  obtain⟨s0,hle,h0⟩:=L0 h (QjL tb) tb.ow true ops;obtain⟨O,hm,f,s',h1,h2⟩:=Kj M (DA.vc true s0.H) h0 e1;exact QoN hle ⟨.normal,s',⟨O,Qz1.2 ⟨O,hm,rfl⟩,f,h1⟩,TM λK hK=>h2 K (hK s' ⟨rfl,rfl⟩)⟩
  grind
 | .seq x l y,bl,a,outs,ν,s,hb,h,he=>by
  simp only[Jq]at he;split at he;rename_i o e1;split at he;rename_i fr H cs k e2;split at he;rename_i o2 e3;cases he
  have hn:a.nx=ν.length:=h.nx.symm
  have e4:jnA ν.length a.cs ((CM o).map (Qim l))=some (fr,H,cs,k):=by
   unfold sqJ at e2
   grind
  refine QoO (λs2=>s2) (λs2=>TX P nt y (xa ν (SF o++o2)) s2) (Jj (λe s' hq=>?_) (Yj Y M T (λp hp=>hb p Wi) h e1)) λ_ h=>h;obtain⟨O,hm,f,h1⟩:=hq;cases e with
  |normal=>
   obtain⟨μ,s2,q1,q2⟩:=QjR e4 h.cs h.z (QAL (Nw hm)) (Qbz h1 l);rw[<- hn]at q2;refine⟨s2,le_trans (KY l s'.fr s'.H) q1,Jj (λe2 s2 hr=>?_) (Yj Y M T (λp hp=>hb p Wi) q2 e3)⟩;obtain⟨a2,U,f2,h2⟩:=hr;exact⟨a2,Qz2 _ U,μ++f2,by grind⟩
  |exit i=>exact⟨O,QAN _ (Nb Wc hm),f,h1⟩
  |ret=>exact⟨O,QAN _ (Nb Wc hm),f,h1⟩
  grind
  refine Qhx (Jj (λe s' hq=>?_) (Yj Y M T (λp hp=>hb p Wi) h e1));obtain⟨O,hm,f,h1⟩:=hq;obtain⟨q,C,V⟩:=Y0 he hm;cases e with
  |normal=>
   refine Jj (λe2 s2 hr=>?_) (Yj Y M T (λp hp=>hb p Wi) (Qbz h1 l) C);obtain⟨a2,U,f2,h2⟩:=hr;exact⟨a2,V _ U,f++f2,by grind⟩
  |exit i=>
   cases C
   exact⟨O,V _ Wc,f,h1⟩
  |ret=>
   cases C
   exact⟨O,V _ Wc,f,h1⟩
  grind
 | .cond c x y,bl,a,outs,ν,s,hb,h,he=>by
  simp only[Jq]at he;split at he;rename_i l e1;obtain⟨b,O,hm,hx,h1⟩:=Qcs h e1;obtain⟨q,C,V⟩:=Y0 he hm;have fin:∀e s',xa ν q e s'->xa ν outs e s':=λe s' ⟨a2,U,f2,h2⟩=>⟨a2,V _ U,f2,h2⟩;cases b
  exact BA hx (Jj fin (Yj Y M T (λp hp=>hb p Wi) h1 C));exact HH hx (Jj fin (Yj Y M T (λp hp=>hb p Wi) h1 C))
  grind
 | .block id x,bl,a,outs,ν,s,hb,h,he=>by
  simp only[Jq]at he;split at he;rename_i o e1;cases he
  have hx:TX P nt x (xa ν o) s:=by
   split at e1
   grind [HM]
   exact Yj Y M T (λp hp=>hb p Wi) h e1
  refine Bz (Jj (λe s' hq=>?_) hx);obtain⟨O,hm,f,h1⟩:=hq;have U:=QAL (f:=QtE id) hm;cases e with
  |normal=>exact⟨O,U,f,h1⟩
  |ret=>exact⟨O,U,f,h1⟩
  |exit i=>
   simp only[YX];simp only[QtE]at U;split;rename_i hi;rw[if_pos hi]at U;exact⟨O,U,f,h1⟩;rename_i hi;rw[if_neg hi]at U;exact⟨O,U,f,h1⟩
  grind
 | .loop x,bl,a,outs,ν,s,hb,h,he=>by
  simp only[Jq]at he;split at he;rename_i b;split at he;rename_i g eg;generalize g a=hd at he;split at he;rename_i wS iS m csG _;split at he;rename_i aG eG;split at he;rename_i o e2;unfold ghB at eG;split at eG;rename_i σ0 a2 e1;split at eG;rename_i L B eL eB;split at eG;rename_i hc;cases eG
  obtain⟨⟨c1,c2,c3⟩,c4,c8,c5,c6,c7⟩:=hc;have hn:a.nx=ν.length:=h.nx.symm;rw[hn]at e1 he c2 c3 c4 c5 c6 c8;have c8:=QzN c8;obtain⟨w,hw⟩:∃w,ν[wS]?=some w:=⟨_,QAB c8⟩;have c1:=of_decide_eq_true c1;have c2:=QzN c2;have c3:=QzN c3;have b1:=QzN c5;have b2:=QzN c6;obtain⟨g0,μ0,s0,q1,q2,q3,q4⟩:=Gl (k:=hd.k) (cs:=hd.cs) (c0:=a.cs) (by rw[QAj];exact h) e1 rfl (by rw[<- hn];rfl) h.cs h.z
  obtain⟨v0,w1,w2⟩:=QjP (u:=0) (w0:=w) q1 q2 c4 q1.z Wb c2;refine Xg (ι:=List Int × St) (λi=>i.2) (λi=>∃μ v,i.1=ν++μ++[w+(m:Int)*v]/\(ν++μ)[iS]?=some v/\v7 i.1 csG/\(M1 a hd).ok (ν++μ) i.2) (λi=>(TE i.1 hd.up - TE i.1 hd.dn).toNat) (ν++μ0++[w+(m:Int)*v0],s0) q3 ⟨μ0,v0,rfl,w1,w2,q4⟩ λi ⟨μ,v,hi1,hi2,hi3,hi4⟩=>?_;obtain⟨νi,si⟩:=i;simp only at hi1 hi2 hi3 hi4 ⊢;subst hi1;have hlen:(ν++μ).length=ν.length+hd.k:=by rw[hi4.nx,<- hn];rfl
  have l1:=Cv hi4.cs hi4.z eL hi2;have l2:=Bh hi4.cs hi4.z eB hi2;have hG:=Qpw (m:=m) (csG:=csG) hi4 (XA _ hw) Wa l2 hi3;refine Jj (λe s' hq=>?_) (Yj Y M T (λp hp=>hb p Wp) hG e2);obtain⟨O,hm,f,h1⟩:=hq;obtain⟨q,C,V⟩:=Y0 he hm;cases e with
  |normal=>
   simp only[Qkg]at C;split at C;rename_i σ a3 e3;split at C;rename_i G;obtain⟨G,hgc⟩:=G;rw[QAD,QAD]at h1;obtain⟨g1,μ1,s1,w1,w2,w3,w4⟩:=Gl (ν0:=ν) (f:=μ++([w+(m:Int)*v]++f)) (k:=hd.k) (cs:=hd.cs) (c0:=a.cs) h1 e3 rfl (by rw[<- hn];rfl) h.cs h.z
   have ea:ν++(μ++([w+(m:Int)*v]++f)++g1)=ν++μ++[w+(m:Int)*v]++(f++g1):=by simp
   have y1:(ν++(μ++([w+(m:Int)*v]++f)++g1))[iS]?=some v:=by grind
   have y2:(ν++(μ++([w+(m:Int)*v]++f)++g1))[ν.length+hd.k]?=some (w+(m:Int)*v):=by grind
   obtain⟨v1,x1,x2⟩:=QjP w1 w2 hgc y1 y2 c2;have hlen1:(ν++μ1).length=ν.length+hd.k:=by rw[w4.nx,<- hn];rfl
   refine⟨(ν++μ1++[w+(m:Int)*v1],s1),w3,⟨μ1,v1,rfl,x1,x2,w4⟩, ?_⟩;have u0:=Km (ν:=ν++μ++[w+(m:Int)*v]) (x:=hd.up) Wb;have d0:=Km (ν:=ν++μ++[w+(m:Int)*v]) (x:=hd.dn) Wb;have u1:=Km (ν:=ν++μ1) (x:=hd.up) Wa;have d1:=Km (ν:=ν++μ1) (x:=hd.dn) Wa;have u1':=Mp w2 u1;have d1':=Mp w2 d1;have u0':=u0.ext (f++g1);have d0':=d0.ext (f++g1);rw[<- ea]at u0' d0';have r3:=Qm (hi4.cs.ext [w+(m:Int)*v]) c7 d0 u0;have r4:=Qm w4.cs c7 d1 u1;have eu:TE (ν++μ1++[w+(m:Int)*v1]) hd.up=TE (ν++μ1) hd.up:=x6.inj (Km Wb) (u1.ext _);have ed:TE (ν++μ1++[w+(m:Int)*v1]) hd.dn=TE (ν++μ1) hd.dn:=x6.inj (Km Wb) (d1.ext _);show(TE (ν++μ1++[w+(m:Int)*v1]) hd.up - TE (ν++μ1++[w+(m:Int)*v1]) hd.dn).toNat<(TE (ν++μ++[w+(m:Int)*v]) hd.up - TE (ν++μ++[w+(m:Int)*v]) hd.dn).toNat;rw[eu,ed];rcases G with G |G
   have r1:=Qm w1.cs G.1 u1' u0';have r2:=Qm w1.cs G.2 (d0'.up 1) d1';omega;have r1:=Qm w1.cs G.1 (u1'.up 1) u0';have r2:=Qm w1.cs G.2 d0' d1';omega
   grind
   grind
  |exit i=>
   cases C
   exact⟨O,V _ Wc,μ++[w+(m:Int)*v]++f,by grind⟩
  |ret=>
   cases C
   exact⟨O,V _ Wc,μ++[w+(m:Int)*v]++f,by grind⟩
  grind
  grind
  grind
  grind
  grind
  split at he;rename_i r e1;split at he;rename_i hc;split at he;rename_i o e2;have hn:a.nx=ν.length:=h.nx.symm;rw[hn]at e1 he hc;have b1:=QzN hc.1;have b2:=QzN hc.2.1;obtain⟨g0,μ0,s0,q1,q2,q3,q4⟩:=Gl (f:=[]) (k:=hd.k) (cs:=hd.cs) (c0:=a.cs) (by rw[QAj];exact h) e1 rfl (by rw[<- hn];rfl) h.cs h.z
  refine Xg (ι:=List Int × St) (λi=>i.2) (λi=>∃μ,i.1=ν++μ/\(M1 a hd).ok i.1 i.2) (λi=>(TE i.1 hd.up - TE i.1 hd.dn).toNat) (ν++μ0,s0) q3 ⟨μ0,rfl,q4⟩ λi ⟨μ,hi1,hi2⟩=>?_;obtain⟨νi,si⟩:=i;simp only at hi1 hi2 ⊢;subst hi1;have hlen:(ν++μ).length=ν.length+hd.k:=by rw[hi2.nx,<- hn];rfl
  refine Jj (λe s' hq=>?_) (Yj Y M T (λp hp=>hb p Wp) hi2 e2);obtain⟨O,hm,f,h1⟩:=hq;obtain⟨q,C,V⟩:=Y0 he hm;cases e with
  |normal=>
   simp only[Qkf]at C;split at C;rename_i σ a2 e3;split at C;rename_i G;rw[QAD]at h1;obtain⟨g1,μ1,s1,w1,w2,w3,w4⟩:=Gl (ν0:=ν) (f:=μ++f) (k:=hd.k) (cs:=hd.cs) (c0:=a.cs) h1 e3 rfl (by rw[<- hn];rfl) h.cs h.z
   have hlen1:(ν++μ1).length=ν.length+hd.k:=by rw[w4.nx,<- hn];rfl
   refine⟨(ν++μ1,s1),w3,⟨μ1,rfl,w4⟩, ?_⟩;have u0:=Km (ν:=ν++μ) (x:=hd.up) Wa;have d0:=Km (ν:=ν++μ) (x:=hd.dn) Wa;have u1:=Km (ν:=ν++μ1) (x:=hd.up) Wa;have d1:=Km (ν:=ν++μ1) (x:=hd.dn) Wa;have u1':=Mp w2 u1;have d1':=Mp w2 d1
   have u0':x6 (ν++(μ++f++g1)) hd.up.1 hd.up.2 (TE (ν++μ) hd.up):=by
    have:=u0.ext (f++g1);grind
   have d0':x6 (ν++(μ++f++g1)) hd.dn.1 hd.dn.2 (TE (ν++μ) hd.dn):=by
    have:=d0.ext (f++g1);grind
   have r3:=Qm hi2.cs hc.2.2 d0 u0;have r4:=Qm w4.cs hc.2.2 d1 u1;show(TE (ν++μ1) hd.up - TE (ν++μ1) hd.dn).toNat<(TE (ν++μ) hd.up - TE (ν++μ) hd.dn).toNat;rcases G with G |G
   have r1:=Qm w1.cs G.1 u1' u0';have r2:=Qm w1.cs G.2 (d0'.up 1) d1';omega;have r1:=Qm w1.cs G.1 (u1'.up 1) u0';have r2:=Qm w1.cs G.2 d0' d1';omega
   grind
   grind
  |exit i=>
   cases C
   exact⟨O,V _ Wc,μ++f,by grind⟩
  |ret=>
   cases C
   exact⟨O,V _ Wc,μ++f,by grind⟩
  grind
  grind
  grind
  have hn:a.nx=ν.length:=h.nx.symm;rw[hn]at he;obtain⟨e,s',q1,m,q2⟩:=QgP (x:=x) (λh1 e1=>Yj Y M T (λp hp=>hb p Wp) h1 e1) h.cs h.z (f:=[]) (by rw[QAj];exact h) he
  exact⟨e,s',q1,q2.tw⟩
  grind
 | .scope x,bl,a,outs,ν,s,hb,h,he=>by
  simp only[Jq]at he;exact QkV (Yj Y M T (λp hp=>hb p Wp) h he)
 | .exit i,bl,a,outs,ν,s,hb,h,he=>by
  simp only[Jq,QzQ]at he;subst he;exact QdL ⟨a,by simp,[],by grind⟩
 | .ret,bl,a,outs,ν,s,hb,h,he=>by
  simp only[Jq,QzQ]at he;subst he;exact QkU ⟨a,by simp,[],by grind⟩
 | .l8 _ _ _ _,bl,a,outs,ν,s,hb,h,he=>by trivial
def Qlx (tb:Tb) (an:An) (c:y5) (bl:Option Nat) (a:AS):Option Out:=Jq (λ_ _=>none) tb an c bl a
theorem QhT {P:Program} {nt:Nat} {tb:Tb} (G:tb.ok P) (C:tb.xg P) {an:An} {c:y5} {bl:Option Nat} {a:AS} {outs:Out} (h:a.ok ν s) (he:Qlx tb an c bl a=some outs):TX P nt c (xa ν outs) s:=Yj (λ_ _ _ _ _ _ _ h _=>by cases h) G C (λ_ h=>h) h he
def QiQ (a:AS):Xy->Option Vl
 | .tmp t=>(match lk a.fr t with
  |some v=>Qju a v
  |none=>none)
 | .cell t agg sz=>(match lk a.fr t with
  |some p=>(match atA a p with
   |some cs=>(match agg with
    |true=>if Nat.ble sz cs.length=true then Qju a (.aa (cs.take sz))else none
    |false=>(match cs.head? with
     |some v=>Qju a v
     |none=>none))
   |none=>none)
  |none=>none)
theorem QiR {ν:List Int} {a:AS} {s:St} {r:Xy} {v:Vl} (h:a.ok ν s) (he:QiQ a r=some v):∃d,v.has ν d/\XJ JG s r d:=by
 cases r with
 |tmp t=>
  simp only[QiQ]at he;split at he;rename_i w e1;obtain⟨d,h1,h2⟩:=RL.get h.fr e1;exact⟨_,N3 h he h2,d,h1,rfl⟩
  grind
 |cell t agg sz=>
  simp only[QiQ]at he;split at he;rename_i p e1;obtain⟨d,h1,h2⟩:=RL.get h.fr e1;split at he;rename_i cs e2;obtain⟨ds,G,C⟩:=QaM h e2 h2;cases agg
  simp only at he;split at he;rename_i w e3;obtain⟨q,O,M⟩:=Cp C e3;exact⟨_,N3 h he M,d,ds,h1,HK.2 G,by simp only[QzV,if_false];exact⟨q,O,rfl⟩⟩
  grind
  simp only at he;split at he;rename_i hb;exact⟨_,N3 h he ⟨_,rfl,XH sz C⟩,d,ds,h1,HK.2 G,by simp only[if_true];exact⟨by rw[ZF C];simp_all,rfl⟩⟩
  grind
  grind
  grind
def Qc9 (a:AS):List Xy->Option (List Vl)
 |[]=>some []
 |r::rs=>(match QiQ a r,Qc9 a rs with
  |some v,some vs=>some (v::vs)
  |_,_=>none)
theorem Qca {ν:List Int} {a:AS} {s:St} (h:a.ok ν s):∀{rs:List Xy} {vs:List Vl},Qc9 a rs=some vs->∃ds,Vl.n4 ν vs ds/\R6 JG s rs ds
 |[],vs,he=>by simp only[Qc9,QzQ]at he;subst he;exact⟨[],rfl,rfl⟩
 |r::rs,vs,he=>by
  simp only[Qc9]at he;split at he;rename_i v ws e1 e2;cases he
  obtain⟨d,h1,h2⟩:=QiR h e1;obtain⟨ds,G,C⟩:=Qca h e2;exact⟨d::ds,⟨d,ds,rfl,h1,G⟩,d,ds,rfl,h2,C⟩
  grind
def Ct.pg (c:Ct) (rs:List Xy):Option (List Vl):=
 match rs with
 |[_]=>some [c.rv]
 |_=>(match c.rv with
  | .uu vs=>some vs
  |_=>none)
def QvS (c:Ct) (rs:List Xy) (p:AExit × AS):Bool:=
 match p.1 with
 | .exit _=>false
 |_=>(match Qc9 p.2 rs,c.pg rs with
  |some vs,some ps=>(match Qhg c.nx p.2 [] vs ps with
   |some (σ,a)=>Nat.beq (c.nx+σ.length) c.mx&&c.rc.all (QcX a c.nx σ)
   |none=>false)
  |_,_=>false)
theorem QlO {c:Ct} {rs:List Xy} {e:AExit} {a:AS} {μ f:List Int} {s:St} (h:a.ok (μ++f) s) (hμ:μ.length=c.nx) (C:QvS c rs (e,a)=true):∃d,(∃g,(μ++g).length=c.mx/\v7 (μ++g) c.rc/\c.rv.has (μ++g) d)/\s7 rs d e s:=by
 have key:(match Qc9 a rs,c.pg rs with
  |some vs,some ps=>(match Qhg c.nx a [] vs ps with
   |some (σ,a)=>Nat.beq (c.nx+σ.length) c.mx&&c.rc.all (QcX a c.nx σ)
   |none=>false)
  |_,_=>false)=true->∃d,(∃g,(μ++g).length=c.mx/\v7 (μ++g) c.rc/\c.rv.has (μ++g) d)/\QiS s rs d:=λC=>by
  split at C;rename_i vs ps e1 e2;split at C;rename_i σ a2 e3;simp only[QzR]at C;obtain⟨ds,h1,h2⟩:=Qca h e1;rw[<- hμ]at e3;obtain⟨g,ρ,h3,O,M⟩:=RR (μ:=[]) h e3 h1 rfl;rw[QA2]at O M;have hl:=YK O;have hn:=QA6 C.1;have G:v7 (μ++ρ) c.rc:=λk hk=>KT h3 O Wb;have hlen:(μ++ρ).length=c.mx:=by grind
  unfold Ct.pg at e2;split at e2;cases e2
  obtain⟨d,r,rfl,q1,T⟩:=M;simp only[Vl.n4]at T;subst T;obtain⟨d2,ds2,V,U,w3⟩:=h2;cases V
  exact⟨d,⟨ρ,hlen,G,q1⟩,U⟩;rename_i hne;split at e2;rename_i Y e4;cases e2
  refine⟨.l7 ds,⟨ρ,hlen,G,by rw[e4];exact⟨ds,rfl,M⟩⟩, ?_⟩
  unfold QiS
  grind
  grind
  grind
  grind
 cases e with
 |normal=>obtain⟨d,h1,h2⟩:=key C;exact⟨d,h1,h2⟩
 |ret=>obtain⟨d,h1,h2⟩:=key C;exact⟨d,h1,h2⟩
 |exit i=>cases C
theorem BR {ν:List Int}:∀{vs:List Vl} {ds:List D} {k:Nat},Vl.n4 ν vs ds->RL (Vl.has ν) (MB k vs) (MB k ds)
 |[],ds,k,h=>by simp only[Vl.n4]at h;subst h;rfl
 |v::vs,ds,k,h=>by obtain⟨d,r,rfl,h1,h⟩:=h;exact⟨d,_,rfl,h1,BR h⟩
variable {v:Vl}
def Qkq:List Vl->List (List Vl)
 |[]=>[[]]
 |v::vs=>match v with
  | .ty t=>(match t with
   | .b=>(Qkq vs).flatMap λr=>[cB true::r,cB false::r]
   |t=>(Qkq vs).map λr=>.ty t::r)
  |v=>(Qkq vs).map λr=>v::r
theorem QgU {ν:List Int}:∀{vs:List Vl} {ds:List D},Vl.n4 ν vs ds->∃ws∈Qkq vs,Vl.n4 ν ws ds
 |[],ds,h=>⟨[],by simp[Qkq],h⟩
 |v::vs,ds,h=>by
  obtain⟨d,r,rfl,h1,h2⟩:=h;obtain⟨ws,G,C⟩:=QgU h2;have same:∀{w:Vl},w.has ν d->∃M∈(Qkq vs).map (λr=>w::r),Vl.n4 ν M (d::r):=λhw=>⟨_,Qz1.2 ⟨ws,G,rfl⟩,d,r,rfl,hw,C⟩;unfold Qkq;split;split;obtain⟨b,rfl⟩:=h1;refine⟨cB b::ws,QzU.2 ⟨ws,G, ?_⟩,.bool b,r,rfl,Qlk b,C⟩;cases b<;>simp
  grind
  grind
def Qvu:Vl->List Vl
 | .aa cs=>(Qkq cs).map .aa
 | .ty t=>(match t with
  | .b=>[cB true,cB false]
  |t=>[.ty t])
 |v=>[v]
theorem Qn2 (h:v.has ν d):∃w∈Qvu v,w.has ν d:=by
 unfold Qvu;split;obtain⟨ds,rfl,h1⟩:=h;obtain⟨ws,h2,C⟩:=QgU h1;exact⟨_,Qz1.2 ⟨ws,h2,rfl⟩,ds,rfl,C⟩;split;obtain⟨b,rfl⟩:=h;refine⟨cB b, ?_,Qlk b⟩;cases b<;>simp
 grind
 grind
def Qje:List Vl->List (List Vl)
 |[]=>[[]]
 |v::vs=>(Qvu v).flatMap λw=>(Qje vs).map λr=>w::r
theorem Qcz {ν:List Int}:∀{vs:List Vl} {ds:List D},Vl.n4 ν vs ds->∃ws∈Qje vs,Vl.n4 ν ws ds
 |[],ds,h=>⟨[],by simp[Qje],h⟩
 |v::vs,ds,h=>by
  obtain⟨d,r,rfl,h1,h2⟩:=h;obtain⟨w,O,M⟩:=Qn2 h1;obtain⟨ws,G,C⟩:=Qcz h2;exact⟨w::ws,QzU.2 ⟨w,O,Qz1.2 ⟨ws,G,rfl⟩⟩,d,r,rfl,M,C⟩
def Qrn (row:List Tp):Nat->AS->AS × List (List Vl)
 |0,a=>(a,[])
 |n+1,a=>match Qqa a (row.map .ty)with
  |(a1,r)=>match Qrn row n a1 with
   |(a2,rs)=>(a2,r::rs)
theorem QfG {row:List Tp} {s:St}:∀{n:Nat} {ν:List Int} {a:AS} {rows:List (List D)},a.ok ν s->rows.length=n->(∀r∈rows,Tp.u3 row r)->∃e,(Qrn row n a).1.ok (ν++e) s/\Vl.k7 (ν++e) (Qrn row n a).2 rows
 |0,ν,a,rows,h,hn,hr=>⟨[],by rw[QAj];exact h,QAq hn⟩
 |n+1,ν,a,[],h,hn,hr=>by grind
 |n+1,ν,a,r::rows,h,hn,hr=>by
  obtain⟨e,h1,h2⟩:=Qan h (Lz (hr r Wc));obtain⟨e2,G,M⟩:=QfG (rows:=rows) h1 (by simpa using hn) λq C=>hr q (QAQ _ C);exact⟨e++e2,by rw[<- QAD];exact G,r,rows,rfl,by rw[<- QAD];exact h2.ext e2,by grind⟩
def Qro (full:Bool) (a:AS) (v:Vl):List (AS × Vl):=
 match v with
 | .ll row x o=>(match bdN a x o with
  |some (_,hi)=>if hi<16 then(List.range (hi+1).toNat).map λ(n:Nat)=>match full with
   |true=>match Qrn row n ⟨a.fr,a.H,(x,0,n - o)::(0,x,o - n)::a.cs,a.nx⟩with
    |(a1,rs)=>(a1,.fx rs)
   |false=>(⟨a.fr,a.H,(x,0,n - o)::(0,x,o - n)::a.cs,a.nx⟩,.ll row 0 n)else[(a,v)]
  |none=>[(a,v)])
 |v=>[(a,v)]
theorem QfI (h:a.ok ν s) (M:v.has ν d) (full:Bool):∃p∈Qro full a v,∃e,p.1.ok (ν++e) s/\p.2.has (ν++e) d:=by
 have same:∃p∈[(a,v)],∃e,p.1.ok (ν++e) s/\p.2.has (ν++e) d:=⟨_,QzW.2 rfl,[],by grind,by grind⟩;unfold Qro;split;rename_i row x o;split;rename_i lo hi e1;split;obtain⟨rows,hd,h1,h2⟩:=M;have hb:=Yy h e1 h1
 have U:(⟨a.fr,a.H,(x,0,(rows.length:Int) - o)::(0,x,o - (rows.length:Int))::a.cs,a.nx⟩:AS).ok ν s:=by
  obtain⟨w,C,V⟩:=h1;refine⟨h.fr,h.H,v7.app (a:=[_,_]) (λc G=>?_) h.cs,h.nx,h.z⟩;simp only[QzP,QzO,or_false]at G;rcases G with rfl |rfl
  exact⟨w,0,C,h.z,by grind⟩;exact⟨0,w,h.z,C,by grind⟩
 refine⟨_,Qz1.2 ⟨rows.length,QAa.2 Wa,rfl⟩, ?_⟩;cases full
 exact⟨[],by grind,rows,hd,by rw[QAj];exact YU h.z _,h2⟩
 obtain⟨e,T,O⟩:=QfG U rfl h2;exact⟨e,T,rows,hd,O⟩;omega;omega;omega
abbrev Op1:=Nat × Option Nat × Bool
def QtD (p:Op1) (a:AS):List AS:=
 match lk a.fr p.1,p.2.1 with
 |some (.aa cs),some j=>(match cs[j]? with
  |some v=>(Qro p.2.2 a v).map λq=>⟨QiM p.1 (.aa (cs.set j q.2)) q.1.fr,q.1.H,q.1.cs,q.1.nx⟩
  |none=>[a])
 |some v,none=>(Qro p.2.2 a v).map λq=>⟨QiM p.1 q.2 q.1.fr,q.1.H,q.1.cs,q.1.nx⟩
 |_,_=>[a]
theorem QmH (h:a.ok ν s) (p:Op1):∃a'∈QtD p a,∃e,a'.ok (ν++e) s:=by
 have same:∃a'∈[a],∃e,a'.ok (ν++e) s:=⟨a,by simp,[],by grind⟩;unfold QtD;split;rename_i cs j e1 e2;split;rename_i v e3;obtain⟨d,h1,ds,rfl,h2⟩:=RL.get h.fr e1;obtain⟨d,V,U⟩:=KW h2 e3;obtain⟨q,G,e,C,M⟩:=QfI h U p.2.2;have O:=Ly j (h2.ext e) M
 have T:ds.set j d=ds:=by
  grind [List.set_getElem_self]
 rw[T]at O;exact⟨_,Qz1.2 ⟨q,G,rfl⟩,e,FJ (v:=.aa (cs.set j q.2)) (d:=.agg ds) ⟨ds,rfl,O⟩ C.fr h1,C.H,C.cs,C.nx,C.z⟩;omega;rename_i v e1 e2;obtain⟨d,h1,h2⟩:=RL.get h.fr e1;obtain⟨q,G,e,C,M⟩:=QfI h h2 p.2.2;exact⟨_,Qz1.2 ⟨q,G,rfl⟩,e,FJ M C.fr h1,C.H,C.cs,C.nx,C.z⟩;omega
def Qrp:List Op1->AS->List AS
 |[],a=>[a]
 |p::r,a=>(QtD p a).flatMap (Qrp r)
theorem QfJ {s:St}:∀{l:List Op1} {ν:List Int} {a:AS},a.ok ν s->∃a'∈Qrp l a,∃e,a'.ok (ν++e) s
 |[],ν,a,h=>⟨a,by simp[Qrp],[],by grind⟩
 |p::r,ν,a,h=>by
  obtain⟨M,h1,e,h2⟩:=QmH h p;obtain⟨G,C,e2,O⟩:=QfJ (l:=r) h2;exact⟨G,QzU.2 ⟨M,h1,C⟩,e++e2,by grind⟩
def Qn1 (an:An) (vs:List Vl):List (List Vl):=
 match an.vb with
 |true=>Qje vs
 |false=>[vs]
theorem Qjd {an:An} {vs:List Vl} {ds:List D} (h:Vl.n4 ν vs ds):∃ws∈Qn1 an vs,Vl.n4 ν ws ds:=by
 grind [Qn1,Qcz]
def ctB (tb:Tb) (an:An) (c:Ct) (tf:a6):Bool:=
 Nat.ble c.az.length tf.nt&&(Qn1 an c.az).all λaz=>(Qrp an.ox ⟨MB 0 az,[],c.cs,c.nx⟩).all λa=>(match Qlx tb an tf.body none a with
  |some outs=>outs.all (QvS c tf.rs)
  |none=>false)
theorem Ct.by {P:Program} {f:Nat} {fn:Func} {tf:a6} {tb:Tb} {c:Ct} (an:An) (M:tb.ok P) (G:tb.xg P) (hm:P.follows .mixedOrders=true) (hf:P.funcs[f]?=some fn) (hp:Qk P fn=some tf.erase) (hb:ctB tb an c tf=true) (hg:HD f=[]:=by rfl):c.ok P f:=by
 simp only[ctB,QzR]at hb;obtain⟨h1,h2⟩:=hb;intro μ ds q1 q2 q3 q4;obtain⟨az,V,U⟩:=Qjd (an:=an) q4;have ha:(⟨MB 0 az,[],c.cs,c.nx⟩:AS).ok μ ⟨MB 0 ds,[]⟩:=⟨BR U,rfl,q3,q1,q2⟩;obtain⟨a1,T,e1,h4⟩:=QfJ (l:=an.ox) ha;have h3:=QzX.1 (QzX.1 h2 az V) a1 T;split at h3;rename_i outs e;have hx:=QhT (P:=P) (nt:=tf.nt) M G h4 e;obtain⟨d,⟨g,w1,w2,w3⟩,w4⟩:=Ok.jd (R:=λd=>∃g,(μ++g).length=c.mx/\v7 (μ++g) c.rc/\c.rv.has (μ++g) d) hm hf hp (by rw[ZF q4];simp_all) (Jj (λe s ⟨a,O,f2,h5⟩=>QlO (f:=e1++f2) Wb q1 (QzX.1 h3 _ O)) hx) hg
 grind
 grind
def QvY (t:Nat):List Nat->List Nat
 |[]=>[t]
 |u::l=>if Nat.blt t u=true then t::u::l else if Nat.beq t u=true then u::l else u::QvY t l
def Qja (a b:List Nat):List Nat:=a.foldl (λl t=>QvY t l) b
def QtC (x:n5):List Nat:=match x with
 | .s t=>[t]
 | .c _=>[]
def QzH (o:z1):List Nat:=(o.op.u6.flatMap QtC)++(o.guard.map Prod.fst).toList
def Qwa (ops:List z1) (out:List Nat):List Nat:=ops.foldr (λo l=>Qja (QzH o) (match o.dst with
 |some t=>l.filter λu=>!Nat.beq u t
 |none=>l)) out
def exN (id:Nat):List (Nat × List Nat)->List Nat
 |[]=>[]
 |p::l=>if Nat.beq p.1 id=true then p.2 else exN id l
def Ql2 (f:List Nat->List Nat):Nat->List Nat->List Nat
 |0,l=>l
 |n+1,l=>Ql2 f n (Qja (f l) l)
def lvN:y7->List Nat->List (Nat × List Nat)->List Nat->List Nat
 | .skip,out,_,_=>out
 | .region _ ops,out,_,_=>Qwa ops out
 | .ba ops,out,_,_=>Qwa ops out
 | .seq a b,out,ex,rt=>lvN a (lvN b out ex rt) ex rt
 | .cond c a b,out,ex,rt=>Qja (QtC c) (Qja (lvN a out ex rt) (lvN b out ex rt))
 | .block id a,out,ex,rt=>lvN a out ((id,out)::ex) rt
 | .loop a,_,ex,rt=>Ql2 (λl=>lvN a l ex rt) 3 []
 | .scope a,out,ex,rt=>lvN a out ex rt
 | .exit id,_,ex,_=>exN id ex
 | .ret,_,_,rt=>rt
 | .l8 x p q a,out,ex,rt=>Qja (QtC x) (Qja rt (Qja (ex.flatMap Prod.snd) (Qja (lvN a [] (ex.map λe=>(e.1,[])) []) out)))
def Bm:y7->List Nat->List (Nat × List Nat)->List Nat->y5
 | .skip,_,_,_=>.skip
 | .region d ops,_,_,_=>.region d ops
 | .ba ops,_,_,_=>.ba ops
 | .seq a b,out,ex,rt=>match lvN b out ex rt with
  |l=>.seq (Bm a l ex rt) l (Bm b out ex rt)
 | .cond c a b,out,ex,rt=>.cond c (Bm a out ex rt) (Bm b out ex rt)
 | .block id a,out,ex,rt=>.block id (Bm a out ((id,out)::ex) rt)
 | .loop a,_,ex,rt=>match Ql2 (λl=>lvN a l ex rt) 3 []with
  |l=>.loop (Bm a l ex rt)
 | .scope a,out,ex,rt=>.scope (Bm a out ex rt)
 | .exit id,_,_,_=>.exit id
 | .ret,_,_,_=>.ret
 | .l8 x p q a,out,ex,rt=>.l8 x p q (Bm a [] (ex.map λe=>(e.1,[])) [])
theorem Yl:∀(c:y7) (out:List Nat) (ex:List (Nat × List Nat)) (rt:List Nat),(Bm c out ex rt).erase=c
 | .skip,_,_,_=>rfl
 | .region _ _,_,_,_=>rfl
 | .ba _,_,_,_=>rfl
 | .seq a b,out,ex,rt=>by simp only[Bm,y5.erase,Yl a,Yl b]
 | .cond c a b,out,ex,rt=>by simp only[Bm,y5.erase,Yl a,Yl b]
 | .block id a,out,ex,rt=>by simp only[Bm,y5.erase,Yl a]
 | .loop a,out,ex,rt=>by simp only[Bm,y5.erase,Yl a]
 | .scope a,out,ex,rt=>by simp only[Bm,y5.erase,Yl a]
 | .exit id,_,_,_=>rfl
 | .ret,_,_,_=>rfl
 | .l8 x p q a,out,ex,rt=>by simp only[Bm,y5.erase,Yl a]
def QxC:Xy->Nat
 | .tmp t=>t
 | .cell t _ _=>t
def tfN (af:AFn):a6:=match Qja (af.rs.map QxC) []with
 |rt=>⟨af.nt,af.rs,Bm af.body rt [] rt⟩
theorem Sk (af:AFn):(tfN af).erase=af:=by
 (repeat clear hK K);simp_all [tfN,a6.erase,Yl]
def ctP (P:Program) (tb:Tb) (an:An) (c:Ct) (f:Nat):Bool:=
 match P.funcs[f]? with
 |some fn=>(match Qk P fn with
  |some af=>ctB tb an c (tfN af)
  |none=>false)
 |none=>false
theorem Ct.xh {P:Program} {f:Nat} {tb:Tb} {c:Ct} (an:An) (G:tb.ok P) (C:tb.xg P) (hm:P.follows .mixedOrders=true) (hb:ctP P tb an c f=true) (M:HD f=[]:=by rfl):c.ok P f:=by
 grind [ctP,Ct.by,Sk]
def Qwd:List (List UInt8):=[[111,110,101],[116,119,111]]
def Qgu:List (List UInt8):=[]::Qwd
def tName:List (List UInt8):=[[97,112,112],[98],[99],[100],[101,45,50]]
def tWord:List (List UInt8):=[[120],[121],[122],[119,95,49]]
def tOpt:List (List UInt8):=[]::tWord
def Qay:List (List UInt8):=[[100,101,102,97,117,108,116],[120],[121],[122]]
def tVer:List (List UInt8):=[[48,46,48,46,48],[48,46,49,46,48],[49,46,48,46,48],[49,46,49,46,48],[50,46,48,46,48],[50,46,49,46,48]]
def tOp:List (List UInt8):=[[94],[62,61],[60],[61],[33,61]]
def tRange:List (List UInt8):=[42]::tOp.flatMap λo=>tVer.map λv=>o++v
def tKey:List (List UInt8):=[[111,115],[97,114,99,104],[97,98,105]]
def tSign:List (List UInt8):=[[32,61,32],[32,33,61,32]]
def NQ:List (List UInt8):=[]::tKey.flatMap λk=>tSign.flatMap λs=>tWord.map λw=>k++s++w
def tItem:List (List UInt8):=tOpt.map (λw=>63::w)++tName.map (λn=>n++[47,120])++[[120],[121],[122]]
def pB (lo hi:Int):Tp:=.i .i64 lo hi
def tI:Tp:=.i .i64 (-9223372036854775808) 9223372036854775807
def R4:List Tp:=[tI,tI,tI,.s 40,.s 40]
def Qwe:List (List UInt8):=[[],[114,99,46,49]]
def Qwc:List (List UInt8):=[[],[55]]
def Qrv:List Tp:=[pB 0 2,pB 0 1,pB 0 0,.c Qwe,.c Qwc]
def tFeat0:List (List UInt8):=[]::Qay
def Qf3:List Tp:=[.c tName,.c tRange,.l [.c Qay] 2,.b]
def Qc7:List Tp:=[.lm Qf3 2,.c NQ,.c tOpt]
def Qqi:List Tp:=[.c tName,.c tRange,.c NQ]
def Mr:List Tp:=[.c Qay,.l [.c tItem] 5]
def Qos:Tp:=.i .u64 0 18446744073709551615
def Qqj:List Tp:=.c tName::Qrv
def YQ:List Tp:=Qqj++[.l Qc7 2,.l Qqi 1,.l Mr 4]
def Ts:List Tp:=YQ++[Qos,.b]
def J2:List Tp:=[.c Qgu,.l Ts 8]
def DB:List Tp:=[.c tName,.c Qwd]
def QiN:List Tp:=[.c tName,.c tRange]
def Sx:List Tp:=YQ++[.l DB 1,.l QiN 1]
def GN:List Tp:=[.c tOpt,.c tOpt,.c tOpt]
def opV:Nat->List Tp->List Vl
 |_,[]=>[]
 |n,t::ts=>match t with
  | .l row _=>.ll row n 0::opV (n+1) ts
  | .lm row _=>.ll row n 0::opV (n+1) ts
  |t=>.ty t::opV n ts
def CO:Nat->List Tp->List Cn
 |_,[]=>[]
 |n,t::ts=>match t with
  | .l _ k=>(0,n,0)::(n,0,(k:Int))::CO (n+1) ts
  | .lm _ k=>(0,n, -1)::(n,0,(k:Int))::CO (n+1) ts
  |_=>CO n ts
def opN (ts:List Tp):Nat:=(ts.filter λt=>match t with
 | .l _ _=>true
 | .lm _ _=>true
 |_=>false).length
def tyV (r:List Tp):List Vl:=r.map Vl.ty
def Qdx:List Tp:=[pB (-1) 1]++R4++[.b]
def Yo:List Tp:=Qdx++Qdx
def QxA:List Tp:=[.px 0,.px 1]
def Qc8:List Tp:=[.l Yo 1000,.l Yo 1000]
def Qv6:List Tp:=[.c tName,.c tFeat0]
def Fj:List Tp:=Qv6++QxA
inductive Pm where
 |v (v:Vl)
 |s (row:List Tp)
 |l (row:List Tp) (k:Nat)
 |t (k:Nat)
 |i (lo hi:Int)
 |u (ts:List Tp)
 |e (row:List Tp) (k:Nat)
def pms:Nat->List Pm->List Vl × List Cn × Nat
 |n,[]=>([],[],n)
 |n,p::ps=>match p with
  | .v v=>(match pms n ps with
   |(a,c,m)=>(v::a,c,m))
  | .s row=>(match pms (n+opN row) ps with
   |(a,c,m)=>(.aa (opV n row)::a,CO n row++c,m))
  | .l row k=>(match pms (n+1) ps with
   |(a,c,m)=>(.ll row n 0::a,(0,n,0)::(n,0,(k:Int))::c,m))
  | .t k=>(match pms (n+1) ps with
   |(a,c,m)=>(.ss n 0::a,(0,n,0)::(n,0,(k:Int))::c,m))
  | .i lo hi=>(match pms (n+1) ps with
   |(a,c,m)=>(.nn .i64 n 0::a,(0,n, -lo)::(n,0,hi)::c,m))
  | .u row=>(match pms (n+1) ps with
   |(a,c,m)=>(.ll row n 0::a,(0,n,0)::c,m))
  | .e row k=>(match pms (n+1) ps with
   |(a,c,m)=>(.ll row n 0::a,(0,n, -(k:Int))::(n,0,(k:Int))::c,m))
def S4 (ps:List Pm) (more:List Cn) (rv:Nat->Vl) (k:Nat) (rc:Nat->List Cn):Ct:=
 match pms 1 ps with
 |(a,c,n)=>⟨a,n,more++c,rv n,n+k,rc n⟩
def cIn (x:Nat) (lo hi:Int):List Cn:=[(0,x, -lo),(x,0,hi)]
def Qjr:Vl:=.ii .i64
def anX (ox:List (Nat × Option Nat × Bool)) (l:List (Nat × (Nat->Hd))) (un:Nat):An:={hd:=λb=>(lk l b).map λg a=>g a.nx,un:=un,nj:=[],ox:=ox}
def QsW (bx:List Nat) (b i:Nat) (lo:Int) (y:Nat) (c:Int):Nat × (Nat->Hd):=(b,λn=>⟨[(i,.nn .i64 n 0)],bx,[],[(0,n, -lo),(n,y,c)],1,(y,c),(n,0)⟩)
def Qlw (b i:Nat) (lo:Int) (y:Nat) (c:Int):Nat × (Nat->Hd):=(b,λn=>⟨[(i,.nn .i64 n 0)],[],[],[(0,n, -lo),(n,y,c)],1,(y,c),(n,0)⟩)
def Zp (l:List (Nat × (Nat->Hd))) (un:Nat):An:={hd:=λb=>(lk l b).map λg a=>g a.nx,un:=un,nj:=[]}
def anJ (l:List (Nat × (Nat->Hd))) (un:Nat) (nj:List Nat):An:={hd:=λb=>(lk l b).map λg a=>g a.nx,un:=un,nj:=nj}
theorem Zc.xi {P:Program} {f:Nat} {fn:Func} {tf:a6} {orc:Nat->AS->Option Out} {tb:Tb} {an:An} {c:Zc} (T:∀(id:Nat) (x:y5) (a:AS) (o:Out) (ν:List Int) (s:St),(id,x)∈HM tf.body->orc id a=some o->a.ok ν s->TX P tf.nt x (xa ν o) s) (O:tb.ok P) (G:tb.xg P) (hm:P.follows .mixedOrders=true) (hf:P.funcs[f]?=some fn) (hp:Qk P fn=some tf.erase) (hn:Nat.ble c.az.length tf.nt=true)
 (he:(match Jq orc tb an tf.body none ⟨MB 0 c.az,c.bs,c.cs,c.nx⟩with
 |some outs=>outs.all (Qhc c tf.rs)
 |none=>false)=true) (M:zcB c=true) (hg:HD f=[]:=by rfl):c.ok P f:=λμ ds H h1 h2 h3 h4 h5=>by
 have ha:(⟨MB 0 c.az,c.bs,c.cs,c.nx⟩:AS).ok μ ⟨MB 0 ds,H⟩:=⟨BR h4,h5,h3,h1,h2⟩;split at he
 case h_2=>grind
 rename_i outs V;have ho:=he;have hx:=Yj (P:=P) (nt:=tf.nt) T O G (λ_ h=>h) ha V
 obtain⟨d,H',⟨g,q1,q2,q3,q4⟩,q5⟩:=n6.ph (R:=λd H'=>∃g,(μ++g).length=c.mx/\v7 (μ++g) c.rc/\c.rv.has (μ++g) d/\RL (Bx.has (μ++g)) c.rb H') hm hf hp (by rw[ZF h4];simp_all)
  (Jj (λe s ⟨a,U,f2,h6⟩=>by
   obtain⟨d,H',s2,w1,Y,w3,w4⟩:=QlL h6 h1 M (QzX.1 ho _ U);refine⟨d,H',s2,w1,Y,λk hk1 C=>?_,w3,w4⟩;obtain⟨g,_,_,_,w5⟩:=Y;rw[RL.isSome h5 k]at C;rw[RL.isSome w5 k];obtain⟨bx,hb⟩:=QzT.1 C;simp only[zcB,QzR]at M;have:=QzX.1 M.2 (k,bx) (QV hb)
   (repeat clear hK K);simp_all [QA8]) hx) hg
 grind
def zcP (P:Program) (tb:Tb) (an:An) (c:Zc) (f:Nat):Bool:=
 match P.funcs[f]? with
 |some fn=>(match Qk P fn with
  |some af=>(match tfN af with
   |tf=>(Nat.ble c.az.length tf.nt&&zcB c)&&(match Qlx tb an tf.body none ⟨MB 0 c.az,c.bs,c.cs,c.nx⟩with
    |some outs=>outs.all (Qhc c tf.rs)
    |none=>false))
  |none=>false)
 |none=>false
theorem Zc.xh {P:Program} {f:Nat} {tb:Tb} {c:Zc} (an:An) (G:tb.ok P) (C:tb.xg P) (hm:P.follows .mixedOrders=true) (hb:zcP P tb an c f=true) (M:HD f=[]:=by rfl):c.ok P f:=by
 unfold zcP at hb;split at hb;rename_i fn e1;split at hb;rename_i af e2;simp only[QzR]at hb;obtain⟨⟨h1,h2⟩,O⟩:=hb;exact Zc.xi (orc:=λ_ _=>none) (λ_ _ _ _ _ _ _ h _=>by cases h) G C hm e1 (by grind [Sk]) h1 O h2 M
 grind
 grind
structure Sp where
 f:Nat
 ct:Ct
 an:An
 ow:List Nat:=[]
 z:Option Zc:=none
def tbS (g:Nat->List Ct):List Sp->Nat->List Ct
 |[],f=>g f
 |s::l,f=>match s.z with
  |none=>if Nat.beq f s.f=true then s.ct::tbS g l f else tbS g l f
  |some _=>tbS g l f
def zbS (g:Nat->List Zc):List Sp->Nat->List Zc
 |[],f=>g f
 |s::l,f=>match s.z with
  |none=>zbS g l f
  |some z=>if Nat.beq f s.f=true then z::zbS g l f else zbS g l f
def QsU (P:Program) (g:Nat->List Ct) (gz:Nat->List Zc) (l:List Sp) (s:Sp):Bool:=
 (match s.z with
 |none=>ctP P ⟨tbS g l,s.ow,zbS gz l⟩ s.an s.ct s.f
 |some z=>zcP P ⟨tbS g l,s.ow,zbS gz l⟩ s.an z s.f)&&(HD s.f).isEmpty
def YV (P:Program) (g:Nat->List Ct) (gz:Nat->List Zc):List Sp->Bool
 |[]=>true
 |s::l=>YV P g gz l&&QsU P g gz l s
theorem QgC {P:Program} {g:Nat->List Ct} {gz:Nat->List Zc} (hm:P.follows .mixedOrders=true) (M:∀f,∀c∈g f,c.ok P f) (G:∀f,∀c∈gz f,c.ok P f):∀{l:List Sp},YV P g gz l=true->(∀f,∀c∈tbS g l f,c.ok P f)/\∀f,∀c∈zbS gz l f,c.ok P f
 |[],_=>⟨λf c C=>M f c C,λf c C=>G f c C⟩
 |s::l,h=>by
  simp only[YV,QsU,QzR]at h;obtain⟨h1,h2,O⟩:=h;obtain⟨i1,i2⟩:=QgC hm M G h1;obtain⟨f0,ct,an,ow,z⟩:=s;cases z with
  |none=>
   have T:ct.ok P f0:=Ct.xh an (tb:=⟨tbS g l,ow,zbS gz l⟩) (λf c C=>i1 f c C) (λf c C=>i2 f c C) hm h2 (QAR.1 O);refine⟨λf c C=>?_,λf c C=>i2 f c C⟩;simp only[tbS]at C;split at C;rename_i e;have e:=QA6 e
   grind
   grind
  |some z=>
   have T:z.ok P f0:=Zc.xh an (tb:=⟨tbS g l,ow,zbS gz l⟩) (λf c C=>i1 f c C) (λf c C=>i2 f c C) hm h2 (QAR.1 O);refine⟨λf c C=>i1 f c C,λf c C=>?_⟩;simp only[zbS]at C;split at C;rename_i e;have e:=QA6 e
   grind
   grind
def Xm (P:Program) (g:Nat->List Ct) (gz:Nat->List Zc):Nat->List Sp->Bool
 |0,_=>true
 |_,[]=>true
 |n+1,s::l=>Xm P g gz n l&&QsU P g gz l s
theorem Qee {P:Program} {g:Nat->List Ct} {gz:Nat->List Zc}:∀{n:Nat} {l m:List Sp},l.length=n->Xm P g gz n (l++m)=true->YV P g gz m=true->YV P g gz (l++m)=true
 |0,[],m,_,_,h=>h
 |n+1,s::l,m,hn,h,hm=>by
  rw[QAJ]at h ⊢;simp only[Xm,QzR]at h;simp only[YV,QzR];exact⟨Qee Wb h.1 hm,h.2⟩
end Go.Abs
namespace M25
open Go Go.Abs M3
variable {i:Nat} {s:JF} {u:Int}
structure QZ where
 u:Int
 s:JF
variable {x:QZ}
structure CandT where
 v:Vr
 sh:Int
 ns:List (List QZ)
 bs:List QZ
variable {l:List CandT}
structure Sz where
 n:List UInt8
 f:List UInt8
 cs:List CandT
abbrev Qg:=List Sz
variable {w:Qg}
def F8 (x:QZ):List D:=[.int .i64 x.u,Qv x.s.1,Qv x.s.2]
def Xh (l:List QZ):D:=.sl (l.map F8)
def Ky (l:List (List QZ)):D:=.sl (l.map λr=>[Xh r])
def Lh (c:CandT):List D:=[.int .i64 c.v.a,.int .i64 c.v.b,.int .i64 c.v.c,.str c.v.p,.str c.v.q,.int .i64 c.sh,Ky c.ns,Xh c.bs]
def QaY (l:List CandT):D:=.sl (l.map Lh)
def Yk (u:Sz):List D:=[.str u.n,.str u.f,QaY u.cs]
def Q6 (w:Qg):D:=.agg [.sl (w.map Yk)]
structure Ht where
 u:Int
 m:Int
 deriving DecidableEq
structure Kq where
 u:Int
 m:Int
 l:Int
 c:Int
 deriving DecidableEq
structure RowT where
 k:Int
 u:Int
 a:Int
 b:Int
 t:List Ht
abbrev Qdu (a b:Int):Int:=Ju .and .i64 a b
abbrev bor (a b:Int):Int:=Ju .or .i64 a b
abbrev QvB (a b:Int):Int:=Ju .andNot .i64 a b
def uAt (w:Qg) (u:Int):Option Sz:=if u<0 then none else w[u.toNat]?
theorem Qkp (h0:0<=u) (h:u<w.length):uAt w u=some (w[u.toNat]'Wa):=by
 (repeat clear hK K);simp_all [uAt]
theorem QnY (h:u<0\/(w.length:Int)<=u):uAt w u=none:=by
 unfold uAt
 grind
def Qit (w:Qg) (u:Int):Int:=match uAt w u with
 |none=>0
 |some x=>2 ^ (min x.cs.length 16+1) - 1
def Qg7 (v:Vr):Prop:=v.p.length<=1048576/\v.q.length<=1048576
structure WSm (w:Qg):Prop where
 len:w.length<=48
 cs:∀u∈w,u.cs.length<=16
 vs:∀u∈w,∀c∈u.cs,Qg7 c.v
 ns:∀u∈w,∀c∈u.cs,c.ns.length<=1000/\c.bs.length<=1000
 nl:∀u∈w,∀c∈u.cs,∀r∈c.ns,r.length<=1000
 nw:∀u∈w,∀c∈u.cs,∀r∈c.ns,∀x∈r,Sm x.s.1/\Sm x.s.2
 bw:∀u∈w,∀c∈u.cs,∀x∈c.bs,Sm x.s.1/\Sm x.s.2
def Qhe (s:JF) (v:Vr):Bool:=Nt s v.a v.b v.c v.p v.q
def FG (s:JF) (l:List CandT):Nat->Int
 |0=>0
 |n+1=>FG s l n+match l[n]? with
  |some c=>if Qhe s c.v=true then 2 ^ (n+1)else 0
  |none=>0
theorem QbO (s:JF) (l:List CandT):∀n,0<=FG s l n/\FG s l n<=2 ^ (n+1) - 2
 |0=>by simp[FG]
 |n+1=>by
  obtain⟨h1,h2⟩:=QbO s l n
  grind [FG]
theorem Qfr (h:i<l.length) (hp:Qhe s l[i].v=true):FG s l (i+1)=FG s l i+2 ^ (i+1):=by
 rw[FG,QAB h];grind
theorem Qiz (h:i<l.length) (hp:Qhe s l[i].v=false):FG s l (i+1)=FG s l i:=by
 rw[FG,QAB h];grind
def QjX (w:Qg) (x:QZ):Int:=match uAt w x.u with
 |none=>0
 |some un=>FG x.s un.cs (min un.cs.length 16)
theorem Qfi (h0:0<=x.u) (h:x.u<w.length):QjX w x=FG x.s (w[x.u.toNat]'Wa).cs (min (w[x.u.toNat]'Wa).cs.length 16):=by
 rw[QjX,Qkp h0 h]
theorem Qiv (h:x.u<0\/(w.length:Int)<=x.u):QjX w x=0:=by rw[QjX,QnY h]
def Qfn (w:Qg) (c:List Int) (u:Int):Int:=match uAt w u with
 |none=>0
 |some x=>if(c.length:Int)<=u then 0 else if c.getD u.toNat 0< -1\/((min x.cs.length 16:Nat):Int)<=c.getD u.toNat 0 then 0 else 2 ^ (c.getD u.toNat 0+1).toNat
def inW (w:Qg) (u:Int):Bool:=decide (0<=u)&&decide (u<w.length)
def Qcr (l:List Ht):Nat->List Ht
 |0=>[]
 |n+1=>Qcr l n++l.filter λt=>decide (t.u=((n:Nat):Int))
def CB (w:Qg) (l:List Kq) (u:Int):Int:=l.foldl (λa s=>if s.u=u/\inW w u=true then s.m else a) (Qit w u)
def Qfh (l:List Kq):Int:=match l.getLast? with
 |none=>0
 |some s=>s.l
def QbH (l:List Kq) (u:Int):Bool:=l.any λs=>decide (s.u=u)&&decide (s.c= -1)
def Qth (w:Qg) (l:List Kq) (inc:List Ht):Bool:=inc.all λt=>decide (CF (CB w l t.u) t.m=2)
def LU (have_:Int->Int):List Ht->Int->Int
 |[],at_=>at_
 |t::r,at_=>if CF (have_ t.u) t.m=0 then -1 else if CF (have_ t.u) t.m=1 then(if 0<=at_ then -1 else LU have_ r t.u)else LU have_ r at_
def QpI (w:Qg) (l:List Kq) (inc:List Ht):Int:=LU (CB w l) inc (-1)
def Qco (w:Qg) (l:List Kq):Nat->List (List Ht)->Int × Int
 |_,[]=>(-1, -1)
 |i,x::r=>if Qth w l x=true then(i, -1)else if 0<=QpI w l x then(i,QpI w l x)else Qco w l (i+1) r
def Qtg (w:Qg) (db:List (List Ht)) (l:List Kq):Int × Int:=Qco w l 0 db
variable {b:u4} {d:D} {k n:Nat}
section
variable {fr:QzL} {H:QzK} {t u:Nat}
theorem QhA (hb:lk H k=some b) (hp:b.pr=true) (C:n=b.rows.length) (hd:.sl b.rows=d):XL ⟨fr,H⟩ (.s4 k n)=d:=by
 unfold XL;rw[Qs5 (S:=JG) rfl hb hp C];exact hd
theorem GL {e:AExit} (h:lk fr t=some (.s4 k n)) (hb:lk H k=some b) (hp:b.pr=true) (C:n=b.rows.length) (hd:.sl b.rows=d) (he:e=.ret\/e=.normal:=by first |exact .inl rfl |exact .inr rfl):s7 [.tmp t] d e ⟨fr,H⟩:=
 QO h (QhA hb hp C hd) he
end
theorem CG {w:Qg} {c:List Int} {u:Int} (h0:0<=u) (h1:u<w.length) (h2:u<c.length) (h:¬c[u.toNat]'Wa< -1) (C:¬min (((w[u.toNat]'Wa).cs.length:Nat):Int) 16<=c[u.toNat]'Wa):Qfn w c u=2 ^ (c[u.toNat]'Wa+1).toNat:=by
 rw[Qfn,Qkp h0 h1]
 grind
def QtO (l:List Ht) (u:Nat) (i:Nat):List Ht:=(l.take i).filter λt=>decide (t.u=((u:Nat):Int))
def zc (l:List Ht) (u i:Nat):List Ht:=Qcr l u++QtO l u i
variable {x:Int}
theorem QaE (e:Int):IntKind.i64.wrap e=(BitVec.ofInt 64 e).toInt:=by
 have hb:(BitVec.ofInt 64 e).toInt=if e % 18446744073709551616<9223372036854775808 then e % 18446744073709551616 else e % 18446744073709551616 - 18446744073709551616:=by
  grind
 rw[hb];unfold IntKind.wrap;simp only[IntKind.bits,IntKind.signed,QAA]
 grind
theorem RW (b:BitVec 64):BitVec.ofInt 64 (b.toNat:Int)=b:=by
 simp
theorem QoX (x y:Int):BitVec.ofInt 64 (Qdu x y)=BitVec.ofInt 64 x&&& BitVec.ofInt 64 y:=by
 show BitVec.ofInt 64 (IntKind.i64.wrap ((BitVec.ofInt 64 x&&& BitVec.ofInt 64 y).toNat:Int))=_;rw[QaE,BitVec.ofInt_toInt,RW]
theorem QsJ (x y:Int):BitVec.ofInt 64 (bor x y)=BitVec.ofInt 64 x|||BitVec.ofInt 64 y:=by
 show BitVec.ofInt 64 (IntKind.i64.wrap ((BitVec.ofInt 64 x|||BitVec.ofInt 64 y).toNat:Int))=_;rw[QaE,BitVec.ofInt_toInt,RW]
theorem Qik (h:I64 x):IntKind.i64.wrap x=x:=Z3 h.1 h.2
theorem Qjy (h:I64 x):(BitVec.ofInt 64 x).toInt=x:=by rw[<- QaE,Qik h]
theorem QlV (x y:Int):I64 (Qdu x y):=Bj _
theorem QpA (x y:Int):I64 (bor x y):=Bj _
def tb (x:Int) (i:Nat):Bool:=(BitVec.ofInt 64 x).getLsbD i
theorem QqO (x y:Int) (i:Nat):tb (Qdu x y) i=(tb x i&&tb y i):=by rw[tb,QoX,BitVec.getLsbD_and];rfl
theorem QqQ (x y:Int) (i:Nat):tb (bor x y) i=(tb x i||tb y i):=by rw[tb,QsJ,BitVec.getLsbD_or];rfl
theorem QqP (x:Int) (h:64<=i):tb x i=false:=BitVec.getLsbD_of_ge _ i h
theorem Qko {y:Int} (hx:I64 x) (C:I64 y) (h:∀i,tb x i=tb y i):x=y:=by
 rw[<- Qjy hx,<- Qjy C]
 congr 1
 exact BitVec.eq_of_getLsbD_eq λi _=>h i
theorem Dm (i:Nat):tb 0 i=false:=by
 show(BitVec.ofInt 64 0).getLsbD i=false;simp
theorem BU (hx:I64 x):x=0↔∀i,tb x i=false:=by
 constructor;rintro rfl i;exact Dm i;intro h;exact Qko hx ⟨Wa,Wa⟩ λi=>by rw[h i,Dm]
theorem QgA (n:Nat) (h:i<64):tb (n:Int) i=n.testBit i:=by
 grind [tb,BitVec.getLsbD_ofNat]
theorem QgB (hk:k<64) (i:Nat):tb ((2:Int) ^ k) i=decide (i=k):=by
 have e:((2 ^ k:Nat):Int)=(2:Int) ^ k:=by simp
 by_cases h:i<64
 rw[<- e,QgA _ h,Nat.testBit_two_pow]
 grind
 grind [QqP]
theorem Qhz {m:Int}:Qdu x m=0↔∀i,tb x i=true->tb m i=false:=by
 rw[BU (QlV x m)];refine forall_congr' λi=>?_;rw[QqO];simp
def Lo (x:Int):Prop:=0<=x/\x<131072
theorem QaO (hk:k<64):Qdu x (2 ^ k)=0↔tb x k=false:=by
 rw[Qhz]
 grind [QgB]
def QjW (w:Qg) (l:List Kq) (u:Int):Int:=l.foldl (λa s=>if s.u=u then s.m else a) (Qit w u)
def Plain (w:Qg) (l:List Kq):Prop:=∀s∈l,Lo s.m
structure QoD (w:Qg) (db:List (List Ht)) (l:List Kq) (a:Nat) (k:Nat):Prop where
  ha:a<db.length
  hk:k<db[a].length
  eq:Qtg w db l=((a:Int),db[a][k].u)
  one:CF (CB w l db[a][k].u) db[a][k].m=1
  two:∀j,∀hj:j<db[a].length,j≠k->CF (CB w l db[a][j].u) db[a][j].m=2
def Qw2 (w:Qg) (l:List Kq) (t:Ht) (c:Int):Kq:=⟨t.u,QvB (CB w l t.u) t.m,Qfh l,c⟩
def sf (n:Nat) (l:List (Cu × Cu)):Prop:=l.length<=n/\∀s∈l,Cu.sm s.1/\Cu.sm s.2
theorem _root_.We {p:Prop} (h:p:=by decide):p:=h
theorem sf.sm {n:Nat} {l:List (Cu × Cu)} (h:sf n l) (C:n<=1048576):Sm l:=⟨Qz6 h.1 (Qz6 C We),h.2⟩
theorem sf.nil (n:Nat):sf n []:=⟨QzZ _,by simp⟩
def Qst (n:Nat) (s:JF):Prop:=sf n s.1/\sf n s.2
theorem PF (e a b c:Int) (f:Bool):Cu.sm ⟨e,a,b,c,[],[],f⟩:=⟨QzZ _,QzZ _⟩
theorem Qh2 {a b c:Int} {p q:List UInt8} (hp:p.length<=1048576):Qst 1 (ZE a b c p q):=by
 unfold ZE;split;exact⟨sf.nil _,sf.nil _⟩;split;refine⟨sf.nil _,⟨QAe _,λs C=>?_⟩⟩;simp only[QzW]at C;subst C;exact⟨⟨hp,QzZ _⟩,⟨hp,QzZ _⟩⟩;refine⟨⟨QAe _,λs C=>?_⟩,sf.nil _⟩;simp only[QzW]at C;subst C;constructor;unfold RJ;split;exact PF ..
 grind [PF]
 unfold Nr;split;exact PF ..
 grind [PF]
def Qsx:JF:=([(ZS,XP)],[(ZS,XP)])
theorem Qjq:Qst 1 Qsx:=by
 have h:sf 1 [(ZS,XP)]:=⟨QAe _,λs C=>by simp only[QzW]at C;subst C;trivial⟩
 trivial
def re (i:Nat):Nat:=4*2 ^ i
def Qsu (s:JF):Prop:=Qst 600000 s
def v0:Vr:=⟨0,0,0,[],[]⟩
def VsL (l:List Vr):Prop:=l.Sublist NT\/l=[v0]
def QoI (s:JF):Prop:=Qsu s/\Kh s=true
structure CR where
 v:Vr
 x:D
 y:D
 z:D
def dCR (r:CR):List D:=[.int .i64 r.v.a,.int .i64 r.v.b,.int .i64 r.v.c,.str r.v.p,.str r.v.q,r.x,r.y,r.z]
def Qwk (zs:List CR):Prop:=VsL (zs.map CR.v)
structure UR where
 n:List UInt8
 f:List UInt8
 k:Nat
 cs:List CR
def dUR (u:UR):List D:=[.str u.n,.str u.f,.s4 u.k u.cs.length]
structure Fam (H:QzK) (kg ku eu ec:Nat) (us:List UR):Prop where
 ne:ku≠kg
 u:∃pr,lk H ku=some ⟨us.map dUR,3,eu,pr⟩
 c:∀y∈us,y.k≠kg/\∃pr,lk H y.k=some ⟨y.cs.map dCR,8,ec,pr⟩
 v:∀y∈us,y.cs.length<=16/\∀z∈y.cs,Qg7 z.v
 vs:∀y∈us,Qwk y.cs
def Qjl (us:List UR):Prop:=∀j,∀h:j<us.length,us[j].k=500001+j
def zr (v:Vr) (sh:Int):CR:=⟨v,.int .i64 sh,.x7 [],.x7 []⟩
def QoB (u:UR):Prop:=u.cs.length<=4/\∀z∈u.cs,∃v sh,z=zr v sh/\Qg7 v
section
variable {l:List Nat} {fr fr1 fr':QzL} {B:QzK} {kg eg eu ec:Nat} {L:List Int} {J:Int} {us:List UR}
end
def u0 (v:Vr):UR:=⟨[],[],500001,[zr v (-1)]⟩
def names5:List (List UInt8):=[[97,110,116],[98,101,101],[99,111,119],[100,111,103],[101,108,107]]
structure UnitsIn (us:List UR):Prop where
 keys:Qjl us
 fresh:∀u∈us,QoB u
 first:∃z rest,us=⟨[],[],500001,[z]⟩::rest
def nmR (r:Nat):List UInt8:=names5.getD (r / 2) []
def ftR (r:Nat):List UInt8:=if r % 2=1 then[102]else[]
def shp (u:UR):List UInt8 × List UInt8 × List Vr:=(u.n,u.f,u.cs.map CR.v)
inductive UL:Nat->List (List UInt8 × List UInt8 × List Vr)->Prop
 |base:UL 0 [([],[],[v0])]
 |snoc {b r:Nat} {l:List (List UInt8 × List UInt8 × List Vr)} {vs:List Vr} (h:UL b l) (hb:b<=r) (hr:r<10) (hf:r % 2=1->2<=l.length) (hc:vs.Sublist NT):UL (r+1) (l++[(nmR r,ftR r,vs)])
 |up {b b':Nat} {l:List (List UInt8 × List UInt8 × List Vr)} (h:UL b l) (hb:b<=b'):UL b' l
section
variable {us:List UR} {eu ec eg:Nat} {L:List Int} {J:Int} {b4:u4}
end
def QoM (n:Nat) (x:QZ):Prop:=0<x.u/\x.u<n/\QoI x.s
structure Qjj (n:Nat) (c:CandT):Prop where
 v:Qg7 c.v
 nl:c.ns.length<=10
 nr:∀r∈c.ns,(1<=r.length/\r.length<=2)/\∀x∈r,QoM n x
 bl:c.bs.length<=1
 bw:∀x∈c.bs,QoM n x
def Qwm (c:CandT):CR:=⟨c.v,.int .i64 c.sh,Ky c.ns,Xh c.bs⟩
def Qsj (n:Nat) (z:CR):Prop:=∃c,z=Qwm c/\Qjj n c
def QoA (z:CR):Prop:=∃v sh,z=zr v sh/\Qg7 v
structure Prog (n:Nat) (us:List UR) (i k:Nat):Prop where
 keys:Qjl us
 len:us.length=n/\2<=n/\n<=11
 cl:∀u∈us,u.cs.length<=4
 done:∀j,∀hj:j<us.length,∀m,∀hm:m<us[j].cs.length,(j<i\/(j=i/\m<k))->Qsj n us[j].cs[m]
 fresh:∀j,∀hj:j<us.length,∀m,∀hm:m<us[j].cs.length,¬(j<i\/(j=i/\m<k))->QoA us[j].cs[m]
 ul:∃b,UL b (us.map shp)
def QxG (x:Sz):List UInt8 × List UInt8 × List Vr:=(x.n,x.f,x.cs.map CandT.v)
structure WMade (w:Qg):Prop where
 sm:WSm w
 len:2<=w.length/\w.length<=11
 cs:∀u∈w,u.cs.length<=4
 n8:∀u∈w,∀c∈u.cs,Qjj w.length c
 ul:∃b,UL b (w.map QxG)
def CC (m:Int):Bool:=decide (1<m)&&decide (Qdu m (m - 1)=0)
def RK (w:Qg) (l:List Kq) (s:Kq):Bool:=
 if Qit w s.u=0\/s.c< -1\/s.m=0\/¬QvB s.m (QjW w l s.u)=0 then false
 else if s.c= -1 then CC s.m&&!QbH l s.u&&decide (s.l=IntKind.i64.wrap (Qfh l+1))
 else !decide (s.m=QjW w l s.u)&&decide (s.l=Qfh l)
variable {α:Type}
def Qtf (p:α->Bool) (l:List α):Int:=match l.findIdx? p with
 |some i=>i
 |none=>-1
theorem idx_at {p:α->Bool} {l:List α} {i:Nat} (h:i<l.length) (ha:(l.take i).any p=false) (hp:p l[i]=true):Qtf p l=i:=by
 have e:l.findIdx? p=some i:=by
  rw[List.findIdx?_eq_some_iff_getElem];refine⟨h,hp,λj C=>?_⟩
  have:=List.any_eq_false.1 ha l[j] (by
   rw[List.mem_take_iff_getElem]
   grind)
  omega
 rw[Qtf,e]
end M25
namespace M25
open Go Go.Abs M3
inductive QdJ (w:Qg) (db:List (List Ht)):List Kq->List Kq->Prop
 |nil (l:List Kq):QdJ w db l l
 |cons {l x:List Kq} (a k:Nat) (ho:QoD w db l a k) (h:QdJ w db (l++[Qw2 w l ((db[a]'ho.ha)[k]'ho.hk) a]) x):QdJ w db l x
section
variable {w:Qg} {db:List (List Ht)}
end
end M25
namespace M25
open Go Go.Abs M3
end M25
namespace M25
open Go Go.Abs M3
structure Good (w:Qg) (l:List Kq):Prop where
 p:Plain w l
 nz:∀u,inW w u=true->CB w l u≠0
 le:∀u i,tb (CB w l u) i=true->tb (Qit w u) i=true
end M25
namespace M25
open Go Go.Abs M3
end M25
namespace M25
open Go Go.Abs M3
end M25
namespace M25
open Go Go.Abs M3
structure PathOk (w:Qg) (l:List Kq) (i:Nat) (x:Int):Prop where
 dec:0<=x↔QbH l i=true
 lo: -1<=x
 left:0<=x->x<16/\CB w l i=2 ^ (x+1).toNat
end M25
namespace M25
open Go Go.Abs M3
structure QoC where
 n:List UInt8
 v:Vr
 s:List UInt8
 k:Int
structure Br where
 e0:List UInt8
 e1:List UInt8
 e2:List UInt8
 ls:List QoC
structure LSm (l:Br):Prop where
 len:l.ls.length<=1000
 vs:∀x∈l.ls,Qg7 x.v
def Qte (n:List UInt8) (x:QoC):Bool:=decide (x.n=n)
def QjV (l:Br) (n:List UInt8):Int:=Qtf (Qte n) l.ls
def QpK (x w:Vr):Int:=if Mj x.a x.b x.c x.p x.q w.a w.b w.c w.p w.q=0 then 0 else if Mj x.a x.b x.c x.p x.q w.a w.b w.c w.p w.q=1 then 2 else 4
def QsS (l:Br) (u:Sz) (p:Nat):Int:=if QjV l u.n<0 then 1 else match u.cs[p]?,l.ls[(QjV l u.n).toNat]? with
 |some c,some x=>QpK c.v x.v
 |_,_=>0
end M25
namespace M25
open Go Go.Abs M3
structure CapsOk (c:List D):Prop where
 cap:c.all D.fa=true
 arg:∀s:St,c.map (XL s)=c
 fz:∀H,c.map (D.o7 H JG)=c
 own:(c.all λd=>!d.own)=true
 pure:c.all D.pure=true
end M25
namespace M25
open Go Go.Abs M3
section
variable {l:Br} {u:Sz} {i v:Nat} {names:List (List UInt8)}
end
end M25
namespace M25
open Go Go.Abs M3
structure FewT (t:List (List Int)):Prop where
 len:t.length<=60
 rows:∀r∈t,r.length<=1000
def okN (x:Int):Bool:=decide (x<=1099511627776)&&decide (-1099511627776<=x)
end M25
namespace M25
open Go Go.Abs M3
structure LMade (l:Br):Prop where
 len:l.ls.length<=4
 vs:∀x∈l.ls,Qg7 x.v
end M25
namespace M25
open Go Go.Abs M3
end M25
namespace M25
open Go Go.Abs M3
def t35:List (List Int):=[[0,0],[0,4,0,2]]
end M25
namespace M25
open Go Go.Abs M3
end M25
namespace M25
open Go Go.Abs M3
structure Qjk (w:Qg) (c:List Int):Prop where
 len:c.length=w.length
 bd:∀u (h:u<w.length) (hc:u<c.length), -1<=c[u]/\c[u]<w[u].cs.length
def v7 (w:Qg) (l:Br) (c:List Int) (u:Nat):Bool:=match w[u]?,c[u]? with
 |some x,some p=>if u=0\/x.f≠[]\/p<0 then true else decide (QsS l x p.toNat=0)
 |_,_=>true
section
variable {w:Qg} {l:Br} {c:List Int} {v:Nat}
end
end M25
namespace M25
open M3
variable {i:Nat} {s:List (Cu × Cu) × List (Cu × Cu)} {x:Cu}
def J0 (e a b c:Int) (p q:List UInt8) (f:Bool):Bool:=!decide (e=0)||(!f&&decide (p=[])&&!(decide (a=0)&&(decide (b=0)&&(decide (c=0)&&(decide (p=[])&&(decide (q=[])&&true))))))
def Xf (x:Cu):Bool:=J0 x.e x.a x.b x.c x.p x.q x.f
theorem Qo5 {e a b c:Int} {p q:List UInt8} {f:Bool} (h:XQ e a b c p q f=true):q=[]:=by
 grind [XQ]
theorem Da (h:x.q=[]):Xf x=YB x:=by
 rw[Xf,YB,J0,MM,ML,h]
 grind
theorem NJ (h:YB x=true):Xf x=true:=by
 grind [YB,MM,ML,Xf,J0]
theorem QpN {l:List (Cu × Cu)} (h:JL l=true) {s:Cu × Cu} (C:s∈l):s.1.q=[]/\s.2.q=[]:=by
 obtain⟨i,hi,rfl⟩:=QA9.1 C;have:=QzX.1 h i (QAa.2 hi);rw[Qak hi,QzR]at this;have h1:=this.1;simp only[Gk,RN,QzR]at h1
 grind [Qo5]
theorem Pu (hi:s.1.length<=i) (h:(s.1.take i).all (λx=>Xf x.1&&Xf x.2)=true):Kh s=(JL s.1&&JL s.2):=by
 rw[Qz3 hi]at h;rw[Kh];cases h1:JL s.1 with
 |false=>rfl
 |true=>
  have:(s.1.all λx=>YB x.1&&YB x.2)=true:=by
   rw[QzX]at h ⊢;intro x hx
   grind [QpN,Da]
  grind
theorem Pt (hi:i<s.1.length) (h:Xf s.1[i].1=false\/Xf s.1[i].2=false):Kh s=false:=
 RP hi (h.imp (λh=>by grind [NJ]) (λh=>by grind [NJ]))
open Go Go.Abs
theorem Qli {a:Int} {n:Nat} (C:n<=60) (h0:0<=a) (h:a<2 ^ n):bor a (2 ^ n)=a+2 ^ n:=by
 obtain⟨m,rfl⟩:=Int.eq_ofNat_of_zero_le h0;have hp:((2 ^ n:Nat):Int)=(2:Int) ^ n:=by simp
 have hb:(2:Nat) ^ n<=2 ^ 60:=QA5 Wa C;have hm:m<2 ^ n:=Wa;have e:=Nat.two_pow_add_eq_or_of_lt hm 1;rw[Nat.mul_one]at e;have e2:(m:Int)+2 ^ n=((2 ^ n|||m:Nat):Int):=Wa;rw[e2];refine Qko (QpA _ _) ⟨Wa,Wa⟩ λi=>?_;rw[QqQ]
 by_cases hi:i<64
 rw[QgA _ hi,QgA _ hi,QgB Wa,Nat.testBit_or,Nat.testBit_two_pow,Bool.or_comm]
 grind
 grind [QqP]
end M25
namespace M25
open M3 Go Go.Abs
theorem Dl (s:JF) (l:List CandT) (i:Nat):∀n,n<=16->n<=l.length->tb (FG s l n) i=(decide (0<i/\i<=n)&&match l[i - 1]? with |some c=>Qhe s c.v |none=>false)
 |0,_,_=>by grind [FG,Dm]
 |n+1,h,h'=>by
  obtain⟨M,O⟩:=QbO s l n;have C:=Dl s l i n Wa Wa;have G:n<l.length:=Wa;cases hp:Qhe s l[n].v with
  |true=>
   rw[Qfr G hp,<- Qli Wa M Wa,QqQ,C,QgB Wa]
   grind
  |false=>
   rw[Qiz G hp,C]
   grind
theorem QiA (w:Qg) (x:QZ):Qdu (QjX w x) 1=0:=by
 rw[show(1:Int)=2 ^ 0 from rfl,QaO Wa]
 grind [Qfi,Dl,Qiv,Dm]
structure TIn (F m:Int):Prop where
 hF:I64 F
 hm:I64 m
 sub:∀i,tb m i=true->tb F i=true
 nz:m≠0
 nf:m≠F
end M25
namespace M25
end M25
namespace M25
open M3 Go Go.Abs
theorem CU {fr:QzL} {H:QzK} {t u v:Nat} {e:AExit} {p q r d d' C:D} (h:lk fr t=some p) (h2:lk fr u=some q) (G:lk fr v=some r) (hd:XL ⟨fr,H⟩ p=d/\XL ⟨fr,H⟩ q=d'/\XL ⟨fr,H⟩ r=C) (he:e=.ret\/e=.normal:=by first |exact .inl rfl |exact .inr rfl):s7 [.tmp t,.tmp u,.tmp v] (.l7 [d,d',C]) e ⟨fr,H⟩:=by
 obtain⟨rfl,rfl,rfl⟩:=hd;rcases he with rfl |rfl<;>exact⟨_,rfl,_,_,rfl,⟨p,h,rfl⟩,_,_,rfl,⟨q,h2,rfl⟩,_,_,rfl,⟨r,G,rfl⟩,rfl⟩
def cA (c:List Int) (u:Int):Int:=(c[u.toNat]?).getD (-1)
def mtM (w:Qg) (c:List Int) (x:QZ):Bool:=!decide (Qdu (QjX w x) (Qfn w c x.u)=0)
def Qe9 (w:Qg) (c:List Int) (row:List QZ):Bool:=row.any (mtM w c)
def QtI (m:Int) (p:Int):Bool:=decide (0<=p)&&(decide (p<16)&&!decide (Qdu m (2 ^ (p+1).toNat)=0))
def opN (w:Qg) (l:List Int) (u:Nat):Nat:=match w[u]? with
 |some x=>min x.cs.length ((mPl (Qv0 l u) 24).tmod 5).toNat
 |none=>0
structure OrdI (m0:Int) (L:List Int) (s:List Int × Int):Prop where
 nd:s.1.Nodup
 mem:∀p,p∈s.1↔p∈L/\QtI m0 p=true
 bit:∀p,QtI s.2 p=true↔QtI m0 p=true/\p∉s.1
def Qxn (w:Qg) (o:Ht) (x:QZ):Bool:=decide (x.u=o.u)&&!decide (Qdu (QjX w x) (2*2 ^ o.m.toNat)=0)
theorem QfV (n:Nat):(2:Int)*2 ^ n=2 ^ (n+1):=Wa
structure OffOk (w:Qg) (al c:List Int) (a b:Int) (o:Ht):Prop where
 u0:0<=o.u
 u1:o.u<w.length
 no:∀h:o.u.toNat<c.length,c[o.u.toNat]= -1
 p0:0<=o.m
 p1:∀h:o.u.toNat<w.length,o.m<w[o.u.toNat].cs.length
 p2:o.m<16
 al0:0<(al.length:Int)->∃h:o.u.toNat<al.length,¬Qdu al[o.u.toNat] (2*2 ^ o.m.toNat)=0
 me:b<0->o.u=a
 need:0<=b->∀hu:a.toNat<w.length,∀hc:a.toNat<c.length,∀hp:c[a.toNat].toNat<w[a.toNat].cs.length,∀hk:b.toNat<w[a.toNat].cs[c[a.toNat].toNat].ns.length,w[a.toNat].cs[c[a.toNat].toNat].ns[b.toNat].any (Qxn w o)=true
variable {x:QZ}
structure WIn (w:Qg):Prop where
 nr:∀u∈w,∀c∈u.cs,∀r∈c.ns,∀x∈r,0<=x.u/\x.u<w.length
 bw:∀u∈w,∀c∈u.cs,∀x∈c.bs,0<=x.u/\x.u<w.length
section
variable {w:Qg} {al c:List Int}
theorem BL (C:Qjk w c) {u:Nat} (hu:u<c.length): -1<=c[u]/\c[u]<(w[u]'(by rw[<- C.len];omega)).cs.length:=C.bd u (by rw[<- C.len];omega) hu
theorem QpV (hw:WSm w) (C:Qjk w c) (h0:0<=x.u) (h1:x.u<w.length) (G:x.u.toNat<c.length) (hp:0<=c[x.u.toNat]):mtM w c x= !decide (Qdu (QjX w x) (2*2 ^ c[x.u.toNat].toNat)=0):=by
 obtain⟨T,O⟩:=BL C G;have M:=hw.cs _ (QzS (Wa:x.u.toNat<w.length))
 grind [mtM,CG,QfV]
theorem Qmt (hw:WSm w) (C:Qjk w c) (h0:0<=x.u) (h1:x.u<w.length) (G:x.u.toNat<c.length) (hp:¬0<=c[x.u.toNat]):mtM w c x=false:=by
 obtain⟨T,O⟩:=BL C G;have M:=hw.cs _ (QzS (Wa:x.u.toNat<w.length));rw[mtM,CG h0 h1 Wa Wa Wa,show(c[x.u.toNat]+1).toNat=0 by omega];have:=QiA w x
 grind
end
theorem Qdm {x:Int} {n:Nat} (h:x<n) (h0:0<=x):x.toNat<n:=Wa
def QvA (n:Int) (u:Nat):Prop:=Ju .and .i64 (n.fdiv (2 ^ min ((u:Nat):Int).toNat IntKind.i64.bits)) 1=0
instance (n:Int) (u:Nat):Decidable (QvA n u):=by unfold QvA;infer_instance
structure PartOf (c x:List Int):Prop where
 len:x.length=c.length
 at':∀u (h:u<c.length) (h2:u<x.length),x[u]=c[u]\/x[u]= -1
theorem QcR {c:List Int} {u:Nat} (h:u<c.length):cA c (u:Int)=c[u]:=by grind [cA]
theorem XV {α:Type} {l:List α} {p:α->Bool} {k:Nat} (h:k<l.length) (hp:p l[k]=false):l.all p=false:=by
 grind
variable {bs:List QZ} {c:List Int} {i u:Nat} {ns:List (List QZ)} {w:Qg}
structure QdK (n:Nat) (x:QZ):Prop where
 u:0<x.u/\x.u<n
 sm:Sm x.s.1/\Sm x.s.2
 may:Kh x.s=true
structure Qhw (n:Nat) (c:CandT):Prop where
 sm:Qg7 c.v
 may:Jy c.v.a c.v.b c.v.c c.v.p c.v.q=true
 nl:c.ns.length<=24
 bl:c.bs.length<=24
 rows:∀r∈c.ns,(0<r.length/\r.length<=24)/\∀x∈r,QdK n x
 bars:∀x∈c.bs,QdK n x
def SV (a b:Sz):Bool:=Op.bytesLess a.n b.n||(decide (a.n=b.n)&&Op.bytesLess a.f b.f)
def SC (a b:Vr):Int:=Mj a.a a.b a.c a.p a.q b.a b.b b.c b.p b.q
structure fc (w:Qg):Prop where
 len:1<=w.length/\w.length<=48
 cl:∀u∈w,u.cs.length<=16
 r0:∀h:0<w.length,w[0].n=[]/\w[0].f=[]/\w[0].cs.length=1
 name:∀i (h:i<w.length),0<i->w[i].n≠[]
 nh:∀i (h:i<w.length),1<i->SV (w[i - 1]'Wa) w[i]=true
 n8:∀u∈w,∀c∈u.cs,Qhw w.length c
 dh:∀u∈w,∀k (h:k<u.cs.length),0<k->SC (u.cs[k - 1]'Wa).v u.cs[k].v<0
structure QdA where
 k:Int
 u:Int
 a:Int
def Sv (f:QdA):List D:=[.int .i64 f.k,.int .i64 f.u,.int .i64 f.a]
def Qlz (l:List QdA):D:=.sl (l.map Sv)
def X9 (w:Qg) (c:List Int) (u:Nat) (ns:List (List QZ)):Nat->List QdA
 |0=>[]
 |i+1=>X9 w c u ns i++match ns[i]? with
  |some r=>if Qe9 w c r=true then[]else[⟨2,u,i⟩]
  |none=>[]
def SY (w:Qg) (c:List Int) (u:Nat) (bs:List QZ):Nat->List QdA
 |0=>[]
 |i+1=>SY w c u bs i++match bs[i]? with
  |some x=>if mtM w c x=true then[⟨3,u,i⟩]else[]
  |none=>[]
theorem Pv (h:i<ns.length) (hk:Qe9 w c ns[i]=true):X9 w c u ns (i+1)=X9 w c u ns i:=by
 rw[X9,QAB h];grind
theorem Pw (h:i<ns.length) (hk:Qe9 w c ns[i]=false):X9 w c u ns (i+1)=X9 w c u ns i++[⟨2,u,i⟩]:=by
 rw[X9,QAB h];grind
theorem T5 (h:i<bs.length) (hk:mtM w c bs[i]=true):SY w c u bs (i+1)=SY w c u bs i++[⟨3,u,i⟩]:=by
 rw[SY,QAB h];grind
theorem T6 (h:i<bs.length) (hk:mtM w c bs[i]=false):SY w c u bs (i+1)=SY w c u bs i:=by
 rw[SY,QAB h];grind
theorem KE (w:Qg) (c:List Int) (u:Nat) (ns:List (List QZ)):∀i,(X9 w c u ns i).length<=i
 |0=>QAe _
 |i+1=>by
  have:=KE w c u ns i
  grind [X9]
theorem M9 (w:Qg) (c:List Int) (u:Nat) (bs:List QZ):∀i,(SY w c u bs i).length<=i
 |0=>QAe _
 |i+1=>by
  have:=M9 w c u bs i
  grind [SY]
def QiE (w:Qg) (c:List Int) (u:Nat) (x:CandT):List QdA:=X9 w c u x.ns x.ns.length++SY w c u x.bs x.bs.length
def QmE (w:Qg) (c:List Int) (u:Nat):List QdA:=match w[u]? with
 |some x=>match x.cs[(cA c u).toNat]? with
  |some y=>QiE w c u y
  |none=>[]
 |none=>[]
theorem Qam (hu:u<w.length) (C:u<c.length) (hp:c[u].toNat<w[u].cs.length):QmE w c u=QiE w c u w[u].cs[c[u].toNat]:=by
 grind [QmE,QcR]
def QX (w:Qg) (c:List Int):Nat->List QdA
 |0=>if cA c 0<0 then[⟨1,0,0⟩]else[]
 |i+1=>QX w c i++if 0<=cA c i then QmE w c i else[]
theorem Gx (h:i<c.length) (C:0<=c[i]):QX w c (i+1)=QX w c i++QmE w c i:=by rw[QX,QcR h,if_pos C]
theorem KI (h:i<c.length) (C:¬0<=c[i]):QX w c (i+1)=QX w c i:=by rw[QX,QcR h,if_neg C,QAj]
theorem Su (h:0<c.length) (C:c[0]<0):QX w c 0=[⟨1,0,0⟩]:=by simp_all [QX,cA]
theorem PJ (h:0<c.length) (C:¬c[0]<0):QX w c 0=[]:=by simp_all [QX,cA]
def Ss (w:Qg) (c:List Int):List QdA:=QX w c c.length
theorem QiF (w:Qg) (c:List Int) (u:Nat) (x:CandT):(QiE w c u x).length<=x.ns.length+x.bs.length:=by
 grind [QiE,KE,M9]
theorem LS (hw:WSm w) (c:List Int) (u:Nat):(QmE w c u).length<=2000:=by
 unfold QmE;split;rename_i x e;split;rename_i y e2;have:=QiF w c u y;have:=hw.ns _ (QAg e) _ (QAg e2);omega;simp;simp
theorem Hl {w:Qg} (hw:WSm w) (c:List Int):∀i,(QX w c i).length<=1+2000*i
 |0=>by
  rw[QX];grind
 |i+1=>by
  have h1:=Hl hw c i
  grind [LS,QX]
theorem QpU (hw:WSm w) (C:Qjk w c) {x:QZ} (h0:0<=x.u) (h1:x.u<w.length) (M:x.u.toNat<c.length) (hp:0<=c[x.u.toNat]) (G:c[x.u.toNat].toNat<(w[x.u.toNat]'Wa).cs.length):mtM w c x=Qhe x.s (w[x.u.toNat]'Wa).cs[c[x.u.toNat].toNat].v:=by
 have O:=hw.cs _ (QzS (Wa:x.u.toNat<w.length));rw[QpV hw C h0 h1 M hp,QfV];have e:=Qfi h0 h1;have e2:=Dl x.s (w[x.u.toNat]'Wa).cs (c[x.u.toNat].toNat+1) (min (w[x.u.toNat]'Wa).cs.length 16) Wa Wa;rw[decide_eq_true Wa,Nat.add_sub_cancel,QAB G,QAA]at e2;rw[e]
 grind [QaO]
variable {b:u4} {e2 k2:Int} {j k m:Nat} {l:List Nat} {n:List UInt8} {ns:List (List UInt8)} {on:List UInt8->Bool} {s3:JF} {st:List UInt8->JF} {v:Vr}
theorem T8:∀{a b c:List UInt8},Op.bytesLess a b=true->Op.bytesLess b c=true->Op.bytesLess a c=true
 |_,[],_,h,_=>by simp[Op.bytesLess]at h
 |_,_::_,[],_,h=>by simp[Op.bytesLess]at h
 |[],_::_,_::_,_,_=>by simp[Op.bytesLess]
 |a::az,b::bs,c::cs,h1,h2=>by
  simp only[Op.bytesLess,QAT,decide_eq_true_eq,QzR,beq_iff_eq]at*;rcases h1 with h1 |⟨rfl,h1⟩
  rcases h2 with h2 |⟨rfl,h2⟩;exact .inl (UInt8.lt_trans h1 h2);exact .inl h1;rcases h2 with h2 |⟨rfl,h2⟩;exact .inl h2;exact .inr ⟨rfl,T8 h1 h2⟩
theorem Qjx:∀a:List UInt8,Op.bytesLess a a=false
 |[]=>by simp[Op.bytesLess]
 |a::az=>by simp[Op.bytesLess,Qjx az]
theorem QdY:∀{a b:List UInt8},Op.bytesLess a b=false->a≠b->Op.bytesLess b a=true
 |[],[],_,h=>absurd rfl h
 |[],_::_,h,_=>by simp[Op.bytesLess]at h
 |_::_,[],_,_=>by simp[Op.bytesLess]
 |a::az,b::bs,h,hn=>by
  simp only[Op.bytesLess,Bool.or_eq_false_iff,decide_eq_false_iff_not,Bool.and_eq_false_imp,beq_iff_eq,QAT,decide_eq_true_eq,QzR]at*;rcases UInt8.lt_or_eq_of_le (UInt8.not_lt.1 h.1)with q |q
  exact .inl q;subst q;exact .inr ⟨rfl,QdY (h.2 rfl) λe=>hn (by rw[e])⟩
abbrev Q7:=List UInt8 × List UInt8
variable {a c:Q7}
def Hp (k:Q7):List D:=[.str k.1,.str k.2]
def XE (l:List Q7):D:=.sl (l.map Hp)
def K1 (a b:Q7):Bool:=Op.bytesLess a.1 b.1||(decide (a.1=b.1)&&Op.bytesLess a.2 b.2)
theorem Qad {b:Q7} (h1:K1 a b=true) (h2:K1 b c=true):K1 a c=true:=by
 simp only[K1,QAT,QzR,decide_eq_true_eq]at*;rcases h1 with h1 |⟨e1,h1⟩
 rcases h2 with h2 |⟨e2,h2⟩;exact .inl (T8 h1 h2);exact .inl (e2 ▸ h1);rcases h2 with h2 |⟨e2,h2⟩;exact .inl (e1 ▸ h2);exact .inr ⟨e1.trans e2,T8 h1 h2⟩
theorem Cx (a:Q7):K1 a a=false:=by simp[K1,Qjx]
theorem Qfc {b:Q7} (h:K1 a b=false) (C:a≠b):K1 b a=true:=by
 obtain⟨M,T⟩:=a;obtain⟨G,O⟩:=b;simp only[K1,Bool.or_eq_false_iff,Bool.and_eq_false_imp,decide_eq_true_eq,QAT,QzR]at*
 by_cases e:M=G
 subst e;exact .inr ⟨rfl,QdY (h.2 rfl) λe=>C (by rw[e])⟩;exact .inl (QdY h.1 e)
def HE:List Q7->Q7->List Q7
 |[],c=>[c]
 |x::r,c=>if K1 x c=true then x::HE r c else if x=c then x::r else c::x::r
theorem Qf2 {l:List Q7} (hk:k<l.length) (h:K1 l[k] c=true) (hi:HE l c=l.take k++HE (l.drop k) c):HE l c=l.take (k+1)++HE (l.drop (k+1)) c:=by
 rw[hi,Qz4 hk,HE,if_pos h,QAZ hk,QAD];rfl
theorem Qf1 {l:List Q7} (hk:k<l.length) (h0:K1 l[k] c=false) (h:l[k]=c) (hi:HE l c=l.take k++HE (l.drop k) c):HE l c=l:=by
 rw[hi,Qz4 hk,HE,if_neg (by rw[h0];simp),if_pos h,<- Qz4 hk,QAn]
theorem Qb6 {l:List Q7} (h:l.length<=k\/∃hk:k<l.length,K1 l[k] c=false/\l[k]≠c) (hi:HE l c=l.take k++HE (l.drop k) c):HE l c=l.take k++c::l.drop k:=by
 rw[hi];rcases h with h |⟨hk,h1,h2⟩
 rw[Qz8 h,HE];rw[Qz4 hk,HE,if_neg (by rw[h1];simp),if_neg h2]
theorem Qb5:∀(l:List Q7) (c:Q7),(HE l c).length<=l.length+1
 |[],c=>by simp[HE]
 |x::r,c=>by
  have:=Qb5 r c;rw[HE];split;simp;omega;split<;>simp
theorem GM:∀{l:List Q7} {c x:Q7},x∈HE l c↔x=c\/x∈l
 |[],c,x=>by simp[HE]
 |y::r,c,x=>by
  rw[HE];split;simp only[QzP,GM (l:=r)]
  grind
  split;rename_i e;subst e;simp;simp
theorem Qb4:∀{l:List Q7} {c:Q7},¬l.length<(HE l c).length->c∈l
 |[],c,h=>by simp[HE]at h
 |y::r,c,h=>by
  rw[HE]at h;split at h;exact QAQ _ (Qb4 (by simpa using h));split at h;rename_i e;subst e;simp;simp at h
def QkR (l:List Q7):Prop:=l.Pairwise λa b=>K1 a b=true
theorem Qb7:∀{l:List Q7} {c:Q7},QkR l->QkR (HE l c)
 |[],c,_=>by simp[HE,QkR]
 |y::r,c,h=>by
  obtain⟨h1,h2⟩:=QBa.1 h;rw[HE];split;rename_i G;refine QBa.2 ⟨λz C=>?_,Qb7 h2⟩;rcases GM.1 C with rfl |C
  exact G;exact h1 z C;rename_i G;split;exact h;rename_i O;have M:=Qfc (by simpa using G) O;refine QBa.2 ⟨λz C=>?_,h⟩;rcases QzP.1 C with rfl |C
  exact M;exact Qad M (h1 z C)
theorem KX {x y:Q7}:KJ [2,2] (Hp x) (Hp y)=some (decide (x=y)):=by
 obtain⟨a,b⟩:=x;obtain⟨c,d⟩:=y;simp only[Hp,KJ,QAy,Bool.and_true,QzQ];simp
theorem C4 {l:List Q7}:∀r∈l.map Hp,r.length=2:=λr hr=>by obtain⟨x,_,rfl⟩:=Qz1.1 hr;rfl
theorem Qcg {l:List Q7} {n:Nat}:∀r∈((l.map Hp).take n).drop m,r.length=2:=λr hr=>C4 r (Qz7 (QAh hr))
def plP {β:Type} (p:β->Bool):List β->Nat->Int
 |[],_=>-1
 |x::r,n=>if p x=true then n else plP p r (n+1)
def plA (all:List Q7) (k:Q7):Int:=plP (λx=>decide (x=k)) all 0
section
variable {β:Type} {p:β->Bool} {l:List β} {i:Nat}
theorem Nz (hi:i<l.length) (h:p l[i]=false) (he:plP p l 0=plP p (l.drop i) i):plP p l 0=plP p (l.drop (i+1)) (i+1):=by
 rw[he,Qz4 hi,plP,if_neg (by rw[h];simp)]
theorem LX (hi:i<l.length) (h:p l[i]=true) (he:plP p l 0=plP p (l.drop i) i):plP p l 0=i:=by
 rw[he,Qz4 hi,plP,if_pos h]
theorem PB (hi:l.length<=i) (he:plP p l 0=plP p (l.drop i) i):plP p l 0= -1:=by
 rw[he,Qz8 hi,plP]
end
theorem Tn {β:Type} {p:β->Bool}:∀(l:List β) (n:Nat),(plP p l n= -1/\∀x∈l,p x=false)\/∃i,∃h:i<l.length,plP p l n=((n+i:Nat):Int)/\p l[i]=true/\∀j (G:j<i),p (l[j]'Wa)=false
 |[],n=>.inl ⟨rfl,by simp⟩
 |x::r,n=>by
  rw[plP];split;rename_i e;exact .inr ⟨0,by simp,by simp,e,λj G=>Wa⟩;rename_i e;have e:p x=false:=by simpa using e
  rcases Tn (p:=p) r (n+1)with⟨h1,h2⟩ |⟨i,hi,h1,h2,M⟩;exact .inl ⟨h1,λy C=>by rcases QzP.1 C with rfl |C;exact e;exact h2 y C⟩
  refine .inr ⟨i+1,by simpa using hi,by rw[h1];omega,by simpa using h2,λj G=>?_⟩
  cases j with
  |zero=>simpa using e
  |succ j=>simpa using M j Wa
theorem QfS {l:List Q7} {k:Q7} (h:k∈l):∃i,∃hi:i<l.length,l[i]=k/\plA l k=(i:Int):=by
 rcases Tn (p:=λx=>decide (x=k)) l 0 with⟨_,h2⟩ |⟨i,hi,h1,h2,_⟩;have:=h2 k h;simp at this
 exact⟨i,hi,by simpa using h2,by rw[plA,h1];omega⟩
theorem Qj9 {l:List Q7} {k:Q7} (h:0<=plA l k):k∈l:=by
 rcases Tn (p:=λx=>decide (x=k)) l 0 with⟨h1,_⟩ |⟨i,hi,h1,h2,_⟩;rw[plA,h1]at h;omega;have:l[i]=k:=by simpa using h2
 exact this ▸ QzS hi
structure AskT where
 k:Q7
 s:JF
def Qei (a:AskT):List D:=[.str a.k.1,.str a.k.2,Qv a.s.1,Qv a.s.2]
def Mc (l:List AskT):D:=.sl (l.map Qei)
def ZM (l:List (List AskT)):D:=.sl (l.map λr=>[Mc r])
def QgW (all:List Q7) (a:AskT):QZ:=⟨plA all a.k,a.s⟩
def M7 (all:List Q7) (l:List (List AskT)):List (List QZ):=l.map λr=>r.map (QgW all)
structure Bl where
 n:List UInt8
 r:List UInt8
 w:List UInt8
structure JH where
 n:List UInt8
 v:Vr
 nd:List (List D)
 bs:List Bl
 fd:List (List D)
variable {z8:JH->List UInt8->Bool}
def Lg (b:Bl):List D:=[.str b.n,.str b.r,.str b.w]
def ZP (x:JH):List D:=[.str x.n,.int .i64 x.v.a,.int .i64 x.v.b,.int .i64 x.v.c,.str x.v.p,.str x.v.q,.sl x.nd,.sl (x.bs.map Lg),.sl x.fd]
def Qk8 (all:List Q7) (on:List UInt8->Bool) (st:List UInt8->JF) (b:Bl):List QZ:=if 0<=plA all (b.n,[])/\on b.w=true then[⟨plA all (b.n,[]),st b.r⟩]else[]
def FR (all:List Q7) (on:List UInt8->Bool) (st:List UInt8->JF) (l:List Bl):List QZ:=l.flatMap (Qk8 all on st)
structure Bs where
 r:JH
 pd:List (List D)
 hd:List (List D)
structure GX where
 r:JH
 sum:Int
 y:Bool
variable {es:List GX}
structure ShR where
 n:List UInt8
 es:List GX
def QaZ (m:Bs):List D:=ZP m.r++[.sl m.pd,.sl m.hd]
def KS (l:List Bs):D:=.sl (l.map QaZ)
def QsX (e:GX):List D:=ZP e.r++[.int .u64 e.sum,.bool e.y]
def QhV (l:List GX):D:=.sl (l.map QsX)
def dSh (s:ShR):List D:=[.str s.n,QhV s.es]
def Lj (l:List ShR):D:=.sl (l.map dSh)
def nmM (n:List UInt8) (m:Bs):Bool:=decide (m.r.n=n)
def nmS (n:List UInt8) (s:ShR):Bool:=decide (s.n=n)
def dV5 (v:Vr):List D:=[.int .i64 v.a,.int .i64 v.b,.int .i64 v.c,.str v.p,.str v.q]
def Qor (v u:Vr):Bool:=(Jy v.a v.b v.c v.p v.q&&Jy u.a u.b u.c u.p u.q)&&decide (SC v u=0)
def QfE (n:List UInt8) (v:Vr) (e:GX):Bool:=decide (e.r.n=n)&&Qor e.r.v v
def Qkr:List Vr:=[0,1,2].flatMap λa=>[0,1].flatMap λb=>[[],[114,99,46,49]].flatMap λp=>[[],[55]].map λq=>(⟨a,b,0,p,q⟩:Vr)
def vk (v:Vr):Int:=v.a*100+v.b*10+if v.p=[]then 1 else 0
def bb (v:Vr):Prop:=v∈Qkr
theorem bb.may (h:bb v):Jy v.a v.b v.c v.p v.q=true:=(show∀v∈Qkr,Jy v.a v.b v.c v.p v.q=true by decide+kernel) v h
theorem bb.sm (h:bb v):Qg7 v:=(show∀v∈Qkr,v.p.length<=1048576/\v.q.length<=1048576 by decide+kernel) v h
theorem Qlt {u:Vr} (C:bb v) (hu:bb u):SC v u=Zf (vk v) (vk u):=(show∀v∈Qkr,∀u∈Qkr,SC v u=Zf (vk v) (vk u) by decide+kernel) v C u hu
def QcG (es:List GX):Prop:=∀i (h:i<es.length),plP (QfE es[i].r.n es[i].r.v) es 0=i
def Qhb (es:List GX) (i j:Nat):Int:=match es[i]?,es[j]? with
 |some a,some b=>SC a.r.v b.r.v
 |_,_=>0
theorem Mb (hi:i<es.length) (C:j<es.length):Qhb es i j=SC es[i].r.v es[j].r.v:=by
 rw[Qhb,QAB hi,QAB C]
def Rz (es:List GX):List Nat->Nat->List Nat
 |[],c=>[c]
 |x::r,c=>if Qhb es x c<0 then x::Rz es r c else c::x::r
theorem Qe2 {c:Nat} (hk:k<l.length) (h:Qhb es l[k] c<0) (hi:Rz es l c=l.take k++Rz es (l.drop k) c):Rz es l c=l.take (k+1)++Rz es (l.drop (k+1)) c:=by
 rw[hi,Qz4 hk,Rz,if_pos h,QAZ hk,QAD];rfl
theorem Qbu {c:Nat} (h:l.length<=k\/∃hk:k<l.length,¬Qhb es l[k] c<0) (hi:Rz es l c=l.take k++Rz es (l.drop k) c):Rz es l c=l.take k++c::l.drop k:=by
 rw[hi];rcases h with h |⟨hk,h1⟩
 rw[Qz8 h,Rz];rw[Qz4 hk,Rz,if_neg h1]
theorem Qbt (es:List GX):∀(l:List Nat) (c:Nat),(Rz es l c).length=l.length+1
 |[],c=>rfl
 |x::r,c=>by
  have:=Qbt es r c;rw[Rz];split;simp;omega;simp
theorem LD (es:List GX):∀{l:List Nat} {c x:Nat},x∈Rz es l c↔x=c\/x∈l
 |[],c,x=>by simp[Rz]
 |y::r,c,x=>by
  rw[Rz];split;simp only[QzP,LD es (l:=r)]
  grind
  simp
def Fc (es:List GX) (n:List UInt8):Nat->List Nat
 |0=>[]
 |i+1=>match es[i]? with
  |some e=>if e.r.n=n then Rz es (Fc es n i) i else Fc es n i
  |none=>Fc es n i
theorem QbD (h:i<es.length) (C:es[i].r.n=n):Fc es n (i+1)=Rz es (Fc es n i) i:=by
 rw[Fc,QAB h];simp only;rw[if_pos C]
theorem Qmd (h:i<es.length) (C:¬es[i].r.n=n):Fc es n (i+1)=Fc es n i:=by
 rw[Fc,QAB h];simp only;rw[if_neg C]
theorem Y4 {es:List GX} {n:List UInt8}:∀{i x:Nat},x∈Fc es n i->x<i/\∃h:x<es.length,es[x].r.n=n
 |0,x,h=>by simp[Fc]at h
 |i+1,x,h=>by
  rw[Fc]at h;split at h;rename_i e he;obtain⟨hi,rfl⟩:=QAm.1 he;split at h;rename_i C;rcases(LD es).1 h with rfl |h
  exact⟨Wa,hi,C⟩;obtain⟨h1,h2⟩:=Y4 h;exact⟨Wa,h2⟩;obtain⟨h1,h2⟩:=Y4 h;exact⟨Wa,h2⟩;obtain⟨h1,h2⟩:=Y4 h;exact⟨Wa,h2⟩
theorem LK (es:List GX) (n:List UInt8):∀i,(Fc es n i).length<=i
 |0=>QAe _
 |i+1=>by
  have:=LK es n i;rw[Fc];split;split;rw[Qbt];omega;omega;omega
theorem QlY {a b:Int}:Zf a b=0↔a=b:=by unfold Zf;split<;>(try split)<;>omega
def QkQ (es:List GX) (l:List Nat):Prop:=l.Pairwise λi j=>Qhb es i j<0
theorem Qbv {es:List GX} (U:∀e∈es,bb e.r.v) {c:Nat} (O:c<es.length):∀{l:List Nat},(∀x∈l,x<es.length/\Qhb es x c≠0)->QkQ es l->QkQ es (Rz es l c)
 |[],_,_=>by simp[Rz,QkQ]
 |x::r,hl,h=>by
  obtain⟨h1,h2⟩:=QBa.1 h
  have key:∀{i j:Nat} (hi:i<es.length) (V:j<es.length),Qhb es i j=Zf (vk es[i].r.v) (vk es[j].r.v):=λhi V=>by
   rw[Mb hi V,Qlt (U _ (QzS hi)) (U _ (QzS V))]
  obtain⟨hx,M⟩:=hl x Wc;rw[Rz];split;rename_i T;refine QBa.2 ⟨λz C=>?_,Qbv U O (λy hy=>hl y (by simp[hy])) h2⟩;rcases(LD es).1 C with rfl |C
  exact T;exact h1 z C;rename_i T
  have Y:Qhb es c x<0:=by
   rw[key hx O]at T M;rw[key O hx,Nu];rw[Nu]at T;rw[Ne,QlY]at M;omega
  refine QBa.2 ⟨λz C=>?_,h⟩;rcases QzP.1 C with rfl |C
  exact Y;have h5:=h1 z C;have G:=(hl z (by simp[C])).1;rw[key O hx,Nu]at Y;rw[key hx G,Nu]at h5;rw[key O G,Nu];omega
theorem QlC (C:∀e∈es,bb e.r.v) (hd:QcG es) (hi:i<es.length) (M:j<i) (G:es[j].r.n=es[i].r.n):Qhb es j i≠0:=by
 intro e;rw[Mb Wa hi]at e;rcases Tn (p:=QfE es[i].r.n es[i].r.v) es 0 with⟨h1,_⟩ |⟨k,hk,h1,_,O⟩
 rw[hd i hi]at h1;omega;rw[hd i hi]at h1;have:k=i:=Wa;subst this;have:=O j M;rw[QfE,Qor,(C _ (QzS (Wa:j<es.length))).may,(C _ (QzS hi)).may,e]at this;simp[G]at this
theorem QbC {es:List GX} {n:List UInt8} (C:∀e∈es,bb e.r.v) (hd:QcG es):∀i,QkQ es (Fc es n i)
 |0=>by simp[Fc,QkQ]
 |i+1=>by
  have h:=QbC (n:=n) C hd i;rw[Fc];split;rename_i e he;obtain⟨hi,rfl⟩:=QAm.1 he;split;rename_i G;refine Qbv C hi (λx hx=>?_) h;obtain⟨h1,h2,M⟩:=Y4 hx;exact⟨h2,QlC C hd hi h1 (M.trans G.symm)⟩;exact h;exact h
def SE (l:List Nat):D:=.sl (l.map λ(i:Nat)=>[.int .i64 (i:Int)])
theorem C8:∀r∈l.map (λ(i:Nat)=>[D.int .i64 (i:Int)]),r.length=1:=λr hr=>by obtain⟨x,_,rfl⟩:=Qz1.1 hr;rfl
theorem Qcj {n:Nat}:∀r∈((l.map (λ(i:Nat)=>[D.int .i64 (i:Int)])).take n).drop m,r.length=1:=λr hr=>C8 r (Qz7 (QAh hr))
theorem YW {all:List Q7} {l:List Bl} (h:i<l.length) (h1:0<=plA all (l[i].n,[])) (h2:on l[i].w=true):FR all on st (l.take (i+1))=FR all on st (l.take i)++[⟨plA all (l[i].n,[]),st l[i].r⟩]:=by
 rw[QAZ h,FR,QBb];simp only[QAi,QA4,QAj,Qk8];rw[if_pos ⟨h1,h2⟩];rfl
theorem Zt {all:List Q7} {l:List Bl} (h:i<l.length) (h1:¬(0<=plA all (l[i].n,[])/\on l[i].w=true)):FR all on st (l.take (i+1))=FR all on st (l.take i):=by
 rw[QAZ h,FR,QBb];simp only[QAi,QA4,QAj,Qk8];rw[if_neg h1,QAj];rfl
theorem DT (all:List Q7) (on:List UInt8->Bool) (st:List UInt8->JF):∀l:List Bl,(FR all on st l).length<=l.length
 |[]=>QAe _
 |b::l=>by
  have:=DT all on st l;show(Qk8 all on st b++FR all on st l).length<=_;rw[QAs,Qk8];split;simp;omega;simp;omega
theorem QcN (all:List Q7) (on:List UInt8->Bool) (st:List UInt8->JF) (l:List Bl) (i:Nat):(FR all on st (l.take i)).length<=l.length:=by
 have:=DT all on st (l.take i);rw[QAk]at this;omega
structure te (es:List GX) (n:List UInt8) (l:List Nat):Prop where
 len:l.length<=es.length
 mem:∀x∈l,∃h:x<es.length,es[x].r.n=n
 zc:QkQ es l
theorem te.nil (es:List GX) (n:List UInt8):te es n []:=⟨QzZ _,by simp,by simp[QkQ]⟩
theorem te.of (C:∀e∈es,bb e.r.v) (hd:QcG es):te es n (Fc es n es.length):=⟨LK es n _,λ_ h=>(Y4 h).2,QbC C hd _⟩
structure Qhn where
 n:List UInt8
 s:List UInt8
def Qej (p:Qhn):List D:=[.str p.n,.str p.s]
def Re (l:List Qhn):D:=.sl (l.map Qej)
structure YdT where
 ms:List Bs
 ss:List ShR
 e1:List UInt8
 e2:List UInt8
 e3:List UInt8
 pr:List Qhn
variable {y:YdT}
def dYd (y:YdT) (pf:D):List D:=[KS y.ms,Lj y.ss,.str y.e1,.str y.e2,.str y.e3,.sl [],Re y.pr,pf]
def QjG:List UInt8:=[100,101,102,97,117,108,116]
def Gs (y:YdT):List (List AskT):=y.ms.map λm=>[⟨(m.r.n,QjG),ZE m.r.v.a m.r.v.b m.r.v.c m.r.v.p m.r.v.q⟩]
def QjF (l:List (List AskT)):D:=.sl (l.map λr=>[.x7 (r.map Qei)])
structure TkR where
 r:JH
 sh:Int
variable {f:List UInt8->List TkR} {t:TkR}
def dTk (x:TkR):List D:=ZP x.r++[.int .i64 x.sh]
def Pb (l:List TkR):D:=.sl (l.map dTk)
def CT (es:List GX) (k:Nat) (s:JF) (x:Nat):List TkR:=match es[x]? with
 |some e=>if e.y=false/\Nt s e.r.v.a e.r.v.b e.r.v.c e.r.v.p e.r.v.q=true then[⟨e.r,k⟩]else[]
 |none=>[]
def lkU (y:YdT) (k2:Int) (l:List Nat) (e2:Int) (s3:JF):List TkR:=if e2=0 then(match y.ss[k2.toNat]? with
 |some s=>l.flatMap (CT s.es k2.toNat s3)
 |none=>[])else[]
def Qae (y:YdT) (k1 k2:Int) (l:List Nat) (e2:Int) (s3:JF):List TkR:=if 0<=k1 then(match y.ms[k1.toNat]? with
 |some m=>[⟨m.r, -1⟩]
 |none=>[])else lkU y k2 l e2 s3
theorem RI (h:j<y.ms.length):Qae y j k2 l e2 s3=[⟨y.ms[j].r, -1⟩]:=by
 rw[Qae,if_pos Wa,QAz,QAB h]
theorem Pl {k1:Int} (h:¬0<=k1):Qae y k1 k2 l e2 s3=lkU y k2 l e2 s3:=by
 rw[Qae,if_neg h]
theorem Qmf {l':List Nat} (h:¬e2=0):lkU y k2 l e2 s3=lkU y k2 l' e2 s3:=by
 rw[lkU,lkU,if_neg h,if_neg h]
theorem Qfd:lkU y k2 [] e2 s3=[]:=by
 rw[lkU];split;split<;>rfl;rfl
theorem K4 (C:j<y.ss.length) (hi:i<l.length) (hx:l[i]<y.ss[j].es.length) (h1:y.ss[j].es[l[i]].y=false) (h2:Nt s3 y.ss[j].es[l[i]].r.v.a y.ss[j].es[l[i]].r.v.b y.ss[j].es[l[i]].r.v.c y.ss[j].es[l[i]].r.v.p y.ss[j].es[l[i]].r.v.q=true):lkU y j (l.take (i+1)) 0 s3=lkU y j (l.take i) 0 s3++[⟨y.ss[j].es[l[i]].r,j⟩]:=by
 rw[lkU,lkU,if_pos rfl,if_pos rfl,QAz,QAB C,QAZ hi];simp only[QBb,QAi,QA4,QAj];rw[CT,QAB hx];simp only;rw[if_pos ⟨h1,h2⟩]
theorem Xj (C:j<y.ss.length) (hi:i<l.length) (hx:l[i]<y.ss[j].es.length) (h:¬(y.ss[j].es[l[i]].y=false/\Nt s3 y.ss[j].es[l[i]].r.v.a y.ss[j].es[l[i]].r.v.b y.ss[j].es[l[i]].r.v.c y.ss[j].es[l[i]].r.v.p y.ss[j].es[l[i]].r.v.q=true)):lkU y j (l.take (i+1)) 0 s3=lkU y j (l.take i) 0 s3:=by
 rw[lkU,lkU,if_pos rfl,if_pos rfl,QAz,QAB C,QAZ hi];simp only[QBb,QAi,QA4,QAj];rw[CT,QAB hx];simp only;rw[if_neg h,QAj]
theorem QfQ (es:List GX) (k:Nat) (s:JF) (x:Nat):(CT es k s x).length<=1:=by
 unfold CT;split;split<;>simp;simp
theorem Qme (y:YdT) (k2:Int) (l:List Nat) (e2:Int) (s3:JF):(lkU y k2 l e2 s3).length<=l.length:=by
 have key:∀(es:List GX) (k:Nat) (l:List Nat),(l.flatMap (CT es k s3)).length<=l.length:=λes k l=>by
  induction l with
  |nil=>simp
  |cons x l ih=>
   have:=QfQ es k s3 x;rw[QAi,QAs,QAt];omega
 rw[lkU];split;split;exact key _ _ _;simp;simp
abbrev bNs (ns:List (List UInt8)):u4:=⟨ns.map λn=>[.str n],1,9,true⟩
abbrev bRs (f:List UInt8->List TkR) (ns:List (List UInt8)):u4:=⟨ns.map λn=>[Pb (f n)],1,228,true⟩
abbrev bFd (ns:List (List UInt8)):u4:=⟨[[.s4 500000 ns.length,.s4 500001 ns.length]],2,125,false⟩
abbrev FD (f:List UInt8->List TkR) (ns:List (List UInt8)):QzK:=[(500000,bNs ns),(500001,bRs f ns),(1000000,bFd ns)]
theorem Qh5 (h:lk (FD f ns) k=some b):(k=500000/\b=bNs ns)\/(k=500001/\b=bRs f ns)\/(k=1000000/\b=bFd ns):=by
 have:=QV h;simp only[FD,QzP,QAG,QzO,or_false]at this;exact this
theorem Qa8 (h:lk (FD f ns) k=some b):∀j∈b.ids,(lk (FD f ns) j).isSome=true:=λj C=>by
 rcases Qh5 h with⟨_,rfl⟩ |⟨_,rfl⟩ |⟨_,rfl⟩;simp[u4.ids]at C;simp[u4.ids]at C;simp[u4.ids,D.ids,D.l4]at C;rcases C with rfl |rfl<;>rfl
theorem Mf (k:Nat) (b:u4) (h:lk (FD f ns) k=some b):500000<=k/\∀j∈b.ids,(lk (FD f ns) j).isSome=true:=by
 refine⟨?_,Qa8 h⟩;rcases Qh5 h with⟨rfl,_⟩ |⟨rfl,_⟩ |⟨rfl,_⟩<;>decide
theorem MZ {ns':List (List UInt8)} (k:Nat) (_:1000000<=k) (h:(lk (FD f ns) k).isSome=true):(lk (FD f ns') k).isSome=true:=by
 obtain⟨b,hb⟩:=QzT.1 h;rcases Qh5 hb with⟨rfl,_⟩ |⟨rfl,_⟩ |⟨rfl,_⟩<;>rfl
theorem Xi {A:QzK} (C:(A.all λp=>Nat.blt p.1 500000)=true) (k:Nat) (b:u4) (h:lk (FD f ns) k=some b):lk (A++FD f ns) k=some b:=by
 have hk:=(Mf k b h).1;rw[Zv];exact h;cases e:lk A k with
 |none=>rfl
 |some x=>
  have:=QzX.1 C _ (QV e);have:=QzN this;simp only at this;omega
def ofM (l:List TkR) (z8:JH->List UInt8->Bool) (f:List UInt8):List TkR:=l.filter λt=>decide (f=[])||z8 t.r f
theorem Z1 {l:List TkR} {f:List UInt8} (hi:i<l.length) (h:f=[]\/z8 l[i].r f=true):ofM (l.take (i+1)) z8 f=ofM (l.take i) z8 f++[l[i]]:=by
 rw[ofM,QAZ hi,List.filter_append]
 congr 1
 rw[List.filter_cons_of_pos];rfl;rcases h with h |h<;>simp[h]
theorem Nx {l:List TkR} {f:List UInt8} (hi:i<l.length) (h:¬f=[]) (h2:z8 l[i].r f=false):ofM (l.take (i+1)) z8 f=ofM (l.take i) z8 f:=by
 rw[ofM,QAZ hi,List.filter_append];rw[List.filter_cons_of_neg (by simp[h,h2])];simp[ofM]
theorem RX (l:List TkR) (z8:JH->List UInt8->Bool) (f:List UInt8):(ofM l z8 f).length<=l.length:=List.length_filter_le _ _
def M5 (l:List TkR) (nd:JH->List UInt8->List (List AskT)) (f:List UInt8):List (List AskT):=l.flatMap λt=>nd t.r f
theorem Qci {l:List TkR} {nd:JH->List UInt8->List (List AskT)} {f:List UInt8} (hi:i<l.length):M5 (l.take (i+1)) nd f=M5 (l.take i) nd f++nd l[i].r f:=by
 rw[M5,QAZ hi,QBb];simp[M5]
theorem R8 {nd:JH->List UInt8->List (List AskT)} {f:List UInt8}:∀{l:List TkR},(∀t∈l,(nd t.r f).length<=90)->(M5 l nd f).length<=90*l.length
 |[],_=>by simp[M5]
 |t::l,h=>by
  have h1:=R8 (l:=l) λx hx=>h x (QAQ _ hx);have h2:=h t Wc;show(nd t.r f++M5 l nd f).length<=_;rw[QAs,QAt];omega
theorem Qga {l:List (List AskT)}:∀r∈l.map (λr=>[Mc r]),r.length=1:=λr hr=>by obtain⟨x,_,rfl⟩:=Qz1.1 hr;rfl
structure WF where
 on:List UInt8->Bool
 st:List UInt8->JF
 z8:JH->List UInt8->Bool
 nd:JH->List UInt8->List (List AskT)
variable {W:WF}
def JI (W:WF) (all:List Q7) (f:List UInt8) (t:TkR):CandT:=⟨t.r.v,t.sh,M7 all (W.nd t.r f),if f=[]then FR all W.on W.st t.r.bs else[]⟩
def Qdo (c:CandT):Bool:=decide (24<c.ns.length)||decide (24<c.bs.length)
def D8 (c:CandT):List D:=[.int .i64 c.v.a,.int .i64 c.v.b,.int .i64 c.v.c,.str c.v.p,.str c.v.q,.int .i64 c.sh,Ky c.ns,.x7 (c.bs.map F8)]
theorem F4 {all:List Q7} {f:List UInt8} (h:f=[]):JI W all f t=⟨t.r.v,t.sh,M7 all (W.nd t.r f),FR all W.on W.st t.r.bs⟩:=by rw[JI,if_pos h]
theorem N8 {all:List Q7} {f:List UInt8} (h:¬f=[]):JI W all f t=⟨t.r.v,t.sh,M7 all (W.nd t.r f),[]⟩:=by rw[JI,if_neg h]
theorem Sl (all:List Q7) (l:List (List AskT)):(M7 all l).length=l.length:=by simp[M7]
def Kw (W:WF) (all:List Q7) (l:List TkR) (f:List UInt8) (n:Nat):List CandT × Bool:=if(l.map (JI W all f)).any Qdo=true then([],false)else(l.map (JI W all f),decide (n<=16))
theorem N9 {all:List Q7} {l:List TkR} {f:List UInt8} {n:Nat} (hi:i<l.length) (h:Qdo (JI W all f l[i])=true):Kw W all l f n=([],false):=by
 rw[Kw,if_pos (QAW.2 ⟨_,Qz1.2 ⟨_,QzS hi,rfl⟩,h⟩)]
theorem Ma {all:List Q7} {l:List TkR} {f:List UInt8} {n:Nat} (h:(l.map (JI W all f)).any Qdo=false):Kw W all l f n=(l.map (JI W all f),decide (n<=16)):=by
 rw[Kw,if_neg (by rw[h];simp)]
def unM (cf:List Q7->Q7->List CandT × Bool) (all:List Q7) (k:Q7):Sz:=⟨k.1,k.2,(cf all k).1⟩
def itK (s:List UInt8):Nat:=match s with
 |[63]=>0
 |63::_=>2
 |[_]=>1
 |_=>3
def itN (s:List UInt8):List UInt8:=match s with
 |63::r=>r
 |[a]=>[a]
 |s=>s.take (s.length - 2)
def itF (s:List UInt8):List UInt8:=match itK s with
 |3=>[120]
 |_=>[]
def Qou (p:Bool × List AskT):List D:=[match p.1 with
 |true=>.x7 (p.2.map Qei)
 |false=>Mc p.2]
def ndI (n:List UInt8) (e:JF) (op:List UInt8->List (List AskT)) (pl:List UInt8->List UInt8->List (List AskT)) (s:List UInt8):List (Bool × List AskT):=if itK s=1 then[(true,[⟨(n,itN s),e⟩])]else if itK s=2 then(op (itN s)).map λr=>(false,r)else(pl (itN s) (itF s)).map λr=>(false,r)
def ndU (n:List UInt8) (e:JF) (op:List UInt8->List (List AskT)) (pl:List UInt8->List UInt8->List (List AskT)) (l:List (List UInt8)):List (Bool × List AskT):=(true,[⟨(n,[]),e⟩])::l.flatMap (ndI n e op pl)
section
variable {n:List UInt8} {e:JF} {op:List UInt8->List (List AskT)} {pl:List UInt8->List UInt8->List (List AskT)} {l:List (List UInt8)} {i:Nat}
theorem Qfv (hi:i<l.length):ndU n e op pl (l.take (i+1))=ndU n e op pl (l.take i)++ndI n e op pl l[i]:=by
 rw[ndU,QAZ hi,QBb];simp[ndU]
theorem LO (hi:i<l.length) (h:itK l[i]=1):ndU n e op pl (l.take (i+1))=ndU n e op pl (l.take i)++[(true,[⟨(n,itN l[i]),e⟩])]:=by rw[Qfv hi,ndI,if_pos h]
theorem QpW (hi:i<l.length) (h:itK l[i]=2):ndU n e op pl (l.take (i+1))=ndU n e op pl (l.take i)++(op (itN l[i])).map λr=>(false,r):=by rw[Qfv hi,ndI,if_neg Wa,if_pos h]
theorem QpX (hi:i<l.length) (h:¬itK l[i]=1) (h2:¬itK l[i]=2):ndU n e op pl (l.take (i+1))=ndU n e op pl (l.take i)++(pl (itN l[i]) (itF l[i])).map λr=>(false,r):=by rw[Qfv hi,ndI,if_neg h,if_neg h2]
theorem Qfu (h1:∀s∈l,itK s=2->(op (itN s)).length<=14) (h2:∀s∈l,¬itK s=1->¬itK s=2->(pl (itN s) (itF s)).length<=14):(ndU n e op pl l).length<=1+14*l.length:=by
 induction l with
 |nil=>simp[ndU]
 |cons s l ih=>
  have:=ih (λx hx=>h1 x (QAQ _ hx)) (λx hx=>h2 x (QAQ _ hx));have e1:=h1 s Wc;have e2:=h2 s Wc
  have C:(ndI n e op pl s).length<=14:=by
   unfold ndI;split;simp;rename_i k1;split;rename_i k2;rw[QAH];exact e1 k2;rename_i k2;rw[QAH];exact e2 k1 k2
  simp only[ndU,QAt,QAi,QAs]at this ⊢;omega
theorem Tx (l:List (List AskT)):(l.map λr=>(false,r)).map Qou=l.map λr=>[Mc r]:=by simp[Qou]
end
end M25
namespace Go.Abs
open Go
variable {d:D} {l:List D} {t:Tp} {v:Vl} {ν:List Int}
mutual
def Tp.hasB:Tp->D->Bool
 | .i k lo hi,d=>match d with
  | .int j n=>decide (k=j)&&(decide (lo<=n)&&decide (n<=hi))
  |_=>false
 | .b,d=>match d with
  | .bool _=>true
  |_=>false
 | .s n,d=>match d with
  | .str x=>Nat.ble x.length n
  |_=>false
 | .c ls,d=>match d with
  | .str x=>ls.contains x
  |_=>false
 | .l row n,d=>match d with
  | .sl rows=>Nat.ble rows.length n&&rows.all λr=>Tp.wc row r
  | .x7 rows=>Nat.ble rows.length n&&rows.all λr=>Tp.wc row r
  |_=>false
 | .lm _ _,_=>false
 | .px k,d=>match d with
  | .sl rows=>xB k rows
  | .x7 rows=>xB k rows
  |_=>false
def Tp.wc:List Tp->List D->Bool
 |[],ds=>match ds with
  |[]=>true
  |_=>false
 |t::ts,ds=>match ds with
  |d::r=>Tp.hasB t d&&Tp.wc ts r
  |_=>false
end
mutual
theorem Tp.xc:∀{t:Tp} {d:D},t.hasB d=true->t.has d
 | .i k lo hi,d,h=>by
  simp only[Tp.hasB]at h;split at h;simp only[QzR,decide_eq_true_eq]at h;obtain⟨rfl,h1,h2⟩:=h;exact⟨_,rfl,h1,h2⟩
  grind
 | .b,d,h=>by
  simp only[Tp.hasB]at h;split at h;exact⟨_,rfl⟩
  grind
 | .s n,d,h=>by
  simp only[Tp.hasB]at h;split at h;exact⟨_,rfl,QzN h⟩
  grind
 | .c ls,d,h=>by
  simp only[Tp.hasB]at h;split at h;exact⟨_,by grind,rfl⟩
  grind
 | .l row n,d,h=>by
  simp only[Tp.hasB]at h;split at h;simp only[QzR,QzX]at h;exact⟨_,.inl rfl,QzN h.1,λr hr=>Tp.zb (h.2 r hr)⟩;simp only[QzR,QzX]at h;exact⟨_,.inr rfl,QzN h.1,λr hr=>Tp.zb (h.2 r hr)⟩
  grind
 | .lm _ _,d,h=>by trivial
 | .px k,d,h=>by
  simp only[Tp.hasB]at h;split at h;exact⟨_,.inl rfl,h⟩;exact⟨_,.inr rfl,h⟩;cases h
theorem Tp.zb:∀{ts:List Tp} {ds:List D},Tp.wc ts ds=true->Tp.u3 ts ds
 |[],ds,h=>by
  simp only[Tp.wc]at h;split at h;rfl
  grind
 |t::ts,ds,h=>by
  simp only[Tp.wc]at h;split at h;simp only[QzR]at h;exact⟨_,_,rfl,Tp.xc h.1,Tp.zb h.2⟩
  grind
end
def QqX:List Vl->List D->Bool
 |[],[]=>true
 | .ty t::vs,d::ds=>t.hasB d&&QqX vs ds
 |_,_=>false
def Qgb:List (List Vl)->List (List D)->Bool
 |[],[]=>true
 |v::vs,d::ds=>QqX v d&&Qgb vs ds
 |_,_=>false
theorem QgM {ν:List Int}:∀{vs:List Vl} {ds:List D},QqX vs ds=true->Vl.n4 ν vs ds
 |[],[],_=>rfl
 |v::vs,d::ds,h=>by
  cases v with
  |ty t=>
   simp only[QqX,QzR]at h;exact⟨d,ds,rfl,Tp.xc h.1,QgM h.2⟩
  |_=>trivial
 |[],_::_,h=>by trivial
 |_::_,[],h=>by grind [QqX]
theorem L6 {ν:List Int}:∀{vs:List (List Vl)} {ds:List (List D)},Qgb vs ds=true->Vl.k7 ν vs ds
 |[],[],_=>rfl
 |v::vs,d::ds,h=>by
  simp only[Qgb,QzR]at h;exact⟨d,ds,rfl,QgM h.1,L6 h.2⟩
 |[],_::_,h=>by trivial
 |_::_,[],h=>by trivial
def QhO:Vl->D->Bool
 | .ty t,d=>t.hasB d
 | .fx rows,d=>(match d with
  | .sl rs=>Qgb rows rs
  | .x7 rs=>Qgb rows rs
  |_=>false)
 |_,_=>false
theorem QaT (h:QhO v d=true):v.has ν d:=by
 unfold QhO at h;split at h;exact Tp.xc h;split at h;exact⟨_,.inl rfl,L6 h⟩;exact⟨_,.inr rfl,L6 h⟩
 grind
 grind
def QaU:List Vl->List D->Bool
 |[],[]=>true
 |v::vs,d::ds=>QhO v d&&QaU vs ds
 |_,_=>false
theorem D2 {ν:List Int}:∀{vs:List Vl} {ds:List D},QaU vs ds=true->Vl.n4 ν vs ds
 |[],[],_=>rfl
 |v::vs,d::ds,h=>by
  simp only[QaU,QzR]at h;exact⟨d,ds,rfl,QaT h.1,D2 h.2⟩
 |[],_::_,h=>by cases h
 |_::_,[],h=>by cases h
def Qsh:Vl->D->Bool
 | .aa cs,d=>match d with
  | .agg ds=>QaU cs ds
  |_=>false
 |v,d=>QhO v d
theorem QgR (h:Qsh v d=true):v.has ν d:=by
 unfold Qsh at h;split at h;split at h;exact⟨_,rfl,D2 h⟩
 grind
 grind [QaT]
def Qjc:List Vl->List D->Bool
 |[],[]=>true
 |v::vs,d::ds=>Qsh v d&&Qjc vs ds
 |_,_=>false
theorem Qcy {ν:List Int}:∀{vs:List Vl} {ds:List D},Qjc vs ds=true->Vl.n4 ν vs ds
 |[],[],_=>rfl
 |v::vs,d::ds,h=>by
  simp only[Qjc,QzR]at h;exact⟨d,ds,rfl,QgR h.1,Qcy h.2⟩
 |[],_::_,h=>by cases h
 |_::_,[],h=>by cases h
def Qry:Vl->D->Bool
 | .uu vs,d=>match d with
  | .l7 ds=>Qjc vs ds
  |_=>false
 |v,d=>Qsh v d
theorem Qf7 (h:Qry v d=true):v.has ν d:=by
 unfold Qry at h;split at h;split at h;exact⟨_,rfl,Qcy h⟩
 grind
 grind [QgR]
def enT:Tp->Option (List D)
 | .i k lo hi=>some ((List.range (hi - lo+1).toNat).map λ(n:Nat)=>.int k (lo+n))
 | .b=>some [.bool true,.bool false]
 | .c ls=>some (ls.map .str)
 |_=>none
theorem Qen (he:enT t=some l) (h:t.has d):d∈l:=by
 unfold enT at he;split at he<;>cases he;rename_i k lo hi;obtain⟨n,rfl,h1,h2⟩:=h;exact Qz1.2 ⟨(n - lo).toNat,QAa.2 Wa,by grind⟩;obtain⟨b,rfl⟩:=h;simp;obtain⟨x,h1,rfl⟩:=h;grind
def Qpg:List Vl->Option (List (List D))
 |[]=>some [[]]
 |v::vs=>match v with
  | .ty t=>(match enT t,Qpg vs with
   |some l,some r=>some (l.flatMap λd=>r.map λq=>d::q)
   |_,_=>none)
  |_=>none
theorem Qeo {ν:List Int}:∀{vs:List Vl} {ds:List D} {l:List (List D)},Qpg vs=some l->Vl.n4 ν vs ds->ds∈l
 |[],ds,l,he,h=>by
  grind [Qpg,Vl.n4]
 |v::vs,ds,l,he,h=>by
  simp only[Qpg]at he;split at he;split at he;rename_i l1 r e1 e2;cases he
  obtain⟨d,q,rfl,h1,h2⟩:=h;exact QzU.2 ⟨d,Qen e1 h1,Qz1.2 ⟨q,Qeo e2 h2,rfl⟩⟩
  grind
  grind
def Qpf:List (List Vl)->Option (List (List (List D)))
 |[]=>some [[]]
 |v::vs=>match Qpg v,Qpf vs with
  |some l,some r=>some (l.flatMap λd=>r.map λq=>d::q)
  |_,_=>none
theorem Qem {ν:List Int}:∀{vs:List (List Vl)} {ds:List (List D)} {l:List (List (List D))},Qpf vs=some l->Vl.k7 ν vs ds->ds∈l
 |[],ds,l,he,h=>by
  grind [Qpf,Vl.k7]
 |v::vs,ds,l,he,h=>by
  simp only[Qpf]at he;split at he;rename_i l1 r e1 e2;cases he
  obtain⟨d,q,rfl,h1,h2⟩:=h;exact QzU.2 ⟨d,Qeo e1 h1,Qz1.2 ⟨q,Qem e2 h2,rfl⟩⟩
  grind
def enC:Vl->Option (List D)
 | .ty t=>enT t
 | .fx rows=>(match Qpf rows with
  |some l=>some (l.map .sl)
  |none=>none)
 |_=>none
theorem QlF (he:enT t=some l) (h:t.has d):d.y6=d:=by
 unfold enT at he;split at he<;>cases he;obtain⟨n,rfl,_⟩:=h;rfl;obtain⟨b,rfl⟩:=h;rfl;obtain⟨x,_,rfl⟩:=h;rfl
theorem Qpe (he:enC v=some l) (h:v.has ν d):d.y6∈l:=by
 unfold enC at he;split at he;rw[QlF he h];exact Qen he h;split at he;rename_i l1 e1;cases he
 obtain⟨rs,hd,h1⟩:=h;have:d.y6=.sl rs:=by rcases hd with rfl |rfl<;>rfl
 rw[this];exact Qz1.2 ⟨rs,Qem e1 h1,rfl⟩
 grind
 grind
def enL:List Vl->Option (List (List D))
 |[]=>some [[]]
 |v::vs=>match enC v,enL vs with
  |some l,some r=>some (l.flatMap λd=>r.map λq=>d::q)
  |_,_=>none
theorem QjI {ν:List Int}:∀{vs:List Vl} {ds:List D} {l:List (List D)},enL vs=some l->Vl.n4 ν vs ds->ds.map D.y6∈l
 |[],ds,l,he,h=>by
  grind [enL,Vl.n4]
 |v::vs,ds,l,he,h=>by
  simp only[enL]at he;split at he;rename_i l1 r e1 e2;cases he
  obtain⟨d,q,rfl,h1,h2⟩:=h;exact QzU.2 ⟨_,Qpe e1 h1,Qz1.2 ⟨_,QjI e2 h2,rfl⟩⟩
  grind
def enV:Vl->Option (List D)
 | .aa cs=>(match enL cs with
  |some l=>some (l.map .agg)
  |none=>none)
 | .ty t=>enT t
 |_=>none
theorem Qh1 (he:enT t=some l) (h:t.has d):d.can=d:=by
 unfold enT at he;split at he<;>cases he;obtain⟨n,rfl,_⟩:=h;rfl;obtain⟨b,rfl⟩:=h;rfl;obtain⟨x,_,rfl⟩:=h;rfl
theorem Qph (he:enV v=some l) (h:v.has ν d):d.can∈l:=by
 unfold enV at he;split at he;split at he;rename_i q e1;cases he
 obtain⟨ds,rfl,h1⟩:=h;exact Qz1.2 ⟨_,QjI e1 h1,rfl⟩
 grind
 rw[Qh1 he h];exact Qen he h
 grind
def Qoj:List Vl->Option (List (List D))
 |[]=>some [[]]
 |v::vs=>match enV v,Qoj vs with
  |some l,some r=>some (l.flatMap λd=>r.map λq=>d::q)
  |_,_=>none
theorem BP {ν:List Int}:∀{vs:List Vl} {ds:List D} {l:List (List D)},Qoj vs=some l->Vl.n4 ν vs ds->ds.map D.can∈l
 |[],ds,l,he,h=>by
  grind [Qoj,Vl.n4]
 |v::vs,ds,l,he,h=>by
  simp only[Qoj]at he;split at he;rename_i l1 r e1 e2;cases he
  obtain⟨d,q,rfl,h1,h2⟩:=h;exact QzU.2 ⟨_,Qph e1 h1,Qz1.2 ⟨_,BP e2 h2,rfl⟩⟩
  grind
theorem C1 {K:Kn}:∀{ds:List D} {vs:List Value},j5 K ds vs->j5 K (ds.map D.can) vs
 |[],_,h=>h
 |d::ds,[],h=>by trivial
 |d::ds,v::vs,h=>by
  simp only[QAr,j5]at h ⊢;exact⟨BK h.1,C1 h.2⟩
theorem Ok.can {P:Program} {f:Nat} {ds:List D} {d:D} (h:Ok P f (ds.map D.can) d):Ok P f ds d:=⟨h.1,λK w vs hk C=>h.2 K w vs hk (C1 C)⟩
def Qhh (P:Program):List Nat->List (Nat × a6)
 |[]=>[]
 |f::l=>match P.funcs[f]? with
  |some fn=>(match Qk P fn with
   |some af=>if(HD f).isEmpty=true then(f,tfN af)::Qhh P l else Qhh P l
   |none=>Qhh P l)
  |none=>Qhh P l
theorem Gv {P:Program}:∀l:List Nat,QcK P (Qhh P l)
 |[]=>QnS
 |f::l=>by
  unfold Qhh;split;rename_i fn e1;split;rename_i af e2;split;rename_i e3;exact Qi4 e1 (by grind [Sk]) (Gv l) (QAR.1 e3);exact Gv l;exact Gv l;exact Gv l
def ctE (P:Program) (fs:List Nat) (n:Nat) (c:Ct) (f:Nat):Bool:=
 (Nat.beq c.nx 1&&(Nat.beq c.mx 1&&c.rc.isEmpty))&&(match Qoj c.az with
  |some l=>(match Qhh P fs with
   |tab=>l.all λds=>match exF tab n f ds with
    |some d=>Qry c.rv d
    |none=>false)
  |none=>false)
theorem Ct.ni {P:Program} {fs:List Nat} {n f:Nat} {c:Ct} (hm:P.follows .mixedOrders=true) (h:ctE P fs n c f=true):c.ok P f:=by
 intro μ ds U T O M;simp only[ctE,QzR]at h;obtain⟨⟨h1,h2,V⟩,G⟩:=h;split at G;rename_i l e1;have C:=QzX.1 G _ (BP e1 M);split at C;rename_i d e2;refine⟨[],d, ?_, ?_,Qf7 C,Ok.can (Cc hm (Gv fs) n e2)⟩
 (repeat clear hK K);simp_all
 grind [QL]
 grind
 grind
end Go.Abs
namespace M25
open Go Go.Abs M3
def Cy (a b:List (Cu × Cu)):List (Cu × Cu):=if JL a=true/\JL b=true then HB (λx y=>mIn a x y&&mIn b x y) (Yd (a++b)) []else[]
end M25
namespace Go.Abs
open Go
variable {H:QzK} {P:Program} {d:D} {f n:Nat} {s:St} {α:Type}
def gZ:List Nat:=[500000]
def Qta:D->Bool
 | .ref _ _ _=>true
 |_=>false
def idZ (H:QzK):Bool:=H.all λp=>okN gZ p.1&&p.2.rows.all λr=>r.all λd=>d.l4.all (okN gZ)
def Qmc (zcall:Nat->List D->QzK->Option (D × QzK)) (op:z5) (dst:Option Nat) (s:St):Option St:=
 match op,dst with
 | .call f args,some t=>ob (QD s args) λds=>gd (ds.any Qta&&s.fr.all λp=>p.2.ids.all λk=>!gZ.contains k)
   (ob (zcall f (ds.map λd=>(d.o5 (ZN gZ)).can) (Xq gZ s.H)) λq=>
    gd (q.1.ids.isEmpty&&(idZ q.2&&((s.H.all λp=>(lk (Ko (unZ gZ) q.2) p.1).isSome)&&(Ko (unZ gZ) q.2).all λp=>gZ.contains p.1||(lk s.H p.1).isSome))) (some ⟨(t,q.1)::s.fr,Ko (unZ gZ) q.2⟩))
 |_,_=>none
theorem K6 {l:List (Nat × α)} {j:Nat} (h:(lk l j).isSome=true):∃b,(j,b)∈l:=by
 obtain⟨b,hb⟩:=QzT.1 h;exact⟨b,QV hb⟩
section
variable {P:Program} {zcall:Nat->List D->QzK->Option (D × QzK)} {call:Nat->List D->Option D}
theorem Qac (hz:∀f ds H d H',zcall f ds H=some (d,H')->n6 P f ds H d H') {op:z5} {dst:Option Nat} {g:Option (Nat × Bool)} {s':St} {K:St->Prop} (T:gw s g=some true) (h:Qmc zcall op dst s=some s') (hk:K s'):QbY P ⟨dst,op,g⟩ K s:=by
 unfold Qmc at h;split at h;rename_i f args t;obtain⟨ds,h1,h2⟩:=Qh h;obtain⟨M,Y⟩:=Q2 h2;obtain⟨⟨d,H1⟩,h5,V⟩:=Qh Y;obtain⟨G,U⟩:=Q2 V;cases U
 simp only[QzR]at M G;obtain⟨a1,a2,a3,a4⟩:=G;have O:d.ids=[]:=QAR.1 a1
 have hm:Xq gZ (Ko (unZ gZ) H1)=H1:=Ps (f:=ZN gZ) (g:=unZ gZ) λp hp=>by
  have:=QzX.1 a2 p hp;rw[QzR]at this;exact⟨QA6 this.1,λr hr d hd k hk=>QA6 (QzX.1 (QzX.1 (QzX.1 this.2 r hr) d hd) k hk)⟩
 refine⟨s,le_refl s,T,t,f,args,gZ,Ko (unZ gZ) H1,d,rfl,.inl rfl,⟨ds,h1,rfl,Qp1 M.2,λk hk=>by grind,λj C=>?_,λj C=>?_,by grind⟩,hk⟩;obtain⟨b,hb⟩:=K6 C
 grind
 obtain⟨b,hb⟩:=K6 C
 grind
 grind
def L7 (call:Nat->List D->Option D) (zcall:Nat->List D->QzK->Option (D × QzK)):List z1->St->Option St
 |[],s=>some s
 |⟨dst,op,g⟩::r,s=>match gw s g with
  |some true=>(match Qmc zcall op dst s with
   |some s1=>L7 call zcall r s1
   |none=>ob (Qcm call false .fixed [⟨dst,op,g⟩] s) λs1=>L7 call zcall r s1)
  |_=>ob (Qcm call false .fixed [⟨dst,op,g⟩] s) λs1=>L7 call zcall r s1
theorem Hc (G:∀f ds d,call f ds=some d->Ok P f ds d) (C:∀f ds H d H',zcall f ds H=some (d,H')->n6 P f ds H d H'):∀{l:List z1} {s s':St},L7 call zcall l s=some s'->∀K:St->Prop,K s'->Yx P l K s
 |[],s,s',h,K,hk=>by simp only[L7,QzQ]at h;subst h;exact hk
 |⟨dst,op,g⟩::r,s,s',h,K,hk=>by
  have one:(ob (Qcm call false .fixed [⟨dst,op,g⟩] s) λs1=>L7 call zcall r s1)=some s'->Yx P (⟨dst,op,g⟩::r) K s:=λh=>by
   obtain⟨s1,h1,h2⟩:=Qh h;exact Sb (l:=[⟨dst,op,g⟩]) (r:=r) (ZW (w:=false) G h1 (Hc G C h2 K hk)) rfl
  simp only[L7]at h;split at h;rename_i M;split at h;rename_i s1 h1;exact Bb (Qac C M h1 (Hc G C h K hk))
  grind
  grind
theorem QdF {nt:Nat} {Q:AExit->St->Prop} {l:List z1} (h:Yx P l (Q .normal) s):TW P nt (.region false l) Q s:=Fk h
theorem TA {g:Gh} {c:Array Value}:∀{off:Nat} {rs:List (List D)} (n:Nat),l5 g c off rs->l5 g c off (rs.take n)
 |_,[],n,h=>by grind
 |_,_::_,0,_=>by trivial
 |off,r::rs,n+1,h=>by
  simp only[List.take_succ_cons,l5]at h ⊢;exact⟨h.1,TA n h.2⟩
theorem Qip {fr:QzL} (k n:Nat) {b:u4} (hb:lk H k=some b) (hz:b.l0≠0):St.le ⟨fr,H⟩ ⟨fr,(k,{b with rows:=b.rows.take n})::H⟩:=λE g a w r=>by
 have C:∀i,(lk ((k,{b with rows:=b.rows.take n})::H) i).isSome=(lk H i).isSome:=λi=>by
  grind [Qe]
 have get:∀i x,lk ((k,{b with rows:=b.rows.take n})::H) i=some x->∃x',lk H i=some x':=λi x h=>by
  grind [Qe]
 refine⟨g,r.nt,r.df,r.fr,λt d h i hi=>by rw[C];exact r.s9 t d h i hi,λi x h j Y=>?_,λi x h=>?_,λi i' x x' B e e' h1 h2=>?_,r.kr,r.ext,r.kx,λi hi=>let⟨U,T,O,M⟩:=r.kp i hi;⟨U,T,O,by grind⟩⟩
 rw[Qe]at h;rw[C];split at h;cases h
 refine r.u9 k _ hb j ?_;revert Y;unfold u4.ids
 grind
 exact r.u9 i x h j Y;rw[Qe]at h;split at h;rename_i e;cases h;subst e;obtain⟨U,T,O⟩:=r.bx k b hb;refine⟨λr0 G=>U r0 (Qz7 G),λhp r0 G=>T hp r0 (Qz7 G), ?_⟩;rcases O with⟨M,q5⟩ |⟨_,B,c,p1,p2,p3,p4,p5⟩
 have e:({b with rows:=b.rows.take n}:u4)=b:=by rw[M,List.take_nil,<- M]
 grind
 grind [TA]
 exact r.bx i x h;obtain⟨y,hy⟩:=get i x h1;obtain⟨y',V⟩:=get i' x' h2;exact r.inj i i' y y' B e e' hy V
def Qq0 (k:Nat):D->Nat
 | .s4 j n=>if Nat.beq j k=true then n else 0
 |d=>if d.l4.contains k=true then 1000000000 else 0
def Qvv (k:Nat) (d:D):Nat:=match d with
 | .agg cs=>cs.foldl (λm c=>max m (Qq0 k c)) 0
 |d=>Qq0 k d
def Qgx (k n:Nat) (s:St):St:=
 match lk s.H k with
 |some b=>if(!Nat.beq b.l0 0&&(Nat.ble (n+1) b.rows.length&&(s.fr.all (λp=>Nat.ble (Qvv k p.2) n)&&s.H.all λp=>p.2.pr||!p.2.ids.contains k)))=true then⟨s.fr,(k,{b with rows:=b.rows.take n})::s.H⟩else s
 |none=>s
theorem Qgy (k n:Nat) (s:St):s.le (Qgx k n s):=by
 unfold Qgx;split;rename_i b hb;split;rename_i C;simp only[QzR,QAU]at C;exact Qip k n hb λe=>by simp_all
 grind [le_refl]
 grind [le_refl]
def Qgz:QzL->St->St
 |[],s=>s
 |p::l,s=>match p.2 with
  | .s4 k n=>Qgz l (Qgx k n s)
  |_=>Qgz l s
theorem Dk:∀(l:QzL) (s:St),s.le (Qgz l s)
 |[],s=>le_refl s
 |p::l,s=>by
  unfold Qgz;split;exact le_trans (Qgy _ _ s) (Dk l _);exact Dk l s
def QnW (l:List Nat) (s:St):St:=match QgL l s with
 |s1=>Qgz s1.fr s1
theorem Qi6 (l:List Nat) (s:St):s.le (QnW l s):=le_trans (Qcw l s) (Dk _ _)
def Qre (ops:List z1) (s:St):St:=s.v8 ((ops.flatMap λo=>match o.op with
 | .call _ args=>args.flatMap λx=>Qbr (s.ev (Qot (λt=>(lk s.fr t).isSome) ops 3 x))
 |_=>[]).filter λk=>Nat.ble (k+1) 1000000)
theorem QeI (ops:List z1) (s:St):s.le (Qre ops s):=Mg _ s λk hk=>QzN (List.mem_filter.1 hk).2
def orE (a:Option α) (b:Unit->Option α):Option α:=match a with
 |some x=>some x
 |none=>b ()
def Rh (call:Nat->List D->Option D) (zcall:Nat->List D->QzK->Option (D × QzK)):Nat->y5->St->Option (AExit × St)
 |0,_,_=>none
 |n+1,c,s=>match c with
  | .skip=>some (.normal,s)
  | .region dr ops=>(match dr with
   |true=>ob (orE (Qcm call false (Dr.of (JX ops (Qhd ops s)).H true) ops (JX ops (Qhd ops s))) λ_=>Qcm call false (Dr.of (JX ops (Qre ops s)).H true) ops (JX ops (Qre ops s))) λs1=>some (.normal,s1)
   |false=>ob (orE (L7 call zcall ops (JX ops (Qhd ops s))) λ_=>L7 call zcall ops (JX ops (Qre ops s))) λs1=>some (.normal,s1))
  | .ba ops=>ob (Qcm call true (Dr.of (JX ops (Qhd ops s)).H true) ops (JX ops (Qhd ops s))) λs1=>some (.normal,s1)
  | .seq a l b=>ob (Rh call zcall n a s) λ(e,s1)=>match e with
   | .normal=>Rh call zcall n b (QnW l s1)
   | .exit i=>some (.exit i,s1)
   | .ret=>some (.ret,s1)
  | .cond c a b=>ob (s.ev c) λd=>match d with
   | .bool true=>Rh call zcall n a s
   | .bool false=>Rh call zcall n b s
   |_=>none
  | .block id a=>ob (Rh call zcall n a s) λ(e,s1)=>match e with
   | .exit i=>if i=id then some (.normal,s1)else some (.exit i,s1)
   | .normal=>some (.normal,s1)
   | .ret=>some (.ret,s1)
  | .loop a=>ob (Rh call zcall n a s) λ(e,s1)=>match e with
   | .normal=>Rh call zcall n (.loop a) s1
   | .exit i=>some (.exit i,s1)
   | .ret=>some (.ret,s1)
  | .scope a=>Rh call zcall n a s
  | .exit id=>some (.exit id,s)
  | .ret=>some (.ret,s)
  | .l8 _ _ _ _=>none
theorem S7 (O:∀f ds d,call f ds=some d->Ok P f ds d) (U:∀f ds H d H',zcall f ds H=some (d,H')->n6 P f ds H d H') {nt:Nat}:∀(n:Nat),(∀{c:y5} {s s1:St} {e:AExit},Rh call zcall n c s=some (e,s1)->TW P nt c (λe2 s2=>e2=e/\s2=s1) s)/\
  ∀{a:y5} {s s1:St} {e:AExit},Rh call zcall n (.loop a) s=some (e,s1)->∃m,x8 P nt a e s1 m s
 |0=>⟨λh=>(by cases h),λh=>(by cases h)⟩
 |n+1=>by
  obtain⟨G,T⟩:=S7 O U (nt:=nt) n
  have V:∀{a:y5} {s s1:St} {e:AExit},Rh call zcall (n+1) (.loop a) s=some (e,s1)->∃m,x8 P nt a e s1 m s:=by
   intro a s s1 e h;simp only[Rh]at h;obtain⟨⟨e2,s2⟩,h1,h2⟩:=Qh h;dsimp only at h2;have C:=G h1;split at h2
   ·obtain⟨m,Y⟩:=T h2;exact⟨m+1,.next C (le_refl _) Y⟩
   cases h2;exact⟨0,.stop C Wc⟩
   cases h2;exact⟨0,.stop C Wc⟩
  refine⟨?_,V⟩;intro c s s1 e h;cases c with
  |skip=>simp only[Rh,QzQ,QAG]at h;obtain⟨rfl,rfl⟩:=h;exact SU ⟨rfl,rfl⟩
  |region dr ops=>
   cases dr with
   |true=>
    simp only[Rh]at h;obtain⟨s2,h1,h2⟩:=Qh h;cases h2
    unfold orE at h1;split at h1;rename_i C;cases h1;exact Dx (le_trans (Rp ops s) (XG ops _)) (Mw λK M=>ZW O C (M _ ⟨rfl,rfl⟩));exact Dx (le_trans (QeI ops s) (XG ops _)) (Mw λK M=>ZW O h1 (M _ ⟨rfl,rfl⟩))
   |false=>
    simp only[Rh]at h;obtain⟨s2,h1,h2⟩:=Qh h;cases h2
    unfold orE at h1;split at h1;rename_i C;cases h1;exact Dx (le_trans (Rp ops s) (XG ops _)) (QdF (Hc O U C _ ⟨rfl,rfl⟩));exact Dx (le_trans (QeI ops s) (XG ops _)) (QdF (Hc O U h1 _ ⟨rfl,rfl⟩))
  |ba ops=>
   simp only[Rh]at h;obtain⟨s2,h1,h2⟩:=Qh h;cases h2
   exact Dx (le_trans (Rp ops s) (XG ops _)) (TM λK M=>ZW (w:=true) O h1 (M _ ⟨rfl,rfl⟩))
  |seq a l b=>
   simp only[Rh]at h;obtain⟨⟨e2,s2⟩,h1,h2⟩:=Qh h;dsimp only at h2;have C:=G h1;split at h2;exact FQ (ι:=Unit) (λ_=>QnW l s2) (λ_=>True) (Zh (λ_ _ ⟨p,q⟩=>by subst p q;exact⟨(),Qi6 l _,trivial⟩) C) λ_ _=>G h2
   cases h2;exact Kr (Zh (λ_ _ ⟨p,q⟩=>by subst p q;trivial) C)
   cases h2;exact Kr (Zh (λ_ _ ⟨p,q⟩=>by subst p q;trivial) C)
  |cond c a b=>
   grind [Rh,Qx,QP]
  |block id a=>
   simp only[Rh]at h;obtain⟨⟨e2,s2⟩,h1,h2⟩:=Qh h;dsimp only at h2;have C:=G h1;refine HG (Zh (λe3 s3 ⟨p,q⟩=>?_) C);subst p q;split at h2;split at h2
   (repeat clear M K);simp_all [YX]
   (repeat clear M K);simp_all [YX]
   cases h2;trivial
   cases h2;trivial
  |loop a=>obtain⟨m,h1⟩:=V h;exact h1.tw
  |scope a=>grind [Rh,PR]
  |exit id=>simp only[Rh,QzQ,QAG]at h;obtain⟨rfl,rfl⟩:=h;exact Mx ⟨rfl,rfl⟩
  |ret=>simp only[Rh,QzQ,QAG]at h;obtain⟨rfl,rfl⟩:=h;exact By ⟨rfl,rfl⟩
  |l8 x p q a=>trivial
def Qqq (s:St):Xy->Option D
 | .tmp t=>ob (lk s.fr t) λp=>some (FN small s p)
 | .cell t agg sz=>ob (lk s.fr t) λp=>ob (s.ad p) λcells=>match agg with
  |true=>gd (Nat.ble sz cells.length) (some (FN small s (.agg (cells.take sz))))
  |false=>ob cells.head? λq=>some (FN small s q)
theorem Qap {r:Xy} (h:Qqq s r=some d):XJ small s r d:=by
 cases r with
 |tmp t=>
  obtain⟨p,h1,h2⟩:=Qh h;cases h2;exact⟨p,h1,rfl⟩
 |cell t agg sz=>
  obtain⟨p,h1,h2⟩:=Qh h;obtain⟨cells,G,C⟩:=Qh h2;refine⟨p,cells,h1,HK.2 G, ?_⟩;cases agg
  grind
  obtain⟨O,M⟩:=Q2 C;simp_all
def QsD (H:QzK):List Nat:=((H.map Prod.fst).filter λk=>Nat.ble 1000000 k).eraseDups
def Qqd (H:QzK):List Nat:=((QsD H).flatMap λk=>match lk H k with
 |some b=>b.ids.filter λj=>Nat.ble (j+1) 1000000
 |none=>[]).eraseDups
def Mn (s:St):St:=
 match Qqd s.H with
 |[k]=>if Nat.beq k 500000=true then s else s.o5 (Zw k 500000)
 |_=>s
theorem QmJ {k:Nat} (h:k∈Qqd H):k<1000000:=by
 unfold Qqd at h;rw[List.mem_eraseDups]at h;obtain⟨j,_,h⟩:=QzU.1 h;split at h;exact QzN (List.mem_filter.1 h).2
 grind
theorem QiB (s:St):s.le (Mn s):=by
 grind [Mn,le_refl,KZ,QmJ]
def Qra (rs:List Xy) (H0:QzK) (s:St):Option (D × QzK):=
 match Mn s,rs with
 |s2,[r]=>ob (Qqq s2 r) λd=>match Zs (QsD s2.H++Qqd s2.H) s2.H with
  |H'=>gd (d.ids.isEmpty&&((H0.all λp=>!Nat.ble 1000000 p.1||(lk H' p.1).isSome)&&H'.all λp=>Nat.ble 500000 p.1&&p.2.ids.all λj=>(lk H' j).isSome)) (some (d,H'))
 |_,_=>none
theorem QcW {rs:List Xy} {H0 H':QzK} (h:Qra rs H0 s=some (d,H')):∃s2,s.le s2/\(∀k,1000000<=k->(lk H0 k).isSome=true->(lk H' k).isSome=true)/\(∀k b,lk H' k=some b->500000<=k/\∀j∈b.ids,(lk H' j).isSome=true)/\∀e,(∀i,e≠.exit i)->Fm rs d H' e s2:=by
 unfold Qra at h;split at h;rename_i r;obtain⟨d1,h1,h2⟩:=Qh h;dsimp only at h2;obtain⟨M,T⟩:=Q2 h2;cases T
 simp only[QzR]at M;obtain⟨Y,V,U⟩:=M;refine⟨Mn s,QiB s,λk hk O=>?_,λk b hb=>?_,λe he=>?_⟩;obtain⟨b,hb⟩:=K6 O;have:=QzX.1 V _ hb
 (repeat clear hK K);simp_all [QA8]
 have:=QzX.1 U _ (QV hb)
 (repeat clear hK K);simp_all
 have hp:((([r]:List Xy)=[]/\d=.l7 [])\/(∃C,[r]=[C]/\XJ small (Mn s) C d)\/(∃C G d1 d2,[r]=[C,G]/\d=.l7 [d1,d2]/\d1.pure=true/\d2.pure=true/\XJ small (Mn s) C d1/\XJ small (Mn s) G d2)\/∃C G cs d2,[r]=[C,G]/\d=.w9 cs d2/\d2.pure=true/\XJ small (Mn s) C (.agg cs)/\XJ small (Mn s) G d2)/\∀k b,lk (Zs (QsD (Mn s).H++Qqd (Mn s).H) (Mn s).H) k=some b->lk (Mn s).H k=some b:=by
  refine⟨.inr (.inl ⟨r,rfl,Qap h1⟩),λk b hb=>?_⟩
  (repeat clear hK K);simp_all [Jx]
 cases e with
 |exit i=>grind
 |normal=>exact hp
 |ret=>exact hp
 grind
def exX (orc:Nat->List D->Option D) (tab:List (Nat × a6)):Nat->Nat->List D->QzK->Option (D × QzK)
 |0,_,_,_=>none
 |n+1,f,ds,H=>ob (lk tab f) λtf=>gd (Nat.ble ds.length tf.nt) (ob (Rh (λf ds=>match orc f ds with
   |some d=>some d
   |none=>ob (exX orc tab n f ds []) λp=>some p.1) (λf ds H=>match H with
   |[]=>none
   |p::H=>exX orc tab n f ds (p::H)) n tf.body ⟨MB 0 ds,H⟩) λq=>match q.1 with
  | .exit _=>none
  |_=>(match H with
   |[]=>ob (QtN q.2 tf.rs) λd=>some (d,[])
   |_=>Qra tf.rs H q.2))
theorem H9 (hm:P.follows .mixedOrders=true) {orc:Nat->List D->Option D} (ho:∀f ds d,orc f ds=some d->Ok P f ds d) {M:List (Nat × a6)} (O:QcK P M):∀(n:Nat) {f:Nat} {ds:List D} {H H':QzK} {d:D},exX orc M n f ds H=some (d,H')->(H=[]->Ok P f ds d)/\(H≠[]->n6 P f ds H d H')
 |0,_,_,_,_,_,h=>by cases h
 |n+1,f,ds,H,H',d,h=>by
  simp only[exX]at h;obtain⟨tf,h1,h2⟩:=Qh h;obtain⟨h3,h4⟩:=Q2 h2;obtain⟨⟨e,s⟩,h5,T⟩:=Qh h4;obtain⟨V,fn,Y,hp⟩:=O f tf h1
  have U:=(S7 (P:=P) (nt:=tf.nt) (λf ds d h=>by
   split at h;rename_i e;cases h;exact ho _ _ _ e;obtain⟨⟨d1,H1⟩,G,C⟩:=Qh h;cases C
   exact(H9 hm ho O n G).1 rfl) (λf ds H d H' h=>by
   cases H with
   |nil=>cases h
   |cons p H=>exact(H9 hm ho O n h).2 Wc) n).1 h5
  dsimp only at T;refine⟨λhH=>?_,λhH=>?_⟩;subst hH;refine Ok.b7 hm Y hp (QzN h3) (Zh (λe2 s2 ⟨p,q⟩=>?_) U) V;subst p q;cases e2 with
  |exit i=>grind
  |normal=>obtain⟨d1,G,C⟩:=Qh T;cases C;exact GP G
  |ret=>obtain⟨d1,G,C⟩:=Qh T;cases C;exact GP G
  have key:Qra tf.rs H s=some (d,H')/\∀i,e≠.exit i:=by
   grind
  obtain⟨s2,G,C,q3,q4⟩:=QcW key.1;exact n6.b7 hm Y hp (QzN h3) C q3 (DM (Zh (λe2 s3 ⟨p,q⟩=>by grind) U)) V
end
def ctX (P:Program) (orc:Nat->List D->Option D) (fs:List Nat) (n:Nat) (c:Ct) (f:Nat):Bool:=
 (Nat.beq c.nx 1&&(Nat.beq c.mx 1&&c.rc.isEmpty))&&(match Qoj c.az with
  |some l=>(match Qhh P fs with
   |tab=>l.all λds=>match exX orc tab n f ds []with
    |some p=>Qry c.rv p.1
    |none=>false)
  |none=>false)
theorem Ct.ud {orc:Nat->List D->Option D} {fs:List Nat} {c:Ct} (hm:P.follows .mixedOrders=true) (ho:∀f ds d,orc f ds=some d->Ok P f ds d) (h:ctX P orc fs n c f=true):c.ok P f:=by
 intro μ ds U T O M;simp only[ctX,QzR]at h;obtain⟨⟨h1,h2,V⟩,G⟩:=h;split at G;rename_i l e1;have C:=QzX.1 G _ (BP e1 M);split at C;rename_i p e2;refine⟨[],p.1, ?_, ?_,Qf7 C,Ok.can ((H9 hm ho (Gv fs) n (H':=p.2) e2).1 rfl)⟩
 (repeat clear hK K);simp_all
 grind [QL]
 grind
 grind
theorem Ct.parts {ls:List (List UInt8)} {az:List Vl} {cs:List Cn} {rv:Vl} {m:Nat} {rc:List Cn} {gs:List (List (List UInt8))} (T:(ls.all λl=>gs.any λg=>g.contains l)=true) (h:∀g∈gs,Ct.ok P f ⟨.ty (.c g)::az,n,cs,rv,m,rc⟩):Ct.ok P f ⟨.ty (.c ls)::az,n,cs,rv,m,rc⟩:=by
 intro μ ds O M G C;obtain⟨d,r,rfl,⟨l,h1,rfl⟩,h2⟩:=C;obtain⟨g,U,V⟩:=QAW.1 (QzX.1 T l h1);exact h g U μ _ O M G ⟨_,r,rfl,⟨l,by grind,rfl⟩,h2⟩
section
variable {fr:QzL} {H:QzK}
end
mutual
def D.wk:D->D->Bool
 | .undef,.undef=>true
 | .top,.top=>true
 | .int k n,.int j m=>decide (k=j)&&decide (n=m)
 | .bool a,.bool b=>decide (a=b)
 | .str a,.str b=>decide (a=b)
 | .sl a,.sl b=>wkR a b
 | .x7 a,.sl b=>wkR a b
 | .x7 a,.x7 b=>wkR a b
 | .ptr a,.ptr b=>wkL a b
 | .agg a,.agg b=>wkL a b
 |d,.r8=>d.y4
 |_,_=>false
def wkR:List (List D)->List (List D)->Bool
 |[],[]=>true
 |a::az,b::bs=>wkL a b&&wkR az bs
 |_,_=>false
def wkL:List D->List D->Bool
 |[],[]=>true
 |a::az,b::bs=>a.wk b&&wkL az bs
 |_,_=>false
end
theorem Qg0 {d':D} (h:d.wk d'=true) (C:d.y4=true):d'.y4=true:=by
 cases d<;>cases d'<;>first |rfl |omega |trivial
theorem QaD:∀{a b:List D},wkL a b=true->a.length=b.length
 |[],[],_=>rfl
 |_::az,_::bs,h=>by
  simp only[wkL,QzR]at h;simp[QaD h.2]
 |[],_::_,h=>by trivial
 |_::_,[],h=>by trivial
theorem Dv:∀{a b:List (List D)},wkR a b=true->a.length=b.length
 |[],[],_=>rfl
 |_::az,_::bs,h=>by
  simp only[wkR,QzR]at h;simp[Dv h.2]
 |[],_::_,h=>by trivial
 |_::_,[],h=>by trivial
theorem Du {l0:Nat}:∀{a b:List (List D)},wkR a b=true->(∀r∈a,r.length=l0)->∀r∈b,r.length=l0
 |[],[],_,_,r,hr=>by grind
 |x::az,y::bs,h,hl,r,hr=>by
  simp only[wkR,QzR]at h;rcases QzP.1 hr with rfl |hr
  rw[<- QaD h.1];grind;exact Du h.2 (λr hr=>hl r Wb) r hr
 |[],_::_,h,_,_,_=>by trivial
 |_::_,[],h,_,_,_=>by grind
section
variable {K:Kn}
mutual
theorem TG:∀(d d':D) (v:Value),d.wk d'=true->l3 K d v->l3 K d' v
 | .int k n,d',v,h,e=>by
  cases d'<;>simp only[D.wk,QzR,decide_eq_true_eq,QzV]at h
  exact l3.cell e rfl
  grind
 | .bool b,d',v,h,e=>by
  cases d'<;>simp only[D.wk,decide_eq_true_eq,QzV]at h
  exact l3.cell e rfl
  grind
 | .str b,d',v,h,e=>by
  cases d'<;>simp only[D.wk,decide_eq_true_eq,QzV]at h
  exact l3.cell e rfl
  grind
 | .sl rows,d',v,h,e=>by
  cases d'<;>simp only[D.wk,QzV]at h
  exact l3.cell e rfl;rename_i rows';simp only[l3]at e ⊢;obtain⟨a,cap,h1,h2,G⟩:=e;rw[Dv h]at h1 h2;refine⟨a,cap,h1,h2,G.imp (λO=>?_) ?_⟩
  grind [wkR]
  rintro⟨b,off,l0,g1,g2,M⟩;exact⟨b,off,l0,g1,Du h g2,Dw b off rows rows' h M⟩
 | .x7 rows,d',v,h,e=>by
  cases d'<;>simp only[D.wk,QzV]at h
  exact l3.cell e rfl;rename_i rows';simp only[l3]at e ⊢;obtain⟨a,h1,G⟩:=e;rw[Dv h]at h1;refine⟨a,_,h1,QAe _,G.imp (λO=>?_) ?_⟩
  grind [wkR]
  rintro⟨b,off,l0,g1,g2,M⟩;exact⟨b,off,l0,g1,Du h g2,Dw b off rows rows' h M⟩;rename_i rows';simp only[l3]at e ⊢;obtain⟨a,h1,G⟩:=e;rw[Dv h]at h1;refine⟨a,h1,G.imp (λO=>?_) ?_⟩
  grind [wkR]
  rintro⟨b,off,l0,g1,g2,M⟩;exact⟨b,off,l0,g1,Du h g2,Dw b off rows rows' h M⟩
 | .ptr cs,d',v,h,e=>by
  cases d'<;>simp only[D.wk,QzV]at h
  exact l3.cell e rfl;rename_i C;simp only[l3]at e ⊢;obtain⟨b,off,h1,h2⟩:=e;exact⟨b,off,h1,QaB b off cs C h h2⟩
 | .agg cs,d',v,h,e=>by
  cases d'<;>simp only[D.wk,QzV]at h
  trivial;rename_i C;simp only[l3]at e ⊢;obtain⟨vs,h1,h2⟩:=e;exact⟨vs,h1,QgZ cs C vs h h2⟩
 | .undef,d',v,h,e=>by
  cases d'<;>simp only[D.wk,QzV]at h
  omega;trivial
 | .top,d',v,h,e=>by
  cases d'<;>simp only[D.wk,QzV]at h
  omega;trivial
 | .r8,d',v,h,e=>by
  grind [D.wk]
 | .s4 ..,d',v,h,e=>by trivial
 | .y9 ..,d',v,h,e=>by trivial
 | .ref ..,d',v,h,e=>by trivial
 | .r9 ..,d',v,h,e=>by trivial
 | .l7 ds,d',v,h,e=>by
  grind [D.wk,D.y4]
 | .w9 cs x,d',v,h,e=>by
  grind [D.wk,D.y4]
 | .w8 f caps,d',v,h,e=>by
  cases d'<;>simp only[D.wk,QzV]at h
  exact l3.cell e rfl
 | .re f caps,d',v,h,e=>by
  cases d'<;>simp only[D.wk,QzV]at h
  exact l3.cell e rfl
 | .val x,d',v,h,e=>by
  cases d'<;>simp only[D.wk,QzV]at h
  exact l3.cell e rfl
theorem Dw (b:Nat):∀(off:Nat) (rs C:List (List D)),wkR rs C=true->u5 K b off rs->u5 K b off C
 |_,[],[],_,_=>Wa
 |off,r::rs,G::C,h,e=>by
  simp only[wkR,QzR]at h;simp only[u5]at e ⊢;rw[<- QaD h.1];exact⟨QaB b off r G h.1 e.1,Dw b _ rs C h.2 e.2⟩
 |_,[],_::_,h,_=>by trivial
 |_,_::_,[],h,_=>by trivial
theorem QaB (b:Nat):∀(off:Nat) (ds ds':List D),wkL ds ds'=true->a5 K b off ds->a5 K b off ds'
 |_,[],[],_,_=>Wa
 |off,d::ds,d'::ds',h,e=>by
  simp only[wkL,QzR]at h;simp only[a5]at e ⊢;obtain⟨⟨h1,x,h2,G⟩,C⟩:=e;exact⟨⟨Qg0 h.1 h1,x,h2,TG d d' x h.1 G⟩,QaB b _ ds ds' h.2 C⟩
 |_,[],_::_,h,_=>by trivial
 |_,_::_,[],h,_=>by trivial
theorem QgZ:∀(ds ds':List D) (vs:List Value),wkL ds ds'=true->x5 K ds vs->x5 K ds' vs
 |[],[],vs,_,e=>e
 |d::ds,d'::ds',v::vs,h,e=>by
  simp only[wkL,QzR]at h;simp only[x5]at e ⊢;exact⟨⟨Qg0 h.1 e.1.1,TG d d' v h.1 e.1.2⟩,QgZ ds ds' vs h.2 e.2⟩
 |d::ds,d'::ds',[],_,e=>by trivial
 |[],_::_,_,h,_=>by trivial
 |_::_,[],_,h,_=>by trivial
end
theorem Qg1:∀{ds ds':List D} {vs:List Value},wkL ds ds'=true->j5 K ds vs->j5 K ds' vs
 |[],[],_,_,e=>e
 |d::ds,d'::ds',v::vs,h,e=>by
  simp only[wkL,QzR]at h;simp only[j5]at e ⊢;exact⟨TG d d' v h.1 e.1,Qg1 h.2 e.2⟩
 |d::ds,d'::ds',[],_,e=>by trivial
 |[],_::_,_,h,_=>by trivial
 |_::_,[],_,h,_=>by trivial
end
theorem Ok.kf {P:Program} {f:Nat} {ds ds':List D} (h:Ok P f ds' d) (hw:wkL ds ds'=true):Ok P f ds d:=
 ⟨h.1,λK w vs hk C=>h.2 K w vs hk (Qg1 hw C)⟩
end Go.Abs
namespace M25
open Go Go.Abs M3
variable {H H' Ho:QzK} {K:St->Prop} {P:Program} {az:List n5} {b:u4} {d q:D} {ds rest:List D} {l0 k n t:Nat} {f lkf:List UInt8->List TkR} {fr:QzL} {ns ns':List (List UInt8)} {o:z1} {rows rows':List (List D)} {x:n5} {y:YdT}
section
variable {P:Program} {dr:Dr} {op:z5} {dst:Option Nat} {r:List z1} {s s':St} {K:St->Prop}
theorem Z2 (h:Qi0 (λ_ _=>none) op dst dr.dr s=some s') (C:dr.ok r.length (tkR true op s (pk op s)) (tkW true op s (wk op s))=true) (k:Ba P true (dr.nx (Lk true op dst r) (tkR true op s (pk op s)) (tkW true op s (wk op s))) r K s'):Ba P true dr (⟨dst,op,none⟩::r) K s:=
 PE (w:=true) (.inl ⟨C,Si (call:=λ_ _=>none) (λ_ _ _ h=>by cases h) h k⟩)
theorem QoL {et bytes kk:Nat} {y:n5} {ys:List (List D)} {pr:Bool} (hx:St.ev ⟨fr,H⟩ x=some (.s4 kk n)) (O:St.ev ⟨fr,H⟩ y=some q) (U:kk∉q.ids) (T:St.src ⟨fr,H⟩ l0 q ys pr) (V:lk H t=none)
 (hb:lk H kk=some b) (Y:n=b.rows.length) (he:b.l0=l0) (het:b.et=et) (M:(n+ys.length)*bytes<=140737488355328) (hc:n+ys.length<=4611686018427387904) (ho:dr.ok r.length (tkR true (.append l0 et bytes x y) ⟨fr,H⟩ (kk::q.ids)) (tkW true (.append l0 et bytes x y) ⟨fr,H⟩ [kk])=true)
 (k:Ba P true (dr.nx (ZL [t] r) (tkR true (.append l0 et bytes x y) ⟨fr,H⟩ (kk::q.ids)) (tkW true (.append l0 et bytes x y) ⟨fr,H⟩ [kk])) r K ⟨(t,.s4 t (n+ys.length))::fr,(t,⟨b.rows++ys,l0,et,b.pr&&pr⟩)::(kk,Zr)::H⟩) (G:kk<1000000:=by decide) (C:t<1000000:=by decide):Ba P true dr (⟨some t,.append l0 et bytes x y,none⟩::r) K ⟨fr,H⟩:=
 PE (w:=true) (.inr ⟨_,_,_,_,⟨t,kk,n,b,q,ys,pr,rfl,hx,G,V,C,hb,Y,he,het,O,U,T,M,hc,rfl,rfl,rfl,rfl⟩,ho,rfl,k⟩)
end
theorem QbB {fr1:QzL} {H1:QzK} {l lH:List Nat} (t m k0:Nat) {b0 C:u4} (hf:Qz l fr=fr1) (hH:Zs lH H=H1) (hb:lk H t=some b) (O:b.pr=true) (h0:lk H k0=some b0) (e0:b0.o5 (Zw t m)=C)
 (hw:ua ((m,b)::(k0,C)::H1) fr1=true) (Y:(fr1.all λp=>!p.2.ids.contains t&&!p.2.ids.contains m)=true) (V:(H1.all λp=>p.1 != t&&p.1 != m&&(p.2.pr||(!p.2.ids.contains t&&!p.2.ids.contains m)))=true) (hbk:QdW H ((k0,C)::H1)=true) (ht:t<1000000:=by decide) (hm:m<1000000:=by decide) (hk0:k0≠t/\k0≠m:=by decide):
  St.le ⟨fr,H⟩ ⟨fr1,(m,b)::(k0,C)::H1⟩:=λE g a w r=>by
 subst hf hH e0;obtain⟨g',r'⟩:=KZ t m ht hm ⟨fr,H⟩ E g a w r;have hsw:Zw t m t=m:=by unfold Zw;simp
 have hsm:Zw t m m=t:=by grind [ZK]
 have G:∀k,k≠t->k≠m->Zw t m k=k:=λk h1 h2=>by unfold Zw;grind
 have T:b.o5 (Zw t m)=b:=u4.n9 ((r.bx t b hb).2.1 O);simp only[ua,QzR,QzX]at hw;simp only[QzX,QzR,QAU,QA0,decide_eq_false_iff_not]at Y;simp only[QzX,QzR,QAT,QAU,QA0,decide_eq_false_iff_not,bne_iff_ne,ne_eq]at V;refine⟨g',r'.less (λv d h=>?_) (λj x h=>?_) (λv d h j U=>hw.1 (v,d) (QV h) j U) (λj x h i hi=>hw.2 (j,x) (QV h) i hi) λj U hs=>?_⟩;simp only[St.o5,Z9];have h2:=YA l fr v d h;rw[h2,QAy]
 congr 1
 have M:=Y (v,d) (QV h);exact Qao λk hk=>G k Wb Wb;show lk (L1 (Zw t m) H) j=some x;rw[Kf (ZK t m)];rw[Qe]at h;split at h
 grind
 rw[Qe]at h;split at h
 grind
 have h2:=X8 lH H j x h;have M:=V (j,x) (QV h);rw[G j M.1.1 M.1.2,h2,QAy]
 congr 1
 cases hp:x.pr with
 |true=>exact u4.n9 ((r.bx j x h2).2.1 hp)
 |false=>
  have h4:=M.2.resolve_left Wb;exact N5 hp λk hk=>G k Wb Wb
 have hs':(lk (L1 (Zw t m) H) j).isSome=true:=hs
 grind [Kf,N4,Qe]
def GG:List Nat:=[500000,500001]
abbrev FD2 (f:List UInt8->List TkR) (ns:List (List UInt8)):QzK:=[(500000,bNs ns),(500001,bRs f ns),(2000000,⟨[[.s4 500000 ns.length,.s4 500001 ns.length]],2,125,false⟩)]
theorem Qev (f:List UInt8->List TkR) (ns:List (List UInt8)):Ko (Bn 1000000 2000000) (FD f ns)=FD2 f ns:=by
 have e1:Bn 1000000 2000000 500000=500000:=by rfl
 have e2:Bn 1000000 2000000 500001=500001:=by rfl
 have e3:Bn 1000000 2000000 1000000=2000000:=by rfl
 simp only[FD,FD2,Ko,QAr,QAV,u4.o5,D.o6,e1,e2,e3,QA7,bNs,bRs,bFd];rfl
theorem Qeu (f:List UInt8->List TkR) (ns:List (List UInt8)):Xq GG (FD f ns)=FD2 f ns:=by
 have e1:ZN GG 500000=500000:=by rfl
 have e2:ZN GG 500001=500001:=by rfl
 have e3:ZN GG 1000000=2000000:=by rfl
 simp only[FD,FD2,Xq,QAr,QAV,u4.o5,D.o6,e1,e2,e3,QA7,bNs,bRs,bFd];rfl
theorem Qes (h:lk (FD2 f ns) k=some b):(k=500000/\b=bNs ns)\/(k=500001/\b=bRs f ns)\/(k=2000000/\b=bFd ns):=by
 have:=QV h;simp only[FD2,QzP,QAG,QzO,or_false]at this;exact this
theorem QlI (k:Nat) (b:u4) (h:lk (FD2 f ns) k=some b):∀j∈b.ids,(lk (FD2 f ns) j).isSome=true:=λj C=>by
 rcases Qes h with⟨_,rfl⟩ |⟨_,rfl⟩ |⟨_,rfl⟩;simp[u4.ids]at C;simp[u4.ids]at C;simp[u4.ids,D.ids,D.l4]at C;rcases C with rfl |rfl<;>rfl
theorem Qh3 (k:Nat):(lk (FD2 f ns) k).isSome=(lk (FD2 f ns') k).isSome:=by
 have key:∀ns ns':List (List UInt8),(lk (FD2 f ns) k).isSome=true->(lk (FD2 f ns') k).isSome=true:=λns ns' h=>by
  obtain⟨b,hb⟩:=QzT.1 h;rcases Qes hb with⟨rfl,_⟩ |⟨rfl,_⟩ |⟨rfl,_⟩<;>rfl
 cases h:(lk (FD2 f ns) k).isSome
 cases C:(lk (FD2 f ns') k).isSome
 rfl;rw[key ns' ns C]at h;cases h;exact(key ns ns' h).symm
def plB (Ho:QzK):Bool:=Ho.all λp=>(Nat.ble 1 p.1&&Nat.ble p.1 400000)&&p.2.ids.all λj=>Nat.beq j 1000000||(lk Ho j).isSome
theorem Qdr {f:Nat} (Y:n6 P f (.agg (dYd y (.ref 1000000 0 0))::rest) (FD lkf ns) d (FD lkf ns')) (ho:o=⟨some t,.call f az,none⟩) (hds:QD ⟨fr,H⟩ az=some (.agg (dYd y (.ref 1000000 0 0))::rest)) (hH:H=Ho++FD lkf ns)
 (hfr:(fr.all λp=>p.2.ids.all λk=>!GG.contains k)=true) (hd:d.ids=[]) (hr:∀ρ:Nat->Nat,rest.map (λd=>(d.o5 ρ).can)=rest/\rest.map (D.o5 ρ)=rest) (U:(rest.all λx=>x.ids.isEmpty)=true) (hp:plB Ho=true) (hK:K ⟨(t,d)::fr,Ho++FD lkf ns'⟩):QbY P o K ⟨fr,H⟩:=by
 subst hH;have T:∀k∈(D.agg (dYd y (.ref 2000000 0 0))).ids,k=2000000:=λk hk=>by simpa [dYd,D.ids,D.l4,KS,Lj,Re]using hk
 have h2:n6 P f (.agg (dYd y (.ref 2000000 0 0))::rest) (FD2 lkf ns) d (FD2 lkf ns'):=n6.cg (rnS (a:=1000000) (b:=2000000) We We) Y (by rw[QAr,(hr _).2];rfl) (Qev _ _) (L3 hd) (Qev _ _)
 have V:∀k b,lk Ho k=some b->(1<=k/\k<=400000)/\∀j∈b.ids,j=1000000\/(lk Ho j).isSome=true:=λk b hb=>by
  have:=QzX.1 hp _ (QV hb);simp only[QzR,QzX,QAT]at this;exact⟨⟨QzN this.1.1,QzN this.1.2⟩,λj O=>(this.2 j O).imp QA6 id⟩
 have hZ:∀k b,lk (Xq GG Ho) k=some b->(1000000<=k/\¬k=2000000)/\∀j∈b.ids,(lk (Xq GG Ho) j).isSome=true\/j=2000000:=λk b hb=>by
  obtain⟨j,b0,rfl,h1,rfl⟩:=Zj hb;obtain⟨⟨q1,q2⟩,q3⟩:=V j b0 h1
  have O:ZN GG j=j+1000000:=by
   unfold ZN;rw[if_neg];rfl;intro h;simp[GG]at h;omega
  refine⟨⟨Wa,Wa⟩,λi hi=>?_⟩;rw[u4.j7]at hi;obtain⟨i0,hi0,rfl⟩:=Qz1.1 hi;rcases q3 i0 hi0 with rfl |h
  exact .inr rfl;left;rw[Yb (G:=GG) rfl,Qz5];exact h
 have C:∀ns k b,lk (Xq GG Ho) k=some b->lk (FD2 lkf ns) k=none:=λns k b hb=>by
  cases e:lk (FD2 lkf ns) k with
  |none=>rfl
  |some x=>
   have h1:=(hZ k b hb).1;rcases Qes e with⟨rfl,_⟩ |⟨rfl,_⟩ |⟨rfl,_⟩
   omega;omega;exact absurd rfl h1.2
 have h3:=n6.frame (HF:=Xq GG Ho) h2 QlI (λk b hb=>⟨(hZ k b hb).1.1,C _ k b hb,C _ k b hb,λj O=>((hZ k b hb).2 j O).imp id λe=>by subst e;exact⟨by decide,rfl⟩⟩) (λk _ h=>(Qh3 k).trans h) (λx hx k hk=>by
  rcases QzP.1 hx with rfl |hx;rw[T k hk];rfl;have:=QzX.1 U x hx
  rw[QAR.1 this]at hk;cases hk) (λk hk=>by rw[hd]at hk;cases hk)
 have M:∀ns k,lk (Xq GG Ho++FD2 lkf ns) k=lk (FD2 lkf ns++Xq GG Ho) k:=λns k=>by
  cases e:lk (Xq GG Ho) k with
  |some b=>rw[Zm e,Zv (C ns k b e),e]
  |none=>
   rw[Zv e];cases e2:lk (FD2 lkf ns) k with
   |some b=>rw[Zm e2]
   |none=>rw[Zv e2,e]
 have h4:=n6.yh (M ns) (M ns') h3;refine QfK Ql9 (Qp8 (QbZ (G:=GG) (Hr:=Ho++FD lkf ns') ho hds rfl hfr hd (by rw[QAM,QAM];rfl) (by rw[QAr,(hr _).1];rfl) (by rw[Xq,QAM];exact congrArg _ (Qeu lkf ns)) (by rw[Xq,QAM];exact congrArg _ (Qeu lkf ns')) h4 hK))
theorem n6.wh {f:Nat} (h:n6 P f ds H (.sl rows) H') (hw:wkR rows rows'=true):n6 P f ds H (.sl rows') H':=
 ⟨h.1,λg w vs a b c=>(h.2 g w vs a b c).mono λ_ _ ⟨v,g',he,C,rest⟩=>⟨v,g',he,TG (.sl rows) (.sl rows') v hw C,rest⟩⟩
theorem JE {α:Type} {f g:α->List D} (h:∀x,wkL (f x) (g x)=true):∀l:List α,wkR (l.map f) (l.map g)=true
 |[]=>rfl
 |x::l=>by simp[wkR,h x,JE h l]
theorem Xx (l:List (Cu × Cu)):(Qv l).wk (Qv l)=true:=JE (λs=>by simp[JJ,dCu,wkL,D.wk]) l
theorem Qkt (a:AskT):wkL (Qei a) (Qei a)=true:=by
 have h1:=Xx a.s.1;have h2:=Xx a.s.2;simp[Qei,wkL,D.wk,h1,h2]
theorem Qn5 (l:List (List AskT)):wkR (l.map λr=>[.x7 (r.map Qei)]) (l.map λr=>[Mc r])=true:=JE (λr=>by simp[wkL,Mc,D.wk,JE Qkt]) l
theorem Qhu {j:Nat} {r:List z1} {l:Int} {lo:Option n5} (hx:St.ev ⟨fr,H⟩ x=some (.s4 j n)) (O:St.va ⟨fr,H⟩ lo 0=some l) (hb:lk H j=some b) (M:n=b.rows.length) (he:b.l0=l0) (C:l0≠0) (G:∀r0∈b.rows,∀d∈r0,j∉d.l4) (h0:0<=l) (h1:l<=n)
 (k:run P .fixed r K ⟨(t,.s4 j (n - l.toNat))::fr.map λp=>(p.1,p.2.z2 j),(j,⟨b.rows.drop l.toNat,l0,b.et,b.pr⟩)::H.map λp=>(p.1,p.2.z2 j)⟩) (T:j<1000000:=by decide):run P .fixed (⟨some t,.slice l0 x lo none none,none⟩::r) K ⟨fr,H⟩:=
 Qt rfl rfl (.inr (.inr (.inr ⟨rfl,rfl,l,O,_,hx,b,hb,T,M,he,C,G,h0,h1,rfl,k⟩)))
theorem Qb0 {u:Nat} {e:AExit} {sz:Nat} {p d':D} {cells cs:List D} (h:lk fr t=some p) (ha:St.ad ⟨fr,H⟩ p=some cells) (G:Nat.ble sz cells.length=true) (M:cells.take sz=cs) (h2:lk fr u=some q) (hd:FN small ⟨fr,H⟩ (.agg cs)=.agg ds/\FN small ⟨fr,H⟩ q=d') (hp:(D.agg ds).pure=true/\d'.pure=true) (C:∀k b,lk H' k=some b->lk H k=some b) (he:e=.ret\/e=.normal:=by first |exact .inl rfl |exact .inr rfl):Fm [.cell t true sz,.tmp u] (.l7 [.agg ds,d']) H' e ⟨fr,H⟩:=by
 obtain⟨hd,rfl⟩:=hd;have hr:XJ small ⟨fr,H⟩ (.cell t true sz) (.agg ds):=⟨p,cells,h,HK.2 ha,by simp_all⟩;rcases he with rfl |rfl<;>exact⟨.inr (.inr (.inl ⟨_,_,_,_,rfl,rfl,hp.1,hp.2,hr,⟨_,h2,rfl⟩⟩)),C⟩
theorem n6.ai {f:Nat} {b:Bool} (h:n6 P f ds H (.l7 [.sl rows,.bool b]) H') (hw:wkR rows rows'=true):n6 P f ds H (.l7 [.sl rows',.bool b]) H':=
 ⟨h.1,λg w vs a b c=>(h.2 g w vs a b c).mono λ_ _ ⟨v,g',he,C,rest⟩=>⟨v,g',he,by
  obtain⟨us,h1,h2⟩:=(show l3 g'.K (.l7 [.sl rows,.bool _]) v from C);exact(show l3 g'.K (.l7 [.sl rows',.bool _]) v from⟨us,h1,Qg1 (by simp[D.wk,wkL,hw]) h2⟩),rest⟩⟩
abbrev FDk (f:List UInt8->List TkR) (ns:List (List UInt8)):QzK:=[(500000,bNs ns),(500001,bRs f ns),(66,bFd ns)]
abbrev FD6 (f:List UInt8->List TkR) (ns:List (List UInt8)):QzK:=[(500000,bNs ns),(500001,bRs f ns),(1000066,⟨[[.s4 500000 ns.length,.s4 500001 ns.length]],2,125,false⟩)]
theorem Qba (f:List UInt8->List TkR) (ns:List (List UInt8)):Ko (Bn 1000000 1000066) (FD f ns)=FD6 f ns:=by
 have e1:Bn 1000000 1000066 500000=500000:=by rfl
 have e2:Bn 1000000 1000066 500001=500001:=by rfl
 have e3:Bn 1000000 1000066 1000000=1000066:=by rfl
 simp only[FD,FD6,Ko,QAr,QAV,u4.o5,D.o6,e1,e2,e3,QA7,bNs,bRs,bFd];rfl
theorem Qa9 (f:List UInt8->List TkR) (ns:List (List UInt8)):Xq GG (FDk f ns)=FD6 f ns:=by
 have e1:ZN GG 500000=500000:=by rfl
 have e2:ZN GG 500001=500001:=by rfl
 have e3:ZN GG 66=1000066:=by rfl
 simp only[FDk,FD6,Xq,QAr,QAV,u4.o5,D.o6,e1,e2,e3,QA7,bNs,bRs,bFd];rfl
theorem Qet (h:lk (FD6 f ns) k=some b):(k=500000/\b=bNs ns)\/(k=500001/\b=bRs f ns)\/(k=1000066/\b=bFd ns):=by
 have:=QV h;simp only[FD6,QzP,QAG,QzO,or_false]at this;exact this
theorem QlJ (k:Nat) (b:u4) (h:lk (FD6 f ns) k=some b):∀j∈b.ids,(lk (FD6 f ns) j).isSome=true:=λj C=>by
 rcases Qet h with⟨_,rfl⟩ |⟨_,rfl⟩ |⟨_,rfl⟩;simp[u4.ids]at C;simp[u4.ids]at C;simp[u4.ids,D.ids,D.l4]at C;rcases C with rfl |rfl<;>rfl
theorem Qh4 (k:Nat):(lk (FD6 f ns) k).isSome=(lk (FD6 f ns') k).isSome:=by
 have key:∀ns ns':List (List UInt8),(lk (FD6 f ns) k).isSome=true->(lk (FD6 f ns') k).isSome=true:=λns ns' h=>by
  obtain⟨b,hb⟩:=QzT.1 h;rcases Qet hb with⟨rfl,_⟩ |⟨rfl,_⟩ |⟨rfl,_⟩<;>rfl
 cases h:(lk (FD6 f ns) k).isSome
 cases C:(lk (FD6 f ns') k).isSome
 rfl;rw[key ns' ns C]at h;cases h;exact(key ns ns' h).symm
theorem Qsm {f:Nat} {O:QzL} {H0:QzK} (hok:n6 P f (.agg (dYd y (.ref 1000000 0 0))::rest) (FD lkf ns) d (FD lkf ns')) (ho:o=⟨some t,.call f az,none⟩) (hle:St.le ⟨O,H0⟩ ⟨fr,H⟩) (hds:QD ⟨fr,H⟩ az=some (.agg (dYd y (.ref 66 0 0))::rest)) (hH:H=Ho++FDk lkf ns) (h66:(Ho.all λp=>!Nat.beq p.1 66&&p.2.ids.isEmpty)=true)
 (hfr:(fr.all λp=>p.2.ids.all λk=>!GG.contains k)=true) (hd:d.ids=[]) (hr:∀ρ:Nat->Nat,rest.map (λd=>(d.o5 ρ).can)=rest/\rest.map (D.o5 ρ)=rest) (V:(rest.all λx=>x.ids.isEmpty)=true) (hp:plB Ho=true) (hK:K ⟨(t,d)::fr,Ho++FDk lkf ns'⟩):QbY P o K ⟨O,H0⟩:=by
 subst hH;have U:∀k∈(D.agg (dYd y (.ref 1000066 0 0))).ids,k=1000066:=λk hk=>by simpa [dYd,D.ids,D.l4,KS,Lj,Re]using hk
 have h2:n6 P f (.agg (dYd y (.ref 1000066 0 0))::rest) (FD6 lkf ns) d (FD6 lkf ns'):=n6.cg (rnS (a:=1000000) (b:=1000066) We We) hok (by rw[QAr,(hr _).2];rfl) (Qba _ _) (L3 hd) (Qba _ _)
 have Y:∀k b,lk Ho k=some b->(1<=k/\k<=400000)/\∀j∈b.ids,j=1000000\/(lk Ho j).isSome=true:=λk b hb=>by
  have:=QzX.1 hp _ (QV hb);simp only[QzR,QzX,QAT]at this;exact⟨⟨QzN this.1.1,QzN this.1.2⟩,λj T=>(this.2 j T).imp QA6 id⟩
 have hZ:∀k b,lk (Xq GG Ho) k=some b->(1000000<=k/\¬k=1000066)/\∀j∈b.ids,(lk (Xq GG Ho) j).isSome=true\/j=1000066:=λk b hb=>by
  obtain⟨j,b0,rfl,h1,rfl⟩:=Zj hb;obtain⟨⟨q1,q2⟩,q3⟩:=Y j b0 h1;have h7:=QzX.1 h66 _ (QV h1);simp only[QzR,QAU,QAR]at h7;have h8:¬j=66:=λe=>by subst e;simp at h7
  have T:ZN GG j=j+1000000:=by
   unfold ZN;rw[if_neg];rfl;intro h;simp[GG]at h;omega
  refine⟨⟨Wa,Wa⟩,λi hi=>?_⟩;rw[u4.j7,h7.2]at hi;cases hi
 have C:∀ns k b,lk (Xq GG Ho) k=some b->lk (FD6 lkf ns) k=none:=λns k b hb=>by
  cases e:lk (FD6 lkf ns) k with
  |none=>rfl
  |some x=>
   have h1:=(hZ k b hb).1;rcases Qet e with⟨rfl,_⟩ |⟨rfl,_⟩ |⟨rfl,_⟩
   omega;omega;exact absurd rfl h1.2
 have h3:=n6.frame (HF:=Xq GG Ho) h2 QlJ (λk b hb=>⟨(hZ k b hb).1.1,C _ k b hb,C _ k b hb,λj T=>((hZ k b hb).2 j T).imp id λe=>by subst e;exact⟨by decide,rfl⟩⟩) (λk _ h=>(Qh4 k).trans h) (λx hx k hk=>by
  rcases QzP.1 hx with rfl |hx;rw[U k hk];rfl;have:=QzX.1 V x hx
  rw[QAR.1 this]at hk;cases hk) (λk hk=>by rw[hd]at hk;cases hk)
 have M:∀ns k,lk (Xq GG Ho++FD6 lkf ns) k=lk (FD6 lkf ns++Xq GG Ho) k:=λns k=>by
  cases e:lk (Xq GG Ho) k with
  |some b=>rw[Zm e,Zv (C ns k b e),e]
  |none=>
   rw[Zv e];cases e2:lk (FD6 lkf ns) k with
   |some b=>rw[Zm e2]
   |none=>rw[Zv e2,e]
 have h4:=n6.yh (M ns) (M ns') h3;refine QfK hle (Qp8 (QbZ (G:=GG) (Hr:=Ho++FDk lkf ns') ho hds rfl hfr hd (by rw[QAM,QAM];rfl) (by rw[QAr,(hr _).1];rfl) (by rw[Xq,QAM];exact congrArg _ (Qa9 lkf ns)) (by rw[Xq,QAM];exact congrArg _ (Qa9 lkf ns')) h4 hK))
theorem Ok.wh {f:Nat} (h:Ok P f ds (.sl rows)) (hw:wkR rows rows'=true):Ok P f ds (.sl rows'):=
 ⟨h.1,λK w vs a b=>(h.2 K w vs a b).mono λ_ _ ⟨v,K',he,C,rest⟩=>⟨v,K',he,TG (.sl rows) (.sl rows') v hw C,rest⟩⟩
theorem Qn4 (l:List (Bool × List AskT)):wkR (l.map Qou) ((l.map Prod.snd).map λr=>[Mc r])=true:=by
 rw[QA7];refine JE (λp=>?_) l;obtain⟨b,r⟩:=p;cases b<;>simp[Qou,wkL,Mc,D.wk,JE Qkt]
variable {r:List D} {f:Nat}
mutual
theorem Qvw:∀{t:Tp} {d:D},t.has d->d.wk d=true
 | .i k lo hi,d,h=>by obtain⟨n,rfl,_⟩:=h;simp[D.wk]
 | .b,d,h=>by obtain⟨n,rfl⟩:=h;simp[D.wk]
 | .s n,d,h=>by obtain⟨n,rfl,_⟩:=h;simp[D.wk]
 | .c ls,d,h=>by obtain⟨n,_,rfl⟩:=h;simp[D.wk]
 | .l row n,d,h=>by
  obtain⟨rows,hd,_,hr⟩:=h
  have key:∀rows:List (List D),(∀r∈rows,Tp.u3 row r)->wkR rows rows=true:=λrows=>by
   induction rows with
   |nil=>intro _;rfl
   |cons r rows C=>intro hr;simp only[wkR,QzR];exact⟨QcB (hr r Wc),C λx hx=>hr x (QAQ _ hx)⟩
  have:=key rows hr;rcases hd with rfl |rfl<;>simpa [D.wk]using this
 | .lm row n,d,h=>by
  obtain⟨rows,hd,_,hr⟩:=h
  have key:∀rows:List (List D),(∀r∈rows,Tp.u3 row r)->wkR rows rows=true:=λrows=>by
   induction rows with
   |nil=>intro _;rfl
   |cons r rows C=>intro hr;simp only[wkR,QzR];exact⟨QcB (hr r Wc),C λx hx=>hr x (QAQ _ hx)⟩
  have:=key rows hr;rcases hd with rfl |rfl<;>simpa [D.wk]using this
 | .px k,d,h=>by
  obtain⟨rows,hd,hx⟩:=h;unfold xB at hx;split at hx;rename_i l e;have e:=NS e;subst e;have:=Xx l;simp only[Qv,D.wk]at this;rcases hd with rfl |rfl<;>simpa [D.wk]using this
  cases hx
theorem QcB:∀{ts:List Tp} {ds:List D},Tp.u3 ts ds->wkL ds ds=true
 |[],ds,h=>by obtain rfl:ds=[]:=h;rfl
 |t::ts,ds,h=>by
  obtain⟨d,r,rfl,h1,h2⟩:=h;simp only[wkL,QzR];exact⟨Qvw h1,QcB h2⟩
end
theorem GU {row:List Tp}:∀{rows:List (List D)},(∀r∈rows,Tp.u3 row r)->wkR rows rows=true
 |[],_=>rfl
 |r::rows,hr=>by
  simp only[wkR,QzR];exact⟨QcB (hr r Wc),GU λx hx=>hr x (QAQ _ hx)⟩
theorem Sq {b:List (List D)} (h:isL d rows) (hw:wkR rows b=true):d.wk (.sl b)=true:=by
 rcases h with rfl |rfl<;>simpa [D.wk]using hw
theorem NU {row:List Tp} {n:Nat} (h:(Tp.l row n).has d):∃rows,d.wk (.sl rows)=true/\(Tp.l row n).has (.sl rows):=by
 obtain⟨rows,hd,C,hr⟩:=h;exact⟨rows,Sq hd (GU hr),rows,.inl rfl,C,hr⟩
theorem TF {α:Type} {row:List Tp} {f:α->List D} {p:α->Prop} (h:∀r,Tp.u3 row r->∃a,wkL r (f a)=true/\p a):∀rows:List (List D),(∀r∈rows,Tp.u3 row r)->∃l:List α,wkR rows (l.map f)=true/\l.length=rows.length/\∀a∈l,p a
 |[],_=>⟨[],rfl,rfl,by simp⟩
 |r::rows,hr=>by
  obtain⟨a,h1,h2⟩:=h r (hr r Wc);obtain⟨l,O,M,G⟩:=TF h rows λr C=>hr r (QAQ _ C);refine⟨a::l,by simp[wkR,h1,O],by simp[M],λx hx=>?_⟩;rcases QzP.1 hx with rfl |hx
  exact h2;exact G x hx
theorem QgV:∀{a b:List Tp} {r:List D},Tp.u3 (a++b) r->∃x y,r=x++y/\Tp.u3 a x/\Tp.u3 b y
 |[],b,r,h=>⟨[],r,rfl,rfl,h⟩
 |t::a,b,r,h=>by
  obtain⟨d,M,rfl,h1,h2⟩:=h;obtain⟨x,y,rfl,G,C⟩:=QgV h2;exact⟨d::x,y,rfl,⟨d,x,rfl,h1,G⟩,C⟩
theorem Qk1:∀{a b:List Tp} {x y:List D},Tp.u3 a x->Tp.u3 b y->Tp.u3 (a++b) (x++y)
 |[],b,x,y,h,h2=>by obtain rfl:x=[]:=h;exact h2
 |t::a,b,x,y,h,h2=>by
  obtain⟨d,C,rfl,h1,G⟩:=h;exact⟨d,C++y,rfl,h1,Qk1 G h2⟩
theorem QaC:∀{a b c d:List D},wkL a b=true->wkL c d=true->wkL (a++c) (b++d)=true
 |[],[],_,_,_,h=>h
 |x::a,y::b,c,d,h1,h2=>by
  simp only[wkL,QzR]at h1;simp only[QAJ,wkL,QzR];exact⟨h1.1,QaC h1.2 h2⟩
 |[],_::_,_,_,h,_=>by cases h
 |_::_,[],_,_,h,_=>by cases h
structure Qkz (b:Bl):Prop where
 n:b.n∈tName
 r:b.r∈tRange
 w:b.w∈NQ
theorem Qjw (h:Tp.u3 Qqi r):∃b:Bl,r=Lg b/\Qkz b:=by
 obtain⟨_,_,rfl,⟨n,C,rfl⟩,_,_,rfl,⟨g,G,rfl⟩,_,_,rfl,⟨w,hw,rfl⟩,rfl⟩:=h;exact⟨⟨n,g,w⟩,rfl,C,G,hw⟩
theorem Qk9 {b:Bl} (h:Tp.u3 Qqi (Lg b)):Qkz b:=by
 obtain⟨c,e,h⟩:=Qjw h;obtain⟨n,g,w⟩:=b;obtain⟨C,g',w'⟩:=c;simp only[Lg,QA3,D.str.injEq,and_true]at e;obtain⟨rfl,rfl,rfl⟩:=e;exact h
theorem QdV:∀{rows:List (List D)},(∀r∈rows,Tp.u3 Qqi r)->∃bs:List Bl,rows=bs.map Lg
 |[],_=>⟨[],rfl⟩
 |r::rows,h=>by
  obtain⟨b,rfl,_⟩:=Qjw (h r Wc);obtain⟨bs,rfl⟩:=QdV λr hr=>h r (QAQ _ hr);exact⟨b::bs,rfl⟩
structure Qss (x:JH):Prop where
 n:x.n∈tName
 v:bb x.v
 bl:x.bs.length<=1
 bs:∀b∈x.bs,Qkz b
 fl:x.fd.length<=4
 fd:∀r∈x.fd,Tp.u3 Mr r
theorem QqZ {a b c:Int} {p q:List UInt8} (ha:0<=a/\a<=2) (hb:0<=b/\b<=1) (G:0<=c/\c<=0) (hp:p∈Qwe) (C:q∈Qwc):bb ⟨a,b,c,p,q⟩:=by
 obtain rfl:c=0:=Wa;exact QzU.2 ⟨a,by simp;omega,QzU.2 ⟨b,by simp;omega,QzU.2 ⟨p,hp,Qz1.2 ⟨q,C,rfl⟩⟩⟩⟩
theorem Qkd (h:Tp.u3 YQ r):∃x:JH,wkL r (ZP x)=true/\Tp.u3 YQ (ZP x):=by
 obtain⟨_,_,rfl,⟨n,Y,rfl⟩,_,_,rfl,⟨a,rfl,ha⟩,_,_,rfl,⟨b,rfl,hb⟩,_,_,rfl,⟨c,rfl,hc⟩,_,_,rfl,⟨p,hp,rfl⟩,_,_,rfl,⟨q,V,rfl⟩,dn,_,rfl,C,db,_,rfl,M,df,_,rfl,G,rfl⟩:=h;obtain⟨nd,U,t1⟩:=NU C;obtain⟨br,T,t2⟩:=NU M;obtain⟨fd,O,t3⟩:=NU G
 obtain⟨bs,rfl⟩:∃bs:List Bl,br=bs.map Lg:=by
  obtain⟨rows,hd,_,hr⟩:=t2;rcases hd with h |h<;>cases h
  exact QdV hr
 refine⟨⟨n,⟨a,b,c,p,q⟩,nd,bs,fd⟩,by simp[ZP,wkL,D.wk,U,T,O],⟨_,_,rfl,⟨n,Y,rfl⟩,_,_,rfl,⟨a,rfl,ha⟩,_,_,rfl,⟨b,rfl,hb⟩,_,_,rfl,⟨c,rfl,hc⟩,_,_,rfl,⟨p,hp,rfl⟩,_,_,rfl,⟨q,V,rfl⟩,_,_,rfl,t1,_,_,rfl,t2,_,_,rfl,t3,rfl⟩⟩
theorem Yw {x:JH} (h:Tp.u3 YQ (ZP x)):Qss x:=by
 obtain⟨_,_,e0,⟨n,hn,rfl⟩,_,_,rfl,⟨a,rfl,ha⟩,_,_,rfl,⟨b,rfl,hb⟩,_,_,rfl,⟨c,rfl,hc⟩,_,_,rfl,⟨p,hp,rfl⟩,_,_,rfl,⟨q,V,rfl⟩,dn,_,rfl,Y,db,_,rfl,⟨br,U,T,O⟩,df,_,rfl,⟨fr,M,G,C⟩,rfl⟩:=h;obtain⟨n',⟨a',b',c',p',q'⟩,nd,bs,fd⟩:=x;simp only[ZP,QA3,D.str.injEq,D.int.injEq,true_and,and_true]at e0;obtain⟨rfl,rfl,rfl,rfl,rfl,rfl,rfl,rfl,rfl⟩:=e0;rcases U with h |h<;>cases h
 rcases M with h |h<;>cases h;exact⟨hn,QqZ ha hb hc hp V,by simpa using T,λb hb=>Qk9 (O _ (Qz1.2 ⟨b,hb,rfl⟩)),G,C⟩
theorem QpM (r:List D) (h:Tp.u3 Sx r):∃m:Bs,wkL r (QaZ m)=true/\Tp.u3 Sx (QaZ m)/\Tp.u3 YQ (ZP m.r):=by
 obtain⟨x,y,rfl,h1,T,_,rfl,h2,U,_,rfl,O,rfl⟩:=QgV (a:=YQ) h;obtain⟨z,M,t1⟩:=Qkd h1;obtain⟨pd,G,t2⟩:=NU h2;obtain⟨hd,C,t3⟩:=NU O;exact⟨⟨z,pd,hd⟩,QaC M (by simp[wkL,G,C]),Qk1 t1 ⟨_,_,rfl,t2,_,_,rfl,t3,rfl⟩,t1⟩
theorem Qpi (r:List D) (h:Tp.u3 Ts r):∃e:GX,wkL r (QsX e)=true/\Tp.u3 Ts (QsX e)/\Tp.u3 YQ (ZP e.r):=by
 obtain⟨x,y,rfl,h1,_,_,rfl,⟨s,rfl,G⟩,_,_,rfl,⟨t,rfl⟩,rfl⟩:=QgV (a:=YQ) h;obtain⟨z,C,t1⟩:=Qkd h1;exact⟨⟨z,s,t⟩,QaC C (by simp[wkL,D.wk]),Qk1 t1 ⟨_,_,rfl,⟨s,rfl,G⟩,_,_,rfl,⟨t,rfl⟩,rfl⟩,t1⟩
theorem QtQ (r:List D) (h:Tp.u3 J2 r):∃s:ShR,wkL r (dSh s)=true/\Tp.u3 J2 (dSh s)/\(s.n.length<=100/\s.es.length<=100)/\∀e∈s.es,Tp.u3 YQ (ZP e.r):=by
 obtain⟨_,_,rfl,⟨n,C,rfl⟩,d,_,rfl,⟨rows,hd,M,hr⟩,rfl⟩:=h;obtain⟨es,G,l1,t1⟩:=TF Qpi rows hr;refine⟨⟨n,es⟩,by simp[dSh,QhV,wkL,D.wk,Sq hd G],⟨_,_,rfl,⟨n,C,rfl⟩,_,_,rfl,⟨_,.inl rfl,by rw[QAH,l1];exact M,λr hr=>?_⟩,rfl⟩,⟨(show∀n∈Qgu,n.length<=100 by decide) n C,by rw[l1];omega⟩,λe he=>(t1 e he).2⟩
 obtain⟨e,he,rfl⟩:=Qz1.1 hr;exact(t1 e he).1
theorem Qal {d':D} (h:Ok P f ds d) (hd:d.wk d'=true):Ok P f ds d':=
 ⟨h.1,λK w vs hk C=>(h.2 K w vs hk C).mono λ_ _ ⟨v,K',he,hr,rest⟩=>⟨v,K',he,TG d d' v hd hr,rest⟩⟩
theorem Qj7 {a b a' b':D} (h:Ok P f ds (.l7 [a,b])) (ha:a.wk a'=true) (hb:b.wk b'=true):Ok P f ds (.l7 [a',b']):=by
 refine⟨h.1,λK w vs hk C=>(h.2 K w vs hk C).mono λe w' ⟨v,K',he,hr,rest⟩=>⟨v,K',he, ?_,rest⟩⟩;simp only[l3]at hr ⊢;obtain⟨us,h1,h2⟩:=hr;exact⟨us,h1,Qg1 (by simp[wkL,ha,hb]) h2⟩
structure Qhl (a:AskT):Prop where
 n:a.k.1∈tName
 f:a.k.2∈tFeat0
 s1:spB 0 a.s.1=true
 s2:spB 1 a.s.2=true
theorem Qqh (h:(Tp.px k).has d):∃l,d.wk (Qv l)=true/\spB k l=true:=by
 obtain⟨rows,hd,hx⟩:=h;unfold xB at hx;split at hx;rename_i l e;have e:=NS e;subst e;exact⟨l,Sq hd (Xx l),hx⟩;cases hx
theorem QoQ (r:List D) (h:Tp.u3 Fj r):∃a:AskT,wkL r (Qei a)=true/\Qhl a:=by
 obtain⟨_,_,rfl,⟨n,M,rfl⟩,_,_,rfl,⟨f,O,rfl⟩,d1,_,rfl,h1,d2,_,rfl,h2,rfl⟩:=h;obtain⟨a,G,s1⟩:=Qqh h1;obtain⟨b,C,s2⟩:=Qqh h2;exact⟨⟨(n,f),(a,b)⟩,by simp[Qei,wkL,D.wk,G,C],M,O,s1,s2⟩
theorem Qk5 (r:List D) (h:Tp.u3 [.lm Fj 4] r):∃l:List AskT,wkL r [Mc l]=true/\(1<=l.length/\l.length<=4)/\∀a∈l,Qhl a:=by
 obtain⟨d,_,rfl,⟨rows,hd,G,hr⟩,rfl⟩:=h;obtain⟨l,C,l1,t1⟩:=TF QoQ rows hr;exact⟨l,by simp[wkL,Mc,Sq hd C],Wa,t1⟩
theorem T2 (hd:isL d rows) (hr:∀r∈rows,Tp.u3 [.lm Fj 4] r):∃l:List (List AskT),d.wk (ZM l)=true/\l.length=rows.length/\∀r∈l,(1<=r.length/\r.length<=4)/\∀a∈r,Qhl a:=by
 obtain⟨l,C,l1,t1⟩:=TF Qk5 rows hr;exact⟨l,Sq hd C,l1,t1⟩
theorem Qkm {l:List (Cu × Cu)} (h:spB k l=true):Sm l/\JL l=true/\(k=0->(l.all λx=>YB x.1&&YB x.2)=true):=by
 simp only[spB,QzR,QAT,Nat.ble_eq,QzX]at h;obtain⟨⟨⟨h1,h2⟩,M⟩,C⟩:=h;refine⟨⟨Wa,λs G=>?_⟩,M,λe=>?_⟩;have:=h2 s G;exact⟨⟨Wa,Wa⟩,Wa,Wa⟩;subst e;rcases C with C |C
 cases C
 simpa using C
variable {c:List Int} {i:Nat} {w:Qg} {x:QZ}
structure Qsi (c:CandT):Prop where
 v:Qg7 c.v
 nl:c.ns.length<=1048576
 bl:c.bs.length<=1048576
 rows:∀r∈c.ns,r.length<=1048576/\∀x∈r,Sm x.s.1/\Sm x.s.2
 bars:∀x∈c.bs,Sm x.s.1/\Sm x.s.2
structure DO (w:Qg):Prop where
 len:w.length<=1048576
 nm:∀u∈w,u.n.length<=1048576/\u.f.length<=1048576
 cl:∀u∈w,u.cs.length<=1048576
 n8:∀u∈w,∀c∈u.cs,Qsi c
def wnR (n:Nat) (x:QZ):Bool:=decide (0<x.u)&&(decide (x.u<n)&&Kh x.s)
def Qg4 (n:Nat) (l:List QZ):Bool:=l.all (wnR n)&&(decide (0<l.length)&&decide (l.length<=24))
def cdN (n:Nat) (c:CandT):Bool:=(decide (c.ns.length<=24)&&decide (c.bs.length<=24))&&(c.ns.all (Qg4 n)&&c.bs.all (wnR n))
def cdR (n:Nat) (c:CandT):Bool:=Jy c.v.a c.v.b c.v.c c.v.p c.v.q&&cdN n c
theorem Qg3 (C:Sm x.s.1/\Sm x.s.2) (h:wnR n x=true):QdK n x:=by
 simp only[wnR,QzR,decide_eq_true_eq]at h;exact⟨⟨h.1,h.2.1⟩,C,h.2.2⟩
theorem Qg2 (C:Sm x.s.1/\Sm x.s.2):wnR n x=true↔QdK n x:=by
 refine⟨Qg3 C,λh=>?_⟩;simp only[wnR,QzR,decide_eq_true_eq];exact⟨h.u.1,h.u.2,h.may⟩
theorem Qo0 {c:CandT} (C:Qsi c) (h:cdR n c=true):Qhw n c:=by
 simp only[cdR,cdN,Qg4,QzR,decide_eq_true_eq,QzX]at h;obtain⟨h1,⟨h2,O⟩,G,M⟩:=h;exact⟨C.v,h1,h2,O,λr hr=>⟨(G r hr).2,λx hx=>Qg3 ((C.rows r hr).2 x hx) ((G r hr).1 x hx)⟩,λx hx=>Qg3 (C.bars x hx) (M x hx)⟩
theorem PU {α:Type} {l:List α} {p:α->Bool} (hi:i<l.length) (h:p l[i]=false):l.all p=false:=by
 grind
structure UOk (w:Qg) (i:Nat):Prop where
 cl:∀h:i<w.length,w[i].cs.length<=16
 r0:∀h:i<w.length,i=0->w[i].n=[]/\w[i].f=[]/\w[i].cs.length=1
 name:∀h:i<w.length,0<i->w[i].n≠[]
 nh:∀h:i<w.length,1<i->SV (w[i - 1]'Wa) w[i]=true
 n8:∀h:i<w.length,∀k (hk:k<w[i].cs.length),cdR w.length w[i].cs[k]=true/\(0<k->SC (w[i].cs[k - 1]'Wa).v w[i].cs[k].v<0)
theorem Qo1 {cs:List CandT} {k:Nat} (hk:k<cs.length) (h:∀j (C:j<cs.length),j<k->cdR w.length cs[j]=true/\(0<j->SC (cs[j - 1]'Wa).v cs[j].v<0)) (h1:cdR w.length cs[k]=true) (h2:0<k->SC (cs[k - 1]'Wa).v cs[k].v<0):
  ∀j (C:j<cs.length),j<k+1->cdR w.length cs[j]=true/\(0<j->SC (cs[j - 1]'Wa).v cs[j].v<0):=λj C G=>by
 grind
structure jc (w:Qg):Prop where
 len:1<=w.length/\w.length<=48
 u:∀i,i<w.length->UOk w i
noncomputable def mayB (w:Qg):Bool:=@decide (jc w) (Classical.propDecidable _)
theorem QpO (h:jc w):mayB w=true:=@decide_eq_true _ (Classical.propDecidable _) h
theorem Mm (h:¬jc w):mayB w=false:=@decide_eq_false _ (Classical.propDecidable _) h
theorem Qmp (h:mayB w=true):jc w:=@of_decide_eq_true _ (Classical.propDecidable _) h
theorem jc.val (hr:DO w) (h:jc w):fc w where
 len:=h.len
 cl:=λu hu=>by obtain⟨i,hi,rfl⟩:=QA9.1 hu;exact(h.u i hi).cl hi
 r0:=λhi=>(h.u 0 hi).r0 hi rfl
 name:=λi hi=>(h.u i hi).name hi
 nh:=λi hi=>(h.u i hi).nh hi
 n8:=λu hu c C=>by
  obtain⟨i,hi,rfl⟩:=QA9.1 hu;obtain⟨k,hk,rfl⟩:=QA9.1 C;exact Qo0 (hr.n8 _ hu _ C) ((h.u i hi).n8 hi k hk).1
 dh:=λu hu k hk h0=>by
  obtain⟨i,hi,rfl⟩:=QA9.1 hu;exact((h.u i hi).n8 hi k hk).2 h0
theorem fc.yg (h:fc w):WSm w where
 len:=h.len.2
 cs:=h.cl
 vs:=λu hu c C=>(h.n8 u hu c C).sm
 ns:=λu hu c C=>⟨Qz6 (h.n8 u hu c C).nl We,Qz6 (h.n8 u hu c C).bl We⟩
 nl:=λu hu c C r hr=>Qz6 ((h.n8 u hu c C).rows r hr).1.2 We
 nw:=λu hu c C r hr x hx=>(((h.n8 u hu c C).rows r hr).2 x hx).sm
 bw:=λu hu c C x hx=>((h.n8 u hu c C).bars x hx).sm
theorem fc.fh (h:fc w):WIn w:=
 ⟨λu hu c C r hr x hx=>⟨Int.le_of_lt (((h.n8 u hu c C).rows r hr).2 x hx).u.1,(((h.n8 u hu c C).rows r hr).2 x hx).u.2⟩,λu hu c C x hx=>⟨Int.le_of_lt ((h.n8 u hu c C).bars x hx).u.1,((h.n8 u hu c C).bars x hx).u.2⟩⟩
structure xb (w:Qg) (c:List Int):Prop where
 len:c.length=w.length
 bd:∀i (h:i<w.length) (h2:i<c.length), -1<=c[i]/\c[i]<w[i].cs.length
noncomputable def Qhc (w:Qg) (c:List Int):Bool:=@decide (xb w c) (Classical.propDecidable _)
theorem Qpn (h:xb w c):Qhc w c=true:=@decide_eq_true _ (Classical.propDecidable _) h
theorem Qh9 (h:¬xb w c):Qhc w c=false:=@decide_eq_false _ (Classical.propDecidable _) h
theorem Qpm (h:Qhc w c=true):xb w c:=@of_decide_eq_true _ (Classical.propDecidable _) h
theorem Qvs (h:∀j,j<i->UOk w j) (h1:UOk w i):∀j,j<i+1->UOk w j:=λj C=>by
 grind
theorem Qs4 (M:i<c.length) (hi:i<w.length) (h:∀j (h:j<c.length) (h2:j<w.length),j<i->-1<=c[j]/\c[j]<w[j].cs.length) (h0: -1<=c[i]) (h1:c[i]<w[i].cs.length):
  ∀j (h:j<c.length) (h2:j<w.length),j<i+1->-1<=c[j]/\c[j]<w[j].cs.length:=λj G C hk=>by
 grind
theorem CP {a b:Sz}:Zy [X3 a.n b.n,X3 a.f b.f]<0↔SV a b=true:=by
 grind [Zy,X3,SV]
noncomputable def mayC (w:Qg) (c:List Int):Bool:=mayB w&&Qhc w c
theorem CI (h:jc w) (h2:xb w c):mayC w c=true:=by grind [mayC,QpO,Qpn]
theorem Qmq (h:¬xb w c):mayC w c=false:=by rw[mayC,Qh9 h,Bool.and_false]
theorem RQ (h:mayC w c=true):jc w/\xb w c:=by
 (repeat clear hK K);simp_all [mayC,Qmp,Qpm]
theorem xb.ch (h:xb w c):Qjk w c:=⟨h.len,h.bd⟩
noncomputable def wrongR (w:Qg) (c:List Int):List QdA:=if mayC w c=true then Ss w c else[]
theorem Hk (h:mayC w c=true):wrongR w c=Ss w c:=if_pos h
theorem QcC (h:mayC w c=false):wrongR w c=[]:=if_neg Wb
noncomputable def holdsR (w:Qg) (c:List Int):Bool:=mayC w c&&decide ((wrongR w c).length=0)
def QaX (l:List Bool):D:=.sl (l.map λb=>[.bool b])
end M25
namespace Go.Abs
abbrev gD:D:=.ptr [.int .i64 0,.int .i64 0,.int .i64 0,.str [],.str []]
end Go.Abs
namespace M25
open Go Go.Abs M3
variable {c q:List Int} {i j k m u:Nat} {ns:List (List QZ)} {o:List Bool} {w:Qg}
def MU (w:Qg) (c:List Int) (i:Nat):List (List QZ):=match w[i]? with
 |some u=>match u.cs[(cA c i).toNat]? with
  |some y=>y.ns
  |none=>[]
 |none=>[]
inductive Ndd (w:Qg) (c:List Int):Nat->Prop
 |root:0<=cA c 0->Ndd w c 0
 |step {i:Nat} {r:List QZ} {x:QZ}:Ndd w c i->r∈MU w c i->x∈r->mtM w c x=true->Ndd w c x.u.toNat
noncomputable def nddB (w:Qg) (c:List Int) (i:Nat):Bool:=@decide (Ndd w c i) (Classical.propDecidable _)
theorem Qtl (h:Ndd w c i):nddB w c i=true:=@decide_eq_true _ (Classical.propDecidable _) h
theorem Qtk (h:¬Ndd w c i):nddB w c i=false:=@decide_eq_false _ (Classical.propDecidable _) h
noncomputable def nddL (w:Qg) (c:List Int):List Bool:=(List.range c.length).map (nddB w c)
noncomputable def neededR (w:Qg) (c:List Int):List Bool:=if mayC w c=true then nddL w c else[]
noncomputable def tidyM (w:Qg) (c:List Int):List Int:=(List.range c.length).map λi=>if nddB w c i=true then cA c i else -1
noncomputable def tidyR (w:Qg) (c:List Int):List Int:=if mayC w c=true then tidyM w c else[]
def onB (o:List Bool) (i:Nat):Bool:=o.getD i false
def od (w:Qg) (c:List Int) (o:List Bool) (i:Nat):Prop:=∀r∈MU w c i,∀x∈r,mtM w c x=true->onB o x.u.toNat=true
structure oa (w:Qg) (c:List Int) (o:List Bool):Prop where
 len:o.length=c.length
 snd:∀i,onB o i=true->Ndd w c i
 root:0<=cA c 0->onB o 0=true
theorem Qj8 (h:onB o i=true):i<o.length:=by
 unfold onB at h
 grind
theorem CN (h:i<o.length):onB o i=o[i]:=by
 unfold onB;grind
theorem oa.done (h:oa w c o) (C:∀i,onB o i=true->od w c o i):o=nddL w c:=by
 have key:∀i,Ndd w c i->onB o i=true:=λi hi=>by
  induction hi with
  |root h0=>exact h.root h0
  |step _ hr hx hm ih=>exact C _ ih _ hr _ hx hm
 apply List.ext_getElem;simp[nddL,h.len];intro i h1 h2;simp only[nddL,QBc,List.getElem_range];rw[<- CN h1];cases e:onB o i with
 |true=>exact(Qtl (h.snd i e)).symm
 |false=>grind [Qtk]
theorem Y8 (hi:i<o.length):onB (o.set i true) j=(decide (i=j)||onB o j):=by
 unfold onB
 grind
theorem oa.put (h:oa w c o) (hi:i<o.length) (G:Ndd w c i):oa w c (o.set i true) where
 len:=by rw[List.length_set,h.len]
 snd:=λj C=>by
  rw[Y8 hi,QAT,decide_eq_true_eq]at C;rcases C with rfl |C
  omega;exact h.snd j C
 root:=λh0=>by rw[Y8 hi,h.root h0,QAY]
theorem od.mono (hk:k<o.length) (h:od w c o i):od w c (o.set k true) i:=λr hr x hx hm=>by
 rw[Y8 hk,h r hr x hx hm,QAY]
def Dz (o:List Bool):Nat:=o.countP λb=>!b
theorem Qj6 (o:List Bool):Dz o<=o.length:=List.countP_le_length
theorem Qaj:∀{o:List Bool} {i:Nat} (h:i<o.length),o[i]=false->Dz (o.set i true)+1=Dz o
 |b::o,0,h,hb=>by
  grind [Dz]
 |b::o,i+1,h,hb=>by
  simp only[List.getElem_cons_succ]at hb
  grind [Dz]
theorem C6 (hi:i<w.length) (C:i<c.length) (hp:c[i].toNat<w[i].cs.length):MU w c i=w[i].cs[c[i].toNat].ns:=by
 grind [MU,QcR]
theorem Qmw (hw:WSm w) (hr:WIn w) (C:Qjk w c) (h0:0<c.length) (h:Ndd w c i):∃hi:i<c.length,0<=c[i]:=by
 induction h with
 |root h=>grind [cA]
 | @step i r x _ hr1 hx hm ih=>
  obtain⟨hi,hp⟩:=ih;have G:i<w.length:=by rw[<- C.len];omega
  have hb:=BL C hi;have M:=Qdm hb.2 hp;rw[C6 G hi M]at hr1;have hu:=hr.nr _ (QzS G) _ (QzS M) r hr1 x hx;have O:x.u.toNat<c.length:=by rw[C.len];omega
  grind [Qmt]
structure cb (w:Qg) (c:List Int) (o:List Bool) (q:List Int) (ex:Nat->Prop):Prop where
 nd:oa w c o
 kh:∀v∈q,(0<=v/\v<c.length)/\onB o v.toNat=true
 cl:∀i,onB o i=true->(i:Int)∈q\/ex i\/od w c o i
 bd:2*Dz o+q.length<=2*o.length
abbrev QS:=List Bool × List Int × Int × Bool
variable {s:QS}
structure QI (w:Qg) (c:List Int) (s:QS):Prop where
 on:s.2.2.2=true->cb w c s.1 s.2.1 (·=s.2.2.1.toNat)/\(0<=s.2.2.1/\s.2.2.1<c.length)/\onB s.1 s.2.2.1.toNat=true
 off:s.2.2.2=false->cb w c s.1 [] (λ_=>False)
def muQ (s:QS):Nat:=2*Dz s.1+s.2.1.length+(if s.2.2.2=true then 1 else 0)
def tkQ (o:List Bool) (q:List Int):QS:=(o,q.tail,q.headD 0,!q.isEmpty)
theorem cb.take (h:cb w c o q λ_=>False):QI w c (tkQ o q):=by
 cases q with
 |nil=>exact⟨λe=>(by cases e),λ_=>h⟩
 |cons v q=>
  refine⟨λ_=>⟨⟨h.nd,λx hx=>h.kh x (QAQ _ hx),λi hi=>?_,(by have:=h.bd;simp only[QAt]at this;show 2*Dz o+q.length<=2*o.length;omega)⟩,(h.kh v Wc).1,(h.kh v Wc).2⟩,λe=>(by cases e)⟩
  rcases h.cl i hi with h1 |h1 |h1;rcases QzP.1 h1 with h1 |h1;refine .inr (.inl ?_);show i=v.toNat
  omega;exact .inl h1
  grind
  exact .inr (.inr h1)
theorem Qmu (h:2*Dz o+q.length<=m):muQ (tkQ o q)<=m:=by
 cases q with
 |nil=>trivial
 |cons v q=>trivial
def QdI (w:Qg) (c:List Int) (o:List Bool) (ns:List (List QZ)) (k:Nat):Prop:=∀k' (h:k'<ns.length),k'<k->∀x∈ns[k'],mtM w c x=true->onB o x.u.toNat=true
def fb (w:Qg) (c:List Int) (o:List Bool) (r:List QZ) (j:Nat):Prop:=∀j' (h:j'<r.length),j'<j->mtM w c r[j']=true->onB o r[j'].u.toNat=true
structure ae (w:Qg) (c:List Int) (u m:Nat) (ns:List (List QZ)) (k:Nat) (o:List Bool) (q:List Int):Prop where
 inv:cb w c o q (·=u)
 on:onB o u=true
 mu:2*Dz o+q.length<=m
 rows:QdI w c o ns k
theorem ae.len {w:Qg} {c:List Int} {u m:Nat} {ns:List (List QZ)} {k:Nat} {o:List Bool} {q:List Int} (h:ae w c u m ns k o q):o.length=c.length:=h.inv.nd.len
theorem ae.start (h:QI w c s) (hb:s.2.2.2=true) (ns:List (List QZ)):ae w c s.2.2.1.toNat (2*Dz s.1+s.2.1.length) ns 0 s.1 s.2.1:=
 ⟨(h.on hb).1,(h.on hb).2.2,QAe _,λ_ _ h=>absurd h (Nat.not_lt_zero _)⟩
theorem ae.next (h:ae w c u m ns k o q) (hk:k<ns.length) (hr:fb w c o ns[k] j) (T:ns[k].length<=j):ae w c u m ns (k+1) o q:=
 ⟨h.inv,h.on,h.mu,λk' O M x hx hm=>by
  by_cases e:k'=k
  subst e;obtain⟨G,C,rfl⟩:=QA9.1 hx;exact hr G C Wa hm;exact h.rows k' O Wa x hx hm⟩
theorem fb.next {r:List QZ} (h:fb w c o r j) (O:j<r.length) (h1:mtM w c r[j]=true->onB o r[j].u.toNat=true):fb w c o r (j+1):=λC M G hm=>by
 by_cases e:C=j
 grind
 exact h C M Wa hm
theorem fb.set {w:Qg} {c:List Int} {o:List Bool} {r:List QZ} {j i:Nat} (hi:i<o.length) (h:fb w c o r j):fb w c (o.set i true) r j:=λG M C hm=>by
 rw[Y8 hi,h G M C hm,QAY]
theorem ae.put {w:Qg} {c:List Int} {u m:Nat} {ns:List (List QZ)} {k:Nat} {o:List Bool} {q:List Int} (h:ae w c u m ns k o q) (hk:k<ns.length) {x:QZ} (hx:x∈ns[k]) (M:MU w c u=ns) (hm:mtM w c x=true) (h0:0<=x.u) (h1:x.u<c.length) (V:onB o x.u.toNat=false):
  ae w c u m ns k (o.set x.u.toNat true) (q++[x.u]):=by
 have hi:x.u.toNat<o.length:=by rw[h.len];omega
 have hN:Ndd w c x.u.toNat:=.step (h.inv.nd.snd _ h.on) (M ▸ QzS hk) hx hm;have G:=Qaj hi (by grind [CN]);refine⟨⟨h.inv.nd.put hi hN,λv C=>?_,λi h2=>?_,by have:=h.inv.bd;grind⟩,by rw[Y8 hi,h.on,QAY], ?_,λk' h' T y Y O=>by rw[Y8 hi,h.rows k' h' T y Y O,QAY]⟩
 rcases QzY.1 C with C |C;obtain⟨a,b⟩:=h.inv.kh v C
 (repeat clear hK K);simp_all [Y8]
 grind [Y8]
 rw[Y8 hi,QAT,decide_eq_true_eq]at h2
 by_cases e:x.u.toNat=i
 grind
 rcases h.inv.cl i (h2.resolve_left e)with U |U |U
 grind
 omega;exact .inr (.inr (U.mono hi));have:=Qaj hi (by grind [CN]);have h4:=h.mu
 grind
theorem ae.stop (h:ae w c u m ns k o q) (hk:ns.length<=k) (C:MU w c u=ns):cb w c o q λ_=>False:=
 ⟨h.inv.nd,h.inv.kh,λi hi=>by
  rcases h.inv.cl i hi with h1 |h1 |h1
  grind
  have e:i=u:=h1;subst e;refine .inr (.inr λr hr x hx hm=>?_);rw[C]at hr;obtain⟨k',G,rfl⟩:=QA9.1 hr;exact h.rows k' G Wa x hx hm
  grind,h.inv.bd⟩
theorem QI.stop (h:QI w c s) (hb:s.2.2.2=false):s.1=nddL w c:=
 (h.off hb).nd.done λi hi=>by
  rcases(h.off hb).cl i hi with h1 |h1 |h1
  grind
  grind
  omega
theorem LR (n i:Nat):onB (List.replicate n false) i=false:=by
 unfold onB
 grind
theorem cb.none (h0:¬0<=cA c 0):cb w c (List.replicate c.length false) [] λ_=>False:=
 ⟨⟨by simp,λi hi=>(by grind [LR]),λh=>absurd h h0⟩,λv C=>Wb,λi hi=>(by grind [LR]),by grind [Qj6]⟩
theorem cb.first (M:0<c.length) (h0:0<=cA c 0):cb w c ((List.replicate c.length false).set 0 true) [0] λ_=>False:=by
 have C:0<(List.replicate c.length false).length:=by grind
 refine⟨⟨by simp,λi hi=>?_,λ_=>by grind [Y8]⟩,λv G=>?_,λi hi=>.inl ?_, ?_⟩;rw[Y8 C,LR,Bool.or_false,decide_eq_true_eq]at hi;subst hi;exact .root h0
 grind [Y8]
 (repeat clear hK K);simp_all [Y8,LR]
 have h1:=Qaj C Wc;have h2:=Qj6 (List.replicate c.length false)
 grind
structure SI (w:Qg) (c:List Int) (o0:List Bool) (i:Nat) (o:List Bool):Prop where
 nd:oa w c o
 mono:∀j,onB o0 j=true->onB o j=true
 chg:o=o0\/Dz o+1<=Dz o0
 prev:∀j,j<i->onB o0 j=true->od w c o j
structure SR (w:Qg) (c:List Int) (o0:List Bool) (i:Nat) (ns:List (List QZ)) (a:Nat) (o:List Bool):Prop where
 si:SI w c o0 i o
 on:onB o i=true
 rows:QdI w c o ns a
def QkA (w:Qg) (c:List Int) (o:List Bool):Prop:=∀i,onB o i=true->od w c o i
structure SK (w:Qg) (c:List Int) (k:Nat) (o:List Bool):Prop where
 nd:oa w c o
 cl:QkA w c o\/k+1+Dz o<=o.length
theorem NR (w:Qg) (c:List Int):(tidyM w c).length=c.length:=by simp[tidyM]
noncomputable def tidyUp (w:Qg) (c:List Int) (i:Nat):List Int:=(tidyM w c).take i++List.replicate (c.length - i) 0
noncomputable def tdAt (w:Qg) (c:List Int) (i:Nat):Int:=if nddB w c i=true then cA c i else -1
theorem TD (hi:i<c.length):(tidyUp w c i).set i (tdAt w c i)=tidyUp w c (i+1):=by
 apply List.ext_getElem
 grind [tidyUp,NR]
 intro n h1 h2;simp only[tidyUp,List.length_set,QAs,QAk,NR,List.length_replicate]at h1 h2;rw[List.getElem_set]
 grind [tidyUp,tidyM,tdAt]
theorem Qdl (hi:c.length<=i):tidyUp w c i=tidyM w c:=by
 (repeat clear hK K);simp_all [tidyUp,Qz3,NR]
theorem GS (hi:i<=c.length):(tidyUp w c i).length=c.length:=by grind [tidyUp,NR]
theorem QbR (w:Qg) (c:List Int):(nddL w c).length=c.length:=by simp[nddL]
theorem Qai (hi:i<(nddL w c).length):(nddL w c)[i]=nddB w c i:=by simp[nddL]
theorem Qfw (h:mayC w c=true):neededR w c=nddL w c:=if_pos h
theorem QgD (h:mayC w c=true):tidyR w c=tidyM w c:=if_pos h
theorem QnT (h:mayC w c=false):tidyR w c=[]:=if_neg Wb
def wAwk:Qg:=[⟨[],[],[⟨⟨0,0,0,[],[]⟩,0,[[⟨1,([(ZS,XP)],[(ZS,XP)])⟩]],[]⟩]⟩,⟨[98],[],[⟨⟨1,0,0,[],[]⟩,0,[],[]⟩]⟩,⟨[99],[],[⟨⟨0,0,0,[],[]⟩,0,[],[]⟩]⟩]
theorem T4:DO wAwk:=by
 have M:Sm [(ZS,XP)]:=⟨by decide,λs C=>by simp only[QzW]at C;subst C;trivial⟩
 refine⟨by decide,λu hu=>?_,λu hu=>?_,λu hu c G=>?_⟩<;>simp only[wAwk,QzP,QzO,or_false]at hu<;>rcases hu with rfl |rfl |rfl
 simp;simp;simp;simp;simp;simp
 all_goals
  simp only[QzW]at G;subst G;refine⟨⟨by decide,by decide⟩,by decide,by decide,λr hr=>?_,λx hx=>by grind⟩
 all_goals grind
theorem BE:jc wAwk:=⟨by decide,λi hi=>by
 have C:i=0\/i=1\/i=2:=by
  have:wAwk.length=3:=rfl;omega
 have one:∀{cs:List CandT},cs.length=1->(∀h:0<cs.length,cdR 3 cs[0]=true)->∀k (hk:k<cs.length),cdR 3 cs[k]=true/\(0<k->SC (cs[k - 1]'Wa).v cs[k].v<0):=λh1 h2 k hk=>by
  grind
 have k0:cdR 3 ⟨⟨0,0,0,[],[]⟩,0,[[⟨1,([(ZS,XP)],[(ZS,XP)])⟩]],[]⟩=true:=by rfl
 have k1:cdR 3 ⟨⟨1,0,0,[],[]⟩,0,[],[]⟩=true:=by rfl
 have k2:cdR 3 ⟨⟨0,0,0,[],[]⟩,0,[],[]⟩=true:=by rfl
 have G:SV ⟨[98],[],[⟨⟨1,0,0,[],[]⟩,0,[],[]⟩]⟩ ⟨[99],[],[⟨⟨0,0,0,[],[]⟩,0,[],[]⟩]⟩=true:=by rfl
 rcases C with rfl |rfl |rfl;exact⟨λ_=>(by decide:(1:Nat)<=16),λ_ _=>⟨rfl,rfl,rfl⟩,λ_ h=>absurd h We,λ_ h=>absurd h We,λ_=>one rfl λ_=>k0⟩;exact⟨λ_=>(by decide:(1:Nat)<=16),λ_ h=>absurd h We,λ_ _=>(by decide:([98]:List UInt8)≠[]),λ_ h=>absurd h We,λ_=>one rfl λ_=>k1⟩;exact⟨λ_=>(by decide:(1:Nat)<=16),λ_ h=>absurd h We,λ_ _=>(by decide:([99]:List UInt8)≠[]),λ_ _=>G,λ_=>one rfl λ_=>k2⟩⟩
theorem Qs1 {a b d:Int} (h0:(-1<=a/\a<1)/\(-1<=b/\b<1)/\(-1<=d/\d<1)):xb wAwk [a,b,d]:=⟨rfl,λi hi h2=>by
 have C:i=0\/i=1\/i=2:=by
  grind
 rcases C with rfl |rfl |rfl;exact h0.1;exact h0.2.1;exact h0.2.2⟩
theorem QdT:wrongR wAwk [0, -1, -1]=[⟨2,0,0⟩]:=by
 rw[Hk (CI BE (Qs1 We))];rfl
theorem QdS:holdsR wAwk [0,0, -1]=true:=by
 have h:=CI BE (Qs1 (a:=0) (b:=0) (d:=-1) We);rw[holdsR,h,Hk h];rfl
theorem QoR:mayC wAwk [0,1, -1]=false:=Qmq λh=>by
 have:=(h.bd 1 We We).2;trivial
theorem QhC:tidyR wAwk [0,0,0]=[0,0, -1]:=by
 have h:=CI BE (Qs1 (a:=0) (b:=0) (d:=0) We);have hx:mtM wAwk [0,0,0] ⟨1,([(ZS,XP)],[(ZS,XP)])⟩=true:=by rfl
 have G:Ndd wAwk [0,0,0] 0:=.root We;have O:Ndd wAwk [0,0,0] 1:=.step (x:=⟨1,([(ZS,XP)],[(ZS,XP)])⟩) (r:=[⟨1,([(ZS,XP)],[(ZS,XP)])⟩]) G (by simp[MU,wAwk,cA]) Wc hx
 have e:[true,true,false]=nddL wAwk [0,0,0]:=by
  refine oa.done ⟨rfl,λi hi=>?_,λ_=>rfl⟩ λi hi=>?_;have M:=Qj8 hi;have:i=0\/i=1\/i=2:=by grind
  rcases this with rfl |rfl |rfl;omega;omega;trivial;have M:=Qj8 hi
  have:i=0\/i=1\/i=2:=by grind
  rcases this with rfl |rfl |rfl;intro r hr x C _;have:MU wAwk [0,0,0] 0=[[⟨1,([(ZS,XP)],[(ZS,XP)])⟩]]:=rfl
  rw[this]at hr;simp only[QzW]at hr;subst hr;simp only[QzW]at C;subst C;rfl;intro r hr;trivial;trivial
 have at':∀i (hi:i<3),nddB wAwk [0,0,0] i=[true,true,false][i]:=λi hi=>by
  grind [Qai]
 rw[QgD h,tidyM];simp only[QAt,List.length_nil,List.range_succ,List.range_zero,QA2,QAM,QAr,QAV];rw[at' 0 We,at' 1 We,at' 2 We];rfl
theorem Qdq {w:Qg} (hw:DO w) {c:List Int}:(wrongR w c).length<=1048576:=by
 cases h:mayC w c with
 |false=>rw[QcC h];simp
 |true=>
  obtain⟨h1,h2⟩:=RQ h;have C:=h1.val hw;have:=Hl C.yg c c.length;rw[Hk h,Ss];have:=h2.len;have:=C.len;omega
section
variable {w:Qg} {al c:List Int} {order:List (List Int)} {a b:Int}
end
section
variable {w:Qg} {al c:List Int} {order:List (List Int)}
end
section
variable {w:Qg} {al c:List Int}
end
def hsL (w:Qg) (x:QZ):List Bool:=match w[x.u.toNat]? with
 |some y=>y.cs.map λk=>Qhe x.s k.v
 |none=>[]
def mtP (w:Qg) (c:List Int) (x:QZ):Bool:=decide (0<=cA c x.u)&&(hsL w x).getD (cA c x.u).toNat false
def mtL (w:Qg) (c:List Int) (l:Nat) (x:QZ):Bool:=decide (x.u<=(l:Int))&&mtP w c x
def Qw4 (u:Int) (r:List QZ):Int:=r.foldl (λa x=>max a x.u) u
def QxE (w:Qg) (c:List Int) (l u:Nat) (r:List QZ):Bool:=decide ((l:Int)<Qw4 u r)||r.any (mtL w c l)
def QtR (w:Qg) (c:List Int) (l u:Nat):Bool:=match w[u]? with
 |some y=>(match y.cs[(cA c u).toNat]? with
  |some k=>k.ns.all (QxE w c l u)&&!(k.bs.any (mtL w c l))
  |none=>false)
 |none=>false
def Qs7 (w:Qg) (c:List Int) (l u:Nat):Bool:=decide (cA c u<0)||QtR w c l u
def Qpy (w:Qg) (c:List Int) (l:Nat):Bool:=(List.range (l+1)).all (Qs7 w c l)
structure Qoa (σ:Type) where
 st:σ->List Int->σ × Bool
 ok:σ->Nat->Prop
 step:∀{s c k},ok s (k+1)->ok (st s c).1 k
 mono:∀{s j k},ok s k->j<=k->ok s j
section
variable {w:Qg} {c c':List Int} {l:Nat}
end
end M25
namespace M25
open Go Go.Abs M3
structure PreW (w:Qg) (q:List Int):Prop where
 len:q.length<=w.length
 bd:∀u (h:u<q.length) (h2:u<w.length), -1<=q[u]/\q[u]<w[u].cs.length
 inv:q≠[]->Qpy w q (q.length - 1)=true/\0<=cA q 0
section
variable {w:Qg} (hw:WSm w) (hr:WIn w) (h0:0<w.length)
include hw hr h0
end
end M25
namespace M25
open Go Go.Abs M3
def dWk (w:Qg) (x:QZ):List D:=[.int .i64 x.u,QaX (hsL w x)]
def QvR (w:Qg) (r:List QZ):D:=.sl (r.map (dWk w))
def QsY (w:Qg) (k:CandT):List D:=[.sl (k.ns.map λr=>[QvR w r]),QvR w k.bs]
def QlA (w:Qg) (u:Sz):D:=.sl (u.cs.map (QsY w))
def Qpb (w:Qg):D:=.sl (w.map λu=>[QlA w u])
section
variable {w:Qg} {x:QZ}
end
end M25
namespace M25
open Go Go.Abs M3
section
variable {w:Qg} {c:List Int} {l:Nat} {x:QZ}
section
variable {u:Nat} (hu:u<w.length) (huc:u<c.length) (hk:c[u].toNat<w[u].cs.length)
include hu huc hk
end
section
variable {u:Nat} (hu:u<w.length)
include hu
end
structure BQ (w:Qg) (c:List Int) (o:List Bool) (q:List Int) (i:Nat):Prop where
 nd:oa w c o
 cnt:q.length+Dz o=c.length
 on:∀j (h:j<q.length),0<=q[j]/\onB o q[j].toNat=true
 all:∀u:Nat,onB o u=true->∃j,∃h:j<q.length,q[j]=(u:Int)
 cl:∀j (h:j<q.length),j<i->od w c o q[j].toNat
structure BQ1 (w:Qg) (c:List Int) (o:List Bool) (q:List Int) (i:Nat) (u:Int) (ns:List (List QZ)) (k:Nat):Prop where
 b:BQ w c o q i
 hi:i<q.length
 cur:q[i]=u
 rows:QdI w c o ns k
end
end M25
namespace Go.Abs
open Go
section
variable {P:Program} {fr:QzL} {H:QzK} {r:List z1} {K:St->Prop} {t t0:Nat} {rows:List (List D)}
end
variable {d:D}
theorem QeC {g g':Gh} {v:Value} (h:d.l9=true) (C:z3 g d v):z3 g' d v:=by
 cases d<;>simp only[D.l9,QzV]at h<;>exact C
theorem QeD (h:d.l9=true):d.l4=[]:=by
 cases d<;>simp only[D.l9,QzV]at h<;>rfl
theorem S2 {g g':Gh} {c:Array Value}:∀{off:Nat} {ds:List D},(∀d∈ds,d.l9=true)->z4 g c off ds->z4 g' c off ds
 |_,[],_,_=>by trivial
 |off,d::ds,hf,h=>by
  simp only[z4]at h ⊢;obtain⟨⟨h1,x,h2,G⟩,C⟩:=h;exact⟨⟨h1,x,h2,QeC (hf d Wc) G⟩,S2 (λy M=>hf y Wb) C⟩
theorem C9 {g g':Gh} {c:Array Value}:∀{off:Nat} {rs:List (List D)},(∀r∈rs,∀d∈r,d.l9=true)->l5 g c off rs->l5 g' c off rs
 |_,[],_,_=>by trivial
 |off,r::rs,hf,h=>by
  simp only[l5]at h ⊢;exact⟨S2 (hf r Wc) h.1,C9 (λy C=>hf y Wb) h.2⟩
theorem n6.ah {P:Program} {f:Nat} {ds ds':List D} {H:QzK} {k m:Nat} {b:u4} (n:Nat) (h:n6 P f ds' [] (.s4 k m) [(k,b)]) (hds:ds.map (D.sc H n)=ds') (hp:ds.all D.vd=true) (hf:∀r∈b.rows,∀d∈r,d.l9=true) (hk:k<1000000) (hn:lk H k=none):n6 P f ds H (.s4 k m) ((k,b)::H):=by
 refine⟨h.1,λg w vs C O hids=>?_⟩;subst hds
 have hA:∀{ds:List D} {vs:List Value},j5 (Gu w) ds vs->o8 (⟨Gu w,g.β,g.σ⟩:Gh) ds vs:=by
  intro ds
  induction ds with
  |nil=>intro vs hh;cases vs with
   |nil=>trivial
   |cons v vs=>trivial
  |cons d ds ih=>intro vs hh;cases vs with
   |nil=>trivial
   |cons v vs=>
    simp only[j5]at hh;exact⟨l6.of hh.1,ih hh.2⟩
 have hids':∀x∈ds.map (D.sc H n),∀j∈x.ids,(lk ([]:QzK) j).isSome=true:=by
  intro x hx j G;exfalso
  have key:∀{ds:List D} {vs:List Value},j5 (Gu w) ds vs->∀x∈ds,x.ids=[]:=by
   intro ds
   induction ds with
   |nil=>simp
   |cons d ds ih=>
    intro vs hh x hx;cases vs with
    |nil=>trivial
    |cons v vs=>
     simp only[j5]at hh;rcases QzP.1 hx with rfl |hx
     grind [Xr]
     grind
  rw[key (Pc C n O hp) x hx]at G
  grind
 refine(h.2 ⟨Gu w,g.β,g.σ⟩ w vs ⟨(λ_ _ h=>by cases h),(λ_ _ h=>by cases h),(λ_ _ _ _ _ _ _ h=>by cases h),PG w⟩ (hA (Pc C n O hp)) hids').mono λe w' ⟨v,g',he,hv,hr',hsz,hfr,hfx,hkeep,hnew⟩=>?_;have hno:∀B,¬NW (⟨Gu w,g.β,g.σ⟩:Gh) [] B:=λB ⟨_,_,h,_⟩=>by cases h
 have hold:∀B,B<w.heap.size->w'.heap[B]?=w.heap[B]?:=λB hB=>(hfr B hB (hno B)).1
 have M:∀B e,g'.β k=some (B,e)->w.heap.size<=B:=λB e hβ=>by
  rcases hnew k B e hk (by rw[Qe,if_pos rfl];rfl) hβ with h |⟨_,_,_,h,_⟩
  omega;trivial
 obtain⟨T,guK,guβ,guσ⟩:∃T:Gh,(∀B,T.K B=if B<w.heap.size then g.K B else g'.K B)/\(∀j,T.β j=if j=k then g'.β k else g.β j)/\∀j,T.σ j=if j=k then g'.σ k else g.σ j:=
  ⟨⟨λB=>if B<w.heap.size then g.K B else g'.K B,λj=>if j=k then g'.β k else g.β j,λj=>if j=k then g'.σ k else g.σ j⟩,λ_=>rfl,λ_=>rfl,λ_=>rfl⟩
 have hkk:T.β k=g'.β k/\T.σ k=g'.σ k:=by grind
 have Y:∀j,j≠k->T.β j=g.β j/\T.σ j=g.σ j:=λj G=>by grind
 have V:∀j x,lk H j=some x->j≠k:=λj x h e=>by grind
 have hb0:=hr'.bx k b (by rw[Qe,if_pos rfl]);refine⟨v,T,he, ?_,⟨λj x G i hi=>?_,λj x G=>?_,λj j' x x' B e e' h1 h2 h3 h4=>?_,λB o y hy=>?_⟩,hsz,λB hB _=>⟨hold B hB,by grind⟩,hfx,λj G hs=>?_,λj B e G hs hβ=>?_⟩;have hv':z3 g' (.s4 k m) v:=hv;show z3 T (.s4 k m) v
 grind [z3,Gh.gone]
 rw[Qe]at G;split at G
 grind [u4.ids,QeD]
 rw[Qe];split;rfl;exact C.u9 j x G i hi;rw[Qe]at G;split at G;rename_i e0;cases G;subst e0;obtain⟨b1,b2,b3⟩:=hb0;rcases b3 with⟨x1,⟨y1,y2⟩ |⟨i1,i2,i3,sv,p,B,i4,i5,i6,i7,i8,i9⟩⟩ |⟨h4,B,c,h5,h6,h7,h8,h9,h10⟩
 exact⟨b1,b2,.inl ⟨x1,.inl ⟨by grind,by grind⟩⟩⟩;have:=M B _ i5;exact⟨b1,b2,.inl ⟨x1,.inr ⟨i1,i2,i3,sv,p,B,i4,by grind,i6,λo=>by simp_all [if_neg],i8,by grind⟩⟩⟩;have:=M B _ h5;exact⟨b1,b2,.inr ⟨h4,B,c,by grind,h6,by grind,by grind [C9],λo=>by simp_all [if_neg],h10⟩⟩;have U:=V j x G;refine(C.bx j x G).move (Y j U) (λr hr d hd i hi=>?_) (λB o y hy=>?_) λB e hβ=>⟨hold B ((C.bx j x G).gb hβ).1,λo ho=>by rw[guK,if_pos ((C.bx j x G).gb hβ).1];omega,λ_=>.inl (QzZ _)⟩
 have:=C.l4 G r hr d hd i hi
 grind
 rw[guK,if_pos (C.kr.lt hy)];omega
 have sep:∀j x B e e',lk H j=some x->g'.β k=some (B,e)->g.β j=some (B,e')->False:=λj x B e e' h1 h2 h3=>by
  have:=M B e h2;have:=((C.bx j x h1).gb h3).1;omega
 rw[Qe]at h1 h2;split at h1
 grind
 have G:=V j x h1;rw[(Y j G).1]at h3;split at h2
 grind
 have:=V j' x' h2;rw[(Y j' this).1]at h4;exact C.inj j j' x x' B e e' h1 h2 h3 h4;rw[guK]at hy;split at hy;rename_i hB;obtain⟨c,e,f,q1,q2⟩:=C.kr B o y hy
 grind
 exact hr'.kr B o y hy;have U:j≠k:=Wa
 (repeat clear hK K);simp_all [Qe,Ne.symm]
 by_cases U:j=k
 grind
 rw[Qe,if_neg (Ne.symm U)]at hs
 grind
theorem QxD {a b:Nat} (ha:a<1000000) (hb:b<1000000):Rn (Bn a b) (Bn a b) where
 inv k:=by grind [Bn]
 small k:=by grind [Bn]
end Go.Abs
namespace M25
open Go Go.Abs M3
section
variable {σ:Type} {p:Qoa σ} {F:Nat->List (List Int)} {s s':σ} {j n:Nat}
end
section
variable {w:Qg} {c q:List Int} {l:Nat} {x:Int}
end
end M25
namespace Go.Abs
open Go
section
variable {P:Program} {nt:Nat} {E:Env}
end
end Go.Abs
namespace M25
open Go Go.Abs M3
section
variable {w:Qg} {c:List Int}
end
end M25
