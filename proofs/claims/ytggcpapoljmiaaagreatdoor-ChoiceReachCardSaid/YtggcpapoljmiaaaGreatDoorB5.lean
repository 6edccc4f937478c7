/- Part 5 of the means of the proof: a verified abstract evaluator and contracts of functions. It states nothing of the claim by itself. -/
import Derived.Test.YtggcpapoljmiaaaGreatDoorB4
import Derived.KernelRfl
import Derived.Test.YtggcpapoljmiaaaGreatDoorProg
set_option maxRecDepth 4000
set_option maxHeartbeats 4000000
set_option linter.unusedSimpArgs false
set_option linter.unusedVariables false
set_option linter.unusedSectionVars false
namespace Go.Abs
open Go
variable {csG:List Cn} {s:St} {ν:List Int}
abbrev Out:=List (AExit × AS)
def TU (ν:List Int) (x:Nat × Int):Int:=ν.getD x.1 0+x.2
theorem Kv {x:Nat × Int} (h:x.1<ν.length):x6 ν x.1 x.2 (TU ν x):=⟨ν[x.1],QA7 h,by simp[TU,h]⟩
def Qks (J:AS) (n0:Nat) (hd:Hd) (p:AExit × AS):Option Out:=
 match p.1 with
 | .normal=>(match Pd p.2 J n0 hd.k hd.cs with
  |some (σ,a2)=>if(XV a2.cs (So n0 σ hd.up.1 hd.up.2).1 (So n0 σ hd.up.1 hd.up.2).2 hd.up.1 hd.up.2=true/\XV a2.cs hd.dn.1 (hd.dn.2+1) (So n0 σ hd.dn.1 hd.dn.2).1 (So n0 σ hd.dn.1 hd.dn.2).2=true)\/(XV a2.cs (So n0 σ hd.up.1 hd.up.2).1 ((So n0 σ hd.up.1 hd.up.2).2+1) hd.up.1 hd.up.2=true/\XV a2.cs hd.dn.1 hd.dn.2 (So n0 σ hd.dn.1 hd.dn.2).1 (So n0 σ hd.dn.1 hd.dn.2).2=true)then some []else none
  |none=>none)
 |e=>some [(e,p.2)]
def ghA (J:AS) (wS m:Nat) (B:Int) (csG:List Cn):AS:=⟨J.fr,J.H,csG++(wS,J.nx,0)::(J.nx,wS,m*B)::J.cs,J.nx+1⟩
theorem QpL {J:AS} {C m:Nat} {B v w:Int} (h:J.ok ν s) (hw:ν[C]?=some w) (h0:0<=v) (O:v<=B) (M:w7 (ν++[w+(m:Int)*v]) csG):(ghA J C m B csG).ok (ν++[w+(m:Int)*v]) s:=by
 have G:=h.new (w+m*v);have z:=XG [w+m*v] hw;have p1:0<=m*v:=Int.mul_nonneg Wa h0;have p2:m*v<=m*B:=Int.mul_le_mul_of_nonneg_left O Wa;refine h.ext _ rfl (w7.app M λc hm=>?_);rcases QAm.1 hm with rfl |hm
 exact⟨w,_,z,G,by grind⟩;rcases QAm.1 hm with rfl |hm
 exact⟨_,w,G,z,by grind⟩;exact h.cs.ext _ c hm
def ghC (a2:AS) (n0:Nat) (σ:Sg) (y0 gS iS m:Nat) (csG:List Cn):Bool:=
 match σ[iS - n0]? with
 |some p=>Nat.beq p.1 y0&&csG.all (Qdp a2 n0 (σ++[(gS,m*p.2)]))
 |none=>false
theorem Qj5 {ν0 f μ:List Int} {U:AS} {σ:Sg} {T O C m:Nat} {u w0:Int} (h:U.ok (ν0++f) s) (hm:Sg.o7 (ν0++f) μ σ) (he:ghC U ν0.length σ T O C m csG=true) (V:(ν0++f)[T]?=some u) (hg:(ν0++f)[O]?=some (w0+(m:Int)*u)) (hi:ν0.length<=C):∃v,(ν0++μ)[C]?=some v/\w7 (ν0++μ++[w0+(m:Int)*v]) csG:=by
 unfold ghC at he;split at he;rename_i p e1;simp only[QAo]at he;obtain⟨e2,e3⟩:=he;have e2:=QBC e2;have hl:=YJ hm;have i1:C - ν0.length<μ.length:=by grind
 have g1:=QA7 i1
 have g2:x6 (ν0++f) p.1 p.2 (μ[C - ν0.length]):=by
  obtain⟨w,G,M⟩:=GD hm _ _ g1
  have:σ.at (C - ν0.length)=p:=by
   show σ.getD (C - ν0.length) (0,0)=p
   grind
  rw[this]at G M;exact⟨w,G,M⟩
 obtain⟨w,G,M⟩:=g2;rw[e2,V]at G;refine⟨μ[C - ν0.length],by grind, ?_⟩;have Y:Sg.o7 (ν0++f) (μ++[w0+m*μ[C - ν0.length]]) (σ++[(O,m*p.2)]):=Hl hm ⟨_,[],rfl,⟨_,hg,by grind⟩,rfl⟩;rw[QA9];exactλc hc=>KW h Y (QAu.1 e3 c hc)
 grind
def ghB (a:AS) (hd:Hd) (wS iS m:Nat) (csG:List Cn):Option AS:=
 match Pd a (Pv a hd) a.nx hd.k hd.cs with
 |some (σ,a2)=>(match lbX (Pv a hd).cs iS,ubX (Pv a hd).cs iS with
  |some L,some B=>if(decide (0<=L)=true/\Nat.ble a.nx iS=true/\Nat.ble (iS+1) (a.nx+hd.k)=true)/\ghC a2 a.nx σ 0 wS iS m csG=true/\Nat.ble (wS+1) a.nx=true/\Nat.ble (hd.up.1+1) (a.nx+hd.k)=true/\Nat.ble (hd.dn.1+1) (a.nx+hd.k)=true/\XV (Pv a hd).cs hd.dn.1 hd.dn.2 hd.up.1 hd.up.2=true then some (ghA (Pv a hd) wS m B csG)else none
  |_,_=>none)
 |none=>none
def Qkt (J:AS) (n0:Nat) (hd:Hd) (iS m:Nat) (csG:List Cn) (p:AExit × AS):Option Out:=
 match p.1 with
 | .normal=>(match Pd p.2 J n0 hd.k hd.cs with
  |some (σ,a2)=>if((XV a2.cs (So n0 σ hd.up.1 hd.up.2).1 (So n0 σ hd.up.1 hd.up.2).2 hd.up.1 hd.up.2=true/\XV a2.cs hd.dn.1 (hd.dn.2+1) (So n0 σ hd.dn.1 hd.dn.2).1 (So n0 σ hd.dn.1 hd.dn.2).2=true)\/(XV a2.cs (So n0 σ hd.up.1 hd.up.2).1 ((So n0 σ hd.up.1 hd.up.2).2+1) hd.up.1 hd.up.2=true/\XV a2.cs hd.dn.1 hd.dn.2 (So n0 σ hd.dn.1 hd.dn.2).1 (So n0 σ hd.dn.1 hd.dn.2).2=true))/\ghC a2 n0 σ iS (n0+hd.k) iS m csG=true then some []else none
  |none=>none)
 |e=>some [(e,p.2)]
def QtP (id:Nat) (p:AExit × AS):AExit × AS:=
 match p.1 with
 | .exit i=>if i=id then(.normal,p.2)else p
 |_=>p
def C5:Out->List AS
 |[]=>[]
 |(e,a)::r=>match e with
  | .normal=>a::C5 r
  |_=>C5 r
def S0:Out->Out
 |[]=>[]
 |(e,a)::r=>match e with
  | .normal=>S0 r
  |e=>(e,a)::S0 r
theorem NN {a:AS}:∀{o:Out},(AExit.normal,a)∈o->a∈C5 o
 |(e,b)::r,h=>by
  rcases QAm.1 h with h |h
  grind [C5]
  have:=NN h;unfold C5
  grind
theorem Nx {e:AExit} {a:AS} (C:e≠.normal):∀{o:Out},(e,a)∈o->(e,a)∈S0 o
 |(e2,b)::r,h=>by
  rcases QAm.1 h with h |h;cases h
  cases e<;>first |grind |simp[S0]
  have:=Nx C h;unfold S0
  grind
def Qsy (body:AS->Option Out) (n0:Nat) (c0:List Cn):Nat->AS->Option Out
 |0,_=>none
 |n+1,a=>(match body a with
  |some o=>(match C5 o with
   |[]=>some (S0 o)
   |ns=>(match jnA n0 c0 ns with
    |some (fr,H,cs,k)=>(match Qsy body n0 c0 n ⟨fr,H,cs++c0,n0+k⟩with
     |some o2=>some (S0 o++o2)
     |none=>none)
    |none=>none))
  |none=>none)
def Qts (nj:List Nat):y5->Bool
 | .region _ _=>false
 | .ba _=>false
 | .skip=>false
 | .block id _=>!nj.contains id
 |_=>!nj.contains 999
def Qj2 (tb:Tb) (f:Nat):Bool:=(tb.f f).all λc=>Qrv c.rv
def sqJ (nj:List Nat) (x:y5) (n0:Nat) (c0:List Cn) (l:List AS):Option (List (Nat × Vl) × List (Nat × Bx) × List Cn × Nat):=
 match Qts nj x,l with
 |true,_::_::_=>jnA n0 c0 l
 |_,_=>none
structure An where
 hd:Nat->Option (AS->Hd)
 un:Nat
 nj:List Nat
 ox:List (Nat × Option Nat × Bool):=[]
 gh:Nat->AS->Option (Nat × Nat × Nat × List Cn):=λ_ _=>none
 vb:Bool:=false
def HU:y5->List (Nat × y5)
 | .seq a _ b=>HU a++HU b
 | .cond _ a b=>HU a++HU b
 | .block id x=>(id,x)::HU x
 | .loop x=>HU x
 | .scope x=>HU x
 |_=>[]
def JB (orc:Nat->AS->Option Out) (tb:Tb) (an:An):y5->Option Nat->AS->Option Out
 | .skip,_,a=>some [(.normal,a)]
 | .region dr ops,_,a=>(match dr,Pk tb.z ops with
  |false,some _=>(match QgK tb tb.z (ops.length+1) ops (QqA (Qj2 tb) tb.ow false ops a)with
   |some l=>some (l.map λa1=>(.normal,a1))
   |none=>none)
  |true,some _=>(match Qm5 tb tb.z ops (QqA (Qj2 tb) tb.ow true ops a)with
   |some l=>some (l.map λa1=>(.normal,a1))
   |none=>none)
  |_,_=>(match QcP tb false (DA.of dr) ops (QqA (Qj2 tb) tb.ow dr ops a)with
   |some l=>some (l.map λa1=>(.normal,a1))
   |none=>none))
 | .ba ops,_,a=>(match QcP tb true (DA.of true) ops (QqA (Qj2 tb) tb.ow true ops a)with
  |some l=>some (l.map λa1=>(.normal,a1))
  |none=>none)
 | .seq x l y,_,a=>(match JB orc tb an x none a with
  |some o=>(match sqJ an.nj x a.nx a.cs ((C5 o).map (QiI l))with
   |some (fr,H,cs,k)=>(match JB orc tb an y none ⟨fr,H,cs++a.cs,a.nx+k⟩with
    |some o2=>some (S0 o++o2)
    |none=>none)
   |none=>Qdk (λ(p:AExit × AS)=>match p.1 with
    | .normal=>JB orc tb an y none (QiI l p.2)
    |e=>some [(e,p.2)]) o)
  |none=>none)
 | .cond c x y,_,a=>(match spl a c with
  |some l=>Qdk (λ(p:Bool × AS)=>if p.1=true then JB orc tb an x none p.2 else JB orc tb an y none p.2) l
  |none=>none)
 | .block id x,_,a=>(match(match orc id a with
  |some o=>some o
  |none=>JB orc tb an x (some id) a)with
  |some o=>some (o.map (QtP id))
  |none=>none)
 | .loop x,bl,a=>(match bl with
  |some b=>(match an.hd b with
   |some g=>(match an.gh b a with
    |some (wS,iS,m,csG)=>(match ghB a (g a) wS iS m csG with
     |some a1=>(match JB orc tb an x none a1 with
      |some o=>Qdk (Qkt (Pv a (g a)) a.nx (g a) iS m csG) o
      |none=>none)
     |none=>none)
    |none=>(match Pd a (Pv a (g a)) a.nx (g a).k (g a).cs with
    |some _=>if Nat.ble ((g a).up.1+1) (a.nx+(g a).k)=true/\Nat.ble ((g a).dn.1+1) (a.nx+(g a).k)=true/\XV (Pv a (g a)).cs (g a).dn.1 (g a).dn.2 (g a).up.1 (g a).up.2=true then(match JB orc tb an x none (Pv a (g a))with
     |some o=>Qdk (Qks (Pv a (g a)) a.nx (g a)) o
     |none=>none)else none
    |none=>none))
   |none=>Qsy (λa1=>JB orc tb an x none a1) a.nx a.cs an.un a)
  |none=>none)
 | .scope x,_,a=>JB orc tb an x none a
 | .exit i,_,a=>some [(.exit i,a)]
 | .ret,_,a=>some [(.ret,a)]
 | .n8 _ _ _ _,_,_=>none
def za (ν:List Int) (outs:Out) (e:AExit) (s:St):Prop:=∃a,(e,a)∈outs/\∃f,a.ok (ν++f) s
theorem za.sub {o C:Out} {e:AExit} (h:za ν o e s) (G:∀y∈o,y∈C):za ν C e s:=let⟨a,h1,h2⟩:=h;⟨a,G _ h1,h2⟩
theorem Qhg {P:Program} {nt:Nat} {x:y5} {body:AS->Option Out} (hb:∀{a:AS} {o:Out} {ν:List Int} {s:St},a.ok ν s->body a=some o->TX P nt x (za ν o) s) {ν:List Int} {c0:List Cn} (h0:w7 ν c0) (z:ν[0]?=some 0):∀{n:Nat} {a:AS} {f:List Int} {outs:Out} {s:St},a.ok (ν++f) s->Qsy body ν.length c0 n a=some outs->∃e s',za ν outs e s'/\∃m,x8 P nt x e s' m s
 |0,a,f,outs,s,h,he=>by trivial
 |n+1,a,f,outs,s,h,he=>by
  simp[Qsy]at he;split at he;rename_i o e1;obtain⟨e,s1,⟨a1,hm,g,h1⟩,h2⟩:=hb h e1
  have stop:e≠.normal->(∀y∈S0 o,y∈outs)->∃e s',za ν outs e s'/\∃m,x8 P nt x e s' m s:=λC Y=>
   ⟨e,s1,⟨a1,Y _ (Nx C hm),f++g,by grind⟩,0,.stop h2 C⟩
  split at he;cases e with
  |normal=>have:=NN hm;grind
  |exit i=>simp_all
  |ret=>simp_all
  split at he;rename_i fr H cs k e2;split at he
  ·rename_i o2 e3;cases he
   cases e with
   |normal=>
    rw[QA9]at h1;obtain⟨μ,s2,U,T⟩:=Qj7 e2 h0 z (NN hm) h1;obtain⟨e4,G,O,m,M⟩:=Qhg hb h0 z T e3;exact⟨e4,G,O.sub λy V=>QAz _ V,m+1,.next h2 U M⟩
   |exit i=>grind
   |ret=>grind
  grind
  grind
  grind
theorem _root_.Wi {p:Prop} (h:p:=by simp only[HU];grind):p:=h
theorem Yj {P:Program} {nt:Nat} {orc:Nat->AS->Option Out} {tb:Tb} {B:List (Nat × y5)} (Y:∀(id:Nat) (x:y5) (a:AS) (o:Out) (ν:List Int) (s:St),(id,x)∈B->orc id a=some o->a.ok ν s->TX P nt x (za ν o) s) (M:tb.ok P) (T:tb.xg P) {an:An}:∀{c:y5} {bl:Option Nat} {a:AS} {outs:Out} {ν:List Int} {s:St},(∀p∈HU c,p∈B)->a.ok ν s->JB orc tb an c bl a=some outs->TX P nt c (za ν outs) s
 | .skip,bl,a,outs,ν,s,hb,h,he=>by
  simp only[JB,QAn]at he;subst he;exact Qeh ⟨a,by simp,[],by grind⟩
 | .region dr ops,bl,a,outs,ν,s,hb,h,he=>by
  simp only[JB]at he;split at he;split at he;rename_i l e1;cases he
  obtain⟨s0,hle,h0⟩:=Dd h (Qj2 tb) tb.ow false ops;obtain⟨O,hm,f,s',h1,h2⟩:=Dm M T h0 e1;exact Qo3 hle ⟨.normal,s',⟨O,QAy.2 ⟨O,hm,rfl⟩,f,h1⟩,FE (h2 _ ⟨rfl,rfl⟩)⟩
  grind
  split at he;rename_i l e1;cases he
  obtain⟨s0,hle,h0⟩:=Dd h (Qj2 tb) tb.ow true ops;obtain⟨O,hm,f,s',h1,h2⟩:=Qjf M T h0 e1;exact Qo3 hle ⟨.normal,s',⟨O,QAy.2 ⟨O,hm,rfl⟩,f,h1⟩,h2 _ ⟨rfl,rfl⟩⟩
  grind
  split at he;rename_i l e1;cases he
  obtain⟨s0,hle,h0⟩:=Dd h (Qj2 tb) tb.ow _ ops;obtain⟨O,hm,f,s',h1,h2⟩:=Ks M (DA.sc _ s0.H) h0 e1;exact Qo3 hle ⟨.normal,s',⟨O,QAy.2 ⟨O,hm,rfl⟩,f,h1⟩,MW λK hK=>h2 K (hK s' ⟨rfl,rfl⟩)⟩
  grind
 | .ba ops,bl,a,outs,ν,s,hb,h,he=>by
  simp only[JB]at he;split at he;rename_i l e1;cases he
  obtain⟨s0,hle,h0⟩:=Dd h (Qj2 tb) tb.ow true ops;obtain⟨O,hm,f,s',h1,h2⟩:=Ks M (DA.sc true s0.H) h0 e1;exact Qo3 hle ⟨.normal,s',⟨O,QAy.2 ⟨O,hm,rfl⟩,f,h1⟩,T5 λK hK=>h2 K (hK s' ⟨rfl,rfl⟩)⟩
  grind
 | .seq x l y,bl,a,outs,ν,s,hb,h,he=>by
  simp only[JB]at he;split at he;rename_i o e1;split at he;rename_i fr H cs k e2;split at he;rename_i o2 e3;cases he
  have hn:a.nx=ν.length:=h.nx.symm
  have e4:jnA ν.length a.cs ((C5 o).map (QiI l))=some (fr,H,cs,k):=by
   unfold sqJ at e2
   grind
  refine Qo4 (λs2=>s2) (λs2=>TX P nt y (za ν (S0 o++o2)) s2) (Ju (λe s' hq=>?_) (Yj Y M T (λp hp=>hb p Wi) h e1)) λ_ h=>h;obtain⟨O,hm,f,h1⟩:=hq;cases e with
  |normal=>
   obtain⟨μ,s2,q1,q2⟩:=Qj7 e4 h.cs h.z (QBh (NN hm)) (Qb0 h1 l);rw[<- hn]at q2;refine⟨s2,le_trans (K4 l s'.fr s'.H) q1,Ju (λe2 s2 hr=>?_) (Yj Y M T (λp hp=>hb p Wi) q2 e3)⟩;obtain⟨a2,U,f2,h2⟩:=hr;exact⟨a2,QAz _ U,μ++f2,by grind⟩
  |exit i=>exact⟨O,QBj _ (Nx Wc hm),f,h1⟩
  |ret=>exact⟨O,QBj _ (Nx Wc hm),f,h1⟩
  grind
  refine QhT (Ju (λe s' hq=>?_) (Yj Y M T (λp hp=>hb p Wi) h e1));obtain⟨O,hm,f,h1⟩:=hq;obtain⟨q,C,V⟩:=Y3 he hm;cases e with
  |normal=>
   refine Ju (λe2 s2 hr=>?_) (Yj Y M T (λp hp=>hb p Wi) (Qb0 h1 l) C);obtain⟨a2,U,f2,h2⟩:=hr;exact⟨a2,V _ U,f++f2,by grind⟩
  |exit i=>
   cases C
   exact⟨O,V _ Wc,f,h1⟩
  |ret=>
   cases C
   exact⟨O,V _ Wc,f,h1⟩
  grind
 | .cond c x y,bl,a,outs,ν,s,hb,h,he=>by
  simp only[JB]at he;split at he;rename_i l e1;obtain⟨b,O,hm,hx,h1⟩:=QcW h e1;obtain⟨q,C,V⟩:=Y3 he hm;have fin:∀e s',za ν q e s'->za ν outs e s':=λe s' ⟨a2,U,f2,h2⟩=>⟨a2,V _ U,f2,h2⟩;cases b
  exact B3 hx (Ju fin (Yj Y M T (λp hp=>hb p Wi) h1 C));exact Rk hx (Ju fin (Yj Y M T (λp hp=>hb p Wi) h1 C))
  grind
 | .block id x,bl,a,outs,ν,s,hb,h,he=>by
  simp only[JB]at he;split at he;rename_i o e1;cases he
  have hx:TX P nt x (za ν o) s:=by
   split at e1
   grind [HU]
   exact Yj Y M T (λp hp=>hb p Wi) h e1
  refine BZ (Ju (λe s' hq=>?_) hx);obtain⟨O,hm,f,h1⟩:=hq;have U:=QBh (f:=QtP id) hm;cases e with
  |normal=>exact⟨O,U,f,h1⟩
  |ret=>exact⟨O,U,f,h1⟩
  |exit i=>
   simp only[YZ];simp only[QtP]at U;split;rename_i hi;rw[if_pos hi]at U;exact⟨O,U,f,h1⟩;rename_i hi;rw[if_neg hi]at U;exact⟨O,U,f,h1⟩
  grind
 | .loop x,bl,a,outs,ν,s,hb,h,he=>by
  simp only[JB]at he;split at he;rename_i b;split at he;rename_i g eg;generalize g a=hd at he;split at he;rename_i wS iS m csG _;split at he;rename_i aG eG;split at he;rename_i o e2;unfold ghB at eG;split at eG;rename_i σ0 a2 e1;split at eG;rename_i L B eL eB;split at eG;rename_i hc;cases eG
  obtain⟨⟨c1,c2,c3⟩,c4,c8,c5,c6,c7⟩:=hc;have hn:a.nx=ν.length:=h.nx.symm;rw[hn]at e1 he c2 c3 c4 c5 c6 c8;have c8:=QAk c8;obtain⟨w,hw⟩:∃w,ν[wS]?=some w:=⟨_,QA7 c8⟩;have c1:=of_decide_eq_true c1;have c2:=QAk c2;have c3:=QAk c3;have b1:=QAk c5;have b2:=QAk c6;obtain⟨g0,μ0,s0,q1,q2,q3,q4⟩:=Gu (k:=hd.k) (cs:=hd.cs) (c0:=a.cs) (by rw[QAP];exact h) e1 rfl (by rw[<- hn];rfl) h.cs h.z
  obtain⟨v0,w1,w2⟩:=Qj5 (u:=0) (w0:=w) q1 q2 c4 q1.z Wb c2;refine Kx (ι:=List Int × St) (λi=>i.2) (λi=>∃μ v,i.1=ν++μ++[w+(m:Int)*v]/\(ν++μ)[iS]?=some v/\w7 i.1 csG/\(Pv a hd).ok (ν++μ) i.2) (λi=>(TU i.1 hd.up - TU i.1 hd.dn).toNat) (ν++μ0++[w+(m:Int)*v0],s0) q3 ⟨μ0,v0,rfl,w1,w2,q4⟩ λi ⟨μ,v,hi1,hi2,hi3,hi4⟩=>?_;obtain⟨νi,si⟩:=i;simp only at hi1 hi2 hi3 hi4 ⊢;subst hi1;have hlen:(ν++μ).length=ν.length+hd.k:=by rw[hi4.nx,<- hn];rfl
  have l1:=CK hi4.cs hi4.z eL hi2;have l2:=BB hi4.cs hi4.z eB hi2;have hG:=QpL (m:=m) (csG:=csG) hi4 (XG _ hw) Wa l2 hi3;refine Ju (λe s' hq=>?_) (Yj Y M T (λp hp=>hb p Wp) hG e2);obtain⟨O,hm,f,h1⟩:=hq;obtain⟨q,C,V⟩:=Y3 he hm;cases e with
  |normal=>
   simp only[Qkt]at C;split at C;rename_i σ a3 e3;split at C;rename_i G;obtain⟨G,hgc⟩:=G;rw[QA9,QA9]at h1;obtain⟨g1,μ1,s1,w1,w2,w3,w4⟩:=Gu (ν0:=ν) (f:=μ++([w+(m:Int)*v]++f)) (k:=hd.k) (cs:=hd.cs) (c0:=a.cs) h1 e3 rfl (by rw[<- hn];rfl) h.cs h.z
   have ea:ν++(μ++([w+(m:Int)*v]++f)++g1)=ν++μ++[w+(m:Int)*v]++(f++g1):=by simp
   have y1:(ν++(μ++([w+(m:Int)*v]++f)++g1))[iS]?=some v:=by grind
   have y2:(ν++(μ++([w+(m:Int)*v]++f)++g1))[ν.length+hd.k]?=some (w+(m:Int)*v):=by grind
   obtain⟨v1,x1,x2⟩:=Qj5 w1 w2 hgc y1 y2 c2;have hlen1:(ν++μ1).length=ν.length+hd.k:=by rw[w4.nx,<- hn];rfl
   refine⟨(ν++μ1++[w+(m:Int)*v1],s1),w3,⟨μ1,v1,rfl,x1,x2,w4⟩, ?_⟩;have u0:=Kv (ν:=ν++μ++[w+(m:Int)*v]) (x:=hd.up) Wb;have d0:=Kv (ν:=ν++μ++[w+(m:Int)*v]) (x:=hd.dn) Wb;have u1:=Kv (ν:=ν++μ1) (x:=hd.up) Wa;have d1:=Kv (ν:=ν++μ1) (x:=hd.dn) Wa;have u1':=MM w2 u1;have d1':=MM w2 d1;have u0':=u0.ext (f++g1);have d0':=d0.ext (f++g1);rw[<- ea]at u0' d0';have r3:=Qo (hi4.cs.ext [w+(m:Int)*v]) c7 d0 u0;have r4:=Qo w4.cs c7 d1 u1;have eu:TU (ν++μ1++[w+(m:Int)*v1]) hd.up=TU (ν++μ1) hd.up:=x6.inj (Kv Wb) (u1.ext _);have ed:TU (ν++μ1++[w+(m:Int)*v1]) hd.dn=TU (ν++μ1) hd.dn:=x6.inj (Kv Wb) (d1.ext _);show(TU (ν++μ1++[w+(m:Int)*v1]) hd.up - TU (ν++μ1++[w+(m:Int)*v1]) hd.dn).toNat<(TU (ν++μ++[w+(m:Int)*v]) hd.up - TU (ν++μ++[w+(m:Int)*v]) hd.dn).toNat;rw[eu,ed];rcases G with G |G
   have r1:=Qo w1.cs G.1 u1' u0';have r2:=Qo w1.cs G.2 (d0'.up 1) d1';omega;have r1:=Qo w1.cs G.1 (u1'.up 1) u0';have r2:=Qo w1.cs G.2 d0' d1';omega
   grind
   grind
  |exit i=>
   cases C
   exact⟨O,V _ Wc,μ++[w+(m:Int)*v]++f,by grind⟩
  |ret=>
   cases C
   exact⟨O,V _ Wc,μ++[w+(m:Int)*v]++f,by grind⟩
  grind
  grind
  grind
  grind
  grind
  split at he;rename_i r e1;split at he;rename_i hc;split at he;rename_i o e2;have hn:a.nx=ν.length:=h.nx.symm;rw[hn]at e1 he hc;have b1:=QAk hc.1;have b2:=QAk hc.2.1;obtain⟨g0,μ0,s0,q1,q2,q3,q4⟩:=Gu (f:=[]) (k:=hd.k) (cs:=hd.cs) (c0:=a.cs) (by rw[QAP];exact h) e1 rfl (by rw[<- hn];rfl) h.cs h.z
  refine Kx (ι:=List Int × St) (λi=>i.2) (λi=>∃μ,i.1=ν++μ/\(Pv a hd).ok i.1 i.2) (λi=>(TU i.1 hd.up - TU i.1 hd.dn).toNat) (ν++μ0,s0) q3 ⟨μ0,rfl,q4⟩ λi ⟨μ,hi1,hi2⟩=>?_;obtain⟨νi,si⟩:=i;simp only at hi1 hi2 ⊢;subst hi1;have hlen:(ν++μ).length=ν.length+hd.k:=by rw[hi2.nx,<- hn];rfl
  refine Ju (λe s' hq=>?_) (Yj Y M T (λp hp=>hb p Wp) hi2 e2);obtain⟨O,hm,f,h1⟩:=hq;obtain⟨q,C,V⟩:=Y3 he hm;cases e with
  |normal=>
   simp only[Qks]at C;split at C;rename_i σ a2 e3;split at C;rename_i G;rw[QA9]at h1;obtain⟨g1,μ1,s1,w1,w2,w3,w4⟩:=Gu (ν0:=ν) (f:=μ++f) (k:=hd.k) (cs:=hd.cs) (c0:=a.cs) h1 e3 rfl (by rw[<- hn];rfl) h.cs h.z
   have hlen1:(ν++μ1).length=ν.length+hd.k:=by rw[w4.nx,<- hn];rfl
   refine⟨(ν++μ1,s1),w3,⟨μ1,rfl,w4⟩, ?_⟩;have u0:=Kv (ν:=ν++μ) (x:=hd.up) Wa;have d0:=Kv (ν:=ν++μ) (x:=hd.dn) Wa;have u1:=Kv (ν:=ν++μ1) (x:=hd.up) Wa;have d1:=Kv (ν:=ν++μ1) (x:=hd.dn) Wa;have u1':=MM w2 u1;have d1':=MM w2 d1
   have u0':x6 (ν++(μ++f++g1)) hd.up.1 hd.up.2 (TU (ν++μ) hd.up):=by
    have:=u0.ext (f++g1);grind
   have d0':x6 (ν++(μ++f++g1)) hd.dn.1 hd.dn.2 (TU (ν++μ) hd.dn):=by
    have:=d0.ext (f++g1);grind
   have r3:=Qo hi2.cs hc.2.2 d0 u0;have r4:=Qo w4.cs hc.2.2 d1 u1;show(TU (ν++μ1) hd.up - TU (ν++μ1) hd.dn).toNat<(TU (ν++μ) hd.up - TU (ν++μ) hd.dn).toNat;rcases G with G |G
   have r1:=Qo w1.cs G.1 u1' u0';have r2:=Qo w1.cs G.2 (d0'.up 1) d1';omega;have r1:=Qo w1.cs G.1 (u1'.up 1) u0';have r2:=Qo w1.cs G.2 d0' d1';omega
   grind
   grind
  |exit i=>
   cases C
   exact⟨O,V _ Wc,μ++f,by grind⟩
  |ret=>
   cases C
   exact⟨O,V _ Wc,μ++f,by grind⟩
  grind
  grind
  grind
  have hn:a.nx=ν.length:=h.nx.symm;rw[hn]at he;obtain⟨e,s',q1,m,q2⟩:=Qhg (x:=x) (λh1 e1=>Yj Y M T (λp hp=>hb p Wp) h1 e1) h.cs h.z (f:=[]) (by rw[QAP];exact h) he
  exact⟨e,s',q1,q2.tw⟩
  grind
 | .scope x,bl,a,outs,ν,s,hb,h,he=>by
  simp only[JB]at he;exact Qlc (Yj Y M T (λp hp=>hb p Wp) h he)
 | .exit i,bl,a,outs,ν,s,hb,h,he=>by
  simp only[JB,QAn]at he;subst he;exact Qeg ⟨a,by simp,[],by grind⟩
 | .ret,bl,a,outs,ν,s,hb,h,he=>by
  simp only[JB,QAn]at he;subst he;exact Qlb ⟨a,by simp,[],by grind⟩
 | .n8 _ _ _ _,bl,a,outs,ν,s,hb,h,he=>by trivial
def QlP (tb:Tb) (an:An) (c:y5) (bl:Option Nat) (a:AS):Option Out:=JB (λ_ _=>none) tb an c bl a
theorem Qid {P:Program} {nt:Nat} {tb:Tb} (G:tb.ok P) (C:tb.xg P) {an:An} {c:y5} {bl:Option Nat} {a:AS} {outs:Out} (h:a.ok ν s) (he:QlP tb an c bl a=some outs):TX P nt c (za ν outs) s:=Yj (λ_ _ _ _ _ _ _ h _=>by cases h) G C (λ_ h=>h) h he
def Qjb (a:AS):XE->Option Vl
 | .tmp t=>(match lk a.fr t with
  |some v=>QjM a v
  |none=>none)
 | .cell t agg sz=>(match lk a.fr t with
  |some p=>(match atA a p with
   |some cs=>(match agg with
    |true=>if Nat.ble sz cs.length=true then QjM a (.aa (cs.take sz))else none
    |false=>(match cs.head? with
     |some v=>QjM a v
     |none=>none))
   |none=>none)
  |none=>none)
theorem Qjc {ν:List Int} {a:AS} {s:St} {r:XE} {v:Vl} (h:a.ok ν s) (he:Qjb a r=some v):∃d,v.has ν d/\XQ JS s r d:=by
 cases r with
 |tmp t=>
  simp only[Qjb]at he;split at he;rename_i w e1;obtain⟨d,h1,h2⟩:=RL.get h.fr e1;exact⟨_,Mi h he h2,d,h1,rfl⟩
  grind
 |cell t agg sz=>
  simp only[Qjb]at he;split at he;rename_i p e1;obtain⟨d,h1,h2⟩:=RL.get h.fr e1;split at he;rename_i cs e2;obtain⟨ds,G,C⟩:=Qbf h e2 h2;cases agg
  simp only at he;split at he;rename_i w e3;obtain⟨q,O,M⟩:=CF C e3;exact⟨_,Mi h he M,d,ds,h1,HS.2 G,by simp only[QAs,if_false];exact⟨q,O,rfl⟩⟩
  grind
  simp only at he;split at he;rename_i hb;exact⟨_,Mi h he ⟨_,rfl,XN sz C⟩,d,ds,h1,HS.2 G,by simp only[if_true];exact⟨by rw[ZG C];simp_all,rfl⟩⟩
  grind
  grind
  grind
def QdF (a:AS):List XE->Option (List Vl)
 |[]=>some []
 |r::rs=>(match Qjb a r,QdF a rs with
  |some v,some vs=>some (v::vs)
  |_,_=>none)
theorem QcE {ν:List Int} {a:AS} {s:St} (h:a.ok ν s):∀{rs:List XE} {vs:List Vl},QdF a rs=some vs->∃ds,Vl.n4 ν vs ds/\Sw JS s rs ds
 |[],vs,he=>by simp only[QdF,QAn]at he;subst he;exact⟨[],rfl,rfl⟩
 |r::rs,vs,he=>by
  simp only[QdF]at he;split at he;rename_i v ws e1 e2;cases he
  obtain⟨d,h1,h2⟩:=Qjc h e1;obtain⟨ds,G,C⟩:=QcE h e2;exact⟨d::ds,⟨d,ds,rfl,h1,G⟩,d,ds,rfl,h2,C⟩
  grind
def Ct.pg (c:Ct) (rs:List XE):Option (List Vl):=
 match rs with
 |[_]=>some [c.rv]
 |_=>(match c.rv with
  | .uu vs=>some vs
  |_=>none)
def Qv8 (c:Ct) (rs:List XE) (p:AExit × AS):Bool:=
 match p.1 with
 | .exit _=>false
 |_=>(match QdF p.2 rs,c.pg rs with
  |some vs,some ps=>(match QhD c.nx p.2 [] vs ps with
   |some (σ,a)=>Nat.beq (c.nx+σ.length) c.mx&&c.rc.all (Qdp a c.nx σ)
   |none=>false)
  |_,_=>false)
theorem Ql4 {c:Ct} {rs:List XE} {e:AExit} {a:AS} {μ f:List Int} {s:St} (h:a.ok (μ++f) s) (hμ:μ.length=c.nx) (C:Qv8 c rs (e,a)=true):∃d,(∃g,(μ++g).length=c.mx/\w7 (μ++g) c.rc/\c.rv.has (μ++g) d)/\r7 rs d e s:=by
 have key:(match QdF a rs,c.pg rs with
  |some vs,some ps=>(match QhD c.nx a [] vs ps with
   |some (σ,a)=>Nat.beq (c.nx+σ.length) c.mx&&c.rc.all (Qdp a c.nx σ)
   |none=>false)
  |_,_=>false)=true->∃d,(∃g,(μ++g).length=c.mx/\w7 (μ++g) c.rc/\c.rv.has (μ++g) d)/\Qjd s rs d:=λC=>by
  split at C;rename_i vs ps e1 e2;split at C;rename_i σ a2 e3;simp only[QAo]at C;obtain⟨ds,h1,h2⟩:=QcE h e1;rw[<- hμ]at e3;obtain⟨g,ρ,h3,O,M⟩:=Sd (μ:=[]) h e3 h1 rfl;rw[QBy]at O M;have hl:=YJ O;have hn:=QBC C.1;have G:w7 (μ++ρ) c.rc:=λk hk=>KW h3 O Wb;have hlen:(μ++ρ).length=c.mx:=by grind
  unfold Ct.pg at e2;split at e2;cases e2
  obtain⟨d,r,rfl,q1,T⟩:=M;simp only[Vl.n4]at T;subst T;obtain⟨d2,ds2,V,U,w3⟩:=h2;cases V
  exact⟨d,⟨ρ,hlen,G,q1⟩,U⟩;rename_i hne;split at e2;rename_i Y e4;cases e2
  refine⟨.u7 ds,⟨ρ,hlen,G,by rw[e4];exact⟨ds,rfl,M⟩⟩, ?_⟩
  unfold Qjd
  grind
  grind
  grind
  grind
 cases e with
 |normal=>obtain⟨d,h1,h2⟩:=key C;exact⟨d,h1,h2⟩
 |ret=>obtain⟨d,h1,h2⟩:=key C;exact⟨d,h1,h2⟩
 |exit i=>cases C
theorem Qaj {ν:List Int}:∀{vs:List Vl} {ds:List D} {k:Nat},Vl.n4 ν vs ds->RL (Vl.has ν) (Pr k vs) (Pr k ds)
 |[],ds,k,h=>by simp only[Vl.n4]at h;subst h;rfl
 |v::vs,ds,k,h=>by obtain⟨d,r,rfl,h1,h⟩:=h;exact⟨d,_,rfl,h1,Qaj h⟩
variable {a:AS} {d:D} {v:Vl}
def QkF:List Vl->List (List Vl)
 |[]=>[[]]
 |v::vs=>match v with
  | .ty t=>(match t with
   | .b=>(QkF vs).flatMap λr=>[cB true::r,cB false::r]
   |t=>(QkF vs).map λr=>.ty t::r)
  |v=>(QkF vs).map λr=>v::r
theorem Qhk {ν:List Int}:∀{vs:List Vl} {ds:List D},Vl.n4 ν vs ds->∃ws∈QkF vs,Vl.n4 ν ws ds
 |[],ds,h=>⟨[],by simp[QkF],h⟩
 |v::vs,ds,h=>by
  obtain⟨d,r,rfl,h1,h2⟩:=h;obtain⟨ws,G,C⟩:=Qhk h2;have same:∀{w:Vl},w.has ν d->∃M∈(QkF vs).map (λr=>w::r),Vl.n4 ν M (d::r):=λhw=>⟨_,QAy.2 ⟨ws,G,rfl⟩,d,r,rfl,hw,C⟩;unfold QkF;split;split;obtain⟨b,rfl⟩:=h1;refine⟨cB b::ws,QAr.2 ⟨ws,G, ?_⟩,.bool b,r,rfl,QlB b,C⟩;cases b<;>simp
  grind
  grind
def QvJ:Vl->List Vl
 | .aa cs=>(QkF cs).map .aa
 | .ty t=>(match t with
  | .b=>[cB true,cB false]
  |t=>[.ty t])
 |v=>[v]
theorem Qoh (h:v.has ν d):∃w∈QvJ v,w.has ν d:=by
 unfold QvJ;split;obtain⟨ds,rfl,h1⟩:=h;obtain⟨ws,h2,C⟩:=Qhk h1;exact⟨_,QAy.2 ⟨ws,h2,rfl⟩,ds,rfl,C⟩;split;obtain⟨b,rfl⟩:=h;refine⟨cB b, ?_,QlB b⟩;cases b<;>simp
 grind
 grind
def Qjz:List Vl->List (List Vl)
 |[]=>[[]]
 |v::vs=>(QvJ v).flatMap λw=>(Qjz vs).map λr=>w::r
theorem Qc2 {ν:List Int}:∀{vs:List Vl} {ds:List D},Vl.n4 ν vs ds->∃ws∈Qjz vs,Vl.n4 ν ws ds
 |[],ds,h=>⟨[],by simp[Qjz],h⟩
 |v::vs,ds,h=>by
  obtain⟨d,r,rfl,h1,h2⟩:=h;obtain⟨w,O,M⟩:=Qoh h1;obtain⟨ws,G,C⟩:=Qc2 h2;exact⟨w::ws,QAr.2 ⟨w,O,QAy.2 ⟨ws,G,rfl⟩⟩,d,r,rfl,M,C⟩
def QrF (row:List Tp):Nat->AS->AS × List (List Vl)
 |0,a=>(a,[])
 |n+1,a=>match Qqn a (row.map .ty)with
  |(a1,r)=>match QrF row n a1 with
   |(a2,rs)=>(a2,r::rs)
theorem Qf7 {row:List Tp} {s:St}:∀{n:Nat} {ν:List Int} {a:AS} {rows:List (List D)},a.ok ν s->rows.length=n->(∀r∈rows,Tp.u3 row r)->∃e,(QrF row n a).1.ok (ν++e) s/\Vl.k7 (ν++e) (QrF row n a).2 rows
 |0,ν,a,rows,h,hn,hr=>⟨[],by rw[QAP];exact h,QAW hn⟩
 |n+1,ν,a,[],h,hn,hr=>by grind
 |n+1,ν,a,r::rows,h,hn,hr=>by
  obtain⟨e,h1,h2⟩:=QaN h (LK (hr r Wc));obtain⟨e2,G,M⟩:=Qf7 (rows:=rows) h1 (by simpa using hn) λq C=>hr q (QBm _ C);exact⟨e++e2,by rw[<- QA9];exact G,r,rows,rfl,by rw[<- QA9];exact h2.ext e2,by grind⟩
def QrG (full:Bool) (a:AS) (v:Vl):List (AS × Vl):=
 match v with
 | .ll row x o=>(match bdN a x o with
  |some (_,hi)=>if hi<16 then(List.range (hi+1).toNat).map λ(n:Nat)=>match full with
   |true=>match QrF row n ⟨a.fr,a.H,(x,0,n - o)::(0,x,o - n)::a.cs,a.nx⟩with
    |(a1,rs)=>(a1,.fx rs)
   |false=>(⟨a.fr,a.H,(x,0,n - o)::(0,x,o - n)::a.cs,a.nx⟩,.ll row 0 n)else[(a,v)]
  |none=>[(a,v)])
 |v=>[(a,v)]
theorem Qf9 (h:a.ok ν s) (M:v.has ν d) (full:Bool):∃p∈QrG full a v,∃e,p.1.ok (ν++e) s/\p.2.has (ν++e) d:=by
 have same:∃p∈[(a,v)],∃e,p.1.ok (ν++e) s/\p.2.has (ν++e) d:=⟨_,QAt.2 rfl,[],by grind,by grind⟩;unfold QrG;split;rename_i row x o;split;rename_i lo hi e1;split;obtain⟨rows,hd,h1,h2⟩:=M;have hb:=Yv h e1 h1
 have U:(⟨a.fr,a.H,(x,0,(rows.length:Int) - o)::(0,x,o - (rows.length:Int))::a.cs,a.nx⟩:AS).ok ν s:=by
  obtain⟨w,C,V⟩:=h1;refine⟨h.fr,h.H,w7.app (a:=[_,_]) (λc G=>?_) h.cs,h.nx,h.z⟩;simp only[QAm,QAl,or_false]at G;rcases G with rfl |rfl
  exact⟨w,0,C,h.z,by grind⟩;exact⟨0,w,h.z,C,by grind⟩
 refine⟨_,QAy.2 ⟨rows.length,QAG.2 Wa,rfl⟩, ?_⟩;cases full
 exact⟨[],by grind,rows,hd,by rw[QAP];exact YV h.z _,h2⟩
 obtain⟨e,T,O⟩:=Qf7 U rfl h2;exact⟨e,T,rows,hd,O⟩;omega;omega;omega
abbrev Op1:=Nat × Option Nat × Bool
def QtO (p:Op1) (a:AS):List AS:=
 match lk a.fr p.1,p.2.1 with
 |some (.aa cs),some j=>(match cs[j]? with
  |some v=>(QrG p.2.2 a v).map λq=>⟨Qi7 p.1 (.aa (cs.set j q.2)) q.1.fr,q.1.H,q.1.cs,q.1.nx⟩
  |none=>[a])
 |some v,none=>(QrG p.2.2 a v).map λq=>⟨Qi7 p.1 q.2 q.1.fr,q.1.H,q.1.cs,q.1.nx⟩
 |_,_=>[a]
theorem QmS (h:a.ok ν s) (p:Op1):∃a'∈QtO p a,∃e,a'.ok (ν++e) s:=by
 have same:∃a'∈[a],∃e,a'.ok (ν++e) s:=⟨a,by simp,[],by grind⟩;unfold QtO;split;rename_i cs j e1 e2;split;rename_i v e3;obtain⟨d,h1,ds,rfl,h2⟩:=RL.get h.fr e1;obtain⟨d,V,U⟩:=KZ h2 e3;obtain⟨q,G,e,C,M⟩:=Qf9 h U p.2.2;have O:=LJ j (h2.ext e) M
 have T:ds.set j d=ds:=by
  grind [List.set_getElem_self]
 rw[T]at O;exact⟨_,QAy.2 ⟨q,G,rfl⟩,e,F3 (v:=.aa (cs.set j q.2)) (d:=.agg ds) ⟨ds,rfl,O⟩ C.fr h1,C.H,C.cs,C.nx,C.z⟩;omega;rename_i v e1 e2;obtain⟨d,h1,h2⟩:=RL.get h.fr e1;obtain⟨q,G,e,C,M⟩:=Qf9 h h2 p.2.2;exact⟨_,QAy.2 ⟨q,G,rfl⟩,e,F3 M C.fr h1,C.H,C.cs,C.nx,C.z⟩;omega
def QrH:List Op1->AS->List AS
 |[],a=>[a]
 |p::r,a=>(QtO p a).flatMap (QrH r)
theorem Qga {s:St}:∀{l:List Op1} {ν:List Int} {a:AS},a.ok ν s->∃a'∈QrH l a,∃e,a'.ok (ν++e) s
 |[],ν,a,h=>⟨a,by simp[QrH],[],by grind⟩
 |p::r,ν,a,h=>by
  obtain⟨M,h1,e,h2⟩:=QmS h p;obtain⟨G,C,e2,O⟩:=Qga (l:=r) h2;exact⟨G,QAr.2 ⟨M,h1,C⟩,e++e2,by grind⟩
def Qog (an:An) (vs:List Vl):List (List Vl):=
 match an.vb with
 |true=>Qjz vs
 |false=>[vs]
theorem Qjy {an:An} {vs:List Vl} {ds:List D} (h:Vl.n4 ν vs ds):∃ws∈Qog an vs,Vl.n4 ν ws ds:=by
 grind [Qog,Qc2]
def ctB (tb:Tb) (an:An) (c:Ct) (tf:z5):Bool:=
 Nat.ble c.az.length tf.nt&&(Qog an c.az).all λaz=>(QrH an.ox ⟨Pr 0 az,[],c.cs,c.nx⟩).all λa=>(match QlP tb an tf.body none a with
  |some outs=>outs.all (Qv8 c tf.rs)
  |none=>false)
theorem Ct.by {P:Program} {f:Nat} {fn:Func} {tf:z5} {tb:Tb} {c:Ct} (an:An) (M:tb.ok P) (G:tb.xg P) (hm:P.follows .mixedOrders=true) (hf:P.funcs[f]?=some fn) (hp:Qj P fn=some tf.erase) (hb:ctB tb an c tf=true) (hg:Gm f=[]:=by rfl):c.ok P f:=by
 simp only[ctB,QAo]at hb;obtain⟨h1,h2⟩:=hb;intro μ ds q1 q2 q3 q4;obtain⟨az,V,U⟩:=Qjy (an:=an) q4;have ha:(⟨Pr 0 az,[],c.cs,c.nx⟩:AS).ok μ ⟨Pr 0 ds,[]⟩:=⟨Qaj U,rfl,q3,q1,q2⟩;obtain⟨a1,T,e1,h4⟩:=Qga (l:=an.ox) ha;have h3:=QAu.1 (QAu.1 h2 az V) a1 T;split at h3;rename_i outs e;have hx:=Qid (P:=P) (nt:=tf.nt) M G h4 e;obtain⟨d,⟨g,w1,w2,w3⟩,w4⟩:=Ok.uf (R:=λd=>∃g,(μ++g).length=c.mx/\w7 (μ++g) c.rc/\c.rv.has (μ++g) d) hm hf hp (by rw[ZG q4];simp_all) (Ju (λe s ⟨a,O,f2,h5⟩=>Ql4 (f:=e1++f2) Wb q1 (QAu.1 h3 _ O)) hx) hg
 grind
 grind
def Qwe (t:Nat):List Nat->List Nat
 |[]=>[t]
 |u::l=>if Nat.blt t u=true then t::u::l else if Nat.beq t u=true then u::l else u::Qwe t l
def Qjv (a b:List Nat):List Nat:=a.foldl (λl t=>Qwe t l) b
def QtN (x:l5):List Nat:=match x with
 | .s t=>[t]
 | .c _=>[]
def QAe (o:z1):List Nat:=(o.op.u6.flatMap QtN)++(o.guard.map Prod.fst).toList
def Qwq (ops:List z1) (out:List Nat):List Nat:=ops.foldr (λo l=>Qjv (QAe o) (match o.dst with
 |some t=>l.filter λu=>!Nat.beq u t
 |none=>l)) out
def exN (id:Nat):List (Nat × List Nat)->List Nat
 |[]=>[]
 |p::l=>if Nat.beq p.1 id=true then p.2 else exN id l
def Qmi (f:List Nat->List Nat):Nat->List Nat->List Nat
 |0,l=>l
 |n+1,l=>Qmi f n (Qjv (f l) l)
def lvN:x7->List Nat->List (Nat × List Nat)->List Nat->List Nat
 | .skip,out,_,_=>out
 | .region _ ops,out,_,_=>Qwq ops out
 | .ba ops,out,_,_=>Qwq ops out
 | .seq a b,out,ex,rt=>lvN a (lvN b out ex rt) ex rt
 | .cond c a b,out,ex,rt=>Qjv (QtN c) (Qjv (lvN a out ex rt) (lvN b out ex rt))
 | .block id a,out,ex,rt=>lvN a out ((id,out)::ex) rt
 | .loop a,_,ex,rt=>Qmi (λl=>lvN a l ex rt) 3 []
 | .scope a,out,ex,rt=>lvN a out ex rt
 | .exit id,_,ex,_=>exN id ex
 | .ret,_,_,rt=>rt
 | .n8 x p q a,out,ex,rt=>Qjv (QtN x) (Qjv rt (Qjv (ex.flatMap Prod.snd) (Qjv (lvN a [] (ex.map λe=>(e.1,[])) []) out)))
def BK:x7->List Nat->List (Nat × List Nat)->List Nat->y5
 | .skip,_,_,_=>.skip
 | .region d ops,_,_,_=>.region d ops
 | .ba ops,_,_,_=>.ba ops
 | .seq a b,out,ex,rt=>match lvN b out ex rt with
  |l=>.seq (BK a l ex rt) l (BK b out ex rt)
 | .cond c a b,out,ex,rt=>.cond c (BK a out ex rt) (BK b out ex rt)
 | .block id a,out,ex,rt=>.block id (BK a out ((id,out)::ex) rt)
 | .loop a,_,ex,rt=>match Qmi (λl=>lvN a l ex rt) 3 []with
  |l=>.loop (BK a l ex rt)
 | .scope a,out,ex,rt=>.scope (BK a out ex rt)
 | .exit id,_,_,_=>.exit id
 | .ret,_,_,_=>.ret
 | .n8 x p q a,out,ex,rt=>.n8 x p q (BK a [] (ex.map λe=>(e.1,[])) [])
theorem Yk:∀(c:x7) (out:List Nat) (ex:List (Nat × List Nat)) (rt:List Nat),(BK c out ex rt).erase=c
 | .skip,_,_,_=>rfl
 | .region _ _,_,_,_=>rfl
 | .ba _,_,_,_=>rfl
 | .seq a b,out,ex,rt=>by simp only[BK,y5.erase,Yk a,Yk b]
 | .cond c a b,out,ex,rt=>by simp only[BK,y5.erase,Yk a,Yk b]
 | .block id a,out,ex,rt=>by simp only[BK,y5.erase,Yk a]
 | .loop a,out,ex,rt=>by simp only[BK,y5.erase,Yk a]
 | .scope a,out,ex,rt=>by simp only[BK,y5.erase,Yk a]
 | .exit id,_,_,_=>rfl
 | .ret,_,_,_=>rfl
 | .n8 x p q a,out,ex,rt=>by simp only[BK,y5.erase,Yk a]
def QxW:XE->Nat
 | .tmp t=>t
 | .cell t _ _=>t
def tfN (af:AFn):z5:=match Qjv (af.rs.map QxW) []with
 |rt=>⟨af.nt,af.rs,BK af.body rt [] rt⟩
theorem SJ (af:AFn):(tfN af).erase=af:=by
 (repeat clear hK K);simp_all [tfN,z5.erase,Yk]
def ctP (P:Program) (tb:Tb) (an:An) (c:Ct) (f:Nat):Bool:=
 match P.funcs[f]? with
 |some fn=>(match Qj P fn with
  |some af=>ctB tb an c (tfN af)
  |none=>false)
 |none=>false
theorem Ct.zh {P:Program} {f:Nat} {tb:Tb} {c:Ct} (an:An) (G:tb.ok P) (C:tb.xg P) (hm:P.follows .mixedOrders=true) (hb:ctP P tb an c f=true) (M:Gm f=[]:=by rfl):c.ok P f:=by
 grind [ctP,Ct.by,SJ]
end Go.Abs
namespace Go.Proofs
open Go Go.Abs
set_option maxRecDepth 100000
def Dc (P:Program) (nt:Nat) (b:Bool):Code->Option x7
 | .skip=>some .skip
 | .label _=>some .skip
 | .region _ ops draw=>if draw&&b then(Qm P nt ops ops.toList).map .ba else(Qm P nt ops ops.toList).map (.region draw)
 | .seq x y=>match Dc P nt b x,Dc P nt b y with
  |some x',some y'=>some (.seq x' y')
  |_,_=>none
 | .cond c x y=>match Qi c,Dc P nt b x,Dc P nt b y with
  |some c',some x',some y'=>some (.cond c' x' y')
  |_,_,_=>none
 | .block id x=>(Dc P nt b x).map (.block id)
 | .loop x=>(Dc P nt b x).map .loop
 | .scope x=>(Dc P nt b x).map .scope
 | .exit id=>some (.exit id)
 | .ret=>some .ret
 | .rangeFunc g ps az y=>(Qkn nt g ps.toList az (Dc P nt b y)).map λt=>.n8 t.1 t.2.1 t.2.2.1 t.2.2.2
 |_=>none
def QtR (P:Program) (b:Bool) (fn:Func):Option z5:=
 match fn.body,Zp P fn.results.toList with
 |some c,some rs=>(Dc P fn.ntmps b c).map λx=>tfN ⟨fn.ntmps,rs,x⟩
 |_,_=>none
@[cbv_eval] theorem nbeq (a b:Nat):Nat.beq a b=decide (a=b):=by rw[Bool.eq_iff_iff];simp[Nat.beq_eq]
@[cbv_eval] theorem nblt (a b:Nat):Nat.blt a b=decide (a<b):=by rw[Bool.eq_iff_iff];simp[Nat.blt_eq]
abbrev TT (b:Bool) (f:Func):={t:z5 // QtR Tryz.prog b f=some t}
theorem tfol:Tryz.prog.follows .mixedOrders=true:=by kernel_rfl
set_option maxHeartbeats 0
set_option cbv.maxSteps 100000000
def t78:TT false Tryz.f78:=⟨_,by cbv⟩
def tf78:z5:=t78.1
theorem QzZ:Qj Tryz.prog Tryz.f78=some tf78.erase:=by kernel_rfl
def t80:TT false Tryz.f80:=⟨_,by cbv⟩
def tf80:z5:=t80.1
theorem Qz1:Qj Tryz.prog Tryz.f80=some tf80.erase:=by kernel_rfl
def t82:TT false Tryz.f82:=⟨_,by cbv⟩
def tf82:z5:=t82.1
theorem Qz3:Qj Tryz.prog Tryz.f82=some tf82.erase:=by kernel_rfl
def Qx1:TT false Tryz.f109:=⟨_,by cbv⟩
def tf109:z5:=Qx1.1
theorem Quh:Qj Tryz.prog Tryz.f109=some tf109.erase:=by kernel_rfl
def Qx7:TT false Tryz.f115:=⟨_,by cbv⟩
def tf115:z5:=Qx7.1
theorem Qun:Qj Tryz.prog Tryz.f115=some tf115.erase:=by kernel_rfl
def Qx8:TT false Tryz.f116:=⟨_,by cbv⟩
def tf116:z5:=Qx8.1
theorem Quo:Qj Tryz.prog Tryz.f116=some tf116.erase:=by kernel_rfl
def Qx9:TT false Tryz.f117:=⟨_,by cbv⟩
def tf117:z5:=Qx9.1
theorem Qup:Qj Tryz.prog Tryz.f117=some tf117.erase:=by kernel_rfl
def QyB:TT false Tryz.f159:=⟨_,by cbv⟩
def tf159:z5:=QyB.1
theorem QuP:Qj Tryz.prog Tryz.f159=some tf159.erase:=by kernel_rfl
def QyJ:TT false Tryz.f178:=⟨_,by cbv⟩
def tf178:z5:=QyJ.1
theorem QuX:Qj Tryz.prog Tryz.f178=some tf178.erase:=by kernel_rfl
def QyV:TT false Tryz.f196:=⟨_,by cbv⟩
def tf196:z5:=QyV.1
theorem Qu9:Qj Tryz.prog Tryz.f196=some tf196.erase:=by kernel_rfl
def QyX:TT false Tryz.f198:=⟨_,by cbv⟩
def tf198:z5:=QyX.1
theorem Qvb:Qj Tryz.prog Tryz.f198=some tf198.erase:=by kernel_rfl
def QyZ:TT false Tryz.f200:=⟨_,by cbv⟩
def tf200:z5:=QyZ.1
theorem Qvd:Qj Tryz.prog Tryz.f200=some tf200.erase:=by kernel_rfl
def Qy0:TT false Tryz.f201:=⟨_,by cbv⟩
def tf201:z5:=Qy0.1
theorem Qve:Qj Tryz.prog Tryz.f201=some tf201.erase:=by kernel_rfl
def Qzb:TT false Tryz.f229:=⟨_,by cbv⟩
def tf229:z5:=Qzb.1
theorem Qvp:Qj Tryz.prog Tryz.f229=some tf229.erase:=by kernel_rfl
def Qzo:TT false Tryz.f286:=⟨_,by cbv⟩
def tf286:z5:=Qzo.1
theorem QvC:Qj Tryz.prog Tryz.f286=some tf286.erase:=by kernel_rfl
set_option cbv.maxSteps 100000000
def t35:TT false Tryz.f35:=⟨_,by cbv⟩
def tf35:z5:=t35.1
theorem QzK:Qj Tryz.prog Tryz.f35=some tf35.erase:=by kernel_rfl
def t51:TT false Tryz.f51:=⟨_,by cbv⟩
def tf51:z5:=t51.1
theorem QzO:Qj Tryz.prog Tryz.f51=some tf51.erase:=by kernel_rfl
def t81:TT false Tryz.f81:=⟨_,by cbv⟩
def tf81:z5:=t81.1
theorem Qz2:Qj Tryz.prog Tryz.f81=some tf81.erase:=by kernel_rfl
def Qyb:TT false Tryz.f119:=⟨_,by cbv⟩
def tf119:z5:=Qyb.1
theorem Qur:Qj Tryz.prog Tryz.f119=some tf119.erase:=by kernel_rfl
def Qyc:TT false Tryz.f120:=⟨_,by cbv⟩
def tf120:z5:=Qyc.1
theorem Qus:Qj Tryz.prog Tryz.f120=some tf120.erase:=by kernel_rfl
def Qye:TT false Tryz.f122:=⟨_,by cbv⟩
def tf122:z5:=Qye.1
theorem Quu:Qj Tryz.prog Tryz.f122=some tf122.erase:=by kernel_rfl
def Qyg:TT false Tryz.f124:=⟨_,by cbv⟩
def tf124:z5:=Qyg.1
theorem Quw:Qj Tryz.prog Tryz.f124=some tf124.erase:=by kernel_rfl
def Qyi:TT false Tryz.f136:=⟨_,by cbv⟩
def tf136:z5:=Qyi.1
theorem Quy:Qj Tryz.prog Tryz.f136=some tf136.erase:=by kernel_rfl
def Qyt:TT false Tryz.f147:=⟨_,by cbv⟩
def tf147:z5:=Qyt.1
theorem QuH:Qj Tryz.prog Tryz.f147=some tf147.erase:=by kernel_rfl
def Qyu:TT false Tryz.f152:=⟨_,by cbv⟩
def tf152:z5:=Qyu.1
theorem QuI:Qj Tryz.prog Tryz.f152=some tf152.erase:=by kernel_rfl
def QyC:TT false Tryz.f160:=⟨_,by cbv⟩
def tf160:z5:=QyC.1
theorem QuQ:Qj Tryz.prog Tryz.f160=some tf160.erase:=by kernel_rfl
def QyF:TT false Tryz.f163:=⟨_,by cbv⟩
def tf163:z5:=QyF.1
theorem QuT:Qj Tryz.prog Tryz.f163=some tf163.erase:=by kernel_rfl
def QyU:TT false Tryz.f195:=⟨_,by cbv⟩
def tf195:z5:=QyU.1
theorem Qu8:Qj Tryz.prog Tryz.f195=some tf195.erase:=by kernel_rfl
def QyW:TT false Tryz.f197:=⟨_,by cbv⟩
def tf197:z5:=QyW.1
theorem Qva:Qj Tryz.prog Tryz.f197=some tf197.erase:=by kernel_rfl
def QyY:TT false Tryz.f199:=⟨_,by cbv⟩
def tf199:z5:=QyY.1
theorem Qvc:Qj Tryz.prog Tryz.f199=some tf199.erase:=by kernel_rfl
def Qy3:TT false Tryz.f215:=⟨_,by cbv⟩
def tf215:z5:=Qy3.1
theorem Qvh:Qj Tryz.prog Tryz.f215=some tf215.erase:=by kernel_rfl
def Qy5:TT false Tryz.f217:=⟨_,by cbv⟩
def tf217:z5:=Qy5.1
theorem Qvj:Qj Tryz.prog Tryz.f217=some tf217.erase:=by kernel_rfl
def Qzj:TT false Tryz.f271:=⟨_,by cbv⟩
def tf271:z5:=Qzj.1
theorem Qvx:Qj Tryz.prog Tryz.f271=some tf271.erase:=by kernel_rfl
set_option cbv.maxSteps 100000000
def t50:TT false Tryz.f50:=⟨_,by cbv⟩
def tf50:z5:=t50.1
theorem QzN:Qj Tryz.prog Tryz.f50=some tf50.erase:=by kernel_rfl
def t79:TT false Tryz.f79:=⟨_,by cbv⟩
def tf79:z5:=t79.1
theorem Qz0:Qj Tryz.prog Tryz.f79=some tf79.erase:=by kernel_rfl
def t83:TT false Tryz.f83:=⟨_,by cbv⟩
def tf83:z5:=t83.1
theorem Qz4:Qj Tryz.prog Tryz.f83=some tf83.erase:=by kernel_rfl
def t84:TT false Tryz.f84:=⟨_,by cbv⟩
def tf84:z5:=t84.1
theorem Qz5:Qj Tryz.prog Tryz.f84=some tf84.erase:=by kernel_rfl
def Qx4:TT false Tryz.f112:=⟨_,by cbv⟩
def tf112:z5:=Qx4.1
theorem Quk:Qj Tryz.prog Tryz.f112=some tf112.erase:=by kernel_rfl
def Qx6:TT false Tryz.f114:=⟨_,by cbv⟩
def tf114:z5:=Qx6.1
theorem Qum:Qj Tryz.prog Tryz.f114=some tf114.erase:=by kernel_rfl
def Qya:TT false Tryz.f118:=⟨_,by cbv⟩
def tf118:z5:=Qya.1
theorem Quq:Qj Tryz.prog Tryz.f118=some tf118.erase:=by kernel_rfl
def Qyd:TT false Tryz.f121:=⟨_,by cbv⟩
def tf121:z5:=Qyd.1
theorem Qut:Qj Tryz.prog Tryz.f121=some tf121.erase:=by kernel_rfl
def QyP:TT false Tryz.f190:=⟨_,by cbv⟩
def tf190:z5:=QyP.1
theorem Qu3:Qj Tryz.prog Tryz.f190=some tf190.erase:=by kernel_rfl
def Qzc:TT false Tryz.f243:=⟨_,by cbv⟩
def tf243:z5:=Qzc.1
theorem Qvq:Qj Tryz.prog Tryz.f243=some tf243.erase:=by kernel_rfl
def Qzg:TT false Tryz.f253:=⟨_,by cbv⟩
def tf253:z5:=Qzg.1
theorem Qvu:Qj Tryz.prog Tryz.f253=some tf253.erase:=by kernel_rfl
def Qzk:TT false Tryz.f276:=⟨_,by cbv⟩
def tf276:z5:=Qzk.1
theorem Qvy:Qj Tryz.prog Tryz.f276=some tf276.erase:=by kernel_rfl
def Qzm:TT false Tryz.f281:=⟨_,by cbv⟩
def tf281:z5:=Qzm.1
theorem QvA:Qj Tryz.prog Tryz.f281=some tf281.erase:=by kernel_rfl
def Qzn:TT false Tryz.f282:=⟨_,by cbv⟩
def tf282:z5:=Qzn.1
theorem QvB:Qj Tryz.prog Tryz.f282=some tf282.erase:=by kernel_rfl
def Qzp:TT false Tryz.f288:=⟨_,by cbv⟩
def tf288:z5:=Qzp.1
theorem QvD:Qj Tryz.prog Tryz.f288=some tf288.erase:=by kernel_rfl
set_option cbv.maxSteps 100000000
def t47:TT false Tryz.f47:=⟨_,by cbv⟩
def tf47:z5:=t47.1
theorem QzM:Qj Tryz.prog Tryz.f47=some tf47.erase:=by kernel_rfl
def t86:TT false Tryz.f86:=⟨_,by cbv⟩
def tf86:z5:=t86.1
theorem Qz7:Qj Tryz.prog Tryz.f86=some tf86.erase:=by kernel_rfl
def Qx0:TT false Tryz.f108:=⟨_,by cbv⟩
def tf108:z5:=Qx0.1
theorem Qug:Qj Tryz.prog Tryz.f108=some tf108.erase:=by kernel_rfl
def Qx2:TT false Tryz.f110:=⟨_,by cbv⟩
def tf110:z5:=Qx2.1
theorem Qui:Qj Tryz.prog Tryz.f110=some tf110.erase:=by kernel_rfl
def Qyv:TT false Tryz.f153:=⟨_,by cbv⟩
def tf153:z5:=Qyv.1
theorem QuJ:Qj Tryz.prog Tryz.f153=some tf153.erase:=by kernel_rfl
def QyA:TT false Tryz.f158:=⟨_,by cbv⟩
def tf158:z5:=QyA.1
theorem QuO:Qj Tryz.prog Tryz.f158=some tf158.erase:=by kernel_rfl
def QyO:TT false Tryz.f189:=⟨_,by cbv⟩
def tf189:z5:=QyO.1
theorem Qu2:Qj Tryz.prog Tryz.f189=some tf189.erase:=by kernel_rfl
def QyT:TT false Tryz.f194:=⟨_,by cbv⟩
def tf194:z5:=QyT.1
theorem Qu7:Qj Tryz.prog Tryz.f194=some tf194.erase:=by kernel_rfl
def Qza:TT false Tryz.f228:=⟨_,by cbv⟩
def tf228:z5:=Qza.1
theorem Qvo:Qj Tryz.prog Tryz.f228=some tf228.erase:=by kernel_rfl
def Qzd:TT false Tryz.f244:=⟨_,by cbv⟩
def tf244:z5:=Qzd.1
theorem Qvr:Qj Tryz.prog Tryz.f244=some tf244.erase:=by kernel_rfl
def Qzh:TT false Tryz.f260:=⟨_,by cbv⟩
def tf260:z5:=Qzh.1
theorem Qvv:Qj Tryz.prog Tryz.f260=some tf260.erase:=by kernel_rfl
def Qzl:TT false Tryz.f280:=⟨_,by cbv⟩
def tf280:z5:=Qzl.1
theorem Qvz:Qj Tryz.prog Tryz.f280=some tf280.erase:=by kernel_rfl
set_option cbv.maxSteps 100000000
def Qx3:TT false Tryz.f111:=⟨_,by cbv⟩
def tf111:z5:=Qx3.1
theorem Quj:Qj Tryz.prog Tryz.f111=some tf111.erase:=by kernel_rfl
def Qx5:TT false Tryz.f113:=⟨_,by cbv⟩
def tf113:z5:=Qx5.1
theorem Qul:Qj Tryz.prog Tryz.f113=some tf113.erase:=by kernel_rfl
def Qyf:TT false Tryz.f123:=⟨_,by cbv⟩
def tf123:z5:=Qyf.1
theorem Quv:Qj Tryz.prog Tryz.f123=some tf123.erase:=by kernel_rfl
def Qyw:TT false Tryz.f154:=⟨_,by cbv⟩
def tf154:z5:=Qyw.1
theorem QuK:Qj Tryz.prog Tryz.f154=some tf154.erase:=by kernel_rfl
def Qyx:TT false Tryz.f155:=⟨_,by cbv⟩
def tf155:z5:=Qyx.1
theorem QuL:Qj Tryz.prog Tryz.f155=some tf155.erase:=by kernel_rfl
def Qyy:TT false Tryz.f156:=⟨_,by cbv⟩
def tf156:z5:=Qyy.1
theorem QuM:Qj Tryz.prog Tryz.f156=some tf156.erase:=by kernel_rfl
def Qyz:TT false Tryz.f157:=⟨_,by cbv⟩
def tf157:z5:=Qyz.1
theorem QuN:Qj Tryz.prog Tryz.f157=some tf157.erase:=by kernel_rfl
def QyD:TT false Tryz.f161:=⟨_,by cbv⟩
def tf161:z5:=QyD.1
theorem QuR:Qj Tryz.prog Tryz.f161=some tf161.erase:=by kernel_rfl
def QyE:TT false Tryz.f162:=⟨_,by cbv⟩
def tf162:z5:=QyE.1
theorem QuS:Qj Tryz.prog Tryz.f162=some tf162.erase:=by kernel_rfl
def QyQ:TT false Tryz.f191:=⟨_,by cbv⟩
def tf191:z5:=QyQ.1
theorem Qu4:Qj Tryz.prog Tryz.f191=some tf191.erase:=by kernel_rfl
def QyR:TT false Tryz.f192:=⟨_,by cbv⟩
def tf192:z5:=QyR.1
theorem Qu5:Qj Tryz.prog Tryz.f192=some tf192.erase:=by kernel_rfl
def QyS:TT false Tryz.f193:=⟨_,by cbv⟩
def tf193:z5:=QyS.1
theorem Qu6:Qj Tryz.prog Tryz.f193=some tf193.erase:=by kernel_rfl
def Qy1:TT false Tryz.f213:=⟨_,by cbv⟩
def tf213:z5:=Qy1.1
theorem Qvf:Qj Tryz.prog Tryz.f213=some tf213.erase:=by kernel_rfl
def Qy2:TT false Tryz.f214:=⟨_,by cbv⟩
def tf214:z5:=Qy2.1
theorem Qvg:Qj Tryz.prog Tryz.f214=some tf214.erase:=by kernel_rfl
def Qy4:TT false Tryz.f216:=⟨_,by cbv⟩
def tf216:z5:=Qy4.1
theorem Qvi:Qj Tryz.prog Tryz.f216=some tf216.erase:=by kernel_rfl
def Qy9:TT false Tryz.f227:=⟨_,by cbv⟩
def tf227:z5:=Qy9.1
theorem Qvn:Qj Tryz.prog Tryz.f227=some tf227.erase:=by kernel_rfl
def Qzq:TT false Tryz.f290:=⟨_,by cbv⟩
def tf290:z5:=Qzq.1
theorem QvE:Qj Tryz.prog Tryz.f290=some tf290.erase:=by kernel_rfl
open M3
set_option maxRecDepth 4000
set_option maxHeartbeats 1000000
variable {c m n:Int} {s:List UInt8}
theorem Ki:Ok Tryz.prog 112 [.int .i64 n] (.bool (S5 n)):=by
 refine Ok.n6 tfol Tryz.func112 Quk (QAk Z) ?_;show TW _ _ tf112.body _ _;refine aX ?_ ?_;intro h1
 grind [S5]
 intro h1
 grind [S5]
theorem Y2:Ok Tryz.prog 161 [.int .i64 n] (.bool (S5 n)):=by
 refine Ok.n6 tfol Tryz.func161 QuR (QAk Z) ?_;show TW _ _ tf161.body _ _;refine aX ?_ ?_;intro h1
 grind [S5]
 intro h1
 grind [S5]
theorem HZ:Ok Tryz.prog 155 [.int .i64 n] (.bool false):=by
 refine Ok.n6 tfol Tryz.func155 QuL (QAk Z) ?_;show TW _ _ tf155.body _ _;refine aS ?_;simp
theorem QV:Ok Tryz.prog 189 [.int .i64 m,.int .i64 n] (.int .i64 (Zj m n)):=by
 refine Ok.n6 tfol Tryz.func189 Qu2 (QAk Z) ?_;show TW _ _ tf189.body _ _;refine aX ?_ ?_;intro h1
 grind [Zj]
 intro h1;refine aB ?_ ?_;intro h2
 grind [Zj]
 intro h2
 grind [Zj]
theorem Q7:Ok Tryz.prog 116 [.int .i64 m,.int .i64 n] (.int .i64 (Zj m n)):=by
 refine Ok.n6 tfol Tryz.func116 Quo (QAk Z) ?_;show TW _ _ tf116.body _ _;refine aS ?_;refine Qg (HZ) Z Z (.inr Z) (aK ?_);refine Qg (HZ) Z Z (.inr Z) (aB ?_ ?_);intro h1
 grind
 intro h1;refine aB ?_ ?_;intro M
 grind
 intro M;refine aB ?_ ?_;intro G
 grind [Zj]
 intro G;refine aB ?_ ?_;intro C
 grind [Zj]
 intro C
 grind [Zj]
theorem _root_.Wq {p:Prop} (h:p:=by grind [Y6]):p:=h
theorem Xr (G:s.length<=1048576):Ok Tryz.prog 154 [.str s] (.bool (YE s)):=by
 refine Ok.n6 tfol Tryz.func154 QuK (QAk Z) ?_;show TW _ _ tf154.body _ _;refine aS ?_;refine Qt (ι:=Nat) (λi=>⟨[(0,.str s),(5,.int .i64 s.length),(6,.int .i64 i)],[]⟩) (λi=>i<=s.length/\(s.take i).all Y6=true) (λi=>s.length - i) 0 ?_ ?_ ?_;exact QB (kp3 Z Z Z);simp;intro i M;refine aB ?_ ?_;intro h1;refine aB ?_ ?_;intro h2;refine Qs Z (aK ?_);exact(GQ (i:=i) Wa Wq).symm;intro h2;refine aB ?_ ?_;intro C;exact(GQ (i:=i) Wa Wq).symm;intro C;refine Qc (i+1) ?_ ?_ ?_;exact QB (kp3 Z Z Z)
 grind [Q9,Y6]
 omega;intro h1
 grind [Sh]
theorem X2 {v:Int} (C:0<n/\n<=9223372036854775807) (O: -9223372036854775808<=v/\v<=9223372036854775807):Ok Tryz.prog 35 [.int .i64 v,.int .i64 n] (.int .i64 (Xp v n)):=by
 refine Ok.n6 tfol Tryz.func35 QzK (QAk Z) ?_;show TW _ _ tf35.body _ _;have M:=Int.tmod_lt_of_pos v C.1;have G:=Int.lt_tmod_of_pos v C.1;refine aS ?_;refine QsI Z Z Wa (aB ?_ ?_);intro h1
 grind [Xp]
 intro h1
 grind [Xp]
theorem Mm {l:List Int} {i:Int}:Ok Tryz.prog 79 [Qz l,.int .i64 i] (.int .i64 (mAt l i)):=by
 refine Ok.n6 tfol Tryz.func79 Qz0 (QAk Z) ?_;show TW _ _ tf79.body _ _;refine aX ?_ ?_;intro h1;refine Qs Z (aK ?_)
 grind [mAt]
 intro h1;refine aB ?_ ?_;intro h2
 grind [mAt]
 intro h2
 grind [Qka]
theorem Ys (T:s.length<=1048576):Ok Tryz.prog 197 [.str s,.int .u8 c] (.sl (XL (QD s c))):=by
 refine Ok.n6 tfol Tryz.func197 Qva (QAk Z) ?_;show TW _ _ tf197.body _ _;refine aS ?_;refine Qt (ι:=Nat × Nat × List (List UInt8)) (λ⟨i,k,acc⟩=>⟨[(0,.str s),(1,.int .u8 c),(5,.s4 25 acc.length),(6,.int .i64 k),(7,.int .i64 i)],[(25,⟨XL acc,1,9,true⟩)]⟩) (λ⟨i,k,acc⟩=>r8 s c i k acc) (λ⟨i,k,acc⟩=>s.length - i) (0,0,[]) ?_ ?_ ?_;exact le_trans (Q8 5 25 1 9 Z Z) (Ql (l:=[0,1,5,6,7]) (lH:=[25]) (kp5 Z Z Z Z Z) (Qa Z Qb) Z Z Z);exact r8.zero;intro ⟨i,k,acc⟩ C;have O:=C.1;have M:=C.2.1;have G:=C.2.2.1;dsimp only;refine aB ?_ ?_;intro h1;refine aB ?_ ?_;intro h2;refine GF Z Z Z Wa Wa Wa Z (Qn Z Z (Zu Z Z (λ_ h=>ZN Z Z Z h) Z (by simp[XL]) Z Z Z Wb Wb (aK ?_)));refine Qc (i+1,i+1,acc++[(s.take i).drop k]) ?_ ?_ ?_;exact Ql (l:=[0,1,5,6,7]) (lH:=[25]) (kp5 Z Z Z Z Z) (Qa Z Qb) (by simp[XL,D.z2]) (by simp[XL,u4.z2]) Z;exact C.vf Wa Wa;omega;intro h2;refine Qc (i+1,k,acc) ?_ ?_ ?_;exact Ql (l:=[0,1,5,6,7]) (lH:=[25]) (kp5 Z Z Z Z Z) (Qa Z Qb) Wm Wm Z;exact C.mh Wa Wa;omega
 ·intro h1;refine GF Z Z Z Wa Wa Wa Z (Qn Z Z (Zu Z Z (λ_ h=>ZN Z Z Z h) Z (by simp[XL]) Z Z Z Wb Wb (aK ?_)));refine QM Z ?_;rw[C.done Wa];simp[XS,D.fz,D.n7,JS,lk,D.can,D.z6,XL]
theorem Jh (T:s.length<=1048576):Ok Tryz.prog 117 [.str s,.int .u8 c] (.sl (XL (QD s c))):=by
 refine Ok.n6 tfol Tryz.func117 Qup (QAk Z) ?_;show TW _ _ tf117.body _ _;refine aS ?_;refine Qt (ι:=Nat × Nat × List (List UInt8)) (λ⟨i,k,acc⟩=>⟨[(0,.str s),(1,.int .u8 c),(5,.s4 24 acc.length),(6,.int .i64 k),(9,.int .i64 s.length),(10,.int .i64 i)],[(24,⟨XL acc,1,9,true⟩)]⟩) (λ⟨i,k,acc⟩=>r8 s c i k acc) (λ⟨i,k,acc⟩=>s.length - i) (0,0,[]) ?_ ?_ ?_;exact le_trans (Q8 5 24 1 9 Z Z) (Ql (l:=[0,1,5,6,9,10]) (lH:=[24]) (kp6 Z Z Z Z Z Z) (Qa Z Qb) Z Z Z);exact r8.zero;intro ⟨i,k,acc⟩ C;have O:=C.1;have M:=C.2.1;have G:=C.2.2.1;dsimp only;refine aB ?_ ?_;intro h1;refine aB ?_ ?_;intro h2;refine GF Z Z Z Wa Wa Wa Z (Qn Z Z (Zu Z Z (λ_ h=>ZN Z Z Z h) Z (by simp[XL]) Z Z Z Wb Wb (aK ?_)));refine Qc (i+1,i+1,acc++[(s.take i).drop k]) ?_ ?_ ?_;exact Ql (l:=[0,1,5,6,9,10]) (lH:=[24]) (kp6 Z Z Z Z Z Z) (Qa Z Qb) (by simp[XL,D.z2]) (by simp[XL,u4.z2]) Z;exact C.vf Wa Wa;omega;intro h2;refine Qc (i+1,k,acc) ?_ ?_ ?_;exact Ql (l:=[0,1,5,6,9,10]) (lH:=[24]) (kp6 Z Z Z Z Z Z) (Qa Z Qb) Wm Wm Z;exact C.mh Wa Wa;omega
 ·intro h1;refine GF Z Z Z Wa Wa Wa Z (Qn Z Z (Zu Z Z (λ_ h=>ZN Z Z Z h) Z (by simp[XL]) Z Z Z Wb Wb (aK ?_)));refine QM Z ?_;rw[C.done Wa];simp[XS,D.fz,D.n7,JS,lk,D.can,D.z6,XL]
variable {a b:List UInt8}
theorem J2:Ok Tryz.prog 152 [.str s] (.bool false):=by
 refine Ok.n6 tfol Tryz.func152 QuI (QAk Z) ?_;show TW _ _ tf152.body _ _;refine aS ?_;simp
theorem Yp:Ok Tryz.prog 111 [.str a,.str b] (.int .i64 (Jb a b)):=by
 refine Ok.n6 tfol Tryz.func111 Quj (QAk Z) ?_;show TW _ _ tf111.body _ _;refine aS ?_;refine Qg (J2) Z Z (.inr Z) (aK ?_);refine Qg (J2) Z Z (.inr Z) (aB ?_ ?_);intro h1
 grind
 intro h1;refine aB ?_ ?_;intro M
 grind
 intro M;refine aR ?_ ?_;intro G
 grind [Jb]
 intro G;refine aB ?_ ?_;intro C
 grind [Jb]
 intro C
 grind [Jb]
theorem Fj:Ok Tryz.prog 253 [.str a,.str b] (.int .i64 (Jb a b)):=by
 refine Ok.n6 tfol Tryz.func253 Qvu (QAk Z) ?_;show TW _ _ tf253.body _ _;refine aX ?_ ?_;intro h1
 grind [Jb]
 intro h1;refine aB ?_ ?_;intro h2
 grind [Jb]
 intro h2
 grind [Jb]
theorem Fi:Ok Tryz.prog 136 [.int .u8 c] (.bool (XO c)):=by
 refine Ok.n6 tfol Tryz.func136 Quy (QAk Z) ?_;show TW _ _ tf136.body _ _;refine aX ?_ ?_;intro h1
 grind [XO]
 intro h1
 grind [XO]
theorem ZY (M:s.length<=1048576):Ok Tryz.prog 200 [.str s] (.bool (YE s)):=by
 refine Ok.n6 tfol Tryz.func200 Qvd (QAk Z) ?_;show TW _ _ tf200.body _ _;refine aS ?_;refine Qt (ι:=Nat) (λi=>⟨[(0,.str s),(3,.int .i64 i)],[]⟩) (λi=>i<=s.length/\(s.take i).all Y6=true) (λi=>s.length - i) 0 ?_ ?_ ?_;exact QB (kp2 Z Z);simp;intro i C;refine aB ?_ ?_;intro h1;refine aB ?_ ?_;intro h2;refine Qs Z (aK ?_);exact(GQ (i:=i) Wa Wq).symm;intro h2;refine aB ?_ ?_;intro G;exact(GQ (i:=i) Wa Wq).symm;intro G;refine Qc (i+1) ?_ ?_ ?_;exact QB (kp2 Z Z)
 grind [Q9,Y6]
 omega;intro h1;rw[Sh (i:=i) Wa C.2];cases s<;>simp
theorem Nj (hl:s.length<=1048576):Ok Tryz.prog 198 [.str s] (.bool (DR s)):=by
 refine Ok.n6 tfol Tryz.func198 Qvb (QAk Z) ?_;show TW _ _ tf198.body _ _;refine aX ?_ ?_;intro h1;refine Qs Z (aK ?_)
 (grind [DR])
 intro h1;refine aB ?_ ?_;intro h2
 (grind [DR])
 intro h2;refine Qt (ι:=Nat) (λi=>⟨[(0,.str s),(3,.int .i64 i)],[]⟩) (λi=>i<=s.length/\(s.take i).all Kl=true) (λi=>s.length - i) 0 ?_ ?_ ?_;exact QB (kp2 Z Z);simp;intro i hI;refine aB ?_ ?_;intro h3;refine aB ?_ ?_;intro h4;refine aB ?_ ?_;intro h5;refine aB ?_ ?_
 ·intro Y
  (have C:=Jv (p:=Kl) (s:=s) (i:=i) Wa (by grind [Kl]);simp[DR,C];done)
 intro Y;refine Qc (i+1) ?_ ?_ ?_;exact QB (kp2 Z Z)
 grind [Q9,Kl]
 omega;intro h5;refine aB ?_ ?_;intro V;refine aB ?_ ?_
 ·intro U
  (have C:=Jv (p:=Kl) (s:=s) (i:=i) Wa (by grind [Kl]);simp[DR,C];done)
 intro U
 grind
 intro V;refine QH Z (aK ?_);refine Qc (i+1) ?_ ?_ ?_;exact QB (kp2 Z Z)
 grind [Q9,Kl]
 omega;intro h4;refine aB ?_ ?_;intro T;refine aB ?_ ?_;intro O
 grind
 intro O;refine aB ?_ ?_;intro M;refine aB ?_ ?_
 ·intro G
  (have C:=Jv (p:=Kl) (s:=s) (i:=i) Wa (by grind [Kl]);simp[DR,C];done)
 intro G
 grind
 intro M
 grind
 intro T;refine QH Z (aK ?_);refine Qc (i+1) ?_ ?_ ?_;exact QB (kp2 Z Z)
 grind [Q9,Kl]
 omega;intro h3
 (grind [DR])
theorem Fu {a b:Int} {p q:List UInt8}:Ok Tryz.prog 115 [.agg [.int .i64 a,.int .i64 b,.int .i64 c,.str p,.str q]] (.agg [.int .i64 a,.int .i64 b,.int .i64 c,.str p,.str []]):=by
 refine Ok.n6 tfol Tryz.func115 Qun (QAk Z) ?_;show TW _ _ tf115.body _ _;refine aS ?_;refine Zg (cs:=[_,_,_,_,_]) Z Z Z Z ?_;rfl
theorem Jw {l:List Int} {i n:Int} (G:0<n/\n<=9223372036854775807) (C:∀x∈l, -9223372036854775808<=x/\x<=9223372036854775807):Ok Tryz.prog 50 [Qz l,.int .i64 i,.int .i64 n] (.int .i64 (FX l i n)):=by
 refine Ok.n6 tfol Tryz.func50 QzN (QAk Z) ?_;show TW _ _ tf50.body _ _;refine aS ?_;refine Qg (Mm) Z Z (.inr Z) (aK ?_);refine Qg (X2 G (QfJ C)) Z Z (.inr Z) (aK ?_);rfl
theorem _root_.Wn {p:Prop} (h:p:=by exact Z5 (by omega) (by omega)):p:=h
theorem Z7 (hl:s.length<=1048576):Ok Tryz.prog 199 [.str s] (.u7 [.int .i64 (ZF s).1,.bool (ZF s).2]):=by
 refine Ok.n6 tfol Tryz.func199 Qvc (QAk Z) ?_;show TW _ _ tf199.body _ _;refine aZ ?_;refine HO (ι:=Unit) (λ_u=>⟨[(0,.str s)],[]⟩) (λ_u=>¬(s.length<1\/9<s.length\/(1<s.length/\s.head?=some 48))) ?_ ?_
 skip
 refine aR ?_ ?_;intro h1
 try simp only[qB,XO,QAo,QAx]at h1
 refine aK ?_;refine Qs Z (aK ?_);refine QX Z Z ?_
 (rw[Qf3 (s:=s) Wa];trivial)
 intro h1
 try simp only[qB,XO,QAo,QAx]at h1
 refine aR ?_ ?_;intro h2
 try simp only[qB,XO,QAo,QAx]at h2
 refine aK ?_;refine Qs Z (aK ?_);refine QX Z Z ?_
 (rw[Qf3 (s:=s) Wa];trivial)
 intro h2
 try simp only[qB,XO,QAo,QAx]at h2
 refine aR ?_ ?_;intro T
 try simp only[qB,XO,QAo,QAx]at T
 refine aK ?_;refine Kw Z Z Wa (CJ (i:=0) Wa) (aR ?_ ?_);intro O
 try simp only[qB,XO,QAo,QAx]at O
 refine aK ?_;refine QX Z Z ?_
 (rw[Qcm (s:=s) Wa Wa];trivial)
 intro O
 try simp only[qB,XO,QAo,QAx]at O
 refine aK ?_;refine QT () ?_ ?_;exact QB (kp1 Z)
 grind [Qfs]
 intro T
 try simp only[qB,XO,QAo,QAx]at T
 refine aK ?_;refine QH Z (aK ?_);refine QT () ?_ ?_;exact QB (kp1 Z);omega;intro _u V;refine aK ?_;refine Qt (ι:=Nat) (λi=>⟨[(0,.str s),(4,.int .i64 (val (s.take i))),(5,.int .i64 i)],[]⟩) (λi=>i<=s.length/\(s.take i).all Y6=true/\s.length<=9) (λi=>s.length - i) 0 ?_ ?_ ?_;exact QB (kp3 Z Z Z)
 grind
 intro i U;have Y:=Qhj (s:=s.take i) U.2.1;have hp:10 ^ (s.take i).length<=10 ^ 9:=QBB Wa Wb;refine aR ?_ ?_;intro M
 try simp only[qB,XO,QAo,QAx]at M
 refine aK ?_;refine Qg (Fi) Z Z (.inr Z) (aR ?_ ?_);intro G
 try simp only[qB,XO,QAo,QAx]at G
 refine aK ?_;refine QX Z Z ?_
 (rw[L3 (s:=s) (i:=i) Wa Wq];trivial)
 intro G
 try simp only[qB,XO,QAo,QAx]at G
 refine aK ?_;refine QoX Z Z Wn (aK ?_);refine QjG Z Wn (aK ?_);refine Qc (i+1) ?_ ?_ ?_;exact Ql (l:=[0,4,5]) (kp3 Z Z Z) Qb (by grind [Qc0]) Z Z
 grind [Q9,Y6]
 omega;intro M
 try simp only[qB,XO,QAo,QAx]at M
 refine aR ?_ ?_;intro C
 try simp only[qB,XO,QAo,QAx]at C
 refine aK ?_;refine QX Z Z ?_
 (rw[QmN (s:=s) (i:=i) Wa Wa];trivial)
 intro C
 try simp only[qB,XO,QAo,QAx]at C
 refine aK ?_;refine QX Z Z ?_
 (rw[Qkk (s:=s) (i:=i) V Wa U.2.1 Wa];trivial)
theorem Ni (ha:a.length<=1048576) (hb:b.length<=1048576):Ok Tryz.prog 227 [.str a,.str b] (.int .i64 (QaH a b)):=by
 refine Ok.n6 tfol Tryz.func227 Qvn (QAk Z) ?_;show TW _ _ tf227.body _ _;refine aS ?_;refine Qg (ZY Wa) Z Z (.inr Z) (aK ?_);refine Qg (ZY Wa) Z Z (.inr Z) (aR ?_ ?_);intro h1;refine aR ?_ ?_;intro h2;refine Qg (Z7 Wa) Z Z (.inr Z) (aK ?_);refine Qg (Z7 Wa) Z Z (.inr Z) (aK ?_);refine Qg (QV) Z Z (.inr Z) (aK ?_)
 grind [QaH]
 intro h2;refine Qs Z (aK ?_)
 grind [QaH]
 intro h1;refine QH Z (aK ?_);refine QH Z (aR ?_ ?_);intro C
 grind [QaH]
 intro C;refine Qg (Fj) Z Z (.inr Z) (aK ?_)
 grind [QaH]
theorem FT (ha:a.length<=1048576) (hb:b.length<=1048576):Ok Tryz.prog 190 [.str a,.str b] (.int .i64 (Pw a b)):=by
 refine Ok.n6 tfol Tryz.func190 Qu3 (QAk Z) ?_;show TW _ _ tf190.body _ _;refine aX ?_ ?_;intro h1
 try simp only[qB,Qk]at h1
 refine aK ?_
 grind [Pw]
 intro h1
 try simp only[qB,Qk]at h1
 refine aR ?_ ?_;intro h2
 try simp only[qB,Qk]at h2
 refine aK ?_
 grind [Pw]
 intro h2
 try simp only[qB,Qk]at h2
 refine aR ?_ ?_;intro O
 try simp only[qB,Qk]at O
 refine aK ?_
 grind [Pw]
 intro O
 try simp only[qB,Qk]at O
 refine aK ?_;refine Qg (Ys Wa) Z Z (.inl Z) (aK ?_);refine Qg (Ys Wa) Z Z (.inl Z) (aK ?_);refine Qt (ι:=Nat) (λi=>⟨[(5,.sl (XL (QD a 46))),(6,.sl (XL (QD b 46))),(7,.int .i64 i)],[]⟩) (λi=>i<=(QD a 46).length/\i<=(QD b 46).length/\Pw a b=Qca ((QD a 46).drop i) ((QD b 46).drop i)) (λi=>(QD a 46).length - i) 0 ?_ ?_ ?_;exact QB (kp3 Z Z Z)
 (repeat clear hK K);simp_all [Pw]
 intro i T;have sl:=N5 (s:=a) (c:=46);refine aR ?_ ?_;intro M
 try simp only[qB,Qk]at M
 refine aR ?_ ?_;intro G
 try simp only[qB,Qk]at G
 refine aK ?_;refine Qr (ds0:=[0]) (Ni (Jl Wa ha) (Jl Wa hb)) Z Z (.inr Z) Z Z (aR ?_ ?_);intro C
 try simp only[qB,Qk]at C
 refine aK ?_
 grind [Qcb]
 intro C
 try simp only[qB,Qk]at C
 refine aK ?_;refine Qc (i+1) ?_ ?_ ?_;exact QB (kp3 Z Z Z)
 grind [CU]
 omega;intro G
 try simp only[qB,Qk]at G
 refine aK ?_;refine Qg (QV) Z Z (.inr Z) (aK ?_)
 (grind [PQ,Qk])
 intro M
 try simp only[qB,Qk]at M
 refine aK ?_;refine QH Z (aK ?_);refine Qg (QV) Z Z (.inr Z) (aK ?_)
 (grind [PQ,Qk])
theorem Jz {s:List UInt8} {pre:Bool} (C:s.length<=1048576):Ok Tryz.prog 162 [.str s,.bool pre] (.bool (MF s pre)):=by
 refine Ok.n6 tfol Tryz.func162 QuS (QAk Z) ?_;show TW _ _ tf162.body _ _;refine aX ?_ ?_;intro h1
 try simp only[qB,Qk]at h1
 refine aK ?_
 grind [MF]
 intro h1
 try simp only[qB,Qk]at h1
 refine aK ?_;refine Qg (Ys Wa) Z Z (.inl Z) (aR ?_ ?_);intro h2
 try simp only[qB,Qk]at h2
 refine aK ?_
 (grind [MF])
 intro h2
 try simp only[qB,Qk]at h2
 refine aK ?_;refine Qt (ι:=Nat) (λi=>⟨[(1,.bool pre),(5,.sl (XL (QD s 46))),(6,.int .i64 i)],[]⟩) (λi=>i<=(QD s 46).length/\((QD s 46).take i).all (SH pre)=true) (λi=>(QD s 46).length - i) 0 ?_ ?_ ?_;exact QB (kp3 Z Z Z);simp;intro i V;refine aR ?_ ?_;intro O
 try simp only[qB,Qk]at O
 refine aK ?_;refine Qg (Nj (Jl Wa C)) Z Z (.inr Z) (aR ?_ ?_);intro M
 try simp only[qB,Qk]at M
 refine aK ?_;exact(Qcd (i:=i) Wa Wa (by grind [SH])).symm;intro M
 try simp only[qB,Qk]at M
 refine aK ?_;refine Qg (Z7 (Jl Wa C)) Z Z (.inr Z) (aR ?_ ?_);intro U;refine Qg (ZY (Jl Wa C)) Z Z (.inr Z) (aR ?_ ?_);intro T;refine aR ?_ ?_;intro G
 try simp only[qB,Qk]at G
 refine aK ?_;exact(Qcd (i:=i) Wa Wa (by grind [SH])).symm;intro G
 try simp only[qB,Qk]at G
 refine aK ?_;refine Qc (i+1) ?_ ?_ ?_;exact Ql (l:=[1,5,6]) (kp3 Z Z Z) Qb Wb Z Z
 grind [Q9,SH]
 omega;intro T;refine QH Z (aK ?_);refine Qc (i+1) ?_ ?_ ?_;exact Ql (l:=[1,5,6]) (kp3 Z Z Z) Qb Wb Z Z
 grind [Q9,SH]
 omega;intro U;refine QH Z (aK ?_);refine Qc (i+1) ?_ ?_ ?_;exact Ql (l:=[1,5,6]) (kp3 Z Z Z) Qb Wb Z Z
 grind [Q9,SH]
 omega;intro O
 try simp only[qB,Qk]at O
 refine aK ?_
 grind [QfQ]
theorem Qv {a b c:Int} {p q:List UInt8} (hp:p.length<=1048576) (M:q.length<=1048576):Ok Tryz.prog 123 [.agg [.int .i64 a,.int .i64 b,.int .i64 c,.str p,.str q]] (.bool (JK a b c p q)):=by
 refine Ok.n6 tfol Tryz.func123 Quv (QAk Z) ?_;show TW _ _ tf123.body _ _;refine aS ?_;refine Qg (Y2) Z Z (.inr Z) (aR ?_ ?_);intro h1;refine Qg (Y2) Z Z (.inr Z) (aR ?_ ?_);intro h2;refine Qg (Y2) Z Z (.inr Z) (aR ?_ ?_);intro G;refine Qg (Jz Wa) Z Z (.inr Z) (aR ?_ ?_);intro C;refine Qg (Jz Wa) Z Z (.inr Z) (aK ?_)
 grind [JK]
 intro C
 grind [JK]
 intro G
 grind [JK]
 intro h2
 grind [JK]
 intro h1
 grind [JK]
theorem MY {l:List Int} (G:l.length<=1048576):Ok Tryz.prog 110 [Qz l] (.int .i64 (ZA l)):=by
 refine Ok.n6 tfol Tryz.func110 Qui (QAk Z) ?_;show TW _ _ tf110.body _ _;refine aS ?_;refine Qt (ι:=Nat) (λi=>⟨[(3,.int .i64 0),(6,Qz l),(7,.int .i64 l.length),(8,.int .i64 i)],[]⟩) (λi=>i<=l.length/\ZA l=ZA (l.drop i)) (λi=>l.length - i) 0 ?_ ?_ ?_;exact Ql (l:=[3,6,7,8]) (kp4 Z Z Z Z) Qb Wc Z Z;simp;intro i C;refine aB ?_ ?_;intro h1;refine aB ?_ ?_;intro h2
 grind [Qao]
 intro h2;refine Qc (i+1) ?_ ?_ ?_;exact QB (kp4 Z Z Z Z)
 grind [Cx]
 omega;intro h1
 (rw[C.2,QAF Wa];rfl)
end Go.Proofs
