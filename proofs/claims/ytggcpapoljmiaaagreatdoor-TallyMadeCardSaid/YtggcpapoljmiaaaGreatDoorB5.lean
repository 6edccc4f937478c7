/- Part 5 of the means of the proof: a verified abstract evaluator and contracts of functions. It states nothing of the claim by itself. -/
import Derived.Test.YtggcpapoljmiaaaGreatDoorB4
import Derived.KernelRfl
set_option maxRecDepth 4000
set_option maxHeartbeats 1000000
set_option linter.unusedSimpArgs false
set_option linter.unusedVariables false
set_option linter.unusedSectionVars false
namespace Go.Abs
open Go
variable {N nt:Nat} {P:Program} {X:z5} {a:AS} {f μ ν0:List Int} {s:St}
def rcL:List Nat:=[1,4,5,10,26,27,28,32,33,34]
def rc3 (f:Nat):List u3:=[⟨some 40,.wb (.s 4),none⟩,⟨some 41,.fieldAddr 0 (.s 10),none⟩,⟨some 42,.load true 2 (.s 41),none⟩,⟨some 43,.call f [.s 40,.s 42],none⟩,⟨some 44,.len (.s 43),none⟩,⟨some 45,.wb (.s 11),none⟩,⟨some 46,.bin .gtr false (.s 44) (.s 45),none⟩]
def rc4 (f:Nat):List u3:=[⟨some 47,.wb (.s 4),none⟩,⟨some 48,.fieldAddr 0 (.s 10),none⟩,⟨some 49,.load true 2 (.s 48),none⟩,⟨some 50,.call f [.s 47,.s 49],none⟩,⟨some 4,.wb (.s 50),none⟩]
def rcM (f:Nat) (last:z5):z5:=.seq (.region false (rc3 f)) (rcL++[46]) (.cond (.s 46) (.seq (.region false (rc4 f)) rcL last) .skip)
def rcF (a:AS):AS:=Br (rcL++[46]) ⟨(46,cB false)::a.fr,a.H,a.cs,a.nx⟩
def rcT (a:AS) (x:Nat) (o:Int):AS:=Br rcL ⟨(4,.ll F9 x (o+1))::a.fr,a.H,a.cs,a.nx⟩
def rcO (run:AS->Option Out) (a:AS):Option Out:=
 match lk a.fr 4,lk a.fr 10,lk a.fr 11,lk a.H 10 with
 |some (.ll row x o),some (.rr 10 0),some (.nn .i64 y u),some (.cc (k0::k1::_) _ _)=>if(Tp.pb row F9=true/\Qau a k0 (.s 100)=true/\Qau a k1 (.s 100)=true)/\(Nat.beq x y=true/\decide (o=u)=true)/\(Ju a.cs 0 0 x o=true/\Ju a.cs x o 0 10000=true)then(match run (rcT a x o)with
   |some out=>some ((.normal,rcF a)::out)
   |none=>none)else none
 |_,_,_,_=>none
theorem K4:∀(l:List Nat) (H:QEg) (k:Nat),lk (Zf l H) k=if l.contains k=true then lk H k else none
 |[],H,k=>rfl
 |t::l,H,k=>by
  unfold Zf
  by_cases e:t=k
  subst e;have C:(t::l).contains t=true:=by simp
  rw[if_pos C];cases h:lk H t with
  |none=>
   show lk (Zf l H) t=none;rw[K4 l H t,h];simp
  |some d=>show lk ((t,d)::Zf l H) t=some d;rw[Qz,if_pos rfl]
  have C:(t::l).contains k=l.contains k:=by
   grind
  rw[C];cases h:lk H t with
  |none=>exact K4 l H k
  |some d=>show lk ((t,d)::Zf l H) k=_;rw[Qz,if_neg e];exact K4 l H k
theorem G6 {f g:QEg}:∀{l:List Nat},(∀t∈l,lk f t=lk g t)->Zf l f=Zf l g
 |[],_=>rfl
 |t::l,h=>by
  unfold Zf;rw[h t Wd,G6 λu hu=>h u (QFr _ hu)]
def cPut:Ct:=⟨[.ll F9 1 0,.aa [.ty (.s 100),.ty (.s 100)]],2,[(0,1,0),(1,0,10000)],.ll F9 2 0,3,[(1,2,0),(2,1,1)]⟩
theorem QtI {f:Nat} (hc:cPut.ok P f) {last:z5} {run:AS->Option Out} (hrun:∀{a:AS} {o:Out} {ν:List Int} {s:St},a.ok ν s->run a=some o->TX P nt last (y9 ν o) s) {a:AS} {out:Out} {ν:List Int} {s:St} (h:a.ok ν s) (he:rcO run a=some out):TX P nt (rcM f last) (y9 ν out) s:=by
 unfold rcO at he;split at he;rename_i row x o y u k0 k1 ks et pr e4 e10 e11 eH;split at he;rename_i hh;split at he;rename_i V er;cases he
 obtain⟨⟨c1,c2,c3⟩,⟨c4,c5⟩,c6,c7⟩:=hh;obtain⟨fr,H⟩:=s;obtain⟨d4,l4,v4⟩:=RL.get h.fr e4;obtain⟨d10,Y,v10⟩:=RL.get h.fr e10;obtain⟨d11,l11,n,rfl,v11⟩:=RL.get h.fr e11;simp only[Vl.has]at v10;subst v10;obtain⟨b,lH,ds,rfl,q0,ds1,rfl,hk0,q1,ds2,rfl,hk1,hks⟩:=RL.get h.H eH;obtain⟨U,rfl,hs0⟩:=Pb h c2 hk0;obtain⟨s1,rfl,hs1⟩:=Pb h c3 hk1;obtain⟨rows,hl,hv,hr⟩:=v4;have y1:=QFG c4;have y2:=of_decide_eq_true c5;subst y1 y2;have b0:=QX h.cs c6 (XJ h.z 0) hv;have b1:=QX h.cs c7 hv (XJ h.z 10000);have hn:n=rows.length:=k7.inj v11 hv;have ha4:∀T:QEg,XX ⟨T,H⟩ d4=.sl rows:=λT=>by rcases hl with rfl |rfl<;>rfl
 have hpu:d4.pure=true:=by rcases hl with rfl |rfl<;>rfl
 obtain⟨e,d,r1,r2,⟨rws,hd,⟨z,hz,hz2⟩,hrw⟩,hok⟩:=hc [0,(rows.length:Int)] [.sl rows,.agg [.str U,.str s1]] rfl rfl (λc hm=>by
   simp only[cPut,QEk,QEj,or_false]at hm;rcases hm with rfl |rfl
   exact⟨0,_,rfl,rfl,by simp⟩;exact⟨_,0,rfl,rfl,by grind⟩)
  ⟨_,_,rfl,⟨rows,.inl rfl,⟨_,rfl,Wa⟩,λr hr2=>Tp.w7 c1 (hr r hr2)⟩,_,_,rfl,⟨_,rfl,_,_,rfl,⟨U,rfl,hs0⟩,_,[],rfl,⟨s1,rfl,hs1⟩,rfl⟩,rfl⟩
 have hz3:rows.length<=z:=by
  obtain⟨p,q,g1,g2,g3⟩:=r2 (1,2,0) Wf
  grind
 have hz4:z<=rows.length+1:=by
  obtain⟨p,q,g1,g2,g3⟩:=r2 (2,1,1) Wf
  grind
 have hlen:QgQ d=some (rws.length:Int):=by rcases hd with rfl |rfl<;>rfl
 have O:(lk H 10).isSome=true:=by grind
 have hat:∀T:QEg,St.md ⟨T,H⟩ (.ref 10 0 (0+0))=some (.str U::.str s1::ds2):=λT=>by grind [St.md]
 have h3:∀b:Bool,(decide (n<(rws.length:Int)))=b->TX P nt (.cond (.s 46) (.seq (.region false (rc4 f)) rcL last) .skip) (y9 ν ((.normal,rcF a)::V)) ⟨Zf (rcL++[46]) ((46,.bool b)::fr),H⟩:=λb hb=>by
  have g:∀t,(rcL++[46]).contains t=true->lk (Zf (rcL++[46]) ((46,.bool b)::fr)) t=lk ((46,.bool b)::fr) t:=λt M=>by rw[K4,if_pos M]
  obtain⟨G,C⟩:∃G,G=Zf (rcL++[46]) ((46,.bool b)::fr):=⟨_,rfl⟩;refine Py (t:=b) (g 46 rfl) (λM=>?_) (λM=>?_);subst M;have g4:lk G 4=some d4:=by rw[C,g 4 rfl];exact l4
  have g10:lk G 10=some (.ref 10 0 0):=by rw[C,g 10 rfl];exact Y
  rw[<- C];refine HC λK hK=>Qb (d:=d4) g4 (Qe (kk:=10) (i:=0) (j:=0) (off:=0) g10 O (QB (p:=.ref 10 0 (0+0)) (cs:=[.str U,.str s1]) rfl (hat _) rfl rfl (QA (ds:=[d4,.agg [.str U,.str s1]]) hok rfl (by simp only[QEW,QFx,ha4];rfl) (.inl (by simp only[QFk,List.all_nil,hpu];rfl)) (Qb (d:=d) rfl (hK _ _ ?_)))))
  have ek:Zf rcL ((4,d)::(50,d)::(49,D.agg [.str U,.str s1])::(48,D.ref 10 0 (0+0))::(47,d4)::G)=Zf rcL ((4,d)::fr):=G6 λt M=>by
   simp only[rcL,QEk,QEj,or_false]at M
   rcases M with rfl |rfl |rfl |rfl |rfl |rfl |rfl |rfl |rfl |rfl<;>first
    |rfl
    |(show lk G _=lk fr _;rw[C];exact g _ rfl)
  rw[ek]
  have hA:(⟨(4,.ll F9 x (o+1))::a.fr,a.H,a.cs,a.nx⟩:AS).ok ν ⟨(4,d)::fr,H⟩:=by
   have:=of_decide_eq_true hb;refine⟨⟨d,fr,rfl,⟨rws,hd, ?_,hrw⟩,h.fr⟩,h.H,h.cs,h.nx,h.z⟩;have e2:(rws.length:Int)=rows.length+1:=Wa;rw[e2];exact hv.up 1
  exact Y1 (λe2 s2 ⟨a2,hm,f2,h2⟩=>⟨a2,QFr _ hm,f2,h2⟩) (hrun (FC hA rcL) er);subst M;have hA:(⟨(46,cB false)::a.fr,a.H,a.cs,a.nx⟩:AS).ok ν ⟨(46,.bool false)::fr,H⟩:=⟨⟨.bool false,fr,rfl,Qjy false,h.fr⟩,h.H,h.cs,h.nx,h.z⟩;exact NM ⟨rcF a,by simp,[],by rw[QEN];exact FC hA _⟩
 unfold rcM;refine HC λK hK=>Qb (d:=d4) l4 (Qe (kk:=10) (i:=0) (j:=0) (off:=0) Y O (QB (p:=.ref 10 0 (0+0)) (cs:=[.str U,.str s1]) rfl (hat _) rfl rfl (QA (ds:=[d4,.agg [.str U,.str s1]]) hok rfl (by simp only[QEW,QFx,ha4];rfl) (.inl (by simp only[QFk,List.all_nil,hpu];rfl)) (QW (p:=d) rfl hlen (Qb (d:=.int .i64 n) l11 (Jh rfl rfl (hK _ _ ?_)))))))
 have ek:Zf (rcL++[46]) ((46,D.bool (decide (n<(rws.length:Int))))::(45,D.int .i64 n)::(44,D.int .i64 rws.length)::(43,d)::(42,D.agg [.str U,.str s1])::(41,D.ref 10 0 (0+0))::(40,d4)::fr)=Zf (rcL++[46]) ((46,.bool (decide (n<(rws.length:Int))))::fr):=G6 λt M=>by
  simp only[rcL,QFi,QFJ,QEk,QEj,or_false]at M;rcases M with rfl |rfl |rfl |rfl |rfl |rfl |rfl |rfl |rfl |rfl |rfl<;>rfl
 all_goals grind
theorem Qe6 {c:z5} {Q:AExit->St->Prop} (h:TX P nt c (λe s=>∃s2,s.le s2/\Q e s2) s):TX P nt c Q s:=by
 obtain⟨e,s1,⟨s2,hle,C⟩,G⟩:=h;exact⟨e,s2,C,RG (Z8 (λe2 t ⟨p,q⟩=>by grind) G)⟩
def rcA:List u3:=[⟨some 36,.indexAddr 4 (.s 32) (.s 34),none⟩,⟨some 37,.load true 4 (.s 36),none⟩,⟨some 10,.alloc 224 [.str [],.str [],.u7 [],.u7 []],none⟩,⟨none,.store 4 (.s 10) (.s 37),none⟩]
def rcB:List u3:=[⟨some 38,.wb (.s 4),none⟩,⟨some 39,.len (.s 38),none⟩,⟨some 11,.wb (.s 39),none⟩]
def rcC:z5:=.region false [⟨some 51,.wb (.s 5),none⟩,⟨some 52,.fieldAddr 0 (.s 10),none⟩,⟨some 53,.load true 2 (.s 52),none⟩,⟨some 54,.buildSlice 2 170 [.s 53],none⟩,⟨some 55,.append 2 170 32 (.s 51) (.s 54),none⟩,⟨some 5,.wb (.s 55),none⟩]
def Qxx:List Nat:=[1,4,5,10,11,26,27,28,32,33,34]
def rc5 (f:Nat):z5:=.seq (.region false rcA) rcL (.seq (.region false rcB) Qxx (rcM f rcC))
def QuN:Option Out->Option AS
 |some [(.normal,a)]=>some a
 |_=>none
theorem Qhh {o:Option Out} (h:QuN o=some a):o=some [(.normal,a)]:=by
 unfold QuN at h
 grind
def Qxy (tb:Tb) (an:An) (id:Nat) (a:AS):Option Out:=
 match Nat.beq id 5 with
 |true=>(match QuN (Qd3 tb an (.region false rcA) none a)with
  |some a1=>(match QuN (Qd3 tb an (.region false rcB) none (Br rcL a1))with
   |some a2=>rcO (Qd3 tb an rcC none) (Br Qxx a2)
   |none=>none)
  |none=>none)
 |false=>none
theorem Qpc {f:Nat} (U:cPut.ok P f) {tb:Tb} (G:tb.ok P) (C:tb.fg P) {an:An} {B:List (Nat × z5)} (V:B.filter (λp=>Nat.beq p.1 5)=[(5,rc5 f)]) (id:Nat) (x:z5) (a:AS) (o:Out) (ν:List Int) (s:St) (hm:(id,x)∈B) (he:Qxy tb an id a=some o) (h:a.ok ν s):TX P nt x (y9 ν o) s:=by
 unfold Qxy at he;split at he;rename_i M;have hx:(id,x)∈B.filter (λp=>Nat.beq p.1 5):=QFF.2 ⟨hm,M⟩;rw[V,QEr]at hx;cases hx
 split at he;rename_i a1 e1;split at he;rename_i a2 e2;refine QaD (Y1 (λe s' ⟨b,hb,g,Y⟩=>?_) (P4 G C h (Qhh e1)));rw[QEr]at hb;cases hb;refine Y1 (λe s' ⟨b,hb,g2,O⟩=>⟨b,hb,g++g2,by grind⟩) (?_:TX P nt _ (y9 (ν++g) o) _);refine QaD (Y1 (λe s' ⟨b,hb,g2,O⟩=>?_) (P4 G C (FC Y rcL) (Qhh e2)));rw[QEr]at hb;cases hb;refine Y1 (λe s' ⟨b,hb,g3,h3⟩=>⟨b,hb,g2++g3,by grind⟩) (?_:TX P nt _ (y9 (ν++g++g2) o) _);exact QtI U (λh e=>P4 G C h e) (FC O Qxx) he
 all_goals grind
structure Hx where
 fr:List (Nat × Vl)
 H:List (Nat × Bx)
 cs:List Cn
 k:Nat
variable {J:Nat->Hx} {x:Hx}
def Hx.az (x:Hx) (n0:Nat) (c0:List Cn):AS:=⟨x.fr,x.H,x.cs++c0,n0+x.k⟩
def Hx.fits (x:Hx) (n0:Nat) (c0:List Cn) (a:AS):Bool:=(Ml a (x.az n0 c0) n0 x.k x.cs).isSome
theorem Hx.sd {c0:List Cn} (h:a.ok (ν0++f) s) (h0:k8 ν0 c0) (z:ν0[0]?=some 0) (he:x.fits ν0.length c0 a=true):∃μ s2,s.le s2/\(x.az ν0.length c0).ok (ν0++μ) s2:=by
 obtain⟨⟨σ,M⟩,e⟩:=QEo.1 he;obtain⟨g,μ,s2,_,_,G,C⟩:=HU h e rfl rfl h0 z
 grind
def QeG (run:AS->Option Out) (n0:Nat) (c0:List Cn) (J:Nat->Hx) (E:AExit->Option Hx) (N p:Nat):Bool:=
 match run ((J p).az n0 c0)with
 |some o=>o.all λq=>match q.1 with
  | .normal=>Nat.blt p N&&(J (p+1)).fits n0 c0 q.2
  |e=>match E e with
   |some x=>x.fits n0 c0 q.2
   |none=>false
 |none=>false
theorem QhT {run:AS->Option Out} {c0:List Cn} {E:AExit->Option Hx} (C:∀{a:AS} {o:Out} {ν:List Int} {s:St},a.ok ν s->run a=some o->TX P nt X (y9 ν o) s) (Y:∀p,p<=N->QeG run ν0.length c0 J E N p=true) (h0:k8 ν0 c0) (z:ν0[0]?=some 0) {s:St} (h:((J 0).az ν0.length c0).ok (ν0++μ) s):
  TX P nt (.loop X) (λe s=>∃x μ,E e=some x/\(x.az ν0.length c0).ok (ν0++μ) s) s:=by
 refine Qe6 (QbT (ι:=Nat × List Int × St) (λi=>i.2.2) (λi=>i.1<=N/\((J i.1).az ν0.length c0).ok (ν0++i.2.1) i.2.2) (λi=>N+1 - i.1) (0,μ,s) (le_refl s) ⟨QEu _,h⟩ λ⟨p,μ,s⟩ ⟨hp,O⟩=>?_);have M:=Y p hp;unfold QeG at M;split at M;rename_i o e1;refine Y1 (λe s' ⟨a,hm,f,T⟩=>?_) (C O e1);have G:=QEs.1 M _ hm;rw[QFa]at T
 have other:∀e,(match E e with
  |some x=>x.fits ν0.length c0 a
  |none=>false)=true->∃s2,s'.le s2/\∃x μ,E e=some x/\(x.az ν0.length c0).ok (ν0++μ) s2:=λe G=>by
  grind [Hx.sd]
 cases e with
 |normal=>
  simp only[QEm]at G;obtain⟨b1,b2⟩:=G;obtain⟨μ2,s2,V,U⟩:=Hx.sd T h0 z b2;have b1:p<N:=by simp_all
  exact⟨(p+1,μ2,s2),V,⟨b1,U⟩,by grind⟩
 |exit i=>exact other _ G
 |ret=>exact other _ G
 grind
def shS (n0 n k:Nat):Sg:=Qja 0 n0++Qja n k
def Hx.sh (x:Hx) (n0:Nat) (c0:List Cn) (n:Nat):AS:=⟨x.fr.map λp=>(p.1,p.2.sub (shS n0 n x.k)),x.H.map λp=>(p.1,p.2.sub (shS n0 n x.k)),(x.cs++c0).map (Cn.sub (shS n0 n x.k)),n+x.k⟩
theorem Hx.jh {c0:List Cn} (h:(x.az ν0.length c0).ok (ν0++μ) s) (z:ν0[0]?=some 0):(x.sh ν0.length c0 (ν0++f).length).ok (ν0++f++μ) s:=by
 have hk:μ.length=x.k:=by have:=h.nx;grind [Hx.az]
 have C:Sg.y7 (ν0++f++μ) (ν0++μ) (shS ν0.length (ν0++f).length x.k):=by
  refine Hb ?_ ?_;have:=HZ (ν:=[]) (e:=ν0);have:=Jw (f++μ) this
  grind
  grind [HZ]
 have hσ:=Gu C;refine⟨RL.xf (λv d q=>Vl.ga hσ q) h.fr,RL.xf (λb y q=>Bx.ga hσ q) h.H,h.cs.sub hσ,by grind [Hx.sh], ?_⟩
 grind
def QuZ (c0:List Cn) (n0:Nat) (J0:Hx) (E:List (AExit × Hx)) (id:Nat) (a:AS):Option Out:=
 match Nat.beq id 0 with
 |true=>if Nat.ble n0 a.nx=true/\(c0.all λc=>(Nat.ble (c.1+1) n0&&Nat.ble (c.2.1+1) n0)&&QnW a.cs c.1 c.2.1 c.2.2)=true/\J0.fits n0 c0 a=true then some (E.map λp=>(p.1,p.2.sh n0 c0 a.nx))else none
 |false=>none
theorem Qpd {run:AS->Option Out} {c0:List Cn} {n0:Nat} {E:List (AExit × Hx)} {F:AExit->Option Hx} {B:List (Nat × z5)} (hF:∀e x,F e=some x->(e,x)∈E) (h1:0<n0) (C:∀{a:AS} {o:Out} {ν:List Int} {s:St},a.ok ν s->run a=some o->TX P nt X (y9 ν o) s) (hN:∀p,p<=N->QeG run n0 c0 J F N p=true) (hB:B.filter (λp=>Nat.beq p.1 0)=[(0,.loop X)]) (id:Nat) (x:z5) (a:AS) (o:Out) (ν:List Int) (s:St) (hm:(id,x)∈B) (he:QuZ c0 n0 (J 0) E id a=some o) (h:a.ok ν s):TX P nt x (y9 ν o) s:=by
 unfold QuZ at he;split at he;rename_i O;have hx:(id,x)∈B.filter (λp=>Nat.beq p.1 0):=QFF.2 ⟨hm,O⟩;rw[hB,QEr]at hx;cases hx
 split at he;rename_i V;cases he
 obtain⟨b1,b2,b3⟩:=V;have b1:=QEi b1;have hl:=h.nx;obtain⟨ν0,f,rfl,U⟩:∃ν0 f,ν=ν0++f/\ν0.length=n0:=⟨ν.take n0,ν.drop n0,(QES _ _).symm,by grind⟩;subst U;have z:ν0[0]?=some 0:=by have:=h.z;grind
 have G:k8 ν0 c0:=λc Y=>by
  have:=QEs.1 b2 c Y;simp only[QEm]at this;obtain⟨⟨g1,g2⟩,g3⟩:=this;have g1:=QEi g1;have g2:=QEi g2;have e1:ν0[c.1]?=some (ν0[c.1]):=QE8 Wa;obtain⟨w,M,T⟩:=HM h.cs g3 (Kr f e1);rw[QFg Wa]at M;exact⟨_,w,e1,M,T⟩
 obtain⟨μ,s2,hle,h4⟩:=Hx.sd h G z b3;refine Qrl hle (Y1 (λe s' ⟨y,μ2,M,T⟩=>?_) (QhT (λh e=>C h e) hN G z h4));refine⟨_,QEw.2 ⟨(e,y),hF e y M,rfl⟩,μ2, ?_⟩
 grind [Hx.jh]
 grind
 grind
end Go.Abs
namespace Go.Proofs
open Go Go.Abs
set_option maxRecDepth 100000
set_option maxHeartbeats 0
def tfR (P:Program):o6:=match P.funcs[97]? with
 |some fn=>(match QT P fn with
  |some af=>tfN af
  |none=>⟨0,[],.skip⟩)
 |none=>⟨0,[],.skip⟩
def Qfp (P:Program):z5:=match Hf (tfR P).body with
 |(_,.loop x)::_=>x
 |_=>.skip
def Qu5 (P:Program) (a:AS):Option Out:=match Qfp P with
 |x=>JL (Qxy tbR anR) tbR anR x none a
def yBx:Nat × Bx:=(1,.cc ([.ll Qen 1 0,.ll H5 2 0]++tyV S6++[.ll Qdf 3 0,.ll QhJ 4 0,.rr 1000000 0]) 127 false)
def JR (p:Nat):Hx:=⟨[(1,.rr 1 0),(4,.ll F9 6 0),(5,.oo 55 7 0)],[(55,.ww F9 7 0 2 170),yBx]++bZ 8,[(6,7,(p:Int)),(7,6, -(p:Int)),(0,7,0),(0,6, -1),(6,0,48),(5,8,0),(8,5,(p:Int))],3⟩
def xE:Hx:=⟨[(4,.ll F9 6 0)],bZ 7,[(0,6, -1),(6,0,48),(5,7,0),(7,5,49)],2⟩
def xR:Hx:=⟨[(2,.ll F9 6 0),(3,.bf [Qfk] [])],bZ 7,[(0,6,0),(6,0,48),(5,7,0),(7,5,50)],2⟩
def eR:List (AExit × Hx):=[(.exit 0,xE),(.ret,xR)]
def fR:AExit->Option Hx
 | .exit i=>if i=0 then some xE else none
 | .ret=>some xR
 | .normal=>none
theorem QsE (e:AExit) (x:Hx) (h:fR e=some x):(e,x)∈eR:=by
 unfold fR at h
 grind [eR]
theorem Qz3:(Hf (tfR Tryz.prog).body).filter (λp=>Nat.beq p.1 0)=[(0,.loop (Qfp Tryz.prog))]:=by rfl
theorem Qz4:(Hf (Qfp Tryz.prog)).filter (λp=>Nat.beq p.1 5)=[(5,rc5 138)]:=by kernel_rfl
def stR (P:Program) (l:List Nat):Bool:=l.all λp=>QeG (Qu5 P) 6 zR.cs JR fR 48 p
def Qzk (P:Program):Bool:=match P.funcs[97]? with
 |some fn=>(match QT P fn with
  |some af=>(match tfN af with
   |tf=>(Nat.ble zR.az.length tf.nt&&zcB zR)&&((QrD anR.oy ⟨MQ 0 zR.az,zR.bs,zR.cs,zR.nx⟩).all λa=>match JL (QuZ zR.cs 6 (JR 0) eR) tbR anR tf.body none a with
    |some outs=>outs.all (Qf8 zR tf.rs)
    |none=>false))
  |none=>false)
 |none=>false
theorem QBY:stR Tryz.prog (List.range' 0 3)=true:=by decide+kernel
theorem QBZ:stR Tryz.prog (List.range' 3 3)=true:=by decide+kernel
theorem QB0:stR Tryz.prog (List.range' 6 3)=true:=by decide+kernel
theorem QB1:stR Tryz.prog (List.range' 9 3)=true:=by decide+kernel
theorem QB2:stR Tryz.prog (List.range' 12 3)=true:=by decide+kernel
theorem QB3:stR Tryz.prog (List.range' 15 3)=true:=by decide+kernel
theorem QB4:stR Tryz.prog (List.range' 18 3)=true:=by decide+kernel
theorem QB5:stR Tryz.prog (List.range' 21 3)=true:=by decide+kernel
theorem QB6:stR Tryz.prog (List.range' 24 3)=true:=by decide+kernel
theorem QB7:stR Tryz.prog (List.range' 27 3)=true:=by decide+kernel
theorem QxO:stR Tryz.prog (List.range' 30 3)=true:=by decide+kernel
theorem QxP:stR Tryz.prog (List.range' 33 3)=true:=by decide+kernel
theorem QxQ:stR Tryz.prog (List.range' 36 3)=true:=by decide+kernel
theorem QxR:stR Tryz.prog (List.range' 39 3)=true:=by decide+kernel
theorem QxS:stR Tryz.prog (List.range' 42 3)=true:=by decide+kernel
theorem QxT:stR Tryz.prog (List.range' 45 3)=true:=by decide+kernel
theorem QxU:stR Tryz.prog (List.range' 48 1)=true:=by decide+kernel
theorem QnK:Qzk Tryz.prog=true:=by decide+kernel
set_option maxHeartbeats 1000000
theorem QqQ (p:Nat) (hp:p<=48):QeG (Qu5 Tryz.prog) 6 zR.cs JR fR 48 p=true:=by
 have get:∀a n,stR Tryz.prog (List.range' a n)=true->a<=p->p<a+n->QeG (Qu5 Tryz.prog) 6 zR.cs JR fR 48 p=true:=λa n h G C=>QEs.1 h p (List.mem_range'_1.2 ⟨G,C⟩)
 grind [QBY,QBZ,QB0,QB1,QB2,QB3,QB4,QB5,QB6,QB7,QxO,QxP,QxQ,QxR,QxS,QxT,QxU]
theorem Qo9:tbR.f 138=[cL [.l F9 10000,.s F9] F9 (λn=>[(0,n, -1),(1,n,0),(n,1,1)])]:=by rfl
theorem Qbq (U:tbR.ok Tryz.prog):cPut.ok Tryz.prog 138:=by
 have h:(cL [.l F9 10000,.s F9] F9 (λn=>[(0,n, -1),(1,n,0),(n,1,1)])).ok Tryz.prog 138:=U 138 _ (by rw[Qo9];simp)
 intro μ ds h1 h2 Y V;obtain⟨e,d,T,O,M,G⟩:=h μ ds h1 h2 Y V
 exact⟨e,d,T,λc C=>O c (by
  simp only[cPut,QEk,QEj,or_false]at C;rcases C with rfl |rfl<;>decide),M,G⟩
theorem QkR (hm:Tryz.prog.follows .mixedOrders=true) (C:tbR.ok Tryz.prog) (G:tbR.fg Tryz.prog):zR.ok Tryz.prog 97:=by
 have hb:=QnK;have b0:=Qz3;have V:=Qz4;have M:=QqQ;unfold Qzk at hb;split at hb;rename_i fn e1;split at hb;rename_i af e2;simp only[QEm]at hb;obtain⟨⟨U,T⟩,O⟩:=hb;have et:tfR Tryz.prog=tfN af:=by grind [tfR]
 rw[et]at b0;refine Zc.zh (tf:=tfN af) (orc:=QuZ zR.cs 6 (JR 0) eR) (Qpd (nt:=(tfN af).nt) (X:=Qfp Tryz.prog) (run:=Qu5 Tryz.prog) (F:=fR) (N:=48) QsE We (λ{a o ν s} h e=>?_) M b0) C G hm e1 (by grind [MK]) U O T;exact Y9 (bl:=none) (B:=Hf (Qfp Tryz.prog)) (Qpc (Qbq C) C G V) C G (λ_ h=>h) h e
 grind
 grind
set_option maxHeartbeats 0
theorem QxL:Yo Tryz.prog spH spZ sq=true:=by decide+kernel
theorem QtU:Yv Tryz.prog spG noZ 2 sp0=true:=by decide+kernel
theorem QtV:Yv Tryz.prog spG noZ 2 sp1=true:=by decide+kernel
theorem QtW:Yv Tryz.prog spG noZ 2 sp2=true:=by decide+kernel
theorem QtX:Yv Tryz.prog spG noZ 2 sp3=true:=by decide+kernel
theorem QtY:Yv Tryz.prog spG noZ 2 sp4=true:=by decide+kernel
theorem QtZ:Yv Tryz.prog spG noZ 2 sp5=true:=by decide+kernel
theorem Qt0:Yv Tryz.prog spG noZ 2 sp6=true:=by decide+kernel
theorem Qt1:Yv Tryz.prog spG noZ 2 sp7=true:=by decide+kernel
theorem Qt2:Yv Tryz.prog spG noZ 2 sp8=true:=by decide+kernel
theorem Qt3:Yv Tryz.prog spG noZ 2 sp9=true:=by decide+kernel
theorem Qpz:Yv Tryz.prog spG noZ 2 Qu6=true:=by decide+kernel
theorem QpA:Yv Tryz.prog spG noZ 2 Qu7=true:=by decide+kernel
theorem QpB:Yv Tryz.prog spG noZ 2 Qu8=true:=by decide+kernel
theorem QpC:Yv Tryz.prog spG noZ 2 Qu9=true:=by decide+kernel
theorem QpD:Yv Tryz.prog spG noZ 2 Qva=true:=by decide+kernel
theorem QpE:Yv Tryz.prog spG noZ 2 Qvb=true:=by decide+kernel
theorem QpF:Yv Tryz.prog spG noZ 2 Qvc=true:=by decide+kernel
theorem QpG:Yv Tryz.prog spG noZ 2 Qvd=true:=by decide+kernel
theorem QpH:Yv Tryz.prog spG noZ 2 Qve=true:=by decide+kernel
theorem QpI:Yv Tryz.prog spG noZ 2 Qvf=true:=by decide+kernel
theorem QpJ:Yv Tryz.prog spG noZ 2 Qvg=true:=by decide+kernel
theorem QpK:Yv Tryz.prog spG noZ 2 Qvh=true:=by decide+kernel
theorem QpL:Yv Tryz.prog spG noZ 2 Qvi=true:=by decide+kernel
theorem QpM:Yv Tryz.prog spG noZ 2 Qvj=true:=by decide+kernel
theorem QpN:Yv Tryz.prog spG noZ 2 Qvk=true:=by decide+kernel
theorem QpO:Yv Tryz.prog spG noZ 2 Qvl=true:=by decide+kernel
theorem QpP:Yv Tryz.prog spG noZ 2 Qvm=true:=by decide+kernel
theorem QpQ:Yv Tryz.prog spG noZ 2 Qvn=true:=by decide+kernel
theorem QpR:Yv Tryz.prog spG noZ 2 Qvo=true:=by decide+kernel
theorem QpS:Yv Tryz.prog spG noZ 2 Qvp=true:=by decide+kernel
theorem QpT:Yv Tryz.prog spG noZ 2 Qvq=true:=by decide+kernel
theorem QpU:Yv Tryz.prog spG noZ 2 Qvr=true:=by decide+kernel
theorem QpV:Yv Tryz.prog spG noZ 2 Qvs=true:=by decide+kernel
theorem QpW:Yv Tryz.prog spG noZ 2 Qvt=true:=by decide+kernel
theorem QpX:Yv Tryz.prog spG noZ 2 Qvu=true:=by decide+kernel
theorem QpY:Yv Tryz.prog spG noZ 2 Qvv=true:=by decide+kernel
theorem QpZ:Yv Tryz.prog spG noZ 2 Qvw=true:=by decide+kernel
theorem Qp0:Yv Tryz.prog spG noZ 2 Qvx=true:=by decide+kernel
theorem Qp1:Yv Tryz.prog spG noZ 2 Qvy=true:=by decide+kernel
theorem Qk5:Yv Tryz.prog spG noZ 1 (sp39.drop 1)=true:=by decide+kernel
theorem Qk6:(match sp39 with |s::l=>QuC Tryz.prog spG noZ l s |[]=>true)=true:=by decide+kernel
set_option maxRecDepth 4000
set_option maxHeartbeats 1000000
theorem Qp2:Yv Tryz.prog spG noZ 2 sp39=true:=(QEm _ _).mpr ⟨Qk5,Qk6⟩
set_option maxRecDepth 100000
set_option maxHeartbeats 0
theorem Qp3:Yv Tryz.prog spG noZ 2 Qvz=true:=by decide+kernel
theorem Qp4:Yv Tryz.prog spG noZ 2 QvA=true:=by decide+kernel
theorem Qp5:Yv Tryz.prog spG noZ 2 QvB=true:=by decide+kernel
theorem Qp6:Yv Tryz.prog spG noZ 2 QvC=true:=by decide+kernel
theorem Qp7:Yv Tryz.prog spG noZ 2 QvD=true:=by decide+kernel
theorem Qp8:Yv Tryz.prog spG noZ 2 QvE=true:=by decide+kernel
theorem Qp9:Yv Tryz.prog spG noZ 2 QvF=true:=by decide+kernel
theorem Qqa:Yv Tryz.prog spG noZ 2 QvG=true:=by decide+kernel
theorem Qqb:Yv Tryz.prog spG noZ 2 QvH=true:=by decide+kernel
theorem Qqc:Yv Tryz.prog spG noZ 2 QvI=true:=by decide+kernel
theorem Qqd:Yv Tryz.prog spG noZ 2 QvJ=true:=by decide+kernel
theorem Qqe:Yv Tryz.prog spG noZ 2 QvK=true:=by decide+kernel
theorem Qqf:Yv Tryz.prog spG noZ 2 QvL=true:=by decide+kernel
theorem Qqg:Yv Tryz.prog spG noZ 2 QvM=true:=by decide+kernel
theorem Qqh:Yv Tryz.prog spG noZ 2 QvN=true:=by decide+kernel
theorem Qqi:Yv Tryz.prog spG noZ 2 QvO=true:=by decide+kernel
theorem Qqj:Yv Tryz.prog spG noZ 2 QvP=true:=by decide+kernel
theorem Qqk:Yv Tryz.prog spG noZ 2 QvQ=true:=by decide+kernel
theorem Qql:Yv Tryz.prog spG noZ 2 QvR=true:=by decide+kernel
theorem Qqm:Yv Tryz.prog spG noZ 2 QvS=true:=by decide+kernel
theorem Qqn:Yv Tryz.prog spG noZ 2 QvT=true:=by decide+kernel
theorem Qqo:Yv Tryz.prog spG noZ 2 QvU=true:=by decide+kernel
theorem Qqp:Yv Tryz.prog spG noZ 2 QvV=true:=by decide+kernel
theorem Qqq:Yv Tryz.prog spG noZ 2 QvW=true:=by decide+kernel
theorem Qqr:Yv Tryz.prog spG noZ 2 QvX=true:=by decide+kernel
theorem Qqs:Yv Tryz.prog spG noZ 2 QvY=true:=by decide+kernel
theorem Qqt:Yv Tryz.prog spG noZ 2 QvZ=true:=by decide+kernel
theorem Qqu:Yv Tryz.prog spG noZ 2 Qv0=true:=by decide+kernel
theorem Qqv:Yv Tryz.prog spG noZ 2 Qv1=true:=by decide+kernel
theorem Qqw:Yv Tryz.prog spG noZ 2 Qv2=true:=by decide+kernel
theorem Qqx:Yv Tryz.prog spG noZ 2 Qv3=true:=by decide+kernel
theorem Qqy:Yv Tryz.prog spG noZ 2 Qv4=true:=by decide+kernel
theorem Qqz:Yv Tryz.prog spG noZ 2 Qv5=true:=by decide+kernel
theorem QqA:Yv Tryz.prog spG noZ 2 Qv6=true:=by decide+kernel
theorem QqB:Yv Tryz.prog spG noZ 2 Qv7=true:=by decide+kernel
theorem QqC:Yv Tryz.prog spG noZ 2 Qv8=true:=by decide+kernel
theorem QqD:Yv Tryz.prog spG noZ 2 Qv9=true:=by decide+kernel
theorem QqE:Yv Tryz.prog spG noZ 2 Qwa=true:=by decide+kernel
theorem QqF:Yv Tryz.prog spG noZ 2 Qwb=true:=by decide+kernel
theorem QqG:Yv Tryz.prog spG noZ 2 Qwc=true:=by decide+kernel
theorem QqH:Yv Tryz.prog spG noZ 2 Qwd=true:=by decide+kernel
theorem QqI:Yv Tryz.prog spG noZ 2 Qwe=true:=by decide+kernel
theorem QqJ:Yv Tryz.prog spG noZ 2 Qwf=true:=by decide+kernel
theorem QqK:Yv Tryz.prog spG noZ 1 QxK=true:=by decide+kernel
set_option maxRecDepth 4000
set_option maxHeartbeats 1000000
theorem Zg {P:Program} {g:Nat->List Ct} {gz:Nat->List Zc} {n:Nat} {a l m:List Sp} (ha:a=l++m) (C:l.length=n) (h:Yv P g gz n a=true) (hm:Yo P g gz m=true):Yo P g gz a=true:=by
 subst ha;exact QfM C h hm
theorem cs0:Yo Tryz.prog spG noZ sp0=true:=Zg (m:=[]) (QEN _).symm rfl QtU rfl
theorem cs1:Yo Tryz.prog spG noZ sp1=true:=Zg (m:=sp0) rfl rfl QtV cs0
theorem cs2:Yo Tryz.prog spG noZ sp2=true:=Zg (m:=sp1) rfl rfl QtW cs1
theorem cs3:Yo Tryz.prog spG noZ sp3=true:=Zg (m:=sp2) rfl rfl QtX cs2
theorem cs4:Yo Tryz.prog spG noZ sp4=true:=Zg (m:=sp3) rfl rfl QtY cs3
theorem cs5:Yo Tryz.prog spG noZ sp5=true:=Zg (m:=sp4) rfl rfl QtZ cs4
theorem cs6:Yo Tryz.prog spG noZ sp6=true:=Zg (m:=sp5) rfl rfl Qt0 cs5
theorem cs7:Yo Tryz.prog spG noZ sp7=true:=Zg (m:=sp6) rfl rfl Qt1 cs6
theorem cs8:Yo Tryz.prog spG noZ sp8=true:=Zg (m:=sp7) rfl rfl Qt2 cs7
theorem cs9:Yo Tryz.prog spG noZ sp9=true:=Zg (m:=sp8) rfl rfl Qt3 cs8
theorem Qz8:Yo Tryz.prog spG noZ Qu6=true:=Zg (m:=sp9) rfl rfl Qpz cs9
theorem Qz9:Yo Tryz.prog spG noZ Qu7=true:=Zg (m:=Qu6) rfl rfl QpA Qz8
theorem QAa:Yo Tryz.prog spG noZ Qu8=true:=Zg (m:=Qu7) rfl rfl QpB Qz9
theorem QAb:Yo Tryz.prog spG noZ Qu9=true:=Zg (m:=Qu8) rfl rfl QpC QAa
theorem QAc:Yo Tryz.prog spG noZ Qva=true:=Zg (m:=Qu9) rfl rfl QpD QAb
theorem QAd:Yo Tryz.prog spG noZ Qvb=true:=Zg (m:=Qva) rfl rfl QpE QAc
theorem QAe:Yo Tryz.prog spG noZ Qvc=true:=Zg (m:=Qvb) rfl rfl QpF QAd
theorem QAf:Yo Tryz.prog spG noZ Qvd=true:=Zg (m:=Qvc) rfl rfl QpG QAe
theorem QAg:Yo Tryz.prog spG noZ Qve=true:=Zg (m:=Qvd) rfl rfl QpH QAf
theorem QAh:Yo Tryz.prog spG noZ Qvf=true:=Zg (m:=Qve) rfl rfl QpI QAg
theorem QAi:Yo Tryz.prog spG noZ Qvg=true:=Zg (m:=Qvf) rfl rfl QpJ QAh
theorem QAj:Yo Tryz.prog spG noZ Qvh=true:=Zg (m:=Qvg) rfl rfl QpK QAi
theorem QAk:Yo Tryz.prog spG noZ Qvi=true:=Zg (m:=Qvh) rfl rfl QpL QAj
theorem QAl:Yo Tryz.prog spG noZ Qvj=true:=Zg (m:=Qvi) rfl rfl QpM QAk
theorem QAm:Yo Tryz.prog spG noZ Qvk=true:=Zg (m:=Qvj) rfl rfl QpN QAl
theorem QAn:Yo Tryz.prog spG noZ Qvl=true:=Zg (m:=Qvk) rfl rfl QpO QAm
theorem QAo:Yo Tryz.prog spG noZ Qvm=true:=Zg (m:=Qvl) rfl rfl QpP QAn
theorem QAp:Yo Tryz.prog spG noZ Qvn=true:=Zg (m:=Qvm) rfl rfl QpQ QAo
theorem QAq:Yo Tryz.prog spG noZ Qvo=true:=Zg (m:=Qvn) rfl rfl QpR QAp
theorem QAr:Yo Tryz.prog spG noZ Qvp=true:=Zg (m:=Qvo) rfl rfl QpS QAq
theorem QAs:Yo Tryz.prog spG noZ Qvq=true:=Zg (m:=Qvp) rfl rfl QpT QAr
theorem QAt:Yo Tryz.prog spG noZ Qvr=true:=Zg (m:=Qvq) rfl rfl QpU QAs
theorem QAu:Yo Tryz.prog spG noZ Qvs=true:=Zg (m:=Qvr) rfl rfl QpV QAt
theorem QAv:Yo Tryz.prog spG noZ Qvt=true:=Zg (m:=Qvs) rfl rfl QpW QAu
theorem QAw:Yo Tryz.prog spG noZ Qvu=true:=Zg (m:=Qvt) rfl rfl QpX QAv
theorem QAx:Yo Tryz.prog spG noZ Qvv=true:=Zg (m:=Qvu) rfl rfl QpY QAw
theorem QAy:Yo Tryz.prog spG noZ Qvw=true:=Zg (m:=Qvv) rfl rfl QpZ QAx
theorem QAz:Yo Tryz.prog spG noZ Qvx=true:=Zg (m:=Qvw) rfl rfl Qp0 QAy
theorem QAA:Yo Tryz.prog spG noZ Qvy=true:=Zg (m:=Qvx) rfl rfl Qp1 QAz
theorem QAB:Yo Tryz.prog spG noZ sp39=true:=Zg (m:=Qvy) rfl rfl Qp2 QAA
theorem QAC:Yo Tryz.prog spG noZ Qvz=true:=Zg (m:=sp39) rfl rfl Qp3 QAB
theorem QAD:Yo Tryz.prog spG noZ QvA=true:=Zg (m:=Qvz) rfl rfl Qp4 QAC
theorem QAE:Yo Tryz.prog spG noZ QvB=true:=Zg (m:=QvA) rfl rfl Qp5 QAD
theorem QAF:Yo Tryz.prog spG noZ QvC=true:=Zg (m:=QvB) rfl rfl Qp6 QAE
theorem QAG:Yo Tryz.prog spG noZ QvD=true:=Zg (m:=QvC) rfl rfl Qp7 QAF
theorem QAH:Yo Tryz.prog spG noZ QvE=true:=Zg (m:=QvD) rfl rfl Qp8 QAG
theorem QAI:Yo Tryz.prog spG noZ QvF=true:=Zg (m:=QvE) rfl rfl Qp9 QAH
theorem QAJ:Yo Tryz.prog spG noZ QvG=true:=Zg (m:=QvF) rfl rfl Qqa QAI
theorem QAK:Yo Tryz.prog spG noZ QvH=true:=Zg (m:=QvG) rfl rfl Qqb QAJ
theorem QAL:Yo Tryz.prog spG noZ QvI=true:=Zg (m:=QvH) rfl rfl Qqc QAK
theorem QAM:Yo Tryz.prog spG noZ QvJ=true:=Zg (m:=QvI) rfl rfl Qqd QAL
theorem QAN:Yo Tryz.prog spG noZ QvK=true:=Zg (m:=QvJ) rfl rfl Qqe QAM
theorem QAO:Yo Tryz.prog spG noZ QvL=true:=Zg (m:=QvK) rfl rfl Qqf QAN
theorem QAP:Yo Tryz.prog spG noZ QvM=true:=Zg (m:=QvL) rfl rfl Qqg QAO
theorem QAQ:Yo Tryz.prog spG noZ QvN=true:=Zg (m:=QvM) rfl rfl Qqh QAP
theorem QAR:Yo Tryz.prog spG noZ QvO=true:=Zg (m:=QvN) rfl rfl Qqi QAQ
theorem QAS:Yo Tryz.prog spG noZ QvP=true:=Zg (m:=QvO) rfl rfl Qqj QAR
theorem QAT:Yo Tryz.prog spG noZ QvQ=true:=Zg (m:=QvP) rfl rfl Qqk QAS
theorem QAU:Yo Tryz.prog spG noZ QvR=true:=Zg (m:=QvQ) rfl rfl Qql QAT
theorem QAV:Yo Tryz.prog spG noZ QvS=true:=Zg (m:=QvR) rfl rfl Qqm QAU
theorem QAW:Yo Tryz.prog spG noZ QvT=true:=Zg (m:=QvS) rfl rfl Qqn QAV
theorem QAX:Yo Tryz.prog spG noZ QvU=true:=Zg (m:=QvT) rfl rfl Qqo QAW
theorem QAY:Yo Tryz.prog spG noZ QvV=true:=Zg (m:=QvU) rfl rfl Qqp QAX
theorem QAZ:Yo Tryz.prog spG noZ QvW=true:=Zg (m:=QvV) rfl rfl Qqq QAY
theorem QA0:Yo Tryz.prog spG noZ QvX=true:=Zg (m:=QvW) rfl rfl Qqr QAZ
theorem QA1:Yo Tryz.prog spG noZ QvY=true:=Zg (m:=QvX) rfl rfl Qqs QA0
theorem QA2:Yo Tryz.prog spG noZ QvZ=true:=Zg (m:=QvY) rfl rfl Qqt QA1
theorem QA3:Yo Tryz.prog spG noZ Qv0=true:=Zg (m:=QvZ) rfl rfl Qqu QA2
theorem QA4:Yo Tryz.prog spG noZ Qv1=true:=Zg (m:=Qv0) rfl rfl Qqv QA3
theorem QA5:Yo Tryz.prog spG noZ Qv2=true:=Zg (m:=Qv1) rfl rfl Qqw QA4
theorem QA6:Yo Tryz.prog spG noZ Qv3=true:=Zg (m:=Qv2) rfl rfl Qqx QA5
theorem QA7:Yo Tryz.prog spG noZ Qv4=true:=Zg (m:=Qv3) rfl rfl Qqy QA6
theorem QA8:Yo Tryz.prog spG noZ Qv5=true:=Zg (m:=Qv4) rfl rfl Qqz QA7
theorem QA9:Yo Tryz.prog spG noZ Qv6=true:=Zg (m:=Qv5) rfl rfl QqA QA8
theorem QBa:Yo Tryz.prog spG noZ Qv7=true:=Zg (m:=Qv6) rfl rfl QqB QA9
theorem QBb:Yo Tryz.prog spG noZ Qv8=true:=Zg (m:=Qv7) rfl rfl QqC QBa
theorem QBc:Yo Tryz.prog spG noZ Qv9=true:=Zg (m:=Qv8) rfl rfl QqD QBb
theorem QBd:Yo Tryz.prog spG noZ Qwa=true:=Zg (m:=Qv9) rfl rfl QqE QBc
theorem QBe:Yo Tryz.prog spG noZ Qwb=true:=Zg (m:=Qwa) rfl rfl QqF QBd
theorem QBf:Yo Tryz.prog spG noZ Qwc=true:=Zg (m:=Qwb) rfl rfl QqG QBe
theorem QBg:Yo Tryz.prog spG noZ Qwd=true:=Zg (m:=Qwc) rfl rfl QqH QBf
theorem QBh:Yo Tryz.prog spG noZ Qwe=true:=Zg (m:=Qwd) rfl rfl QqI QBg
theorem QBi:Yo Tryz.prog spG noZ Qwf=true:=Zg (m:=Qwe) rfl rfl QqJ QBh
theorem QBj:Yo Tryz.prog spG noZ QxK=true:=Zg (m:=Qwf) rfl rfl QqK QBi
theorem QlI (hm:Tryz.prog.follows .mixedOrders=true) (M:∀f,∀c∈spG f,c.ok Tryz.prog f):∀f,∀c∈tbS spH sq f,c.ok Tryz.prog f:=by
 obtain⟨G,C⟩:=QdE hm M (gz:=noZ) (λ_ _ h=>by cases h) QBj;have hr:zR.ok Tryz.prog 97:=QkR hm (λf c h=>G f c h) (λf c h=>C f c h);refine(QdE hm (g:=spH) (gz:=spZ) (λf c h=>G f c h) (λf c h=>?_) QxL).1;unfold spZ at h;split at h;rename_i e;have e:=QFG e;subst e;rcases QEk.1 h with rfl |h
 exact hr;exact C _ c h;exact C f c h
end Go.Proofs
namespace Go.Abs
open Go
variable {d:D} {l:List D} {t:Tp} {v:Vl} {ν:List Int}
mutual
def Tp.hasB:Tp->D->Bool
 | .i k lo hi,d=>match d with
  | .int j n=>decide (k=j)&&(decide (lo<=n)&&decide (n<=hi))
  |_=>false
 | .b,d=>match d with
  | .bool _=>true
  |_=>false
 | .s n,d=>match d with
  | .str x=>Nat.ble x.length n
  |_=>false
 | .c ls,d=>match d with
  | .str x=>ls.contains x
  |_=>false
 | .l row n,d=>match d with
  | .sl rows=>Nat.ble rows.length n&&rows.all λr=>Tp.jd row r
  | .u7 rows=>Nat.ble rows.length n&&rows.all λr=>Tp.jd row r
  |_=>false
 | .lq _ _,_=>false
def Tp.jd:List Tp->List D->Bool
 |[],ds=>match ds with
  |[]=>true
  |_=>false
 |t::ts,ds=>match ds with
  |d::r=>Tp.hasB t d&&Tp.jd ts r
  |_=>false
end
mutual
theorem Tp.od:∀{t:Tp} {d:D},t.hasB d=true->t.has d
 | .i k lo hi,d,h=>by
  simp only[Tp.hasB]at h;split at h;simp only[QEm,decide_eq_true_eq]at h;obtain⟨rfl,G,C⟩:=h;exact⟨_,rfl,G,C⟩
  grind
 | .b,d,h=>by
  simp only[Tp.hasB]at h;split at h;exact⟨_,rfl⟩
  grind
 | .s n,d,h=>by
  simp only[Tp.hasB]at h;split at h;exact⟨_,rfl,QEi h⟩
  grind
 | .c ls,d,h=>by
  simp only[Tp.hasB]at h;split at h;exact⟨_,by grind,rfl⟩
  grind
 | .l row n,d,h=>by
  simp only[Tp.hasB]at h;split at h;simp only[QEm,QEs]at h;exact⟨_,.inl rfl,QEi h.1,λr hr=>Tp.fc (h.2 r hr)⟩;simp only[QEm,QEs]at h;exact⟨_,.inr rfl,QEi h.1,λr hr=>Tp.fc (h.2 r hr)⟩
  grind
 | .lq _ _,d,h=>by trivial
theorem Tp.fc:∀{ts:List Tp} {ds:List D},Tp.jd ts ds=true->Tp.n6 ts ds
 |[],ds,h=>by
  simp only[Tp.jd]at h;split at h;rfl
  grind
 |t::ts,ds,h=>by
  simp only[Tp.jd]at h;split at h;simp only[QEm]at h;exact⟨_,_,rfl,Tp.od h.1,Tp.fc h.2⟩
  grind
end
def Quj:List Vl->List D->Bool
 |[],[]=>true
 | .ty t::vs,d::ds=>t.hasB d&&Quj vs ds
 |_,_=>false
def QhV:List (List Vl)->List (List D)->Bool
 |[],[]=>true
 |v::vs,d::ds=>Quj v d&&QhV vs ds
 |_,_=>false
theorem QiH {ν:List Int}:∀{vs:List Vl} {ds:List D},Quj vs ds=true->Vl.a5 ν vs ds
 |[],[],_=>rfl
 |v::vs,d::ds,h=>by
  cases v with
  |ty t=>
   simp only[Quj,QEm]at h;exact⟨d,ds,rfl,Tp.od h.1,QiH h.2⟩
  |_=>trivial
 |[],_::_,h=>by trivial
 |_::_,[],h=>by grind [Quj]
theorem DP {ν:List Int}:∀{vs:List (List Vl)} {ds:List (List D)},QhV vs ds=true->Vl.v7 ν vs ds
 |[],[],_=>rfl
 |v::vs,d::ds,h=>by
  simp only[QhV,QEm]at h;exact⟨d,ds,rfl,QiH h.1,DP h.2⟩
 |[],_::_,h=>by trivial
 |_::_,[],h=>by trivial
def QjN:Vl->D->Bool
 | .ty t,d=>t.hasB d
 | .fx rows,d=>(match d with
  | .sl rs=>QhV rows rs
  | .u7 rs=>QhV rows rs
  |_=>false)
 |_,_=>false
theorem Qce (h:QjN v d=true):v.has ν d:=by
 unfold QjN at h;split at h;exact Tp.od h;split at h;exact⟨_,.inl rfl,DP h⟩;exact⟨_,.inr rfl,DP h⟩
 grind
 grind
def Qcf:List Vl->List D->Bool
 |[],[]=>true
 |v::vs,d::ds=>QjN v d&&Qcf vs ds
 |_,_=>false
theorem CS {ν:List Int}:∀{vs:List Vl} {ds:List D},Qcf vs ds=true->Vl.a5 ν vs ds
 |[],[],_=>rfl
 |v::vs,d::ds,h=>by
  simp only[Qcf,QEm]at h;exact⟨d,ds,rfl,Qce h.1,CS h.2⟩
 |[],_::_,h=>by cases h
 |_::_,[],h=>by cases h
def Qwi:Vl->D->Bool
 | .aa cs,d=>match d with
  | .agg ds=>Qcf cs ds
  |_=>false
 |v,d=>QjN v d
theorem QiP (h:Qwi v d=true):v.has ν d:=by
 unfold Qwi at h;split at h;split at h;exact⟨_,rfl,CS h⟩
 grind
 grind [Qce]
def Qlo:List Vl->List D->Bool
 |[],[]=>true
 |v::vs,d::ds=>Qwi v d&&Qlo vs ds
 |_,_=>false
theorem QdI {ν:List Int}:∀{vs:List Vl} {ds:List D},Qlo vs ds=true->Vl.a5 ν vs ds
 |[],[],_=>rfl
 |v::vs,d::ds,h=>by
  simp only[Qlo,QEm]at h;exact⟨d,ds,rfl,QiP h.1,QdI h.2⟩
 |[],_::_,h=>by cases h
 |_::_,[],h=>by cases h
def Qu2:Vl->D->Bool
 | .uu vs,d=>match d with
  | .g8 ds=>Qlo vs ds
  |_=>false
 |v,d=>Qwi v d
theorem QhQ (h:Qu2 v d=true):v.has ν d:=by
 unfold Qu2 at h;split at h;split at h;exact⟨_,rfl,QdI h⟩
 grind
 grind [QiP]
def enT:Tp->Option (List D)
 | .i k lo hi=>some ((List.range (hi - lo+1).toNat).map λ(n:Nat)=>.int k (lo+n))
 | .b=>some [.bool true,.bool false]
 | .c ls=>some (ls.map .str)
 |_=>none
theorem QfW (he:enT t=some l) (h:t.has d):d∈l:=by
 unfold enT at he;split at he<;>cases he;rename_i k lo hi;obtain⟨n,rfl,C,G⟩:=h;exact QEw.2 ⟨(n - lo).toNat,QEE.2 Wa,by grind⟩;obtain⟨b,rfl⟩:=h;simp;obtain⟨x,C,rfl⟩:=h;grind
def QsC:List Vl->Option (List (List D))
 |[]=>some [[]]
 |v::vs=>match v with
  | .ty t=>(match enT t,QsC vs with
   |some l,some r=>some (l.flatMap λd=>r.map λq=>d::q)
   |_,_=>none)
  |_=>none
theorem QfX {ν:List Int}:∀{vs:List Vl} {ds:List D} {l:List (List D)},QsC vs=some l->Vl.a5 ν vs ds->ds∈l
 |[],ds,l,he,h=>by
  grind [QsC,Vl.a5]
 |v::vs,ds,l,he,h=>by
  simp only[QsC]at he;split at he;split at he;rename_i l1 r e1 e2;cases he
  obtain⟨d,q,rfl,G,C⟩:=h;exact QEp.2 ⟨d,QfW e1 G,QEw.2 ⟨q,QfX e2 C,rfl⟩⟩
  grind
  grind
def QsB:List (List Vl)->Option (List (List (List D)))
 |[]=>some [[]]
 |v::vs=>match QsC v,QsB vs with
  |some l,some r=>some (l.flatMap λd=>r.map λq=>d::q)
  |_,_=>none
theorem QfV {ν:List Int}:∀{vs:List (List Vl)} {ds:List (List D)} {l:List (List (List D))},QsB vs=some l->Vl.v7 ν vs ds->ds∈l
 |[],ds,l,he,h=>by
  grind [QsB,Vl.v7]
 |v::vs,ds,l,he,h=>by
  simp only[QsB]at he;split at he;rename_i l1 r e1 e2;cases he
  obtain⟨d,q,rfl,G,C⟩:=h;exact QEp.2 ⟨d,QfX e1 G,QEw.2 ⟨q,QfV e2 C,rfl⟩⟩
  grind
def enC:Vl->Option (List D)
 | .ty t=>enT t
 | .fx rows=>(match QsB rows with
  |some l=>some (l.map .sl)
  |none=>none)
 |_=>none
theorem QnU (he:enT t=some l) (h:t.has d):d.x6=d:=by
 unfold enT at he;split at he<;>cases he;obtain⟨n,rfl,_⟩:=h;rfl;obtain⟨b,rfl⟩:=h;rfl;obtain⟨x,_,rfl⟩:=h;rfl
theorem QsA (he:enC v=some l) (h:v.has ν d):d.x6∈l:=by
 unfold enC at he;split at he;rw[QnU he h];exact QfW he h;split at he;rename_i l1 e1;cases he
 obtain⟨rs,hd,C⟩:=h;have:d.x6=.sl rs:=by rcases hd with rfl |rfl<;>rfl
 rw[this];exact QEw.2 ⟨rs,QfV e1 C,rfl⟩
 grind
 grind
def enL:List Vl->Option (List (List D))
 |[]=>some [[]]
 |v::vs=>match enC v,enL vs with
  |some l,some r=>some (l.flatMap λd=>r.map λq=>d::q)
  |_,_=>none
theorem QlX {ν:List Int}:∀{vs:List Vl} {ds:List D} {l:List (List D)},enL vs=some l->Vl.a5 ν vs ds->ds.map D.x6∈l
 |[],ds,l,he,h=>by
  grind [enL,Vl.a5]
 |v::vs,ds,l,he,h=>by
  simp only[enL]at he;split at he;rename_i l1 r e1 e2;cases he
  obtain⟨d,q,rfl,G,C⟩:=h;exact QEp.2 ⟨_,QsA e1 G,QEw.2 ⟨_,QlX e2 C,rfl⟩⟩
  grind
def enV:Vl->Option (List D)
 | .aa cs=>(match enL cs with
  |some l=>some (l.map .agg)
  |none=>none)
 | .ty t=>enT t
 |_=>none
theorem Qj0 (he:enT t=some l) (h:t.has d):d.can=d:=by
 unfold enT at he;split at he<;>cases he;obtain⟨n,rfl,_⟩:=h;rfl;obtain⟨b,rfl⟩:=h;rfl;obtain⟨x,_,rfl⟩:=h;rfl
theorem QsD (he:enV v=some l) (h:v.has ν d):d.can∈l:=by
 unfold enV at he;split at he;split at he;rename_i q e1;cases he
 obtain⟨ds,rfl,C⟩:=h;exact QEw.2 ⟨_,QlX e1 C,rfl⟩
 grind
 rw[Qj0 he h];exact QfW he h
 grind
def Qru:List Vl->Option (List (List D))
 |[]=>some [[]]
 |v::vs=>match enV v,Qru vs with
  |some l,some r=>some (l.flatMap λd=>r.map λq=>d::q)
  |_,_=>none
theorem QaT {ν:List Int}:∀{vs:List Vl} {ds:List D} {l:List (List D)},Qru vs=some l->Vl.a5 ν vs ds->ds.map D.can∈l
 |[],ds,l,he,h=>by
  grind [Qru,Vl.a5]
 |v::vs,ds,l,he,h=>by
  simp only[Qru]at he;split at he;rename_i l1 r e1 e2;cases he
  obtain⟨d,q,rfl,G,C⟩:=h;exact QEp.2 ⟨_,QsD e1 G,QEw.2 ⟨_,QaT e2 C,rfl⟩⟩
  grind
theorem S9 {K:Kn}:∀{ds:List D} {vs:List Value},x5 K ds vs->x5 K (ds.map D.can) vs
 |[],_,h=>h
 |d::ds,[],h=>by trivial
 |d::ds,v::vs,h=>by
  simp only[QEW,x5]at h ⊢;exact⟨QaM h.1,S9 h.2⟩
theorem Ok.can {P:Program} {f:Nat} {ds:List D} {d:D} (h:Ok P f (ds.map D.can) d):Ok P f ds d:=⟨h.1,λK w vs hk C=>h.2 K w vs hk (S9 C)⟩
def QmI (P:Program):List Nat->List (Nat × o6)
 |[]=>[]
 |f::l=>match P.funcs[f]? with
  |some fn=>(match QT P fn with
   |some af=>if(Gz f).isEmpty=true then(f,tfN af)::QmI P l else QmI P l
   |none=>QmI P l)
  |none=>QmI P l
theorem Pu {P:Program}:∀l:List Nat,QdS P (QmI P l)
 |[]=>QqY
 |f::l=>by
  unfold QmI;split;rename_i fn e1;split;rename_i af e2;split;rename_i C;exact Qle e1 (by grind [MK]) (Pu l) (QFs.1 C);exact Pu l;exact Pu l;exact Pu l
def ctE (P:Program) (fs:List Nat) (n:Nat) (c:Ct) (f:Nat):Bool:=
 (Nat.beq c.nx 1&&(Nat.beq c.mx 1&&c.rc.isEmpty))&&(match Qru c.az with
  |some l=>(match QmI P fs with
   |tab=>l.all λds=>match exF tab n f ds with
    |some d=>Qu2 c.rv d
    |none=>false)
  |none=>false)
theorem Ct.ai {P:Program} {fs:List Nat} {n f:Nat} {c:Ct} (hm:P.follows .mixedOrders=true) (h:ctE P fs n c f=true):c.ok P f:=by
 intro μ ds U T O M;simp only[ctE,QEm]at h;obtain⟨⟨h1,Y,V⟩,G⟩:=h;split at G;rename_i l e1;have C:=QEs.1 G _ (QaT e1 M);split at C;rename_i d e2;refine⟨[],d, ?_, ?_,QhQ C,Ok.can (C7 hm (Pu fs) n e2)⟩
 (repeat clear hK K);simp_all
 grind [ZF]
 grind
 grind
end Go.Abs
namespace Go.Proofs
open Go Go.Abs
set_option maxRecDepth 100000
set_option maxHeartbeats 0
def QBr:List Nat:=[123,128,136,161,162,166,167,168,169,197,198,199,200,202,230]
def prE (P:Program) (n:Nat):Bool:=(spG 128).all λc=>ctE P QBr n c 128
theorem QtG:prE Tryz.prog 60=true:=by decide+kernel
theorem QsT (hm:Tryz.prog.follows .mixedOrders=true):∀c∈spG 128,c.ok Tryz.prog 128:=λc C=>Ct.ai hm (QEs.1 QtG c C)
open M3
set_option maxHeartbeats 1000000
theorem QsR:∀c∈spG 35,c.ok Tryz.prog 35:=by
 intro c C;have e:spG 35=[⟨[ty tI,.nn .i64 1 0],2,[(0,1, -1),(1,0,1000)],.nn .i64 2 0,3,[(0,2,0),(2,1, -1)]⟩]:=by rfl
 rw[e,QEr]at C;subst C;intro μ ds h1 T O Y
 match μ,h1,T with
 |[z,n],_,T=>
  obtain rfl:z=0:=by grind
  obtain⟨d1,r1,rfl,⟨v,rfl,V,U⟩,d2,r2,rfl,⟨m,rfl,k,q3,q4⟩,rfl⟩:=Y;obtain rfl:k=n:=by grind
  obtain rfl:m=k:=Wa;obtain⟨a,b,p1,p2,M⟩:=O (0,1, -1) Wd;obtain⟨a',b',p4,p5,G⟩:=O (1,0,1000) Wd;obtain rfl:0=a:=by grind
  obtain rfl:m=b:=by grind
  obtain rfl:m=a':=by grind
  obtain rfl:0=b':=by grind
  have M:(0:Int)<=m+ -1:=M;have G:m<=0+1000:=G;have t1:=Int.tmod_lt_of_pos v (Wa:0<m);have t2:=Int.lt_tmod_of_pos v (Wa:0<m);have g1:0<=YE v m/\YE v m<=m - 1:=by grind [YE]
  refine⟨[YE v m],.int .i64 (YE v m),rfl, ?_,⟨_,rfl,_,rfl,Wa⟩,Z2 ⟨Wa,Wa⟩ ⟨V,U⟩⟩;intro c C;simp only[QEk,QEj,or_false]at C;rcases C with rfl |rfl
  exact⟨0,YE v m,rfl,rfl,by grind⟩;exact⟨YE v m,m,rfl,rfl,by grind⟩
open M25
set_option maxRecDepth 4000
variable {l:List (Cu × Cu)}
section
variable {Q:Cu->Prop}
theorem QgV:∀{l:List Cu} {c:Cu},(∀x∈l,Q x)->Q c->∀x∈H9 l c,Q x
 |[],c,_,hc,x,hx=>by grind [H9]
 |y::r,c,hl,hc,x,hx=>by
  simp only[H9]at hx;split at hx;rcases QEk.1 hx with rfl |hx
  grind
  exact QgV (λz C=>hl z Wc) hc x hx
  grind
theorem QcR:∀{l:List (Cu × Cu)} {out:List Cu},(∀s∈l,Q s.1/\Q s.2)->(∀x∈out,Q x)->∀x∈l.foldl (λout s=>H9 (H9 out s.1) s.2) out,Q x
 |[],_,_,h=>h
 |s::l,out,hl,h=>by
  rw[QER];exact QcR (λt C=>hl t Wc) (QgV (QgV h (hl s Wd).1) (hl s Wd).2)
theorem Qou (hF:Q Z6) (G:Q Y6) (C:∀s∈l,Q s.1/\Q s.2):∀x∈Xk l,Q x:=QcR C (by
 grind)
theorem Qov {out:List (Cu × Cu)} {x y:Cu} (h:∀s∈out,Q s.1/\Q s.2) (hx:Q x) (C:Q y):(HR out x y).length<=out.length+1/\∀s∈HR out x y,Q s.1/\Q s.2:=by
 unfold HR;split
 grind [List.dropLast_subset]
 grind
theorem Qf4 (f:Cu->Cu->Bool):∀(c:List Cu) (out:List (Cu × Cu)),(∀x∈c,Q x)->(∀s∈out,Q s.1/\Q s.2)->(GJ f c out).length<=out.length+(c.length - 1)/\∀s∈GJ f c out,Q s.1/\Q s.2
 |[],out,_,h=>⟨by simp[GJ],by trivial⟩
 |[x],out,_,h=>⟨by simp[GJ],by trivial⟩
 |x::y::r,out,hc,h=>by
  rw[GJ];have G:=Qov h (hc x Wd) (hc y Wd);split;have:=Qf4 f (y::r) (HR out x y) (λz C=>hc z (QFr _ C)) G.2
  grind
  have:=Qf4 f (y::r) out (λz C=>hc z (QFr _ C)) h
  grind
theorem Qct (hF:Q Z6) (G:Q Y6) (f:Cu->Cu->Bool) (C:∀s∈l,Q s.1/\Q s.2):(GJ f (Xk l) []).length<=2*l.length+1/\∀s∈GJ f (Xk l) [],Q s.1/\Q s.2:=by
 obtain⟨O,M⟩:=Qf4 f (Xk l) [] (Qou hF G C) Wd;have:=Fc l
 grind
end
set_option maxRecDepth 100000
variable {r:List D}
theorem QfH {d:D} {rows:List (List D)} (h:isL d rows):d.can=.sl rows:=by
 rcases h with rfl |rfl<;>rfl
def QC (c:Cu):Prop:=Tp.n6 TH (dCu c)
theorem P0:QC Z6:=by
 refine⟨_,_,rfl,⟨_,rfl,by decide,by decide⟩,_,_,rfl,⟨_,rfl,by decide,by decide⟩,_,_,rfl,⟨_,rfl,by decide,by decide⟩,_,_,rfl,⟨_,rfl,by decide,by decide⟩,_,_,rfl,⟨_,rfl,by decide⟩,_,_,rfl,⟨_,rfl,by decide⟩,_,_,rfl,⟨_,rfl⟩,rfl⟩
theorem LD:QC Y6:=by
 refine⟨_,_,rfl,⟨_,rfl,by decide,by decide⟩,_,_,rfl,⟨_,rfl,by decide,by decide⟩,_,_,rfl,⟨_,rfl,by decide,by decide⟩,_,_,rfl,⟨_,rfl,by decide,by decide⟩,_,_,rfl,⟨_,rfl,by decide⟩,_,_,rfl,⟨_,rfl,by decide⟩,_,_,rfl,⟨_,rfl⟩,rfl⟩
theorem QrO {c:Cu} (h:QC c):Cu.sm c:=by
 obtain⟨d1,r1,e1,_,d2,r2,e2,_,d3,r3,O,_,d4,r4,M,_,d5,Y,G,⟨p,U,q2⟩,d6,V,C,⟨q,T,q4⟩,_⟩:=h;simp only[dCu,QFE]at e1;obtain⟨_,rfl⟩:=e1;simp only[QFE]at e2;obtain⟨_,rfl⟩:=e2;simp only[QFE]at O;obtain⟨_,rfl⟩:=O;simp only[QFE]at M;obtain⟨_,rfl⟩:=M;simp only[QFE]at G;obtain⟨rfl,rfl⟩:=G;simp only[QFE]at C;obtain⟨rfl,rfl⟩:=C;cases U;cases T;exact⟨Wa,Wa⟩
theorem FB:∀{a b:List Tp} {r:List D},Tp.n6 (a++b) r->∃x y,r=x++y/\Tp.n6 a x/\Tp.n6 b y
 |[],b,r,h=>⟨[],r,rfl,rfl,h⟩
 |t::a,b,r,h=>by
  obtain⟨d,T,rfl,O,M⟩:=h;obtain⟨x,y,rfl,G,C⟩:=FB M;exact⟨d::x,y,rfl,⟨d,x,rfl,O,G⟩,C⟩
theorem QbY:∀{a b:List Tp} {x y:List D},Tp.n6 a x->Tp.n6 b y->Tp.n6 (a++b) (x++y)
 |[],b,x,y,h,h2=>by obtain rfl:x=[]:=h;grind
 |t::a,b,x,y,h,h2=>by
  obtain⟨d,C,rfl,M,G⟩:=h;exact⟨d,C++y,rfl,M,QbY G h2⟩
theorem QlV (h:Tp.n6 TH r):∃c:Cu,r=dCu c/\QC c:=by
 have h0:=h;obtain⟨d1,r1,rfl,⟨e,rfl,_⟩,d2,r2,rfl,⟨a,rfl,_⟩,d3,T,rfl,⟨b,rfl,_⟩,d4,O,rfl,⟨c,rfl,_⟩,d5,M,rfl,⟨p,rfl,_⟩,d6,G,rfl,⟨q,rfl,_⟩,d7,C,rfl,⟨f,rfl⟩,rfl⟩:=h;exact⟨⟨e,a,b,c,p,q,f⟩,rfl,h0⟩
theorem QqL (h:Tp.n6 ZG r):∃s:Cu × Cu,r=Nx s/\QC s.1/\QC s.2:=by
 obtain⟨x,y,rfl,O,M⟩:=FB h;obtain⟨c,rfl,G⟩:=QlV O;obtain⟨d,rfl,C⟩:=QlV M;exact⟨(c,d),rfl,G,C⟩
theorem Rv:∀{rows:List (List D)},(∀r∈rows,Tp.n6 ZG r)->∃l:List (Cu × Cu),rows=l.map Nx/\∀s∈l,QC s.1/\QC s.2
 |[],_=>⟨[],rfl,by simp⟩
 |r::rows,h=>by
  obtain⟨s,rfl,M⟩:=QqL (h r Wd);obtain⟨l,rfl,G⟩:=Rv (λr hr=>h r (QFr _ hr));refine⟨s::l,rfl,λt C=>?_⟩
  grind
theorem DC (h:∀s∈l,QC s.1/\QC s.2):∀r∈l.map Nx,Tp.n6 ZG r:=λr hr=>by
 obtain⟨s,C,rfl⟩:=QEw.1 hr;exact QbY (h s C).1 (h s C).2
theorem Qpy (h:∀s∈l,QC s.1/\QC s.2) (n:l.length<=4194304):Sm l:=⟨n,λs C=>⟨QrO (h s C).1,QrO (h s C).2⟩⟩
variable {a b:List (Cu × Cu)}
theorem QlQ {P:Program} {f:Nat} {op:List (Cu × Cu)->List (Cu × Cu)->List (Cu × Cu)} (G:∀a b,(∀s∈a,QC s.1/\QC s.2)->(∀s∈b,QC s.1/\QC s.2)->(op a b).length<=2*(a.length+b.length)+1/\∀s∈op a b,QC s.1/\QC s.2)
 (h:∀a b,Sm a->Sm b->a.length+b.length<=4194304->Ok P f [ZB a,ZB b] (ZB (op a b))) {p q:Nat} (hpq:p+q<=4194304):(cLa p q).ok P f:=by
 intro μ ds M V U h4;have M:μ.length=3:=M
 match μ,M,V with
 |[z,m,n],_,V=>
  obtain rfl:z=0:=by grind
  obtain⟨d1,r1,rfl,⟨ra,i1,⟨v1,j1,k1⟩,t1⟩,d2,r2,rfl,⟨rb,i2,⟨v2,j2,k2⟩,t2⟩,rfl⟩:=h4;obtain rfl:m=v1:=by grind
  obtain rfl:n=v2:=by grind
  obtain⟨a,rfl,ha⟩:=Rv t1;obtain⟨b,rfl,hb⟩:=Rv t2;obtain⟨x1,y1,p1,p2,T⟩:=U (1,0,(p:Int)) (by simp[cLa,cLk,cL,MP,pms]);obtain⟨x2,Y,p4,p5,O⟩:=U (2,0,(q:Int)) (by simp[cLa,cLk,cL,MP,pms]);obtain rfl:m=x1:=by grind
  obtain rfl:0=y1:=by grind
  obtain rfl:n=x2:=by grind
  obtain rfl:0=Y:=by grind
  have T:m<=0+(p:Int):=T;have O:n<=0+(q:Int):=O;simp only[QFf]at k1 k2;obtain⟨g1,g2⟩:=G a b ha hb;refine⟨[((op a b).length:Int)],ZB (op a b),rfl, ?_,⟨_,.inl rfl,⟨_,rfl,by simp⟩,DC g2⟩,Ok.can ?_⟩;intro c C;have C:c∈[((0:Nat),(3:Nat),(0:Int)),(3,0,((2*(p+q)+1:Nat):Int))]:=C;simp only[QEk,QEj,or_false]at C;rcases C with rfl |rfl
  exact⟨0,_,rfl,rfl,by simp⟩;exact⟨_,0,rfl,rfl,by grind⟩
  grind [ZB,QfH,Qpy]
theorem QcY (ha:∀s∈a,QC s.1/\QC s.2) (hb:∀s∈b,QC s.1/\QC s.2):∀s∈a++b,QC s.1/\QC s.2:=λs C=>(QEt.1 C).elim (ha s) (hb s)
theorem QBP (ha:∀s∈a,QC s.1/\QC s.2) (hb:∀s∈b,QC s.1/\QC s.2):(Qox a b).length<=2*(a.length+b.length)+1/\∀s∈Qox a b,QC s.1/\QC s.2:=by
 unfold Qox PW
 repeat' split
 all_goals first
  |exact⟨QEu _,by simp⟩
  |(
   have:=Qct P0 LD (mIn (a++b)) (QcY ha hb)
   grind)
theorem Qwr (ha:∀s∈a,QC s.1/\QC s.2) (hb:∀s∈b,QC s.1/\QC s.2):(Qbh a b).length<=2*(a.length+b.length)+1/\∀s∈Qbh a b,QC s.1/\QC s.2:=by
 unfold Qbh;split;have:=Qct P0 LD (λx y=>mIn a x y&&mIn b x y) (QcY ha hb)
 grind
 simp
theorem Qxk (ha:∀s∈a,QC s.1/\QC s.2):(TG a).length<=2*a.length+1/\∀s∈TG a,QC s.1/\QC s.2:=by
 unfold TG;split;exact Qct P0 LD _ ha;simp
theorem Qtc (ha:∀s∈a,QC s.1/\QC s.2):(PW a).length<=2*a.length+1/\∀s∈PW a,QC s.1/\QC s.2:=by
 unfold PW;split;exact Qct P0 LD _ ha;simp
theorem gOr:∀c∈spG 276,c.ok Tryz.prog 276:=by
 intro c G;have e:spG 276=[(0,1),(3,1),(9,1),(21,1),(45,1),(93,1),(189,1),(381,1),(0,5613),(11227,5613),(33681,5613),(78589,5613),(168405,5613),(348037,5613)].map λp=>cLa p.1 p.2:=rfl;rw[e]at G;obtain⟨p,hp,rfl⟩:=QEw.1 G;exact QlQ (λa b ha hb=>QBP ha hb) (λa b ha hb C=>M1 ha hb C) ((by decide:∀p∈[((0:Nat),(1:Nat)),(3,1),(9,1),(21,1),(45,1),(93,1),(189,1),(381,1),(0,5613),(11227,5613),(33681,5613),(78589,5613),(168405,5613),(348037,5613)],p.1+p.2<=4194304) p hp)
theorem QBt:∀c∈spG 271,c.ok Tryz.prog 271:=by
 intro c G;have e:spG 271=[(1,3),(9,3),(25,3),(57,3),(121,3),(249,3),(505,3),(1017,3),(2041,765),(1,1000000),(2000003,1000000)].map λp=>cLa p.1 p.2:=rfl;rw[e]at G;obtain⟨p,hp,rfl⟩:=QEw.1 G;exact QlQ (λa b ha hb=>Qwr ha hb) (λa b ha hb C=>NT ha hb C) ((by decide:∀p∈[((1:Nat),(3:Nat)),(9,3),(25,3),(57,3),(121,3),(249,3),(505,3),(1017,3),(2041,765),(1,1000000),(2000003,1000000)],p.1+p.2<=4194304) p hp)
theorem Qhj {μ:List Int} {ds:List D} {p:Nat} (Y:μ.length=2) (G:μ[0]?=some 0) (V:k8 μ [(0,1,0),(1,0,(p:Int))]) (U:Vl.a5 μ [.ll ZG 1 0] ds):∃m,μ=[0,m]/\∃a,ds.map D.can=[ZB a]/\(a.length:Int)=m/\a.length<=p/\∀s∈a,QC s.1/\QC s.2:=by
 match μ,Y,G with
 |[z,m],_,G=>
  obtain rfl:z=0:=by grind
  obtain⟨d1,r1,rfl,⟨ra,i1,⟨v1,j1,T⟩,t1⟩,rfl⟩:=U;obtain rfl:m=v1:=by grind
  obtain⟨a,rfl,ha⟩:=Rv t1;obtain⟨O,M,p1,p2,C⟩:=V (1,0,(p:Int)) Wd;obtain rfl:m=O:=by grind
  obtain rfl:0=M:=by grind
  have C:m<=0+(p:Int):=C;simp only[QFf]at T;refine⟨m,rfl,a, ?_,Wa,Wa,ha⟩
  grind [QfH,ZB]
theorem QBu:∀c∈spG 288,c.ok Tryz.prog 288:=by
 intro c C;have e:spG 288=[cLn 1]:=rfl;rw[e,QEr]at C;subst C;intro μ ds T O M G;obtain⟨m,rfl,a,e1,e2,U,ha⟩:=Qhj (p:=1) T O M G;obtain⟨g1,g2⟩:=Qxk ha;refine⟨[((TG a).length:Int)],ZB (TG a),rfl, ?_,⟨_,.inl rfl,⟨_,rfl,by simp⟩,DC g2⟩,Ok.can (by grind [NU,Qpy])⟩;intro c C;have C:c∈[((0:Nat),(2:Nat),(0:Int)),(2,0,3)]:=C;simp only[QEk,QEj,or_false]at C;rcases C with rfl |rfl
 exact⟨0,_,rfl,rfl,by simp⟩;exact⟨_,0,rfl,rfl,by grind⟩
theorem Qw2:∀c∈spG 286,c.ok Tryz.prog 286:=by
 intro c C;have e:spG 286=[cLm 2041]:=rfl;rw[e,QEr]at C;subst C;intro μ ds T O M G;obtain⟨m,rfl,a,e1,e2,U,ha⟩:=Qhj (p:=2041) T O M G;obtain⟨g1,g2⟩:=Qtc ha;refine⟨[((PW a).length:Int)],.g8 [ZB (PW a),.bool (a.all Fg)],rfl, ?_,⟨_,rfl,_,_,rfl,⟨_,.inl rfl,⟨_,rfl,by simp⟩,DC g2⟩,_,_,rfl,⟨_,rfl⟩,rfl⟩,Ok.can (by grind [Kw,Qpy])⟩;intro c C;have C:c∈[((0:Nat),(2:Nat),(0:Int)),(2,0,4083)]:=C;simp only[QEk,QEj,or_false]at C;rcases C with rfl |rfl
 exact⟨0,_,rfl,rfl,by simp⟩;exact⟨_,0,rfl,rfl,by grind⟩
end Go.Proofs
namespace Go.Abs
open Go
variable {H:QEf} {P:Program} {d:D} {f n:Nat} {s:St}
def gZ:List Nat:=[500000]
def Qw8:D->Bool
 | .ref _ _ _=>true
 |_=>false
def idZ (H:QEf):Bool:=H.all λp=>okN gZ p.1&&p.2.rows.all λr=>r.all λd=>d.y4.all (okN gZ)
def Qop (zcall:Nat->List D->QEf->Option (D × QEf)) (op:s6) (dst:Option Nat) (s:St):Option St:=
 match op,dst with
 | .call f args,some t=>ob (Zh s args) λds=>gd (ds.any Qw8&&s.fr.all λp=>p.2.ids.all λk=>!gZ.contains k)
   (ob (zcall f (ds.map λd=>(d.u5 (YM gZ)).can) (J6 gZ s.H)) λq=>
    gd (q.1.ids.isEmpty&&(idZ q.2&&((s.H.all λp=>(lk (K7 (unZ gZ) q.2) p.1).isSome)&&(K7 (unZ gZ) q.2).all λp=>gZ.contains p.1||(lk s.H p.1).isSome))) (some ⟨(t,q.1)::s.fr,K7 (unZ gZ) q.2⟩))
 |_,_=>none
theorem Gj {α:Type} {l:List (Nat × α)} {j:Nat} (h:(lk l j).isSome=true):∃b,(j,b)∈l:=by
 obtain⟨b,hb⟩:=QEo.1 h;exact⟨b,ZJ hb⟩
section
variable {P:Program} {zcall:Nat->List D->QEf->Option (D × QEf)} {call:Nat->List D->Option D}
theorem Qbf (hz:∀f ds H d H',zcall f ds H=some (d,H')->o7 P f ds H d H') {op:s6} {dst:Option Nat} {g:Option (Nat × Bool)} {s':St} {K:St->Prop} (T:gw s g=some true) (h:Qop zcall op dst s=some s') (hk:K s'):Qhp P ⟨dst,op,g⟩ K s:=by
 unfold Qop at h;split at h;rename_i f args t;obtain⟨ds,h1,h2⟩:=QO h;obtain⟨M,Y⟩:=ZT h2;obtain⟨⟨d,H1⟩,h5,V⟩:=QO Y;obtain⟨G,U⟩:=ZT V;cases U
 simp only[QEm]at M G;obtain⟨a1,a2,a3,a4⟩:=G;have O:d.ids=[]:=QFs.1 a1
 have hm:J6 gZ (K7 (unZ gZ) H1)=H1:=Rk (f:=YM gZ) (g:=unZ gZ) λp hp=>by
  have:=QEs.1 a2 p hp;rw[QEm]at this;exact⟨QFG this.1,λr hr d hd k hk=>QFG (QEs.1 (QEs.1 (QEs.1 this.2 r hr) d hd) k hk)⟩
 refine⟨s,le_refl s,T,t,f,args,gZ,K7 (unZ gZ) H1,d,rfl,.inl rfl,⟨ds,h1,rfl,QkG M.2,λk hk=>by grind,λj C=>?_,λj C=>?_,by grind⟩,hk⟩;obtain⟨b,hb⟩:=Gj C
 grind
 obtain⟨b,hb⟩:=Gj C
 grind
 grind
def Qab (call:Nat->List D->Option D) (zcall:Nat->List D->QEf->Option (D × QEf)):List u3->St->Option St
 |[],s=>some s
 |⟨dst,op,g⟩::r,s=>match gw s g with
  |some true=>(match Qop zcall op dst s with
   |some s1=>Qab call zcall r s1
   |none=>ob (Qez call false .fixed [⟨dst,op,g⟩] s) λs1=>Qab call zcall r s1)
  |_=>ob (Qez call false .fixed [⟨dst,op,g⟩] s) λs1=>Qab call zcall r s1
theorem NG (G:∀f ds d,call f ds=some d->Ok P f ds d) (C:∀f ds H d H',zcall f ds H=some (d,H')->o7 P f ds H d H'):∀{l:List u3} {s s':St},Qab call zcall l s=some s'->∀K:St->Prop,K s'->Xy P l K s
 |[],s,s',h,K,hk=>by simp only[Qab,QEl]at h;subst h;exact hk
 |⟨dst,op,g⟩::r,s,s',h,K,hk=>by
  have one:(ob (Qez call false .fixed [⟨dst,op,g⟩] s) λs1=>Qab call zcall r s1)=some s'->Xy P (⟨dst,op,g⟩::r) K s:=λh=>by
   obtain⟨s1,M,T⟩:=QO h;exact Tf (l:=[⟨dst,op,g⟩]) (r:=r) (Xr (w:=false) G M (NG G C T K hk)) rfl
  simp only[Qab]at h;split at h;rename_i O;split at h;rename_i s1 M;exact Qac (Qbf C O M (NG G C h K hk))
  grind
  grind
theorem QmY {nt:Nat} {Q:AExit->St->Prop} {l:List u3} (h:Xy P l (Q .normal) s):TW P nt (.region false l) Q s:=Nm h
theorem Lt {g:Gh} {c:Array Value}:∀{off:Nat} {rs:List (List D)} (n:Nat),s5 g c off rs->s5 g c off (rs.take n)
 |_,[],n,h=>by grind
 |_,_::_,0,_=>by trivial
 |off,r::rs,n+1,h=>by
  simp only[List.take_succ_cons,s5]at h ⊢;exact⟨h.1,Lt n h.2⟩
theorem Qkr {fr:QEg} (k n:Nat) {b:x4} (hb:lk H k=some b) (hz:b.l0≠0):St.le ⟨fr,H⟩ ⟨fr,(k,{b with rows:=b.rows.take n})::H⟩:=λE g a w r=>by
 have C:∀i,(lk ((k,{b with rows:=b.rows.take n})::H) i).isSome=(lk H i).isSome:=λi=>by
  grind [Qz]
 have get:∀i x,lk ((k,{b with rows:=b.rows.take n})::H) i=some x->∃x',lk H i=some x':=λi x h=>by
  grind [Qz]
 refine⟨g,r.nt,r.df,r.fr,λt d h i hi=>by rw[C];exact r.da t d h i hi,λi x h j Y=>?_,λi x h=>?_,λi i' x x' B e e' h1 h2=>?_,r.kr,r.ext,r.kx,λi hi=>let⟨U,T,O,M⟩:=r.kp i hi;⟨U,T,O,by grind⟩⟩
 rw[Qz]at h;rw[C];split at h;cases h
 refine r.x9 k _ hb j ?_;revert Y;unfold x4.ids
 grind
 exact r.x9 i x h j Y;rw[Qz]at h;split at h;rename_i e;cases h;subst e;obtain⟨U,T,O⟩:=r.bx k b hb;refine⟨λr0 G=>U r0 (QEC G),λhp r0 G=>T hp r0 (QEC G), ?_⟩;rcases O with⟨M,q5⟩ |⟨_,B,c,p1,p2,p3,p4,p5⟩
 have e:({b with rows:=b.rows.take n}:x4)=b:=by rw[M,List.take_nil,<- M]
 grind
 grind [Lt]
 exact r.bx i x h;obtain⟨y,hy⟩:=get i x h1;obtain⟨y',V⟩:=get i' x' h2;exact r.inj i i' y y' B e e' hy V
def Qun (k:Nat):D->Nat
 | .u4 j n=>if Nat.beq j k=true then n else 0
 |d=>if d.y4.contains k=true then 1000000000 else 0
def Qzc (k:Nat) (d:D):Nat:=match d with
 | .agg cs=>cs.foldl (λm c=>max m (Qun k c)) 0
 |d=>Qun k d
def Qin (k n:Nat) (s:St):St:=
 match lk s.H k with
 |some b=>if(!Nat.beq b.l0 0&&(Nat.ble (n+1) b.rows.length&&(s.fr.all (λp=>Nat.ble (Qzc k p.2) n)&&s.H.all λp=>p.2.pr||!p.2.ids.contains k)))=true then⟨s.fr,(k,{b with rows:=b.rows.take n})::s.H⟩else s
 |none=>s
theorem Qio (k n:Nat) (s:St):s.le (Qin k n s):=by
 unfold Qin;split;rename_i b hb;split;rename_i C;simp only[QEm,QFv]at C;exact Qkr k n hb λe=>by simp_all
 grind [le_refl]
 grind [le_refl]
def Qip:QEg->St->St
 |[],s=>s
 |p::l,s=>match p.2 with
  | .u4 k n=>Qip l (Qin k n s)
  |_=>Qip l s
theorem D9:∀(l:QEg) (s:St),s.le (Qip l s)
 |[],s=>le_refl s
 |p::l,s=>by
  unfold Qip;split;exact le_trans (Qio _ _ s) (D9 l _);exact D9 l s
def Qq3 (l:List Nat) (s:St):St:=match QiG l s with
 |s1=>Qip s1.fr s1
theorem Qlh (l:List Nat) (s:St):s.le (Qq3 l s):=le_trans (QdG l s) (D9 _ _)
def Sf (call:Nat->List D->Option D) (zcall:Nat->List D->QEf->Option (D × QEf)):Nat->z5->St->Option (AExit × St)
 |0,_,_=>none
 |n+1,c,s=>match c with
  | .skip=>some (.normal,s)
  | .region dr ops=>(match dr with
   |true=>ob (Qez call false (Dr.of (G2 ops (Qi7 ops s)).H true) ops (G2 ops (Qi7 ops s))) λs1=>some (.normal,s1)
   |false=>ob (Qab call zcall ops (G2 ops (Qi7 ops s))) λs1=>some (.normal,s1))
  | .na ops=>ob (Qez call true (Dr.of (G2 ops (Qi7 ops s)).H true) ops (G2 ops (Qi7 ops s))) λs1=>some (.normal,s1)
  | .seq a l b=>ob (Sf call zcall n a s) λ(e,s1)=>match e with
   | .normal=>Sf call zcall n b (Qq3 l s1)
   | .exit i=>some (.exit i,s1)
   | .ret=>some (.ret,s1)
  | .cond c a b=>ob (s.ev c) λd=>match d with
   | .bool true=>Sf call zcall n a s
   | .bool false=>Sf call zcall n b s
   |_=>none
  | .block id a=>ob (Sf call zcall n a s) λ(e,s1)=>match e with
   | .exit i=>if i=id then some (.normal,s1)else some (.exit i,s1)
   | .normal=>some (.normal,s1)
   | .ret=>some (.ret,s1)
  | .loop a=>ob (Sf call zcall n a s) λ(e,s1)=>match e with
   | .normal=>Sf call zcall n (.loop a) s1
   | .exit i=>some (.exit i,s1)
   | .ret=>some (.ret,s1)
  | .scope a=>Sf call zcall n a s
  | .exit id=>some (.exit id,s)
  | .ret=>some (.ret,s)
  | .z8 _ _ _ _=>none
theorem T4 (U:∀f ds d,call f ds=some d->Ok P f ds d) (Y:∀f ds H d H',zcall f ds H=some (d,H')->o7 P f ds H d H') {nt:Nat}:∀(n:Nat),(∀{c:z5} {s s1:St} {e:AExit},Sf call zcall n c s=some (e,s1)->TW P nt c (λe2 s2=>e2=e/\s2=s1) s)/\
  ∀{a:z5} {s s1:St} {e:AExit},Sf call zcall n (.loop a) s=some (e,s1)->∃m,l9 P nt a e s1 m s
 |0=>⟨λh=>(by cases h),λh=>(by cases h)⟩
 |n+1=>by
  obtain⟨M,V⟩:=T4 U Y (nt:=nt) n
  have hB:∀{a:z5} {s s1:St} {e:AExit},Sf call zcall (n+1) (.loop a) s=some (e,s1)->∃m,l9 P nt a e s1 m s:=by
   intro a s s1 e h;simp only[Sf]at h;obtain⟨⟨e2,s2⟩,G,C⟩:=QO h;dsimp only at C;have O:=M G;split at C
   ·obtain⟨m,h4⟩:=V C;exact⟨m+1,.next O (le_refl _) h4⟩
   cases C;exact⟨0,.stop O Wd⟩
   cases C;exact⟨0,.stop O Wd⟩
  refine⟨?_,hB⟩;intro c s s1 e h;cases c with
  |skip=>simp only[Sf,QEl,QFe]at h;obtain⟨rfl,rfl⟩:=h;exact Qp ⟨rfl,rfl⟩
  |region dr ops=>
   cases dr with
   |true=>
    simp only[Sf]at h;obtain⟨s2,G,C⟩:=QO h;cases C
    exact MO (le_trans (Sr ops s) (HN ops _)) (QJ λK T=>Xr U G (T _ ⟨rfl,rfl⟩))
   |false=>
    simp only[Sf]at h;obtain⟨s2,G,C⟩:=QO h;cases C
    exact MO (le_trans (Sr ops s) (HN ops _)) (QmY (NG U Y G _ ⟨rfl,rfl⟩))
  |na ops=>
   simp only[Sf]at h;obtain⟨s2,G,C⟩:=QO h;cases C
   exact MO (le_trans (Sr ops s) (HN ops _)) (RE λK T=>Xr (w:=true) U G (T _ ⟨rfl,rfl⟩))
  |seq a l b=>
   simp only[Sf]at h;obtain⟨⟨e2,s2⟩,G,C⟩:=QO h;dsimp only at C;have O:=M G;split at C;exact HD (ι:=Unit) (λ_=>Qq3 l s2) (λ_=>True) (Z8 (λ_ _ ⟨p,q⟩=>by subst p q;exact⟨(),Qlh l _,trivial⟩) O) λ_ _=>M C
   cases C;exact Qw (Z8 (λ_ _ ⟨p,q⟩=>by subst p q;trivial) O)
   cases C;exact Qw (Z8 (λ_ _ ⟨p,q⟩=>by subst p q;trivial) O)
  |cond c a b=>
   grind [Sf,Zb,Zq]
  |block id a=>
   simp only[Sf]at h;obtain⟨⟨e2,s2⟩,G,C⟩:=QO h;dsimp only at C;have O:=M G;refine Qu (Z8 (λe3 s3 ⟨p,q⟩=>?_) O);subst p q;split at C;split at C
   (repeat clear T K);simp_all [XY]
   (repeat clear T K);simp_all [XY]
   cases C;trivial
   cases C;trivial
  |loop a=>obtain⟨m,G⟩:=hB h;exact G.tw
  |scope a=>grind [Sf,LG]
  |exit id=>simp only[Sf,QEl,QFe]at h;obtain⟨rfl,rfl⟩:=h;exact Q3 ⟨rfl,rfl⟩
  |ret=>simp only[Sf,QEl,QFe]at h;obtain⟨rfl,rfl⟩:=h;exact Qv ⟨rfl,rfl⟩
  |z8 x p q a=>trivial
def QtM (s:St):Jx->Option D
 | .tmp t=>ob (lk s.fr t) λp=>some (TQ small s p)
 | .cell t agg sz=>ob (lk s.fr t) λp=>ob (s.md p) λcells=>match agg with
  |true=>gd (Nat.ble sz cells.length) (some (TQ small s (.agg (cells.take sz))))
  |false=>ob cells.head? λq=>some (TQ small s q)
theorem Qbt {r:Jx} (h:QtM s r=some d):JT small s r d:=by
 cases r with
 |tmp t=>
  obtain⟨p,G,C⟩:=QO h;cases C;exact⟨p,G,rfl⟩
 |cell t agg sz=>
  obtain⟨p,G,C⟩:=QO h;obtain⟨cells,O,M⟩:=QO C;refine⟨p,cells,G,Nb.2 O, ?_⟩;cases agg
  grind
  obtain⟨U,T⟩:=ZT M;simp_all
def Qwx (H:QEf):List Nat:=((H.map Prod.fst).filter λk=>Nat.ble 1000000 k).eraseDups
def QtA (H:QEf):List Nat:=((Qwx H).flatMap λk=>match lk H k with
 |some b=>b.ids.filter λj=>Nat.ble (j+1) 1000000
 |none=>[]).eraseDups
def Pi (s:St):St:=
 match QtA s.H with
 |[k]=>if Nat.beq k 500000=true then s else s.u5 (YG k 500000)
 |_=>s
theorem QoY {k:Nat} (h:k∈QtA H):k<1000000:=by
 unfold QtA at h;rw[List.mem_eraseDups]at h;obtain⟨j,_,h⟩:=QEp.1 h;split at h;exact QEi (QFF.1 h).2
 grind
theorem QkD (s:St):s.le (Pi s):=by
 grind [Pi,le_refl,Hm,QoY]
def QuF (rs:List Jx) (H0:QEf) (s:St):Option (D × QEf):=
 match Pi s,rs with
 |s2,[r]=>ob (QtM s2 r) λd=>match Yj (Qwx s2.H++QtA s2.H) s2.H with
  |H'=>gd (d.ids.isEmpty&&((H0.all λp=>!Nat.ble 1000000 p.1||(lk H' p.1).isSome)&&H'.all λp=>Nat.ble 500000 p.1&&p.2.ids.all λj=>(lk H' j).isSome)) (some (d,H'))
 |_,_=>none
theorem Qd7 {rs:List Jx} {H0 H':QEf} (h:QuF rs H0 s=some (d,H')):∃s2,s.le s2/\(∀k,1000000<=k->(lk H0 k).isSome=true->(lk H' k).isSome=true)/\(∀k b,lk H' k=some b->500000<=k/\∀j∈b.ids,(lk H' j).isSome=true)/\∀e,(∀i,e≠.exit i)->FS rs d H' e s2:=by
 unfold QuF at h;split at h;rename_i r;obtain⟨d1,T,G⟩:=QO h;dsimp only at G;obtain⟨C,O⟩:=ZT G;cases O
 simp only[QEm]at C;obtain⟨Y,V,U⟩:=C;refine⟨Pi s,QkD s,λk hk M=>?_,λk b hb=>?_,λe he=>?_⟩;obtain⟨b,hb⟩:=Gj M;have:=QEs.1 V _ hb
 (repeat clear hK K);simp_all [QFI]
 have:=QEs.1 U _ (ZJ hb)
 (repeat clear hK K);simp_all
 have hp:((([r]:List Jx)=[]/\d=.g8 [])\/(∃r1,[r]=[r1]/\JT small (Pi s) r1 d)\/(∃r1 r2 d1 d2,[r]=[r1,r2]/\d=.g8 [d1,d2]/\d1.pure=true/\d2.pure=true/\JT small (Pi s) r1 d1/\JT small (Pi s) r2 d2)\/∃r1 r2 cs d2,[r]=[r1,r2]/\d=.ia cs d2/\d2.pure=true/\JT small (Pi s) r1 (.agg cs)/\JT small (Pi s) r2 d2)/\∀k b,lk (Yj (Qwx (Pi s).H++QtA (Pi s).H) (Pi s).H) k=some b->lk (Pi s).H k=some b:=by
  refine⟨.inr (.inl ⟨r,rfl,Qbt T⟩),λk b hb=>?_⟩
  (repeat clear hK K);simp_all [KH]
 cases e with
 |exit i=>grind
 |normal=>exact hp
 |ret=>exact hp
 grind
def exX (tab:List (Nat × o6)):Nat->Nat->List D->QEf->Option (D × QEf)
 |0,_,_,_=>none
 |n+1,f,ds,H=>ob (lk tab f) λtf=>gd (Nat.ble ds.length tf.nt) (ob (Sf (λf ds=>ob (exX tab n f ds []) λp=>some p.1) (λf ds H=>match H with
   |[]=>none
   |p::H=>exX tab n f ds (p::H)) n tf.body ⟨MQ 0 ds,H⟩) λq=>match q.1 with
  | .exit _=>none
  |_=>(match H with
   |[]=>ob (QxD q.2 tf.rs) λd=>some (d,[])
   |_=>QuF tf.rs H q.2))
theorem Sh (hm:P.follows .mixedOrders=true) {M:List (Nat × o6)} (O:QdS P M):∀(n:Nat) {f:Nat} {ds:List D} {H H':QEf} {d:D},exX M n f ds H=some (d,H')->(H=[]->Ok P f ds d)/\(H≠[]->o7 P f ds H d H')
 |0,_,_,_,_,_,h=>by cases h
 |n+1,f,ds,H,H',d,h=>by
  simp only[exX]at h;obtain⟨tf,h1,h2⟩:=QO h;obtain⟨h3,h4⟩:=ZT h2;obtain⟨⟨e,s⟩,h5,T⟩:=QO h4;obtain⟨V,fn,Y,hp⟩:=O f tf h1
  have U:=(T4 (P:=P) (nt:=tf.nt) (λf ds d h=>by
   obtain⟨⟨d1,H1⟩,G,C⟩:=QO h;cases C
   exact(Sh hm O n G).1 rfl) (λf ds H d H' h=>by
   cases H with
   |nil=>cases h
   |cons p H=>exact(Sh hm O n h).2 Wd) n).1 h5
  dsimp only at T;refine⟨λhH=>?_,λhH=>?_⟩;subst hH;refine Ok.n7 hm Y hp (QEi h3) (Z8 (λe2 s2 ⟨p,q⟩=>?_) U) V;subst p q;cases e2 with
  |exit i=>grind
  |normal=>obtain⟨d1,G,C⟩:=QO T;cases C;exact FJ G
  |ret=>obtain⟨d1,G,C⟩:=QO T;cases C;exact FJ G
  have key:QuF tf.rs H s=some (d,H')/\∀i,e≠.exit i:=by
   grind
  obtain⟨s2,G,C,q3,q4⟩:=Qd7 key.1;exact o7.n7 hm Y hp (QEi h3) C q3 (RG (Z8 (λe2 s3 ⟨p,q⟩=>by grind) U)) V
end
def ctX (P:Program) (fs:List Nat) (n:Nat) (c:Ct) (f:Nat):Bool:=
 (Nat.beq c.nx 1&&(Nat.beq c.mx 1&&c.rc.isEmpty))&&(match Qru c.az with
  |some l=>(match QmI P fs with
   |tab=>l.all λds=>match exX tab n f ds []with
    |some p=>Qu2 c.rv p.1
    |none=>false)
  |none=>false)
theorem Ct.bg {fs:List Nat} {c:Ct} (hm:P.follows .mixedOrders=true) (h:ctX P fs n c f=true):c.ok P f:=by
 intro μ ds U T O M;simp only[ctX,QEm]at h;obtain⟨⟨h1,Y,V⟩,G⟩:=h;split at G;rename_i l e1;have C:=QEs.1 G _ (QaT e1 M);split at C;rename_i p e2;refine⟨[],p.1, ?_, ?_,QhQ C,Ok.can ((Sh hm (Pu fs) n (H':=p.2) e2).1 rfl)⟩
 (repeat clear hK K);simp_all
 grind [ZF]
 grind
 grind
theorem Ct.parts {ls:List (List UInt8)} {az:List Vl} {cs:List Cn} {rv:Vl} {m:Nat} {rc:List Cn} {gs:List (List (List UInt8))} (T:(ls.all λl=>gs.any λg=>g.contains l)=true) (h:∀g∈gs,Ct.ok P f ⟨.ty (.c g)::az,n,cs,rv,m,rc⟩):Ct.ok P f ⟨.ty (.c ls)::az,n,cs,rv,m,rc⟩:=by
 intro μ ds O M G C;obtain⟨d,r,rfl,⟨l,Y,rfl⟩,V⟩:=C;obtain⟨g,U,h4⟩:=QFy.1 (QEs.1 T l Y);exact h g U μ _ O M G ⟨_,r,rfl,⟨l,by grind,rfl⟩,V⟩
end Go.Abs
namespace Go.Proofs
open Go Go.Abs
set_option maxRecDepth 100000
set_option maxHeartbeats 0
def rIs:List Tp:=[pB 1 1,pB 0 0,pB 0 0,pB 0 2,.c tWord]
def QzF:List Tp:=[pB 2 2,pB 0 0,pB 0 0,pB 0 0,.c [[]]]
def shM (i:Nat):List (List Tp):=if Nat.beq i 0=true then[]else if Nat.beq i 1=true then[rIs]else[rIs,QzF]
def fxM (i:Nat):Vl:=.fx ((shM i).map λr=>r.map Vl.ty)
def tW1 (s:List UInt8):List (List UInt8):=tKey.flatMap λk=>tWord.map λw=>k++s++w
def Qlc (i:Nat):List (List UInt8):=if Nat.beq i 0=true then[[]]else if Nat.beq i 1=true then tW1 [32,61,32]else tW1 [32,33,61,32]
def Qrp (i:Nat):Ct:=c0 [pc (Qlc i)] (.uu [.aa [fxM i],QbF])
def QdX (i:Nat):Ct:=c0 [.v (.aa [fxM i])] tb
def Qrq (i:Nat):Ct:=c0 [.v (.aa [fxM i])] (ty (.s 300))
def fsW:List Nat:=[220,246,247,261,262,263,264,265,273,274,275,283,284,285,291,197,95,135,136,255]
def gW:Nat->List Ct:=λf=>if Nat.beq f 220=true then[Qrp 0,Qrp 1,Qrp 2]else if Nat.beq f 247=true then[QdX 0,QdX 1,QdX 2]else if Nat.beq f 255=true then[Qrq 0,Qrq 1,Qrq 2]else[]
def an0:An:=ZI [] 14
def QjA (i:Nat):Ct:=c0 [pc (Qlc i)] tb
def Qjz (i:Nat):Ct:=c0 [pc (Qlc i),.s S6] tb
def spW:List Sp:=[⟨184,Qjz 0,an0,[],none⟩,⟨184,Qjz 1,an0,[],none⟩,⟨184,Qjz 2,an0,[],none⟩,⟨232,QjA 0,an0,[],none⟩,⟨232,QjA 1,an0,[],none⟩,⟨232,QjA 2,an0,[],none⟩,
 ⟨221,c0 [.v (.aa [fxM 0]),.s S6] (ty (pB 0 2)),an0,[],none⟩,⟨221,c0 [.v (.aa [fxM 1]),.s S6] (ty (pB 0 2)),an0,[],none⟩,⟨221,c0 [.v (.aa [fxM 2]),.s S6] (ty (pB 0 2)),an0,[],none⟩,
 ⟨248,c0 [.v (.aa [fxM 1]),.s S6] (.ll [pB 0 2] 0 1),an0,[],none⟩,⟨248,c0 [.v (.aa [fxM 2]),.s S6] (.ll [pB 0 2] 0 2),an0,[],none⟩,
 ⟨266,c0 [.s rIs,.l [pB 0 2] 2,.s S6] (ty (pB 0 2)),an0,[],none⟩,⟨266,c0 [.s QzF,.e [pB 0 2] 1,.s S6] (ty (pB 0 2)),an0,[],none⟩,
 ⟨64,c0 [.s S6] tb,an0,[],none⟩,⟨95,c0 [.t 100000] tb,ZI [QnN 0 3 0 1 0] 14,[],none⟩,⟨136,c0 [.v (ty (.i .u8 0 255))] tb,an0,[],none⟩,⟨135,c0 [.v (ty (.i .u8 0 255))] tb,an0,[],none⟩]
theorem Qt5:Yo Tryz.prog gW noZ spW=true:=by decide+kernel
theorem QBy:ctX Tryz.prog fsW 60 (Qrp 0) 220=true:=by decide+kernel
theorem QBv:ctX Tryz.prog fsW 60 (QdX 0) 247=true:=by decide+kernel
theorem QBB:ctX Tryz.prog fsW 60 (Qrq 0) 255=true:=by decide+kernel
theorem QBz:ctX Tryz.prog fsW 60 (Qrp 1) 220=true:=by decide+kernel
theorem QBw:ctX Tryz.prog fsW 60 (QdX 1) 247=true:=by decide+kernel
theorem QBC:ctX Tryz.prog fsW 60 (Qrq 1) 255=true:=by decide+kernel
theorem QBA:ctX Tryz.prog fsW 60 (Qrp 2) 220=true:=by decide+kernel
theorem QBx:ctX Tryz.prog fsW 60 (QdX 2) 247=true:=by decide+kernel
theorem QBD:ctX Tryz.prog fsW 60 (Qrq 2) 255=true:=by decide+kernel
theorem Qw3 (hm:Tryz.prog.follows .mixedOrders=true):∀f,∀c∈gW f,c.ok Tryz.prog f:=λf c C=>by
 unfold gW at C;split at C;rename_i e;have e:=QFG e;subst e;simp only[QEk,QEj,or_false]at C;rcases C with rfl |rfl |rfl
 grind [Ct.bg,QBy]
 grind [Ct.bg,QBz]
 grind [Ct.bg,QBA]
 split at C;rename_i e;have e:=QFG e;subst e;simp only[QEk,QEj,or_false]at C;rcases C with rfl |rfl |rfl
 grind [Ct.bg,QBv]
 grind [Ct.bg,QBw]
 grind [Ct.bg,QBx]
 split at C;rename_i e;have e:=QFG e;subst e;simp only[QEk,QEj,or_false]at C;rcases C with rfl |rfl |rfl
 grind [Ct.bg,QBB]
 grind [Ct.bg,QBC]
 grind [Ct.bg,QBD]
 grind
theorem QzY (hm:Tryz.prog.follows .mixedOrders=true):∀f,∀c∈tbS gW spW f,c.ok Tryz.prog f:=(QdE hm (Qw3 hm) (gz:=noZ) (λ_ _ h=>by cases h) Qt5).1
theorem Qzx {α:Type} {a b c:α} {p:α->Prop} (ha:p a) (hb:p b) (C:p c):∀x∈[a,b,c],p x:=λx hx=>by
 grind
theorem QsS (hm:Tryz.prog.follows .mixedOrders=true):∀c∈spG 232,c.ok Tryz.prog 232:=λc C=>by
 have e:spG 232=[c0 [pc QbH] tb]:=by rfl
 rw[e,QEr]at C;subst C;have w:tbS gW spW 232=[QjA 0,QjA 1,QjA 2]:=by rfl
 have h:=λc C=>QzY hm 232 c (by rw[w];exact C)
 exact Ct.parts (gs:=[Qlc 0,Qlc 1,Qlc 2]) Wg (Qzx (h (QjA 0) Wd) (h (QjA 1) Wd) (h (QjA 2) Wd))
theorem gOn (hm:Tryz.prog.follows .mixedOrders=true):∀c∈spG 184,c.ok Tryz.prog 184:=λc C=>by
 have e:spG 184=[c0 [pc QbH,.s S6] tb]:=by rfl
 rw[e,QEr]at C;subst C;have w:tbS gW spW 184=[Qjz 0,Qjz 1,Qjz 2]:=by rfl
 have h:=λc C=>QzY hm 184 c (by rw[w];exact C)
 exact Ct.parts (gs:=[Qlc 0,Qlc 1,Qlc 2]) Wg (Qzx (h (Qjz 0) Wd) (h (Qjz 1) Wd) (h (Qjz 2) Wd))
open M3 M25
set_option maxHeartbeats 1000000
variable {k:Int} {l:List Int}
theorem QBs (hm:Tryz.prog.follows .mixedOrders=true):∀f,∀c∈spG f,c.ok Tryz.prog f:=λf c G=>by
 have C:∀k,f≠k->¬Nat.beq f k=true:=λk h e=>h (QFG e)
 by_cases h1:f=35
 grind [QsR]
 by_cases h2:f=128
 grind [QsT]
 by_cases h3:f=232
 grind [QsS]
 by_cases h4:f=271
 grind [QBt]
 by_cases h5:f=276
 grind [gOr]
 by_cases h6:f=288
 grind [QBu]
 by_cases h7:f=286
 grind [Qw2]
 (repeat clear hK K);simp_all [gOn,spG]
theorem QoS {P:Program} {f:Nat} {ds l:List D} (h:Ok P f ds (.g8 l)):Ok P f ds (.g8 (l.map D.can)):=by
 refine⟨h.1,λK w vs hk C=>(h.2 K w vs hk C).mono λe w' ⟨v,K',he,hr,rest⟩=>⟨v,K',he, ?_,rest⟩⟩
 grind [s4,S9]
def cSm:Ct:=MP [pL,.i 0 1000] [] (λ_=>.uu [.ll Qen 0 1,.ll H5 0 1]) 0 (λ_=>[])
def cEn:Ct:=c0 [pL,.i 0 9000] (.aa (tyV S6))
def cBu:Ct:=MP [.e Qen 1,.e H5 1,.s S6,.e Qdf 0] [] (λn=>.uu [.aa [.ll Qep n 0],.ei .i64 0 40 [(0,n, -1)]]) 1 (λn=>cIn n 0 48)
theorem mSm:tbS spH sq 30=[cSm]:=by rfl
theorem mEn:tbS spH sq 32=[cEn]:=by rfl
theorem mBu:tbS spH sq 31=[cBu]:=by rfl
theorem Qof (hi:∀x∈l,I64 x):∀r∈l.map (λn=>[D.int .i64 n]),Tp.n6 [tI] r:=λr hr=>by
 obtain⟨n,C,rfl⟩:=QEw.1 hr;exact⟨_,_,rfl,⟨n,rfl,(hi n C).1,(hi n C).2⟩,rfl⟩
theorem QtD {b:Int} (h0:0<=k) (hk:k<=b):k8 [0,(l.length:Int),k] [(0,1,0),(0,2,0),(2,0,b)]:=λc C=>by
 simp only[QEk,QEj,or_false]at C;rcases C with rfl |rfl |rfl
 exact⟨0,l.length,rfl,rfl,by simp⟩;exact⟨0,k,rfl,rfl,by grind⟩;exact⟨k,0,rfl,rfl,by grind⟩
theorem Qmu (hi:∀x∈l,I64 x):Vl.a5 [0,(l.length:Int),k] [.ll [tI] 1 0,.nn .i64 2 0] [Q0 l,.int .i64 k]:=
 ⟨_,_,rfl,⟨_,.inl rfl,⟨l.length,rfl,by simp⟩,Qof hi⟩,_,_,rfl,⟨k,rfl,k,rfl,Wa⟩,rfl⟩
theorem law_build (hm:Tryz.prog.follows .mixedOrders=true) (hi:∀x∈l,I64 x):∃ry rs v1 v2 v3 w x,Ok Tryz.prog 30 [Q0 l,.int .i64 0] (.g8 [.sl ry,.sl rs])/\Ok Tryz.prog 32 [Q0 l,.int .i64 460] (.agg [.str v1,.str v2,.str v3])/\Ok Tryz.prog 31 [.sl ry,.sl rs,.agg [.str v1,.str v2,.str v3],.sl []] (.g8 [Q9 w,.int .i64 x])/\Xc w/\w.length<=48/\(x=0->1<=w.length)/\(∀u∈w,∀c∈u.cs,Qrj c):=by
 have all:=QlI hm (QBs hm);obtain⟨e1,d1,_,_,⟨_,rfl,y,_,rfl,⟨ry,hy,ly,ty⟩,s,_,rfl,⟨rs,hs,ls,ts⟩,rfl⟩,o1⟩:=all 30 cSm (by grind [mSm]) [0,l.length,0] [Q0 l,.int .i64 0] rfl rfl (QtD Wa Wa) (Qmu hi);obtain⟨e2,d2,_,_,⟨T,rfl,Y⟩,o2⟩:=all 32 cEn (by grind [mEn]) [0,l.length,460] [Q0 l,.int .i64 460] rfl rfl (QtD Wa Wa) (Qmu hi)
 have ly:ry.length=1:=by
  obtain⟨v,M,G⟩:=ly
  grind
 have ls:rs.length=1:=by
  obtain⟨v,M,G⟩:=ls
  grind
 have cy:y.can=.sl ry:=by rcases hy with rfl |rfl<;>rfl
 have cs:s.can=.sl rs:=by rcases hs with rfl |rfl<;>rfl
 have o1:=QoS o1;simp only[QEW,QFx,cy,cs]at o1
 have C:Vl.a5 ([0,1,1,0]:List Int) (tyV S6) T:=by
  trivial
 obtain⟨e3,d3,m3,c3,⟨_,rfl,w0,_,rfl,⟨_,rfl,u,_,rfl,⟨rows,hu,lu,tu⟩,rfl⟩,x0,_,rfl,⟨x,rfl,_,hx⟩,rfl⟩,o3⟩:=all 31 cBu (by grind [mBu]) [0,1,1,0] [.sl ry,.sl rs,.agg T,.sl []] rfl rfl (λc O=>by
   have O:c∈([(0,1, -1),(1,0,1),(0,2, -1),(2,0,1),(0,3,0),(3,0,0)]:List Cn):=O;simp only[QEk,QEj,or_false]at O;rcases O with rfl |rfl |rfl |rfl |rfl |rfl<;>exact⟨_,_,rfl,rfl,by decide⟩)
  ⟨_,_,rfl,⟨ry,.inl rfl,⟨1,rfl,Wa⟩,ty⟩,_,_,rfl,⟨rs,.inl rfl,⟨1,rfl,Wa⟩,ts⟩,_,_,rfl,⟨T,rfl,C⟩,_,_,rfl,⟨[],.inl rfl,⟨0,rfl,rfl⟩,λr hr=>by grind⟩,rfl⟩
 obtain⟨n,M,G⟩:=lu;have M:([0,1,1,0]++e3)[4]?=some n:=M;have G:(rows.length:Int)=n+0:=G
 have b1:n<=48:=by
  obtain⟨a,b,w1,w2,w3⟩:=c3 (4,0,48) (show((4,0,48):Cn)∈[((0,4,0):Cn),(4,0,48)] by simp)
  grind
 obtain⟨w,hw1,hw2,V,U⟩:=Qrb hu Wa tu;obtain⟨v1,_,rfl,⟨z1,_,rfl⟩,v2,_,rfl,⟨z2,_,rfl⟩,v3,_,rfl,⟨z3,_,rfl⟩,rfl⟩:=Y;refine⟨ry,rs,z1,z2,z3,w,x,o1,o2,Qtv o3 ?_ ?_,V,Wa,λh0=>?_,U⟩
 grind [Q9,D.wk,wkL]
 grind [D.wk]
 have hx:Abs.k8 ([0,1,1,0]++e3) [(0,4, -1)]:=hx h0;obtain⟨a,b,w1,w2,w3⟩:=hx (0,4, -1) (QEr.2 rfl)
 grind
end Go.Proofs
