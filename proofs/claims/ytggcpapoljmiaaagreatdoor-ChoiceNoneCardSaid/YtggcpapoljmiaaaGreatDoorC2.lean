/- Part 2 of the means of the proof: a verified evaluator and contracts of functions. -/
import Derived.Test.YtggcpapoljmiaaaGreatDoorC1
import Derived.OrdersIn
import Derived.RangeFuncWrites
import Derived.RangeFuncCalls
import Derived.RangeFuncLeaves
import Derived.TacticsIn
import Derived.Scope
import Derived.ProofKit
import Derived.Below
import Derived.Carry
import Derived.LaidLaws
import Derived.MakeChecks
set_option maxRecDepth 4000
set_option maxHeartbeats 4000000
set_option linter.unusedSimpArgs false
set_option linter.unusedVariables false
set_option linter.unusedSectionVars false
namespace Go.Abs
open Go
variable {K':Act->World->Prop} {Q:Exit->Act->World->Prop} {R W:List (Nat × Nat)} {a:Act} {b:u4} {c i j k nt off sz:Nat} {d e:D} {dst:Option Nat} {ef eg:QzK} {g:Gh} {listed:Array Bool} {o o' oi' oj':z1} {oi oj:Oper} {p pi pj q qi qj:List Nat} {s s' s1 s2:St} {w:World}
section
variable {P:Program} {E:Env} {ops:Array Oper} {l':List z1}
def Qn9 (E:Env) (s:St):Prop:=∃g a w,Rel E g s a w
def PN (P:Program) (nt:Nat) (ops:Array Oper) (l':List z1):Prop:=∀(i:Nat) (o:Oper),ops[i]?=some o->∃o',l'[i]?=some o'/\QW P nt ops o=some o'
theorem QK {nt:Nat}:∀{l:List Oper} {l':List z1},Ql P nt ops l=some l'->∀(i:Nat) (o:Oper),l[i]?=some o->∃o',l'[i]?=some o'/\QW P nt ops o=some o'
 |[],l',_,i,o,h=>by grind
 |x::xs,l',hp,i,o,h=>by
  simp[Ql]at hp;split at hp;rename_i o' C e1 e2;cases hp
  cases i with
  |zero=>grind
  |succ i=>simpa using QK e2 i o Wb
  grind
theorem QiY {o:Oper} (hnt:E.nt=nt) (r:Rel E g s a w) (hp:QW P nt ops o=some o') (hy:stD o'.op s k b)
 (T:∀g' a' w',Rel E g' (s.g8 o.dst .undef [(k,b)]) a' w'->K' a' w'):o.wp P a w K' Q:=by
 obtain⟨h1,h2,h3,h4⟩:=Qq hp;have M:∀t,o.dst=some t->t<E.nt:=λt M=>by grind
 obtain⟨n,w',g',q1,O,Y,V⟩:=Ri r h1 (De hy);unfold Oper.wp;rw[q1];have G:Rel E g' ({s with H:=(k,b)::s.H}.s6 o.dst none) a w':=by cases o.dst<;>exact O
 have C:Has ({s with H:=(k,b)::s.H}.s6 o.dst none) .undef:=by cases o.dst<;>exact Y
 have e:{s with H:=(k,b)::s.H}.apply o.dst .undef none=s.g8 o.dst .undef [(k,b)]:=by cases o.dst<;>rfl
 rcases V with⟨rfl,_⟩ |⟨u,rfl,U⟩;exact T g' _ w' (e ▸ O.skip M);exact T g' _ w' (e ▸ G.apply U C M)
def YT (P:Program) (o:z1) (s:St) (d:D) (ef:QzK):Prop:=
 ((∃bx,Xz P o s d bx/\ef=alL o.dst bx)\/∃k b,stD o.op s k b/\d=.undef/\ef=[(k,b)])\/∃B p q,EF P B o.op o.dst s p q d ef
theorem Qq3 {B:Nat->Prop} (h:YD P B o s p q d ef):(gw s o.guard=some true/\YT P o s d ef)\/(gw s o.guard=some false/\d=.undef/\ef=[]):=by
 rcases h with⟨h1,⟨h2,_⟩ |h2⟩ |⟨h1,h2,C,_⟩;exact .inl ⟨h1,.inl h2⟩;exact .inl ⟨h1,.inr ⟨B,p,q,h2⟩⟩
 grind
theorem QcE {o:Oper} (G:E.nt=nt) (r:Rel E g s a w) (hp:QW P nt ops o=some o') (C:YT P o' s d ef)
 (M:∀g' a' w',Rel E g' (s.g8 o'.dst d ef) a' w'->K' a' w'):o.wp P a w K' Q:=by
 obtain⟨h1,h2,T,O⟩:=Qq hp;rcases C with(⟨bx,C,rfl⟩ |⟨k,b,C,rfl,rfl⟩) |⟨B,p,q,he⟩
 grind [FM,HJ]
 grind [QiY]
 grind [Qa4]
theorem TI {B:Nat->Prop} {o:Oper} (T:E.nt=nt) (h:Qn9 E s) (hp:QW P nt ops o=some o') (O:YD P B o' s p q d ef):Qn9 E (s.g8 o'.dst d ef):=by
 obtain⟨g,a,w,r⟩:=h;obtain⟨h1,h2,V,Y⟩:=Qq hp;have U:∀t,o.dst=some t->t<E.nt:=λt U=>by grind
 rcases Qq3 O with⟨_,O⟩ |⟨_,rfl,rfl⟩
 ·have hw:=QcE (K':=λa' w'=>∃g',Rel E g' (s.g8 o'.dst d ef) a' w') (Q:=λ_ _ _=>False) T r hp O λg' a' w' C=>⟨g',C⟩;unfold Oper.wp at hw;generalize (execOp a.eval o).run P w=res at hw;cases res with
  |ok n w'=>
   cases n<;>simp[Oper.upon]at hw
   case value v=>obtain⟨g',C⟩:=hw;exact⟨g',_,_,C⟩
   case skip=>obtain⟨g',C⟩:=hw;exact⟨g',_,_,C⟩
   case defer d=>obtain⟨g',C⟩:=hw;exact⟨g',_,_,C⟩
   case enter f args=>
    obtain⟨e,M,fr,G,_⟩:=hw [];cases e with
    |returned v=>obtain⟨g',C⟩:=G;exact⟨g',_,_,C⟩
    |panicked c=>grind
    |outgrown=>obtain⟨_,_,G⟩:=G;grind
   case row row args=>
    obtain⟨v,M,G,_⟩:=hw default [];obtain⟨g',C⟩:=G;exact⟨g',_,_,C⟩
  |halt x w'=>cases x<;>simp[Oper.upon]at hw
 have:=r.skip U;rw[V,<- (show s.apply o.dst .undef none=s.g8 o.dst .undef [] by cases o.dst<;>rfl)]
 exact⟨g,_,w,this⟩
def Dep (ops:Array Oper) (j i:Nat):Prop:=∃oj,ops[j]?=some oj/\∃e∈oj.after,Region.binds .any e=true/\e.on=i
inductive j9 (ops:Array Oper):Nat->Nat->Prop
 |one {j i:Nat}:Dep ops j i->j9 ops j i
 |more {j m i:Nat}:Dep ops j m->j9 ops m i->j9 ops j i
def Qhm (ops:Array Oper) (listed:Array Bool):Prop:=∀j i,listed.getD j false=true->Dep ops j i->listed.getD i false=true
theorem Qa3 {listed:Array Bool} (hd:Qhm ops listed):∀{j i:Nat},j9 ops j i->listed.getD j false=true->listed.getD i false=true
 |_,_,.one h,hj=>hd _ _ hj h
 |_,_,.more h h2,hj=>Qa3 hd h2 (hd _ _ hj h)
theorem NE (hd:Qhm ops listed) (hr:j∈Region.ready .any ops listed) (ha:j9 ops j i):listed.getD i false=true:=by
 obtain⟨_,oj,M,C⟩:=mem_ready.1 hr
 have one:∀m,Dep ops j m->listed.getD m false=true:=λm ⟨o,ho,e,he,hb,G⟩=>by
  grind
 cases ha with
 |one h=>grind
 |more h h2=>grind [Qa3]
theorem Nf (h:listed.getD j false=true):(listed.setIfInBounds i true).getD j false=true:=by
 (repeat clear hK K);simp_all [Array.getElem_setIfInBounds]
 grind
theorem Pd (hd:Qhm ops listed) (hr:j∈Region.ready .any ops listed):Qhm ops (listed.setIfInBounds j true):=λm i hm h=>by
 by_cases hmj:m=j
 subst hmj;exact Nf (NE hd hr (.one h));refine Nf (hd m i ?_ h);rcases QAb m listed.size with C |C
 (repeat clear hK K);simp_all [Ne.symm]
 grind
theorem Qjb (h:listed.getD i true=false):¬listed.getD i false=true:=λC=>by
 grind
def Fo (w:Bool) (P:Program) (B:Nat->Prop) (ops:Array Oper) (l':List z1) (KK:St->Prop):Nat->Array Bool->List (Nat × Nat)->List (Nat × Nat)->St->Prop
 |0,listed,_,_,s=>Region.ready .any ops listed=[]/\KK s
 |fuel+1,listed,R,W,s=>
  (Region.ready .any ops listed=[]->KK s)/\
  ∀i∈Region.ready .any ops listed,∃o' p q d ef,l'[i]?=some o'/\YD P B o' s p q d ef/\mf (j9 ops i) (tkR w o'.op s p) (tkW w o'.op s q) R W/\Fo w P B ops l' KK fuel (listed.setIfInBounds i true) (tag i (tkR w o'.op s p)++R) (tag i (tkW w o'.op s q)++W) (s.g8 o'.dst d ef)
variable {KK:St->Prop} {B:Nat->Prop} {ww:Bool}
theorem mf.less {C:Nat->Prop} {R' W':List (Nat × Nat)} (h:mf C p q R W) (M:∀k∈R',k∈R) (G:∀k∈W',k∈W):mf C p q R' W':=
 ⟨λk hk i hw=>h.1 k hk i (G _ hw),λk hk=>⟨λi hr=>(h.2 k hk).1 i (M _ hr),λi hw=>(h.2 k hk).2 i (G _ hw)⟩⟩
theorem PS (C:∀s s',s.same s'->KK s->KK s'):∀(fuel:Nat) (listed:Array Bool) (R W R' W':List (Nat × Nat)) (s s':St),s.same s'->(∀k∈R',k∈R)->(∀k∈W',k∈W)->Fo ww P B ops l' KK fuel listed R W s->Fo ww P B ops l' KK fuel listed R' W' s'
 |0,listed,_,_,_,_,s,s',h,_,_,ha=>⟨ha.1,C s s' h ha.2⟩
 |fuel+1,listed,R,W,R',W',s,s',h,hR,hW,ha=>⟨λhr=>C s s' h (ha.1 hr),λi hi=>by
   obtain⟨o',p,q,d,ef,h1,h2,O,M⟩:=ha.2 i hi;have G:∀x∈o'.op.u6,s'.ev x=s.ev x:=λx _=>Qgn h x;rw[<- QgE G,<- QgF G]at O M;refine⟨o',p,q,d,ef,h1,Qn7 h h2,O.less hR hW, ?_⟩;refine PS C fuel _ _ _ _ _ _ _ (Qh0 h _ _ _) ?_ ?_ M
   grind
   grind⟩
theorem QcD (C:YD P B o s p q d ef) (hk:lk ef k=some b):(o.dst=some k/\lk s.H k=none)\/(k∈q/\(lk s.H k).isSome=true):=by
 rcases C with⟨hg,⟨⟨bx,C,he⟩ |⟨k',b',h1,_,he⟩,hp,hq⟩ |he⟩ |⟨_,_,h,_⟩
 ·left;subst he;cases hd:o.dst with
  |none=>rw[hd]at hk;cases hk
  |some t=>
   cases bx with
   |none=>rw[hd]at hk;cases hk
   |some M=>
    rw[hd]at hk;simp[alL,Qe]at hk;split at hk
    rotate_left
    cases hk
    rename_i e;subst e;unfold Xz at C;split at C
    grind
    grind
    ·generalize o.op=ao at C;cases ao<;>simp only[SO]at C
     case alloc e cs=>grind
     case box e x=>grind
     case buildSlice l0 et ps=>
      grind
     case append l0 et bytes x y=>grind
     case makeSlice l0 et bytes z x y=>grind
     grind
     grind
     grind
     grind
     grind
     grind
     grind
     grind
     grind
     case k9=>grind
     grind
     case nc=>grind
     case xd l0 et bytes z x y=>grind
     grind
     grind
     grind
     grind
     grind
     grind
     grind
     grind
     grind
     grind
     grind
     grind
     grind
     grind
     grind
 ·right;subst he;rw[Qe]at hk;split at hk
  rotate_left
  trivial
  grind [QqN]
 ·generalize o.op=op at he;cases op<;>simp only[EF]at he
  case call f args=>
   rcases he with⟨HF,k',b',G,_,_,rfl,rfl⟩ |⟨HF,k',t,M,b',U,hd,G,_,_,rfl,_,rfl⟩ |⟨HF,t,M,n,hd,G,hn,_,_,rfl,_,rfl⟩
   ·right;rw[Qe]at hk;split at hk
    rotate_left
    cases hk
    rename_i e;subst e;obtain⟨ds,_,c1,_,_,T,_⟩:=G;obtain⟨b2,O⟩:=QzT.1 (T k' b' (by rw[Qe,if_pos rfl])).1
    grind
   obtain⟨ds,_,Y,_,_,V,_⟩:=G;rw[Qe]at hk;split at hk
   grind
   rw[Qe]at hk;split at hk
   grind
   trivial;rw[Qe]at hk;split at hk
   grind
   trivial
  case append l0 et bytes x y=>
   obtain⟨t,k',n,M,e,ys,pr,h0,_,_,h3,_,h5,_,_,_,_,_,_,_,_,_,rfl,_,rfl⟩:=he;rw[Qe]at hk;split at hk
   grind
   rw[Qe]at hk;split at hk
   grind
   trivial
 subst h;cases hk
theorem QiZ (C:YD P B o s p q d ef) (G:o.op.ma=true) (hb:lk s.H k=some b):∃b',lk (s.g8 o.dst d ef).H k=some b'/\b'.rows.length=b.rows.length/\b'.l0=b.l0:=by
 obtain⟨dst,op,gd⟩:=o;cases op<;>simp[z5.ma]at G;rcases C with⟨_,⟨⟨bx,h,_⟩ |⟨k',b',h,_,rfl⟩,_⟩ |h⟩ |⟨_,_,rfl,_⟩
 trivial;obtain⟨i,off,b0,row,q',cells,_,h2,_,_,_,_,_,rfl⟩:=h
 by_cases hk:k'=k
 subst hk;rw[h2]at hb;cases hb;exact⟨_,K5 (if_pos rfl),by simp,rfl⟩;exact⟨b,by rw[X7 (by rw[Qe,if_neg hk];rfl)];omega,rfl,rfl⟩
 trivial;exact⟨b,by trivial,rfl,rfl⟩
theorem PT (hl:Qn9 E s) (hi:QW P nt ops oi=some oi') (hj:QW P nt ops oj=some oj') (hap:∀t,oi.dst=some t->t∉oj.looksAt ops)
 (hne:∀t,oi.dst=some t->oj.dst≠some t) (hy:YD P B oi' s pi qi d ef):
  (∀x∈oj'.op.u6,(s.g8 oi'.dst d ef).ev x=s.ev x)/\gw (s.g8 oi'.dst d ef) oj'.guard=gw s oj'.guard/\(∀k∈pk oj'.op s,(lk s.H k).isSome=true)/\(∀x∈oj'.op.u6,∀d',s.ev x=some d'->∀k∈d'.ids,(lk s.H k).isSome=true)/\
   ((oj'.op.yc=true/\oi'.op.ma=true)\/(∀k∈pj,k∉qi)->(∀k∈pj,(lk s.H k).isSome=true)->DG oj'.op oj'.dst pj s (s.g8 oi'.dst d ef)/\DG oj'.op oj'.dst pj (s.g8 oi'.dst d ef) s):=by
 obtain⟨i1,i2,i3,i4⟩:=Qq hi;obtain⟨j1,j2,j3,j4⟩:=Qq hj
 have V:∀x∈oj'.op.u6,(s.g8 oi'.dst d ef).ev x=s.ev x:=by
  intro x hx
  have gcase:∀i,x=.s (900000+i)->(s.g8 oi'.dst d ef).ev x=s.ev x:=λi e=>by
   subst e;simp only[St.ev,KB,i3];rw[if_neg];intro h;have:=NB hi h;omega
  rcases Mo j1 x hx with⟨y,hy,T⟩ |⟨i,e⟩
  case inr=>grind
  rcases NA T with⟨t,rfl,rfl⟩ |⟨d',rfl,_⟩ |⟨i,e⟩
  case inr.inr=>grind
  simp only[St.ev,KB,i3];rw[if_neg];intro h;exact hap t h (QAN _ (List.mem_filterMap.2 ⟨.tmp t,by grind,rfl⟩));rfl
 have U:∀x∈oj'.op.u6,∀d',s.ev x=some d'->∀k∈d'.ids,(lk s.H k).isSome=true:=by
  intro x hx d' Y k hk;obtain⟨g,a,w,r⟩:=hl;rcases Mo j1 x hx with⟨y,hy,T⟩ |⟨i,rfl⟩
  exact(QH r T Y).2 k hk;exact r.s9 _ d' Y k hk
 have hpid:∀k∈pk oj'.op s,(lk s.H k).isSome=true:=by
  intro k hk;obtain⟨x,hx,hk⟩:=QzU.1 hk
  have hsub:x∈oj'.op.u6:=by
   generalize oj'.op=op at hx ⊢;cases op<;>simp[z5.b9,z5.u6]at hx ⊢<;>first |exact hx |grind |(grind)
  cases he:s.ev x with
  |none=>rw[he]at hk;cases hk
  |some d'=>rw[he]at hk;exact U x hsub d' he k hk
 have hgw:gw (s.g8 oi'.dst d ef) oj'.guard=gw s oj'.guard:=by
  cases hg:oj'.guard with
  |none=>rfl
  |some p=>
   obtain⟨t,b⟩:=p;simp[gw,KB];rw[if_neg];intro h
   grind [Oper.looksAt,Zo]
 refine⟨V,hgw,hpid,U,λhpk hin=>?_⟩
 have hkeep:(∀k∈pj,k∉qi)->∀k∈pj,lk (s.g8 oi'.dst d ef).H k=lk s.H k:=by
  intro hpk k hk;cases he:lk ef k with
  |none=>exact X7 he
  |some b=>
   rcases QcD hy he with⟨_,h2⟩ |⟨h1,_⟩
   grind
   grind
 have G:oj'.op.yc=false->∀k∈pj,lk (s.g8 oi'.dst d ef).H k=lk s.H k:=λhix=>by
  grind
 have M:∀k∈pj,∀b,lk s.H k=some b->∃b',lk (s.g8 oi'.dst d ef).H k=some b'/\b'.rows.length=b.rows.length/\b'.l0=b.l0:=by
  intro k hk b hb;rcases hpk with⟨_,h⟩ |h
  grind [QiZ]
  grind
 have C:∀k∈pj,∀b,lk (s.g8 oi'.dst d ef).H k=some b->∃b',lk s.H k=some b'/\b'.rows.length=b.rows.length/\b'.l0=b.l0:=by
  grind [Option.isSome_iff_exists]
 have O:∀k,(lk s.H k).isSome=true->(lk (s.g8 oi'.dst d ef).H k).isSome=true:=by
  intro k hk;cases he:lk ef k with
  |none=>grind [X7]
  |some b=>grind [K5]
 refine⟨⟨V,G,λ_=>M,λ_ _ _ _ k _ hk=>O k hk,λt ht hn=>?_⟩,⟨λx hx=>(V x hx).symm,λhix k hk=>(G hix k hk).symm,λ_=>C,λx hx d' Y k hk _=>U x hx d' Wb k hk,λt ht hn=>?_⟩⟩;cases he:lk ef t with
 |none=>grind [X7]
 |some b=>
  rcases QcD hy he with⟨h1,_⟩ |⟨_,h2⟩
  grind
  grind
 cases he:lk ef t with
 |none=>grind [X7]
 |some b=>grind [K5]
theorem QsZ {op:z5} (he:EF P B op dst s p q d ef) (G:∀x∈op.u6,∀d',s.ev x=some d'->∀k∈d'.ids,(lk s.H k).isSome=true) (U:∀k,B k->(lk s.H k).isSome=true):∀k∈p,(lk s.H k).isSome=true:=by
 cases op<;>simp only[EF]at he
 case call f args=>
  rcases he with⟨HF,k,b,_,h,rfl,_⟩ |⟨HF,k,t,b,b',O,_,M,h,rfl,_⟩ |⟨HF,t,b,n,_,_,_,h,rfl,_⟩
  grind
  intro j C;rcases QzP.1 C with rfl |C
  obtain⟨_,_,T,_⟩:=M;grind
  grind
  grind
 case append l0 et bytes x y=>
  obtain⟨t,k,n,b,e,ys,pr,_,_,_,_,_,Y,_,_,_,V,_,_,_,_,rfl,_⟩:=he;intro j C;rcases QzP.1 C with rfl |C
  grind
  grind [z5.u6]
theorem Qa5 (hk:(lk s.H k).isSome=true):(lk (s.g8 dst d ef).H k).isSome=true:=by
 cases he:lk ef k with
 |none=>grind [X7]
 |some b=>grind [K5]
theorem Qvy (M:YD P B o s' p q d ef) (C:∀x∈o.op.u6,s'.ev x=s.ev x) (U:∀k∈pk o.op s,(lk s.H k).isSome=true) (G:∀x∈o.op.u6,∀d',s.ev x=some d'->∀k∈d'.ids,(lk s.H k).isSome=true) (hB:∀k,B k->(lk s.H k).isSome=true):∀k∈p,(lk s.H k).isSome=true:=by
 rcases M with⟨_,⟨_,rfl,_⟩ |he⟩ |⟨_,_,_,rfl,_⟩
 grind [QmK]
 ·generalize o.op=op at he C G;cases op<;>simp only[EF]at he
  case call f args=>
   rcases he with⟨HF,k,b,_,h,rfl,_⟩ |⟨HF,k,t,b,b',Y,_,V,h,rfl,_⟩ |⟨HF,t,b,n,_,_,_,h,rfl,_⟩
   grind
   rotate_left
   grind
   intro j T;rcases QzP.1 T with rfl |T
   by_cases hBj:B j
   grind
   obtain⟨ds,h1,m1,_,_,_,_,_,_,_,⟨x,hx,O⟩,_⟩:=V;obtain⟨y,M,he⟩:=GE h1 x hx;rw[C y M]at he;exact G y M x he _ O
   grind
  case append l0 et bytes x y=>
   obtain⟨t,k,n,b,e,ys,pr,_,h1,_,_,_,h5,_,_,_,h9,_,_,_,_,rfl,_⟩:=he;intro j T;rw[C x Wm]at h1
   (repeat clear hK K);simp_all [z5.u6,D.ids,D.l4]
   grind [z5.u6]
 simp
theorem Qvx (C:YD P B o s p q d ef) (G:∀k∈pk o.op s,(lk s.H k).isSome=true) (M:∀x∈o.op.u6,∀d',s.ev x=some d'->∀k∈d'.ids,(lk s.H k).isSome=true) (O:∀k,B k->(lk s.H k).isSome=true):∀k∈p,(lk s.H k).isSome=true:=by
 rcases C with⟨_,⟨_,rfl,_⟩ |he⟩ |⟨_,_,_,rfl,_⟩;omega
 grind [QsZ]
 simp
def Qq4 (oj oi:z5) (s s':St):Prop:=∃agg sz x sz' x' v k i i' off off',oj=.load agg sz x/\oi=.store sz' x' v/\s.ev x=some (.ref k i off)/\s'.ev x'=some (.ref k i' off')/\∀c,off<=c->c<off+(if agg=true then sz else 1)->off'<=c->c<off'+sz'->False
theorem CJ (h1:off<=c) (h2:c<off+sz):Qls k c∈Rc k off sz:=
 Qz1.2 ⟨c - off,QAa.2 Wa,by grind⟩
theorem Qcv {ww:Bool} {oj oi:z1} (hj:YD P B oj s pj qj e eg) (hi:YD P B oi s' pi qi d ef) (h:∀t∈tkR ww oj.op s pj,t∉tkW ww oi.op s' qi):
  ((oj.op.yc=true/\oi.op.ma=true)\/∀k∈pj,k∉qi)\/Qq4 oj.op oi.op s s':=by
 have G:tkR ww oj.op s pj=HC oj.op pj->((oj.op.yc=true/\oi.op.ma=true)\/∀k∈pj,k∉qi)\/Qq4 oj.op oi.op s s':=λe=>.inl (QgI λt V O=>h t Wb (Dt O));cases ww
 exact G rfl
 ·obtain⟨dj,T,gj⟩:=oj;cases T<;>try exact G rfl
  case load agg sz x=>
   cases pj with
   |nil=>simp
   |cons k0 p0=>
    by_cases hr:∃k i off,s.ev x=some (.ref k i off)
    rotate_left
    refine G ?_;show cR (.load agg sz x) s (k0::p0)=HC (.load agg sz x) (k0::p0)
    grind [cR]
    obtain⟨k,i,off,hx⟩:=hr
    by_cases hk:Nat.ble 1000000 k=true
    have hp:k0::p0=[k]:=by
     rcases hj with⟨_,⟨_,hp,_⟩ |he⟩ |⟨_,_,_,hp,_⟩
     grind [pk,z5.b9,Qbr,D.ids,D.l4]
     trivial
     grind
    rw[hp]at h ⊢;have V:tkR true (.load agg sz x) s [k]=(2*k+1)::Rc k off (if agg=true then sz else 1):=by simp_all [tkR,cR]
    rw[V]at h
    by_cases O:k∈qi
    ·right;cases hs:oi.op.ma with
     |false=>
      exfalso;refine h (2*k+1) Wc (Dt ?_);unfold Kl
      grind
     |true=>
      obtain⟨di,U,gi⟩:=oi;cases U<;>simp[z5.ma]at hs
      case store sz' x' v=>
       rcases hi with⟨_,⟨⟨bx,hy,_⟩ |⟨k',b',h2,_,_⟩,_,M⟩ |he⟩ |⟨_,_,_,_,M⟩;trivial;obtain⟨i',C,b0,row,q',cells,Y,_⟩:=h2
       simp[wk,Y,Qbr,D.ids,D.l4]at M;subst M;simp at O;subst O;refine⟨agg,sz,x,sz',x',v,k,i,i',off,C,rfl,rfl,hx,Y,λc c1 c2 c3 c4=>?_⟩;have ht2:tkW true (.store sz' x' v) s' [k]=Kl (.store sz' x' v) [k]++Rc k C sz':=by simp_all [tkW,cW]
       exact h (Qls k c) (QAQ _ (CJ c1 c2)) (by grind [CJ]);trivial
       grind
    grind
    (repeat clear hK K);simp_all [tkR,cR]
theorem Qdh {row cells:List D} (h:off+cells.length<=row.length) (C:c<off\/off+cells.length<=c):(setRow row off cells)[c]?=row[c]?:=by
 unfold setRow;rcases C with C |C
 grind
 rw[QAE Wb,List.getElem?_drop,QAs,QAk,show off+cells.length+(c - (min off row.length+cells.length))=c by omega]
theorem Qdi {row cells:List D} (h:off+cells.length<=row.length):(setRow row off cells).length=row.length:=by
 unfold setRow
 grind
theorem Qiq {agg:Bool} {x:n5} {O:z5} {b':u4} {bx:Option u4} (st:stD O s1 k b') (ev:s2.ev x=s1.ev x) (h2:lk s2.H k=some b') (cel:Qq4 (.load agg sz x) O s1 s1):SO (.load agg sz x) dst s1 d bx↔SO (.load agg sz x) dst s2 d bx:=by
 obtain⟨agg0,sz0,x0,M,x',v,k0,i,i',off,C,e1,rfl,hx,hx',hcel⟩:=cel;cases e1
 obtain⟨i2,off2,b,row,q,cells,g1,g2,g3,g4,g5,g6,g7,rfl⟩:=st;rw[hx']at g1;cases g1
 have key:∀r,b.rows[i]?=some r->∃G,(b.rows.set i' (setRow row C cells))[i]?=some G/\G.length=r.length/\∀c,(c<C\/C+M<=c\/i≠i')->G[c]?=r[c]?:=λr hr=>by
  by_cases hi:i'=i
  subst hi;rw[g3]at hr;cases hr;refine⟨_,by rw[List.getElem?_set_self (QAm.1 g3).1],Qdi Wa,λc hc=>Qdh Wa ?_⟩;omega
  grind
 have out:∀c,off<=c->c<off+(if agg=true then sz else 1)->c<C\/C+M<=c\/i≠i':=λc h1 h2=>by
  grind
 have conv:∀r G:List D,G.length=r.length->(∀c,(c<C\/C+M<=c\/i≠i')->G[c]?=r[c]?)->
   ((if agg=true then sz<=(r.drop off).length/\d=.agg ((r.drop off).take sz)else(r.drop off).head?=some d)↔(if agg=true then sz<=(G.drop off).length/\d=.agg ((G.drop off).take sz)else(G.drop off).head?=some d)):=λr G hl hc=>by
  cases agg
  (repeat clear hK K);simp_all
  have:(G.drop off).take sz=(r.drop off).take sz:=by
   refine List.ext_getElem? λn=>?_
   grind
  grind
 constructor
 ·rintro⟨p,cs,h1,h3,h4,h5⟩;rw[hx]at h1;cases h1;obtain⟨b1,V,k1,k2,rfl⟩:=h3;rw[g2]at k1;cases k1;obtain⟨G,q1,q2,Y⟩:=key V k2;exact⟨.ref k i off,G.drop off,by grind,⟨_,G,h2,q1,rfl⟩,(conv V G q2 Y).1 h4,h5⟩
 ·rintro⟨p,cs,h1,h3,h4,h5⟩;rw[ev,hx]at h1;cases h1;obtain⟨b1,V,k1,k2,rfl⟩:=h3;rw[h2]at k1;cases k1;have hlt:i<b.rows.length:=by grind
  obtain⟨r0,U⟩:∃r0,b.rows[i]?=some r0:=⟨_,QAB hlt⟩;obtain⟨G,q1,q2,Y⟩:=key r0 U;have T:=k2;rw[q1]at T;cases T;exact⟨.ref k i off,r0.drop off,hx,⟨b,r0,g2,U,rfl⟩,(conv r0 _ q2 Y).2 h4,h5⟩
theorem Qku {T:z1} {p2 q2:List Nat} {d2:D} {O:QzK} (V:YD P B T s1 p2 q2 d2 O) (he:s2=s1.g8 T.dst d2 O) (hq:∃k∈p,k∈q2) (G:∀x∈o.op.u6,s2.ev x=s1.ev x) (hg:gw s2 o.guard=gw s1 o.guard) (cel:Qq4 o.op T.op s1 s1):YD P B o s1 p q d ef↔YD P B o s2 p q d ef:=by
 obtain⟨agg,sz,x,U,x',v,k,i,i',off,C,e1,e2,hx,Y,M⟩:=cel;obtain⟨dst,op,gd⟩:=o;obtain⟨dst2,op2,gd2⟩:=T;subst e1 e2;rcases V with⟨_,⟨⟨bx,hy,_⟩ |⟨k',b',st,_,h5⟩,_,_⟩ |he2⟩ |⟨_,_,_,_,h5⟩
 trivial;have hb:lk s2.H k'=some b':=by rw[he,h5];exact K5 (if_pos rfl)
 have main:∀{e:D} {bx:Option u4},SO (.load agg sz x) dst s1 e bx↔SO (.load agg sz x) dst s2 e bx:=Qiq st (G x Wm) hb ⟨agg,sz,x,U,x',v,k,i,i',off,C,rfl,rfl,hx,Y,M⟩;have hpk:=QmK G
 (repeat clear hK K);simp_all [YD,Xz,stD,EF]
 trivial
 grind
theorem Qji (hl:Qn9 E s) (hB:∀k,B k->(lk s.H k).isSome=true) (hi:QW P nt ops oi=some oi') (hj:QW P nt ops oj=some oj') (hap:oi.apart ops oj=true)
 (U:¬j9 ops j i)
 (G:YD P B oi' s pi qi d ef) (V:mf (j9 ops i) (tkR ww oi'.op s pi) (tkW ww oi'.op s qi) R W) (T:YD P B oj' (s.g8 oi'.dst d ef) pj qj e eg) (O:mf (j9 ops j) (tkR ww oj'.op (s.g8 oi'.dst d ef) pj) (tkW ww oj'.op (s.g8 oi'.dst d ef) qj) (tag i (tkR ww oi'.op s pi)++R) (tag i (tkW ww oi'.op s qi)++W)):
  YD P B oj' s pj qj e eg/\mf (j9 ops j) (tkR ww oj'.op s pj) (tkW ww oj'.op s qj) R W/\YD P B oi' (s.g8 oj'.dst e eg) pi qi d ef/\mf (j9 ops i) (tkR ww oi'.op (s.g8 oj'.dst e eg) pi) (tkW ww oi'.op (s.g8 oj'.dst e eg) qi) (tag j (tkR ww oj'.op s pj)++R) (tag j (tkW ww oj'.op s qj)++W)/\(∀k b,lk ef k=some b->lk eg k=none)/\
   (tkR ww oj'.op (s.g8 oi'.dst d ef) pj=tkR ww oj'.op s pj/\tkW ww oj'.op (s.g8 oi'.dst d ef) qj=tkW ww oj'.op s qj)/\tkR ww oi'.op (s.g8 oj'.dst e eg) pi=tkR ww oi'.op s pi/\tkW ww oi'.op (s.g8 oj'.dst e eg) qi=tkW ww oi'.op s qi:=by
 obtain⟨a1,a2,a3⟩:=Oper.apart_spec hap;obtain⟨_,_,i3,_⟩:=Qq hi;obtain⟨_,_,j3,_⟩:=Qq hj;obtain⟨c1,c2,c3,c3',c4⟩:=PT (pj:=pj) hl hi hj a1 a2 G;have ej1:tkR ww oj'.op (s.g8 oi'.dst d ef) pj=tkR ww oj'.op s pj:=QgE c1;have ej2:tkW ww oj'.op (s.g8 oi'.dst d ef) qj=tkW ww oj'.op s qj:=QgF c1;have x1':=λk hk M=>U (O.1 k hk i (QAN _ (FF.2 ⟨M,rfl⟩)));rw[ej1,ej2]at O;have x2:=λk hk M=>U ((O.2 k hk).1 i (QAN _ (FF.2 ⟨M,rfl⟩)));have x3':=λk hk M=>U ((O.2 k hk).2 i (QAN _ (FF.2 ⟨M,rfl⟩)));have x3:=Qdn λk hk M=>x3' k (Dt hk) (Dt M);have hinj:=Qvy T c1 c3 c3' hB
 have C:YD P B oj' s pj qj e eg:=by
  rcases Qcv T G x1' with hc |hc
  grind [NV]
  by_cases M:∃k∈pj,k∈qi
  obtain⟨agg,sz,x,sz',x',v,k,u,u',off,Y,e1,e2,hx,hx',hcel⟩:=hc;exact(Qku G rfl M c1 c2 ⟨agg,sz,x,sz',x',v,k,u,u',off,Y,e1,e2,by grind [z5.u6],hx',hcel⟩).2 T
  grind [NV]
 obtain⟨d1,d2,d3,d3',d4⟩:=PT (pj:=pi) hl hj hi a3 (λt ht h=>a2 t h ht) C;have ei1:tkR ww oi'.op (s.g8 oj'.dst e eg) pi=tkR ww oi'.op s pi:=QgE d1;have ei2:tkW ww oi'.op (s.g8 oj'.dst e eg) qi=tkW ww oi'.op s qi:=QgF d1;have hini:=Qvx G d3 d3' hB
 have hyi':YD P B oi' (s.g8 oj'.dst e eg) pi qi d ef:=by
  rcases Qcv G C (λk hk M=>x2 k M hk)with hc |hc
  grind [NV]
  by_cases M:∃k∈pi,k∈qj
  exact(Qku C rfl M d1 d2 hc).1 G
  grind [NV]
 refine⟨C,O.less (λk hk=>Qz2 _ hk) (λk hk=>Qz2 _ hk),hyi', ?_, ?_,⟨ej1,ej2⟩,ei1,ei2⟩;rw[ei1,ei2];refine⟨λk hk m hw=>?_,λk hk=>⟨λm hr=>?_,λm hw=>?_⟩⟩;rcases QzY.1 hw with hw |hw
 grind [FF]
 exact V.1 k hk m hw;rcases QzY.1 hr with hr |hr
 grind [FF]
 exact(V.2 k hk).1 m hr;rcases QzY.1 hw with hw |hw
 grind [FF]
 exact(V.2 k hk).2 m hw;intro k b hk;cases hkj:lk eg k with
 |none=>rfl
 |some b'=>
 exfalso;rcases QcD G hk with⟨h1,h2⟩ |⟨h1,h2⟩<;>rcases QcD C hkj with⟨h3,h4⟩ |⟨h3,h4⟩
 grind
 grind
 grind
 grind
theorem DQ (hnt:E.nt=nt) (hKK:∀s s',s.same s'->KK s->KK s') (M:PN P nt ops l') (hi:ops[i]?=some oi) (hi':l'[i]?=some oi'):
  ∀(fuel:Nat) (listed:Array Bool) (R W:List (Nat × Nat)) (s:St) (p q:List Nat) (d:D) (ef:QzK),Qn9 E s->(∀k,B k->(lk s.H k).isSome=true)->Qhm ops listed->
   (∀j oj,ops[j]?=some oj->j≠i->listed.getD j true=false->(∀e∈oj.after,Region.binds .any e=true->e.on≠i)->oi.apart ops oj=true)->
   i∈Region.ready .any ops listed->YD P B oi' s p q d ef->mf (j9 ops i) (tkR ww oi'.op s p) (tkW ww oi'.op s q) R W->Fo ww P B ops l' KK fuel (listed.setIfInBounds i true) (tag i (tkR ww oi'.op s p)++R) (tag i (tkW ww oi'.op s q)++W) (s.g8 oi'.dst d ef)->Fo ww P B ops l' KK (fuel+1) listed R W s:=by
 have V:QW P nt ops oi=some oi':=by
  obtain⟨o',h1,h2⟩:=M i oi hi
  grind
 intro fuel
 induction fuel with
 |zero=>
  intro listed R W s p q d ef _ _ _ _ hr hy ha H;refine⟨λh=>Wb,λj U=>?_⟩
  by_cases hji:j=i
  grind
  have:=ready_mono U hji;rw[H.1]at this
  grind
 |succ fuel ih=>
  intro listed R W s p q d ef hl hB hdn C hr hy ha H;refine⟨λh=>Wb,λj U=>?_⟩
  by_cases hji:j=i
  grind
  obtain⟨oj',pj,qj,e,eg,hj',hyj,haj,O⟩:=H.2 j (ready_mono U hji);obtain⟨hjun,oj,Y,hall⟩:=mem_ready.1 U
  have T:QW P nt ops oj=some oj':=by
   obtain⟨o',h1,h2⟩:=M j oj Y
   grind
  have hnot:∀e∈oj.after,Region.binds .any e=true->e.on≠i:=λe he hb heq=>by
   grind [mem_ready]
  have hap:=C j oj Y hji hjun hnot;have n1:=λh=>Qjb (mem_ready.1 hr).1 (NE hdn U h);obtain⟨k1,k2,k3,k4,k5,⟨t1,t2⟩,t3,t4⟩:=Qji hl hB V T hap n1 hy ha hyj haj;rw[t1,t2]at O
  have G:∀k ok,ops[k]?=some ok->k≠i->(listed.setIfInBounds j true).getD k true=false->
    (∀e∈ok.after,Region.binds .any e=true->e.on≠i)->oi.apart ops ok=true:=λk ok hk hki hun hno=>by
   refine C k ok hk hki ?_ hno
   by_cases hjk:j=k
   grind
   (repeat clear hK K);simp_all
  refine⟨oj',pj,qj,e,eg,hj',k1,k2,ih (listed.setIfInBounds j true) _ _ (s.g8 oj'.dst e eg) p q d ef (TI hnt hl T k1) (λk hk=>Qa5 (hB k hk)) (Pd hdn U) G (ready_mono hr (Ne.symm hji)) k3 k4 ?_⟩;rw[Array.setIfInBounds_comm _ _ hji,t3,t4]
  have hne:∀t,oi'.dst=some t->oj'.dst≠some t:=λt h=>by
   obtain⟨_,a2,_⟩:=Oper.apart_spec hap;rw[(Qq V).2.2.1]at h;rw[(Qq T).2.2.1]
   grind
  grind [PS,QhZ]
theorem N0 {nt:Nat} (M:E.nt=nt) (O:∀s s',s.same s'->KK s->KK s') (C:PN P nt ops l'):∀(l:List z1) (k:Nat) (listed:Array Bool) (R W:List (Nat × Nat)) (s:St),(∀j,l[j]?=l'[k+j]?)->Qn9 E s->(∀k,B k->(lk s.H k).isSome=true)->Qhm ops listed->
  Region.lexFrom .any ops l.length k listed=true->Hm ww P B (j9 ops) l k R W KK s->Fo ww P B ops l' KK l.length listed R W s
 |[],_,_,_,_,_,_,_,_,_,hB,h=>⟨by grind [Region.lexFrom],h⟩
 |o'::l,k,listed,R,W,s,hl,hlive,hBs,hdn,hB,h=>by
  have h0:=by simpa using(hl 0).symm
  simp[Region.lexFrom]at hB;obtain⟨⟨hr,Y⟩,U⟩:=hB;have G:k∈Region.ready .any ops listed:=by grind
  obtain⟨_,o,ho,_⟩:=mem_ready.1 G;obtain⟨p,q,d,ef,V,ha,hK⟩:=h
  have T:QW P nt ops o=some o':=by
   obtain⟨o2,h1,h2⟩:=C k o ho
   grind
  exact DQ M O C ho h0 l.length listed R W s p q d ef hlive hBs hdn (Region.free_spec ho Y) G V ha
   (N0 M O C l (k+1) _ _ _ _ (λj=>by have:=hl (j+1);grind) (TI M hlive T V) (λk hk=>Qa5 (hBs k hk)) (Pd hdn G) U hK)
theorem JP {nt:Nat} {Q:Exit->Act->World->Prop} (M:E.nt=nt) (G:PN P nt ops l') (C:∀(j:Nat) (o':Oper),ops[j]?=some o'->∀t,o'.dst=some t->t<E.nt) (T:∀s g a w,KK s->Rel E g s a w->Q .normal a w):
  ∀(fuel:Nat) (listed:Array Bool) (R W:List (Nat × Nat)) (s:St) (g:Gh) (a:Act) (w:World),Rel E g s a w->Fo ww P B ops l' KK fuel listed R W s->wpAny P .any ops Q fuel listed a w
 |0,_,_,_,s,g,a,w,r,h=>⟨h.1,T s g a w h.2 r⟩
 |fuel+1,listed,R,W,s,g,a,w,r,h=>⟨λhr=>T s g a w (h.1 hr) r,λi hi=>by
   obtain⟨o',p,q,d,ef,h1,h2,_,Y⟩:=h.2 i hi;obtain⟨_,o,ho,_⟩:=mem_ready.1 hi
   have O:QW P nt ops o=some o':=by
    obtain⟨o2,q1,q2⟩:=G i o ho
    grind
   obtain⟨p1,p2,p3,p4⟩:=Qq O;have V:∀t,o.dst=some t->t<E.nt:=λt V=>by grind
   unfold wpOp;rw[ho];simp only;rcases Qq3 h2 with⟨U,hy⟩ |⟨U,rfl,rfl⟩
   rw[Yf r p2 C true U];exact .inl (QcE M r O hy λg' a' w' r'=>JP M G C T fuel _ _ _ _ g' a' w' r' Y);rw[Yf r p2 C false U];refine JP M G C T fuel _ _ _ _ g _ w ?_ Y;have:=r.skip V;rw[p3,<- (show s.apply o.dst .undef none=s.g8 o.dst .undef [] by cases o.dst<;>rfl)]
   omega⟩
theorem Hb {K:St->Prop} (hB:Region.lexB .any ops=true) (O:E.nt=nt) (hp:Ql P nt ops ops.toList=some l')
 (T:∀(j:Nat) (o':Oper),ops[j]?=some o'->∀t,o'.dst=some t->t<E.nt) (r:Rel E g s a w) (V:∀k,B k->(lk s.H k).isSome=true) (h:Hm ww P B (j9 ops) l' 0 [] [] K s) (hK:∀s' g' a' w',Rel E g' s' a' w'->K s'->Q .normal a' w'):wpAny P .any ops Q ops.size (Array.replicate ops.size false) a {w with drawn:=w.drawn+1}:=by
 have hlen:∀{l:List Oper} {l':List z1},Ql P nt ops l=some l'->l'.length=l.length:=by
  intro l
  induction l with
  |nil=>grind [Ql]
  |cons x xs Y=>
   grind [Ql]
 have C:PN P nt ops l':=λi o ho=>QK hp i o Wb;simp[Region.lexB]at hB
 have M:Hm ww P B (j9 ops) l' 0 [] [] (λs=>∃s',s.same s'/\K s') s:=by
  have:∀(l:List z1) (j:Nat) (R W:List (Nat × Nat)) (s:St),Hm ww P B (j9 ops) l j R W K s->Hm ww P B (j9 ops) l j R W (λs=>∃s',s.same s'/\K s') s:=by
   intro l
   induction l with
   |nil=>intro j R W s h;exact⟨s,⟨λ_=>rfl,λ_=>rfl⟩,h⟩
   |cons o l Y=>intro j R W s ⟨p,q,d,bx,h1,h2,h3⟩;exact⟨p,q,d,bx,h1,h2,Y _ _ _ _ h3⟩
  grind
 have G:l'.length=ops.size:=by grind
 have U:Qhm ops (Array.replicate ops.size false):=λj i hj _=>by
  (repeat clear hK K);simp_all
  grind
 have:=N0 O (λs s' hs ⟨s2,h1,h2⟩=>⟨s2,⟨λt=>(hs.1 t).symm.trans (h1.1 t),λk=>(hs.2 k).symm.trans (h1.2 k)⟩,h2⟩) C l' 0 (Array.replicate ops.size false) [] [] s Wc ⟨g,a,w,r⟩ V U
  Wb M
 rw[G]at this;exact JP O C T (λs g a w ⟨s',h1,h2⟩ r=>hK s' g a w (r.same h1) h2) ops.size _ _ _ s g a _ (r.heap rfl) this
end
variable {args:Array Value}
def fen:Option Nat->Fence
 |none=>Fence.wide
 |some l=>Fence.wide.inRound l
theorem Qex (rd:Option Nat) (f:FuncId):(fen rd).fn f:=by cases rd<;>trivial
theorem Cf (rd:Option Nat):(fen rd).depth=none:=by cases rd<;>rfl
theorem Qey (rd:Option Nat):(fen rd).round=rd:=by cases rd<;>rfl
section
variable {P:Program} {n:Nat} {rd:Option Nat} {a:Act} {w:World} {K:Act->World->Prop} {Q:Exit->Act->World->Prop}
theorem Qew {f:FuncId} {R:Ending->World->Prop} (h:Calls P f args w R):CallsIn (fen rd) n P f args w R:=by
 cases rd
 exact callsIn_wide.2 h;exact CallsIn.inRound _ (callsIn_wide.2 h)
theorem Qh6 {row:String} {R:Value->World->Prop} (h:Rows P row args w R):RowsIn (fen rd) n P row args w R:=λc cs _=>by
 obtain⟨v,w',r,s⟩:=h c cs;refine⟨v,w',r, ?_⟩;cases rd
 exact stepsIn_wide.2 s;exact stepsIn_wide.2 s
theorem QfM {o:Oper} (hd:∀c,o.op≠.defer c) (h:o.wp P a w K Q):o.wpIn (fen rd) n P a w K Q:=by
 refine⟨λf _=>Qex rd f, ?_⟩
 have e:o.semAt (fen rd).round a.eval=execOp a.eval o:=by
  rw[Qey];cases rd
  rfl
  grind [Oper.semAt_some]
 rw[e];unfold Oper.wp at h;generalize (execOp a.eval o).run P w=res at h ⊢;cases res with
 |ok x w'=>
  cases x<;>simp only[Oper.upon,Oper.uponIn]at h ⊢<;>first
   |exact h
   |exact h.elim
   |exact⟨(λC=>by grind [Cf]),Qew h⟩
   |grind [Cf,Qh6]
 |halt x w'=>cases x<;>simp only[Oper.upon,Oper.uponIn]at h ⊢<;>first |exact h |exact h.elim
theorem CX {op:Op} {ao:z5} (hp:Zx P op=some ao):∀c,op≠.defer c:=λc e=>by
 subst e;trivial
variable {ops:Array Oper}
theorem Hj (C:¬LetsOut Q) (hd:∀(j:Nat) (o:Oper),ops[j]?=some o->∀c,o.op≠.defer c):∀(l:List Nat) (a:Act) (w:World),wpOps P ops Q l a w->wpOpsIn (fen rd) n P ops Q l a w
 |[],_,_,h=>h
 |i::rest,a,w,h=>by
  simp only[wpOps,wpOpsIn]at h ⊢;cases ho:ops[i]? with
  |none=>rw[ho]at h;exact Hj C hd rest a w h
  |some o=>
   rw[ho]at h;simp only at h ⊢;split;rename_i hw;rw[if_pos hw]at h;rcases h with h |⟨_,h⟩
   exact QfM (hd i o ho) (Oper.wp_mono (λa w h=>Hj C hd rest a w h) h)
   grind
   rename_i hw;rw[if_neg hw]at h;exact⟨λf _=>Qex rd f,Hj C hd rest _ w h⟩
theorem GV (C:¬LetsOut Q) (hd:∀(j:Nat) (o:Oper),ops[j]?=some o->∀c,o.op≠.defer c):∀(fuel:Nat) (listed:Array Bool) (a:Act) (w:World),wpAny P .any ops Q fuel listed a w->wpAnyIn (fen rd) n P .any ops Q fuel listed a w
 |0,_,_,_,h=>h
 |fuel+1,listed,a,w,h=>by
  refine⟨h.1,λi hi=>?_⟩;have:=h.2 i hi;unfold wpOp at this;unfold wpOpIn;cases ho:ops[i]? with
  |none=>rw[ho]at this;exact GV C hd fuel _ a w this
  |some o=>
   rw[ho]at this;simp only at this ⊢;split;rename_i hw;rw[if_pos hw]at this;rcases this with h |⟨_,h⟩
   exact QfM (hd i o ho) (Oper.wp_mono (λa w h=>GV C hd fuel _ a w h) h)
   grind
   rename_i hw;rw[if_neg hw]at this;exact⟨λf _=>Qex rd f,GV C hd fuel _ _ w this⟩
theorem Qdp {F:Fence} {c:Code} (h:c.wpIn F n P (Exit.noGoto Q) a w):(Code.scope c).wpIn F n P Q a w:=by
 intro b k cs U hb hr;have h0:(lone (b.atR a (.code (.scope c)::k)) cs w).fenced P F:=fenced_calm hb hr rfl;have O:step P (lone (b.atR a (.code (.scope c)::k)) cs w)=.next (lone (b.atR a (.code c::.inScope c::k)) cs w):=step_lone_go Wl
 obtain⟨e,M,G,T,C⟩:=h b (.inScope c::k) cs U hb hr;cases e with
 |normal=>
  have s1:step P (lone (b.atR M (.inScope c::k)) cs G)=.next (lone (b.atR M k) cs G):=step_lone_go Wl
  exact⟨.normal,M,G,T,.head h0 O (StepsIn.trans C (.one (fenced_calm hb hr rfl) s1))⟩
 |exit id=>
  have hx:exitTo id (.inScope c::k)=exitTo id k:=by rfl
  exact⟨.exit id,M,G,T,λk' hk=>.head h0 O (C.1 k' Wb),
   λV hk=>let⟨k₁,h1,h2⟩:=C.2 V Wb;⟨k₁,h1,.head h0 O h2⟩⟩
 |goto l=>trivial
 |ret=>exact⟨_,M,G,T,.of_steps (.one h0 O) C⟩
 |panic ch=>exact⟨_,M,G,T,.of_steps (.one h0 O) C⟩
 |outgrown=>exact⟨_,M,G,T,.of_steps (.one h0 O) C⟩
end
variable {code:Code} {id:Nat} {l l':List z1} {ops:Array Oper} {ι:Type}
inductive y7 where
 |skip
 |region (draw:Bool) (ops:List z1)
 |ba (ops:List z1)
 |seq (a b:y7)
 |cond (c:n5) (a b:y7)
 |block (id:Nat) (a:y7)
 |loop (a:y7)
 |scope (a:y7)
 |exit (id:Nat)
 |ret
 |l8 (x:n5) (p q:Nat) (a:y7)
variable {x y:y7}
def y7.flat:y7->Bool
 | .seq a b=>a.flat&&b.flat
 | .cond _ a b=>a.flat&&b.flat
 | .block _ a=>a.flat
 | .loop a=>a.flat
 | .scope a=>a.flat
 | .l8 _ _ _ _=>false
 |_=>true
inductive AExit where
 |normal
 |exit (id:Nat)
 |ret
def Qbw:Op->Bool
 | .load .. =>true
 |_=>false
def Z0:Op->Bool
 | .store .. =>true
 |_=>false
def Td (ops:Array Oper) (oj:Oper) (m:Nat):Bool:=oj.after.any λe=>Region.binds .any e&&e.on==m
def lsB (ops:Array Oper):Bool:=
 Nat.ble (ops.toList.countP λo=>Z0 o.op) 0||(List.range ops.size).all λj=>(List.range j).all λm=>match ops[j]?,ops[m]? with
  |some oj,some om=>!(Z0 oj.op&&(Qbw om.op||Z0 om.op))||Td ops oj m
  |_,_=>true
def ssB (ops:Array Oper):Bool:=
 Nat.ble (ops.toList.countP λo=>Z0 o.op) 1||(List.range ops.size).all λj=>(List.range j).all λm=>match ops[j]?,ops[m]? with
  |some oj,some om=>!(Z0 oj.op&&Z0 om.op)||Td ops oj m
  |_,_=>true
def Jw:Op->Bool
 | .call c=>match c.callee with
  | .value _=>true
  |_=>false
 |_=>false
def Nd (ops:Array Oper) (m:Nat):Bool:=(ops.toList.drop m).all λo=>o.guard.isNone
def CL (ops:Array Oper) (m j:Nat):Bool:=((ops.toList.drop (m+1)).take (j - m - 1)).all λo=>!Jw o.op
def lcB (ops:Array Oper):Bool:=
 (List.range ops.size).all λj=>(List.range j).all λm=>match ops[j]?,ops[m]? with
  |some oj,some om=>!(Jw oj.op&&(Jw om.op&&(Nd ops m&&CL ops m j)))||Td ops oj m
  |_,_=>true
def Ce (ops:Array Oper) (k:Nat):Bool:=match ops[k]? with
 |none=>false
 |some oi=>(oi.after.all λe=>!Region.binds .any e||decide (e.on<k))&&(List.range ops.size).all λj=>decide (j<=k)||match ops[j]? with
  |some oj=>oj.after.any (λe=>Region.binds .any e&&e.on==k)||oi.apart ops oj
  |none=>true
def MY (ops:Array Oper):Bool:=Region.noSelect ops&&(List.range ops.size).all (Ce ops)
theorem Gg {ops:Array Oper} (h:∀k,k<ops.size->Ce ops k=true):∀(fuel k:Nat) (listed:Array Bool),fuel+k=ops.size->listed.size=ops.size->(∀i d,i<ops.size->listed.getD i d=decide (i<k))->Region.lexFrom .any ops fuel k listed=true
 |0,k,listed,hk,hs,M=>by
  rw[Region.lexFrom,QAR,List.eq_nil_iff_forall_not_mem];intro j T;obtain⟨h1,o,ho,_⟩:=mem_ready.1 T;have V:=(QAc.1 ho).1
  (repeat clear hK K);simp_all
 |fuel+1,k,listed,hk,hs,M=>by
  have G:k<ops.size:=Wa;have O:=h k G;rw[Ce]at O;obtain⟨oi,C⟩:∃oi,ops[k]?=some oi:=⟨ops[k],QAS G⟩;rw[C]at O;simp only[QzR,Array.all_eq_true_iff_forall_mem,QAT,QAU,decide_eq_true_eq,QzX,QAa]at O;obtain⟨h1,h2⟩:=O;rw[Region.lexFrom,QzR,QzR];refine⟨⟨?_, ?_⟩, ?_⟩;rw[List.contains_iff_mem];refine mem_ready.2 ⟨by simp_all,oi,C,λe he hb=>?_⟩;rcases h1 e he with U |U
  grind
  rw[M e.on false Wa,decide_eq_true U];rw[Region.free,C];simp only[QzX,QAa];intro j T;rw[M j true T]
  grind
  refine Gg h fuel (k+1) _ Wa Wb λi d hi=>?_
  by_cases e:k=i
  (repeat clear hK K);simp_all
  rw[getD_set_ne d e,M i d hi]
  grind
theorem KA (h:MY ops=true):Region.lexB .any ops=true:=by
 (repeat clear hK K);simp_all [MY,Region.lexB,Gg]
def gdB (ops:Array Oper):Bool:=(List.range ops.size).all λk=>match ops[k]? with
 |some o=>match o.guard with
  |some (j,_)=>decide (j<k)
  |none=>true
 |none=>true
def Rf (ops:Array Oper):Bool:=(MY ops&&lsB ops)&&(lcB ops&&gdB ops)
def QsC (p:Nat) (ops:List Oper):Option Nat:=
 match ops with
 |[o]=>match o.op,o.dst,o.guard with
  | .assign (.tmp p'),some q,none=>if p'=p then some q else none
  | .move (.tmp p'),some q,none=>if p'=p then some q else none
  |_,_,_=>none
 |_=>none
def Qka (nt:Nat) (g:Operand) (ps:List Nat) (az:Code) (b:Option y7):Option (n5 × Nat × Nat × y7):=
 match Qi g,ps,az,b with
 |some x,[p],.region _ ops false,some b'=>match QsC p ops.toList with
  |some q=>if p<nt/\q<nt/\b'.flat=true then some (x,p,q,b')else none
  |none=>none
 |_,_,_,_=>none
def JN (P:Program) (nt:Nat):Code->Option y7
 | .skip=>some .skip
 | .label _=>some .skip
 | .region _ ops draw=>
  if draw&&!Rf ops then(if MY ops&&ssB ops then(Ql P nt ops ops.toList).map .ba else none)else(Ql P nt ops ops.toList).map (.region draw)
 | .seq a b=>match JN P nt a,JN P nt b with
  |some a',some b'=>some (.seq a' b')
  |_,_=>none
 | .cond c a b=>match Qi c,JN P nt a,JN P nt b with
  |some c',some a',some b'=>some (.cond c' a' b')
  |_,_,_=>none
 | .block id a=>(JN P nt a).map (.block id)
 | .loop a=>(JN P nt a).map .loop
 | .scope a=>(JN P nt a).map .scope
 | .exit id=>some (.exit id)
 | .ret=>some .ret
 | .rangeFunc g ps az b=>(Qka nt g ps.toList az (JN P nt b)).map λt=>.l8 t.1 t.2.1 t.2.2.1 t.2.2.2
 |_=>none
def Fl (E:Env) (c:y7):Prop:=(E.rd=none/\∃n,E.bd=some n/\n<=E.B0)\/c.flat=true
theorem Fl.imp {E:Env} {c c':y7} (h:Fl E c) (f:c.flat=true->c'.flat=true):Fl E c':=Or.imp id f h
def AQ (E:Env) (Q:AExit->St->Prop):Exit->Act->World->Prop
 | .normal,a,w=>∃s g,Q .normal s/\Rel E g s a w
 | .exit id,a,w=>∃s g,Q (.exit id) s/\Rel E g s a w
 | .ret,a,w=>∃s g,Q .ret s/\Rel E g s a w
 |_,_,_=>False
def AW (P:Program) (nt:Nat) (c:y7) (Q:AExit->St->Prop) (s:St):Prop:=
 ∀code E g a w,P.follows .mixedOrders=true->JN P nt code=some c->E.nt=nt->Fl E c->Rel E g s a w->code.wpIn (fen E.rd) 0 P (AQ E Q) a w
section
variable {P:Program} {nt:Nat} {Q:AExit->St->Prop} {s:St}
theorem DD {c:y7} {s':St} (h:s.le s') (hw:AW P nt c Q s'):AW P nt c Q s:=λcode E g a w hm hp G C r=>
 let⟨g',r'⟩:=h E g a w r
 hw code E g' a w hm hp G C r'
theorem Qky (h:Q .normal s):AW P nt .skip Q s:=λcode E g a w hm hp G C r=>by
 cases code<;>simp only[JN,QzQ,reduceCtorEq]at hp
 case skip=>exact wpIn_skip ⟨s,g,h,r⟩
 case label=>exact wpIn_label ⟨s,g,h,r⟩
 grind [Option.map_eq_some_iff]
 grind
 grind
 all_goals (simp_all)
theorem Qkv (h:Q (.exit id) s):AW P nt (.exit id) Q s:=λcode E g a w hm hp G C r=>by
 cases code<;>simp only[JN,QzQ,reduceCtorEq]at hp
 case exit i=>cases hp;exact wpIn_exit ⟨s,g,h,r⟩
 grind [Option.map_eq_some_iff]
 grind
 grind
 all_goals (simp_all)
theorem Qoz (h:Q .ret s):AW P nt .ret Q s:=λcode E g a w hm hp G C r=>by
 cases code<;>simp only[JN,QzQ,reduceCtorEq]at hp
 case ret=>exact wpIn_ret ⟨s,g,h,r⟩
 grind [Option.map_eq_some_iff]
 grind
 grind
 all_goals (simp_all)
theorem ZQ (h:Ql P nt ops ops.toList=some l'):∀(j:Nat) (o':Oper),ops[j]?=some o'->∀t,o'.dst=some t->t<nt:=λj o' ho t C=>by
 obtain⟨G,_,h2⟩:=QK h j o' Wb;exact(Qq h2).2.2.2 t C
theorem Ye (h:Ql P nt ops ops.toList=some l'):∀(j:Nat) (o:Oper),ops[j]?=some o->∀c,o.op≠.defer c:=λj o ho=>by
 obtain⟨C,_,h2⟩:=QK h j o Wb;exact CX (Qq h2).1
theorem Jf {draw:Bool} (hp:JN P nt code=some (.region draw l)):∃id ops,code=.region id ops draw/\(draw=true->Rf ops=true)/\Ql P nt ops ops.toList=some l:=by
 cases code<;>simp only[JN,QzQ,reduceCtorEq]at hp
 case region id ops d=>
  split at hp
  (repeat clear hK K);simp_all
  rename_i hd;obtain⟨l',h1,h2⟩:=QzM.1 hp;cases h2
  grind
 grind
 grind
 all_goals (simp_all)
theorem QiP (hp:JN P nt code=some (.ba l)):∃id ops,code=.region id ops true/\(MY ops=true/\ssB ops=true)/\Ql P nt ops ops.toList=some l:=by
 cases code<;>simp only[JN,QzQ,reduceCtorEq]at hp
 case region id ops d=>
  split at hp;rename_i hd;split at hp;rename_i C;obtain⟨l',h1,h2⟩:=QzM.1 hp;cases h2
  simp only[QzR]at hd C;obtain⟨rfl,_⟩:=hd
  grind
  grind
  (repeat clear hK K);simp_all
 grind
 grind
 all_goals (simp_all)
theorem DF (h:HL P l (Q .normal) s):AW P nt (.region false l) Q s:=λcode E g a w hm hp C O r=>by
 obtain⟨id,ops,rfl,_,h1⟩:=Jf hp;refine wpIn_region (Hj (λ⟨_,_,h⟩=>h) (Ye h1) _ _ _ ?_);rw[List.range_eq_range',<- QAv];exact RZ C (λj o' ho t M=>by rw[C];exact ZQ h1 j o' ho t M) ops.toList 0 l s g a w Wc h1 r h λs' g' a' w' G T=>⟨s',g',T,G⟩
def AwD (P:Program) (nt:Nat) (l:List z1) (K:St->Prop) (s:St):Prop:=
 ∀ops:Array Oper,Ql P nt ops ops.toList=some l->Rf ops=true->QaN P (λk=>(lk s.H k).isSome=true) (j9 ops) l 0 [] [] K s
theorem SP (h:AwD P nt l (Q .normal) s):AW P nt (.region true l) Q s:=λcode E g a w hm hp C T r=>by
 obtain⟨id,ops,rfl,G,h1⟩:=Jf hp;refine wpIn_region_any hm (GV (λ⟨_,_,h⟩=>h) (Ye h1) _ _ _ _ ?_);exact Hb (by have:=G rfl;simp_all [Rf,KA]) C h1 (λj o' ho t O=>by rw[C];exact ZQ h1 j o' ho t O) r (λ_ h=>h) (h ops h1 (G rfl)) λs' g' a' w' M U=>⟨s',g',U,M⟩
def AwW (P:Program) (nt:Nat) (l:List z1) (K:St->Prop) (s:St):Prop:=
 ∀ops:Array Oper,Ql P nt ops ops.toList=some l->MY ops=true/\ssB ops=true->Hm true P (λk=>(lk s.H k).isSome=true) (j9 ops) l 0 [] [] K s
theorem Qkx (h:AwW P nt l (Q .normal) s):AW P nt (.ba l) Q s:=λcode E g a w hm hp C T r=>by
 obtain⟨id,ops,rfl,G,h1⟩:=QiP hp;refine wpIn_region_any hm (GV (λ⟨_,_,h⟩=>h) (Ye h1) _ _ _ _ ?_);exact Hb (KA G.1) C h1 (λj o' ho t O=>by rw[C];exact ZQ h1 j o' ho t O) r (λ_ h=>h) (h ops h1 G) λs' g' a' w' M U=>⟨s',g',U,M⟩
def QxF (P:Program) (nt:Nat) (b:y7) (Q:AExit->St->Prop):AExit->St->Prop
 | .normal,s=>AW P nt b Q s
 |e,s=>Q e s
theorem PM (h:AW P nt x (QxF P nt y Q) s):AW P nt (.seq x y) Q s:=λcode E g a w hm hp T M r=>by
 cases code<;>simp only[JN,QzQ,reduceCtorEq]at hp
 case seq c d=>
  split at hp;rename_i c' d' h1 h2;cases hp
  have G:Fl E x:=M.imp λh=>by simp_all [y7.flat]
  have C:Fl E y:=M.imp λh=>by simp_all [y7.flat]
  refine wpIn_seq (wpIn_mono (h c E g a w hm h1 T G r) λe a' w' O=>?_);cases e<;>simp only[AQ]at O;obtain⟨s',g',O,U⟩:=O;exact O d E g' a' w' hm h2 T C U;trivial;trivial
  grind
 grind [Option.map_eq_some_iff]
 grind
 all_goals (simp_all)
theorem Bp {c:n5} {t:Bool} (U:s.ev c=some (.bool t)) (h1:t=true->AW P nt x Q s) (h2:t=false->AW P nt y Q s):AW P nt (.cond c x y) Q s:=λcode E g a w hm hp T M r=>by
 cases code<;>simp only[JN,QzQ,reduceCtorEq]at hp
 case cond c0 x0 y0=>
  split at hp;rename_i c' x' y' e1 e2 e3;cases hp
  have O:=Pa r e1 U;have G:Fl E x:=M.imp λh=>by simp_all [y7.flat]
  have C:Fl E y:=M.imp λh=>by simp_all [y7.flat]
  cases t
  exact wpIn_cond O (by simpa using h2 rfl y0 E g a w hm e3 T C r);exact wpIn_cond O (by simpa using h1 rfl x0 E g a w hm e2 T G r)
  grind
 case seq=>grind
 grind [Option.map_eq_some_iff]
 all_goals (simp_all)
def YX (id:Nat) (Q:AExit->St->Prop):AExit->St->Prop
 | .exit i,s=>if i=id then Q .normal s else Q (.exit i) s
 |e,s=>Q e s
theorem Qhj (h:AW P nt x (YX id Q) s):AW P nt (.block id x) Q s:=λcode E g a w hm hp T M r=>by
 cases code<;>simp only[JN,QzQ,reduceCtorEq]at hp
 case block i c=>
  obtain⟨c',h1,h2⟩:=QzM.1 hp;cases h2
  refine wpIn_block (wpIn_mono (h c E g a w hm h1 T (M.imp λh=>h) r) λe a' w' C=>?_);cases e<;>simp only[AQ]at C;trivial;rename_i j;obtain⟨s',g',C,O⟩:=C;simp only[YX]at C;simp only[Exit.inBlock];split;rename_i G;rw[if_pos G]at C;exact⟨s',g',C,O⟩;rename_i G;rw[if_neg G]at C;exact⟨s',g',C,O⟩;trivial
 case seq=>grind
 case cond=>grind
 grind [Option.map_eq_some_iff]
 (repeat clear hK K);simp_all
 case scope=>simp_all
 (repeat clear hK K);simp_all
theorem Qhk (h:AW P nt x Q s):AW P nt (.scope x) Q s:=λcode E g a w hm hp M C r=>by
 cases code<;>simp only[JN,QzQ,reduceCtorEq]at hp
 case scope c=>
  obtain⟨c',h1,h2⟩:=QzM.1 hp;cases h2
  refine Qdp (wpIn_mono (h c E g a w hm h1 M (C.imp λh=>h) r) λe a' w' G=>?_);cases e<;>first |exact G |exact G.elim
 grind [Option.map_eq_some_iff]
 all_goals ((repeat' split at hp)<;>first |(cases hp;done) |(obtain⟨_,_,h⟩:=QzM.1 hp;cases h;done))
def Tv (st:ι->St) (I:ι->Prop) (μ:ι->Nat) (i:ι) (Q:AExit->St->Prop):AExit->St->Prop
 | .normal,s=>∃j,s.le (st j)/\I j/\μ j<μ i
 |e,s=>Q e s
theorem Qkw (st:ι->St) (I:ι->Prop) (μ:ι->Nat) (i0:ι) (h0:s.le (st i0)) (hI:I i0) (round:∀i,I i->AW P nt x (Tv st I μ i Q) (st i)):AW P nt (.loop x) Q s:=λcode E g a w hm hp hn hfl r=>by
 classical
 cases code<;>simp only[JN,QzQ,reduceCtorEq]at hp
 case loop c=>
  obtain⟨c',h1,h2⟩:=QzM.1 hp;cases h2
  obtain⟨g0,r0⟩:=h0 E g a w r;intro b k cs U hb hr
  have key:∀n i g a w,μ i=n->I i->Rel E g (st i) a w->
    ∃e a' w',AQ E Q e a' w'/\ArrivesIn (Machine.fenced P (fen E.rd)) P (lone (b.atR a (.code c::.inLoop c::k)) cs w) b k cs e a' w':=by
   intro n
   induction n using Nat.strongRecOn with
   |_ n ih=>
    intro i g a w Y hi r;obtain⟨e,O,M,T,C⟩:=round i hi c E g a w hm h1 hn (hfl.imp λh=>h) r b (.inLoop c::k) cs U hb hr;cases e with
    |normal=>
     obtain⟨s',g',⟨j,hle,hj,hlt⟩,r'⟩:=T;obtain⟨g2,r2⟩:=hle E g' O M r';obtain⟨e₂,a₂,w₂,V,G⟩:=ih (μ j) (Y ▸ hlt) j g2 O M rfl hj r2;exact⟨e₂,a₂,w₂,V,.of_steps (StepsIn.trans C (.one (fenced_calm hb hr rfl) stepR_inLoop)) G⟩
    |exit id=>exact⟨.exit id,O,M,(show AQ E Q (.exit id) O M from T),.pass (x:=.inLoop c) rfl (λ_ _=>.inl Wc) C⟩
    |ret=>exact⟨.ret,O,M,(show AQ E Q .ret O M from T),.pass (x:=.inLoop c) rfl (λ_ _=>.inl Wc) C⟩
    |goto l=>trivial
    |panic ch=>trivial
    |outgrown=>trivial
  obtain⟨e,a',w',T,C⟩:=key _ i0 g0 a w rfl hI r0;exact⟨e,a',w',T,.of_steps (.one (fenced_calm hb hr rfl) stepR_loop) C⟩
 case seq=>grind
 case cond=>grind
 grind [Option.map_eq_some_iff]
 (repeat clear hK K);simp_all
 case scope=>simp_all
 (repeat clear hK K);simp_all
end
section
variable {P:Program} {E:Env} {g:Gh} {s:St} {a a':Act} {w w':World}
theorem Rel.aside (r:Rel E g s a w) (T:Nat->Prop) (O:∀b,b<w.heap.size->¬T b->w'.heap[b]?=w.heap[b]?) (V:w.heap.size<=w'.heap.size)
 (hT:∀b,T b->E.B0<=b/\(∀k bx e,lk s.H k=some bx->g.β k≠some (b,e))/\∀o,g.K b o=none) (ha:a'.tmps=a.tmps) (G:ic E.bd a' w') (C:z7 w w':=by exact⟨rfl,rfl,rfl⟩):Rel E g s a' w':=by
 refine⟨by rw[ha];exact r.nt,G,λt d h=>by rw[ha];exact r.fr t d h,r.s9,r.u9,λk b h=>?_,r.inj,λb o x hx=>?_,
  ⟨Qz6 r.ext.1 V,λb hb Y=>(O b (QAd hb r.ext.1) (λh=>by grind)).trans (r.ext.2.1 b hb Y),r.ext.2.2.trans C⟩,r.kx,r.kp⟩
 refine(r.bx k b h).move ⟨rfl,rfl⟩ (λ_ _ _ _ _ _=>⟨rfl,rfl⟩) (Kn.le_refl _) λB e M=>⟨O B ((r.bx k b h).gb M).1 (λU=>(hT B U).2.1 k b e h M),λ_ h=>h,λh=>h⟩;obtain⟨c,e,f,h1,h2⟩:=r.kr b o x hx
 grind
theorem x9.cells {K:Kn} {w:World} (h:x9 K w) {b o:Nat} {ob:Obj} (hb:w.heap[b]?=some ob) (C:ob.isCells=false):K b o=none:=by
 cases hk:K b o with
 |none=>rfl
 |some x=>
  obtain⟨c,e,f,h1,_⟩:=h b o x hk;rw[hb]at h1;cases h1;cases C
theorem Rel.shut {D:Nat} {ds:List Deferred} (r:Rel E g s a w) (G:XN w D) (M:E.B0<=D) (ha:a'.tmps=a.tmps) (C:ic E.bd a' (w.putObj D (.deferred none))):Rel E g s a' (w.putObj D (.deferred none)):=by
 refine r.aside (λb=>b=D) (λb _ hb=>World.putObj_heap_other hb) Wc (λb hb=>?_) ha C;subst hb;exact⟨M,λk bx e h1 h2=>(r.bx k bx h1).xe h2 G,λo=>r.kr.cells G rfl⟩
theorem Qla {B0 D:Nat} {bd:Option Nat} (h:∀n,bd=some n->B0<=n) (C:Qq5 bd D):B0<=D:=by
 cases bd with
 |none=>trivial
 |some n=>exact Qz6 (h n rfl) C
theorem RD (G:∀n,E.bd=some n->E.B0<=n) {F:Fence} {n:Nat} {fn:Func} {R:Ending->World->Prop}:∀(dd:List Nat) {a:Act} {w:World},a.defers=dd.map (λD=>({target:=.collected D,args:=#[]}:Deferred))->dd.Nodup->(∀D∈dd,XN w D/\Qq5 E.bd D)->Rel E g s a w->
  (∀a' w',a'.tmps=a.tmps->Rel E g s a' w'->∃v,(results fn a'.tmps).run P w'=.ok v w'/\R (.returned v) w')->LeavesInM F n P fn a.tmps R a.defers .returning w
 |[],a,w,hd,_,_,r,fin=>by
  rw[hd];exact fin a w rfl r
 |D::dd,a,w,hd,hn,hE,r,fin=>by
  rw[hd];obtain⟨h1,h2⟩:=hE D Wc;obtain⟨O,C⟩:=List.nodup_cons.1 hn
  have M:∀D'∈dd,XN (w.putObj D (.deferred none)) D'/\Qq5 E.bd D':=λD' hD'=>by
   obtain⟨Y,V⟩:=hE D' Wb;exact⟨(World.putObj_heap_other (λe=>O Wb)).trans Y,V⟩
  have T:Rel E g s {a with defers:=dd.map (λD=>({target:=.collected D,args:=#[]}:Deferred))} (w.putObj D (.deferred none)):=
   r.shut (ds:=[]) h1 (Qla G h2) rfl ⟨dd,rfl,C,M⟩
  have:=RD G (F:=F) (n:=n) (fn:=fn) (R:=R) dd (a:={a with defers:=dd.map (λD=>({target:=.collected D,args:=#[]}:Deferred))}) rfl C M T (λa' w' ha U=>fin a' w' ha U);refine⟨by simp,.inl ⟨D,_,rfl,run_takeDeferred h1,this⟩⟩
theorem Pk (C:∀n,E.bd=some n->E.B0<=n) {F:Fence} {n:Nat} {fn:Func} {R:Ending->World->Prop} (r:Rel E g s a w)
 (fin:∀a' w',a'.tmps=a.tmps->Rel E g s a' w'->∃v,(results fn a'.tmps).run P w'=.ok v w'/\R (.returned v) w'):LeavesInM F n P fn a.tmps R a.defers .returning w:=by
 obtain⟨dd,h1,h2,G⟩:=r.df.ex
 grind [RD]
end
variable {K:Kn} {ds:List D} {f t:Nat} {fn:Func}
inductive Xy where
 |tmp (t:Nat)
 |cell (t:Nat) (agg:Bool) (sz:Nat)
def Ki (P:Program):ResultVar->Option Xy
 | .tmp t=>if t<900000 then some (.tmp t)else none
 | .cell a t=>if a<900000 then(match Bf P t,YS P t with
  |some b,some sz=>some (.cell a b sz)
  |_,_=>none)else none
theorem R3 {P:Program} {x:Xy} (h:Ki P (.tmp t)=some x):t<900000/\x=.tmp t:=by
 simp only[Ki]at h
 grind
theorem Rel.th {E:Env} {g:Gh} {s:St} {a:Act} {w:World} (r:Rel E g s a w) (C:t<900000) (h:lk s.fr t=some d):l6 g d (a.tmps.getD t Go.undef):=by
 have:=r.fr t d h
 (repeat clear hK K);simp_all [Fb]
def Zn (P:Program):List ResultVar->Option (List Xy)
 |[]=>some []
 |x::r=>match Ki P x,Zn P r with
  |some x',some r'=>some (x'::r')
  |_,_=>none
def FN (S:Nat->Bool) (s:St) (d:D):D:=(d.fz s.H S).can
def XJ (S:Nat->Bool) (s:St):Xy->D->Prop
 | .tmp t,d=>∃p,lk s.fr t=some p/\d=FN S s p
 | .cell t agg sz,d=>∃p cells,lk s.fr t=some p/\s.at p cells/\(if agg=true then sz<=cells.length/\d=FN S s (.agg (cells.take sz))else∃q,cells.head?=some q/\d=FN S s q)
def R6 (S:Nat->Bool) (s:St):List Xy->List D->Prop
 |[],ds=>ds=[]
 |r::rs,ds=>∃d ds',ds=d::ds'/\XJ S s r d/\R6 S s rs ds'
abbrev QtL (s:St):Xy->D->Prop:=XJ JG s
abbrev Tt (s:St):List Xy->List D->Prop:=R6 JG s
def QiS (s:St) (rs:List Xy) (d:D):Prop:=
 match rs with
 |[r]=>QtL s r d
 |rs=>∃ds,d=.l7 ds/\Tt s rs ds
def s7 (rs:List Xy) (d:D):AExit->St->Prop
 | .normal,s=>QiS s rs d
 | .ret,s=>QiS s rs d
 | .exit _,_=>False
def MB {α:Type}:Nat->List α->List (Nat × α)
 |_,[]=>[]
 |k,x::r=>(k,x)::MB (k+1) r
structure AFn where
 nt:Nat
 rs:List Xy
 body:y7
variable {af:AFn}
def Qk (P:Program) (fn:Func):Option AFn:=
 match fn.body,Zn P fn.results.toList with
 |some c,some rs=>match JN P fn.ntmps c with
  |some ac=>if(fn.name== "runtime.NumGoroutine")=false/\fn.ntmps<=900000 then some ⟨fn.ntmps,rs,ac⟩else none
  |none=>none
 |_,_=>none
section
variable {P:Program} {E:Env} {g:Gh} {s:St} {a:Act} {w:World}
theorem TZ (C:∀d v,z3 g d v->(∀k∈d.l4,(lk s.H k).isSome=true)->z3 {g with K:=K} (d.o7 s.H JG) v) {v:Value} (h:l6 g d v) (O:Has s d):l3 K (XL s d) v:=by
 have hp:=(l6.fz C h O).mc Rq
 have y6:∀{d:D} {v:Value},l3 K d v->l3 K d.y6 v:=by
  intro d v h;cases d<;>simp only[D.y6]<;>try exact h
  simp only[l3]at h ⊢;obtain⟨T,G,M⟩:=h;exact⟨T,_,G,QAe _,M⟩
 unfold XL;generalize d.fz s.H JG=d' at hp;cases d'<;>simp only[D.can]<;>try grind
 case agg cs=>
  simp only[l3]at hp ⊢;obtain⟨vs,G,M⟩:=hp;refine⟨vs,G, ?_⟩
  have:∀{cs:List D} {vs:List Value},x5 K cs vs->x5 K (cs.map D.y6) vs:=by
   intro cs
   induction cs with
   |nil=>simp
   |cons c cs ih=>
    intro vs h;cases vs with
    |nil=>trivial
    |cons v vs=>
     simp only[QAr,x5]at h ⊢;refine⟨⟨?_,y6 h.1.2⟩,ih h.2⟩;have:=h.1.1;cases c<;>first |trivial |rfl
  grind
def J4 (tmps:Array Value):ResultVar->Sem Value
 | .tmp t=>pure (tmps.getD t Go.undef)
 | .cell a t=>do loadVar t (<- asAddr (tmps.getD a Go.undef))
theorem Qf9 (r:Rel E g s a w) (C:∀d v,z3 g d v->(∀k∈d.l4,(lk s.H k).isSome=true)->z3 {g with K:=K} (d.o7 s.H JG) v) {x:ResultVar} {x':Xy} (hp:Ki P x=some x') (h:QtL s x' d):
  ∃v,(J4 a.tmps x).run P w=.ok v w/\l3 K d v:=by
 cases x with
 |tmp t=>
  obtain⟨G,rfl⟩:=R3 hp;obtain⟨p,h1,rfl⟩:=h;exact⟨_,by rfl,TZ C (r.th G h1) (r.s9 t p h1)⟩
 |cell t ty=>
  simp only[Ki]at hp;split at hp
  case isFalse=>grind
  rename_i G;split at hp;rename_i b sz e1 e2;cases hp
  obtain⟨p,cells,h1,h2,U⟩:=h;obtain⟨B,off,hv,hc,Y⟩:=M8 r (r.th G h1) h2;cases b with
  |true=>
   simp only[if_true]at U;obtain⟨hl,rfl⟩:=U;obtain⟨cs,q1,T,O,V⟩:=Qcn (P:=P) (hc.take sz);rw[QAk,Nat.min_eq_left hl]at V;refine⟨.agg cs.toArray, ?_,TZ C ⟨cs,rfl,T,O⟩ λk hk=>?_⟩
   (repeat clear hK K);simp_all [J4,asAddr,loadVar,ZC,QM]
   obtain⟨y,hy,hk⟩:=QzU.1 hk
   grind
  |false=>
   simp only[QzV,if_false]at U;obtain⟨q,hq,rfl⟩:=U;cases cells with
   |nil=>grind
   |cons y ys=>
    simp at hq;subst hq;obtain⟨cs,q1,T,O,V⟩:=hc;cases cs with
    |nil=>grind
    |cons c cs=>
     have M:=V 0 c Wc;simp only[QAC]at M;refine⟨c, ?_,TZ C (T.1.td (O _ Wc)) (Nj T.1 (O _ Wc) λk hk=>Y _ Wc k hk)⟩
     (repeat clear hK K);simp_all [J4,asAddr,loadVar,ZC]
  grind
theorem L4 (r:Rel E g s a w) {K:Kn} (G:∀d v,z3 g d v->(∀k∈d.l4,(lk s.H k).isSome=true)->z3 {g with K:=K} (d.o7 s.H JG) v):∀{xs:List ResultVar} {C:List Xy} {ds:List D},Zn P xs=some C->Tt s C ds->
  ∃vs,(xs.mapM (J4 a.tmps)).run P w=.ok vs w/\j5 K ds vs/\vs.length=xs.length
 |[],C,ds,h1,h2=>by
  simp only[Zn,QzQ]at h1;subst h1;simp only[Tt]at h2;subst h2;exact⟨[],by simp,by trivial,rfl⟩
 |x::xs,C,ds,h1,h2=>by
  simp only[Zn]at h1;split at h1;rename_i x' T e1 e2;cases h1
  obtain⟨d,ds',rfl,O,M⟩:=h2;obtain⟨v,q1,q2⟩:=Qf9 r G e1 O;obtain⟨vs,Y,V,U⟩:=L4 r G e2 M
  (repeat clear hK K);simp_all [j5]
  grind
theorem Qar (r:Rel E g s a w) (C:∀d v,z3 g d v->(∀k∈d.l4,(lk s.H k).isSome=true)->z3 {g with K:=K} (d.o7 s.H JG) v) {rs:List Xy} (hp:Zn P fn.results.toList=some rs) (h:QiS s rs d):
  ∃v,(results fn a.tmps).run P w=.ok v w/\l3 K d v:=by
 have T:results fn a.tmps=(fn.results.mapM (J4 a.tmps)>>=λvs=>pure (if h:vs.size=1 then vs[0]else .tuple vs)):=by
  rfl
 have key:∀vs,(fn.results.toList.mapM (J4 a.tmps)).run P w=.ok vs w->(results fn a.tmps).run P w=.ok (if h:vs.toArray.size=1 then vs.toArray[0]else .tuple vs.toArray) w:=λvs hv=>by
  (repeat clear hK K);simp_all [Array.mapM_eq_mapM_toList]
 match rs,hp,h with
 |[x'],hp,h=>
  cases hx:fn.results.toList with
  |nil=>grind [Zn]
  |cons x xs=>
   rw[hx]at hp;simp only[Zn]at hp;split at hp;rename_i x2 r2 e1 e2;cases hp
   have M:xs=[]:=by
    cases xs with
    |nil=>rfl
    |cons y ys=>grind [Zn]
   subst M;obtain⟨v,G,O⟩:=Qf9 r C e1 h
   (repeat clear hK K);simp_all
   grind
 |[],hp,h=>
  obtain⟨ds,rfl,h2⟩:=h;obtain⟨vs,G,O,U⟩:=L4 r C hp h2;simp only[Tt]at h2;subst h2;cases vs with
  |nil=>exact⟨_,key [] G,by simp only[l3];grind⟩
  |cons=>trivial
 |x::y::rs,hp,h=>
  obtain⟨ds,rfl,h2⟩:=h;obtain⟨vs,G,O,U⟩:=L4 r C hp h2;refine⟨_,key vs G, ?_⟩
  have hl:vs.length≠1:=by
   obtain⟨d1,Y,e1,_,V⟩:=h2;obtain⟨d2,ds2,e2,_,_⟩:=V;subst e2;subst e1;cases vs with
   |nil=>simp
   |cons v vs=>grind [j5]
  rw[dif_neg Wa];simp only[l3]
  grind
theorem RF:∀(l:List D) (k t:Nat),lk (MB k l) t=if k<=t then l[t - k]? else none
 |[],k,t=>by simp[MB,lk]
 |x::r,k,t=>by
  simp only[MB,Qe,RF r (k+1) t]
  grind
theorem NH {K:Kn}:∀{ds:List D} {vs:List Value},j5 K ds vs->vs.length=ds.length/\∀(i:Nat) d,ds[i]?=some d->∃v,vs[i]?=some v/\l3 K d v
 |[],[],_=>⟨rfl,λi d h=>by grind⟩
 |d::ds,v::vs,h=>by
  simp only[j5]at h;obtain⟨h1,h2⟩:=NH h.2
  grind
 |[],_::_,h=>by trivial
 |_::_,[],h=>by trivial
theorem Ok.jh {V:QzL} (hm:P.follows .mixedOrders=true) (hf:P.funcs[f]?=some fn) (hp:Qk P fn=some af) (hn:ds.length<=af.nt+(HD f).length)
 (O:∀K vs,j5 K ds (vs++gVs f)->∀t d',lk V t=some d'->(∃v,vs[t]?=some v/\l3 K d' v)\/∃i,t=900000+i/\l3 K d' (.pointer (some ⟨i,0,none⟩)))
 (h:AW P af.nt af.body (s7 af.rs d) ⟨V,[]⟩):Ok P f ds d:=by
 unfold Qk at hp;split at hp;rename_i c rs U hrs;split at hp;rename_i ac hac;split at hp;rename_i C;cases hp
 refine⟨⟨fn,hf,C.1,by grind⟩,λK w vs hkr hvs=>?_⟩;have hlen:=(NH hvs).1;rw[QAs,gVs,QAH]at hlen;have O:=O K vs hvs;simp only at hn h;let E:Env:=⟨fn.ntmps,w.heap.size,w,K,λ_=>False,λ_=>False,λ_=>none,λ_=>(0,0),none,some w.heap.size⟩;let g:Gh:=⟨K,λ_=>none,λ_=>(0,0)⟩;have hsz:(vs.toArray++Array.replicate (fn.ntmps - vs.toArray.size) Go.undef).size=fn.ntmps:=by grind
 have r0:Rel E g ⟨V,[]⟩ {tmps:=vs.toArray++Array.replicate (fn.ntmps - vs.toArray.size) Go.undef,defers:=[]} w:=by
  refine⟨⟨hsz,C.2⟩,ic.nil rfl,λt d' hd=>?_,λt d' hd k hk=>?_,(λk b hb=>by cases hb),(λk b hb=>by cases hb),(λk k' b b' B e e' h1=>by simp),hkr,⟨QAe _,λb hb _=>rfl,z7.refl w⟩,λb hb _=>rfl,λk hk=>hk.elim⟩;rcases O t d' hd with⟨v,h1,h2⟩ |⟨i,rfl,h2⟩
  have:(vs.toArray++Array.replicate (fn.ntmps - vs.toArray.size) Go.undef).getD t (Fb t)=v:=by
   have hlt:=(QAm.1 h1).1
   (repeat clear hK K);simp_all [Array.getElem?_append_left]
  grind [l6.of]
  have:(vs.toArray++Array.replicate (fn.ntmps - vs.toArray.size) Go.undef).getD (900000+i) (Fb (900000+i))=.pointer (some ⟨i,0,none⟩):=by
   have h9:=C.2;rw[QAf,Array.getElem?_eq_none Wa,Option.getD_none,Fb,if_neg Wa,Nat.add_sub_cancel_left]
  grind [l6.of]
  rcases O t d' hd with⟨v,h1,h2⟩ |⟨i,rfl,h2⟩<;>(grind [Xr])
 refine(callsIn_wide (n:=0)).1 (callsIn_of_wp_marks hf U trivial (wpIn_mono (h c E g _ w hm hac rfl (.inl ⟨rfl,_,rfl,QAe _⟩) r0) λe a' w' M=>?_))
 have T:∀s' g' a' w',QiS s' rs d->Rel E g' s' a' w'->∃v,(results fn a'.tmps).run P w'=.ok v w'/\∃Y K',Ending.returned v=.returned Y/\l3 K' d Y/\x9 K' w'/\w.heap.size<=w'.heap.size/\(∀b,b<w.heap.size->w'.heap[b]?=w.heap[b]?)/\(∀b,b<w.heap.size->K' b=K b)/\z7 w w':=by
  intro s' g' a' w' hret G;obtain⟨K2,hle,hkr2,hoth,hrep⟩:=Pf G JG;obtain⟨v,h1,h2⟩:=Qar G hrep hrs hret;refine⟨v,h1,v,K2,rfl,h2,hkr2,G.ext.1,λb hb=>G.ext.2.1 b hb (λh=>h),λb hb=>?_,G.ext.2.2⟩;rw[hoth b λk bx e q1 q2 q3=>?_];exact G.kx b hb (λh=>h);obtain⟨_,_,q4⟩:=G.bx k bx q1;rcases q4 with⟨_,⟨q4,_⟩ |⟨_,_,_,_,_,B,_,q5,_,_,q10⟩⟩ |⟨_,B,c,q5,_,_,_,_,q10⟩
  grind
  grind
  grind
 cases e<;>simp only[AQ]at M
 obtain⟨s',g',M,G⟩:=M;exact Pk (λn h=>by grind) G λa2 w2 _ r2=>T s' g' a2 w2 M r2;obtain⟨s',g',M,G⟩:=M;trivial;obtain⟨s',g',M,G⟩:=M;exact Pk (λn h=>by grind) G λa2 w2 _ r2=>T s' g' a2 w2 M r2
 all_goals grind
theorem Ok.of (hm:P.follows .mixedOrders=true) (M:P.funcs[f]?=some fn) (hp:Qk P fn=some af) (O:ds.length<=af.nt) (G:HD f=[])
 (h:AW P af.nt af.body (s7 af.rs d) ⟨MB 0 ds,[]⟩):Ok P f ds d:=Ok.jh hm M hp Wa (λK vs C t d' hd=>.inl (by
 rw[gVs,G,QAV,QAj]at C;rw[RF,if_pos (QzZ _),Nat.sub_zero]at hd;exact(NH C).2 t d' hd)) h
theorem Ok.ui {dg:D} (hm:P.follows .mixedOrders=true) (O:P.funcs[f]?=some fn) (hp:Qk P fn=some af) (V:ds.length<=af.nt) (M:HD f=[0])
 (h:AW P af.nt af.body (s7 af.rs d) ⟨MB 0 ds++[(900000,dg)],[]⟩):Ok P f (ds++[dg]) d:=Ok.jh hm O hp Wb (λK vs C t d' hd=>by
 rw[gVs,M]at C;obtain⟨h1,h2⟩:=NH C;simp only[QAr,QAV,QAs,List.length_singleton,Nat.add_right_cancel_iff]at h1;rw[Z8]at hd;split at hd;rename_i x hx;cases hd
 rw[RF,if_pos (QzZ _),Nat.sub_zero]at hx;have G:=(QAm.1 hx).1;obtain⟨v,U,T⟩:=h2 t _ (by rw[QAI G];exact hx)
 grind
 rw[Qe]at hd;split at hd;rename_i e;cases hd;subst e;obtain⟨v,U,T⟩:=h2 ds.length dg Wc
 grind
 trivial) h
theorem le_refl (s:St):s.le s:=λ_ g _ _ r=>⟨g,r⟩
theorem le_trans {s1 s2 s3:St} (h:s1.le s2) (C:s2.le s3):s1.le s3:=λE g a w r=>
 let⟨g',r'⟩:=h E g a w r
 C E g' a w r'
theorem RC (k:Nat) (s:St) (hk:k<1000000):s.le (s.freeze k):=λ_ _ _ _ r=>let⟨g',_,r'⟩:=r.freeze k hk;⟨g',r'⟩
def ua (H:QzK) (fr:QzL):Bool:=
 (fr.all λp=>p.2.ids.all λk=>(lk H k).isSome)&&H.all λp=>p.2.ids.all λk=>(lk H k).isSome
def QdW (H H':QzK):Bool:=H.all λp=>decide (p.1<1000000)||(lk H' p.1).isSome
theorem QV {α:Type}:∀{l:List (Nat × α)} {t:Nat} {v:α},lk l t=some v->(t,v)∈l
 |[],_,_,h=>by cases h
 |(k,x)::r,t,v,h=>by
  rw[Qe]at h;split at h
  grind
  exact QAQ _ (QV h)
theorem N4 {H H':QzK} (h:QdW H H'=true):∀k,1000000<=k->(lk H k).isSome=true->(lk H' k).isSome=true:=by
 intro k hk C;obtain⟨b,hb⟩:=QzT.1 C;simp only[QdW,QzX]at h;have:=h (k,b) (QV hb)
 grind
end
variable {A:Prop} {c:n5} {l:List Nat} {ops:List z1} {α:Type}
inductive y5 where
 |skip
 |region (draw:Bool) (ops:List z1)
 |ba (ops:List z1)
 |seq (a:y5) (live:List Nat) (b:y5)
 |cond (c:n5) (a b:y5)
 |block (id:Nat) (a:y5)
 |loop (a:y5)
 |scope (a:y5)
 |exit (id:Nat)
 |ret
 |l8 (x:n5) (p q:Nat) (a:y5)
variable {a b x y:y5}
def y5.erase:y5->y7
 | .skip=>.skip
 | .region d ops=>.region d ops
 | .ba ops=>.ba ops
 | .seq a _ b=>.seq a.erase b.erase
 | .cond c a b=>.cond c a.erase b.erase
 | .block id a=>.block id a.erase
 | .loop a=>.loop a.erase
 | .scope a=>.scope a.erase
 | .exit id=>.exit id
 | .ret=>.ret
 | .l8 x p q a=>.l8 x p q a.erase
structure a6 where
 nt:Nat
 rs:List Xy
 body:y5
variable {tf:a6}
def a6.erase (t:a6):AFn:=⟨t.nt,t.rs,t.body.erase⟩
def Qz:List Nat->QzL->QzL
 |[],_=>[]
 |t::ts,fr=>match lk fr t with
  |some d=>(t,d)::Qz ts fr
  |none=>Qz ts fr
theorem YA:∀(l:List Nat) (fr:QzL) (t:Nat) (d:D),lk (Qz l fr) t=some d->lk fr t=some d
 |[],fr,t,d,h=>by cases h
 |u::us,fr,t,d,h=>by
  simp only[Qz]at h;split at h;rename_i d' hd;rw[Qe]at h;split at h
  grind
  exact YA us fr t d h;exact YA us fr t d h
theorem KY (l:List Nat) (fr:QzL) (H:QzK):St.le ⟨fr,H⟩ ⟨Qz l fr,H⟩:=λ_ g _ _ r=>
 ⟨g,r.less (λt d h=>YA l fr t d h) (λ_ _ h=>h) (λt d h=>r.s9 t d (YA l fr t d h)) r.u9 (λ_ _ h=>h)⟩
section
variable {P:Program} {nt:Nat} {Q:AExit->St->Prop} {s:St}
abbrev TW (P:Program) (nt:Nat) (c:y5) (Q:AExit->St->Prop) (s:St):Prop:=AW P nt c.erase Q s
theorem Yh {K K':St->Prop} (h:∀s,K s->K' s):∀{l:List z1} {s:St},HL P l K s->HL P l K' s
 |[],s,C=>h s C
 |o::l,s,C=>by
  simp only[HL,Qg8]at C ⊢;split
  grind
  rename_i G;rw[G]at C;exact Yh h C;rename_i G;rw[G]at C;rcases C with⟨d,bx,h1,h2⟩ |⟨s',d,h1,h2⟩ |⟨p,q,d,ef,h1,h2⟩ |⟨f,args,HF,Hn,Hu,d,h1,h2,M⟩ |⟨s',d,bx,h1,h2,M⟩
  exact .inl ⟨d,bx,h1,Yh h h2⟩;exact .inr (.inl ⟨s',d,h1,Yh h h2⟩);exact .inr (.inr (.inl ⟨p,q,d,ef,h1,Yh h h2⟩));exact .inr (.inr (.inr (.inl ⟨f,args,HF,Hn,Hu,d,h1,h2,Yh h M⟩)));exact .inr (.inr (.inr (.inr ⟨s',d,bx,h1,h2,Yh h M⟩)))
theorem PZ {ww:Bool} {B:Nat->Prop} {C:Nat->Nat->Prop} {K K':St->Prop} (h:∀s,K s->K' s):∀{l:List z1} {j:Nat} {R W:List (Nat × Nat)} {s:St},Hm ww P B C l j R W K s->Hm ww P B C l j R W K' s
 |[],_,_,_,s,hh=>h s hh
 |o::l,_,_,_,s,hh=>by
  obtain⟨p,q,d,bx,h1,h2,G⟩:=hh;exact⟨p,q,d,bx,h1,h2,PZ h G⟩
theorem Qsw (h:∀K:St->Prop,(∀fr H,TW P nt b Q ⟨Qz l fr,H⟩->K ⟨fr,H⟩)->HL P ops K s):TW P nt (.seq (.region false ops) l b) Q s:=
 PM (DF (h _ λfr H hb=>DD (KY l fr H) hb))
theorem QoK (h:∀K:St->Prop,(∀fr H,TW P nt b Q ⟨Qz l fr,H⟩->K ⟨fr,H⟩)->AwD P nt ops K s):TW P nt (.seq (.region true ops) l b) Q s:=
 PM (SP (h _ λfr H hb=>DD (KY l fr H) hb))
theorem QoJ (h:∀K:St->Prop,(∀s',Q .normal s'->K s')->HL P ops K s):TW P nt (.region false ops) Q s:=
 DF (h _ λ_ h=>h)
theorem QkT (h:∀K:St->Prop,(∀s',Q .normal s'->K s')->AwD P nt ops K s):TW P nt (.region true ops) Q s:=
 SP (h _ λ_ h=>h)
def Qki (P:Program) (nt:Nat) (l:List Nat) (b:y5) (Q:AExit->St->Prop):AExit->St->Prop
 | .normal,s=>TW P nt b Q ⟨Qz l s.fr,s.H⟩
 |e,s=>Q e s
theorem Kr (h:TW P nt a (Qki P nt l b Q) s):TW P nt (.seq a l b) Q s:=
 PM (λcode E g a w hm hp O G r=>wpIn_mono (h code E g a w hm hp O G r) λe a' w' C=>by
  cases e<;>simp only[AQ]at C ⊢
  obtain⟨s',g',C,M⟩:=C;exact⟨s',g',DD (KY l s'.fr s'.H) C,M⟩;trivial;trivial)
theorem DN {t:Bool} (C:s.ev c=some (.bool t)) (h1:t=true->TW P nt x Q s) (h2:t=false->TW P nt y Q s):TW P nt (.cond c x y) Q s:=Bp C h1 h2
theorem Qx (C:s.ev c=some (.bool true)) (h1:TW P nt x Q s):TW P nt (.cond c x y) Q s:=Bp C (λ_=>h1) (λh=>by cases h)
theorem QP (C:s.ev c=some (.bool false)) (h1:TW P nt y Q s):TW P nt (.cond c x y) Q s:=Bp C (λh=>by cases h) (λ_=>h1)
theorem HG (h:TW P nt a (YX id Q) s):TW P nt (.block id a) Q s:=Qhj h
theorem QE {ι:Type} (st:ι->St) (I:ι->Prop) (μ:ι->Nat) (i0:ι) (h0:s.le (st i0)) (C:I i0) (round:∀i,I i->TW P nt a (Tv st I μ i Q) (st i)):TW P nt (.loop a) Q s:=Qkw st I μ i0 h0 C round
theorem PR (h:TW P nt a Q s):TW P nt (.scope a) Q s:=Qhk h
theorem Mx (h:Q (.exit id) s):TW P nt (.exit id) Q s:=Qkv h
theorem By (h:Q .ret s):TW P nt .ret Q s:=Qoz h
theorem SU (h:Q .normal s):TW P nt .skip Q s:=Qky h
theorem Dx {c:y5} {s':St} (h:s.le s') (hw:TW P nt c Q s'):TW P nt c Q s:=DD h hw
theorem Ok.b7 (hm:P.follows .mixedOrders=true) (M:P.funcs[f]?=some fn) (hp:Qk P fn=some tf.erase) (C:ds.length<=tf.nt)
 (h:TW P tf.nt tf.body (s7 tf.rs d) ⟨MB 0 ds,[]⟩) (G:HD f=[]:=by rfl):Ok P f ds d:=Ok.of (af:=tf.erase) hm M hp C G h
theorem Ok.ka {dg:D} (hm:P.follows .mixedOrders=true) (M:P.funcs[f]?=some fn) (hp:Qk P fn=some tf.erase) (C:ds.length<=tf.nt)
 (h:TW P tf.nt tf.body (s7 tf.rs d) ⟨MB 0 ds++[(900000,dg)],[]⟩) (G:HD f=[0]:=by rfl):Ok P f (ds++[dg]) d:=Ok.ui (af:=tf.erase) hm M hp C G h
end
def QB (o:Option α) (k:α->Prop):Prop:=∃a,o=some a/\k a
@[congr] theorem obind_congr {o o':Option α} {k:α->Prop} (h:o=o'):QB o k=QB o' k:=by rw[h]
def Qrf (c b:Bool) (A B:Prop):Prop:=(c=b->A)/\(c=(!b)->B)
@[congr] theorem gsel_congr {c c' b:Bool} {B:Prop} (h:c=c'):Qrf c b A B=Qrf c' b A B:=by rw[h]
def Rv (d:D) (b:Bool) (A B:Prop):Prop:=
 match d with
 | .bool c=>Qrf c b A B
 | .undef=>B
 |_=>False
@[congr] theorem guardK_congr {d':D} {b:Bool} {B:Prop} (h:d=d'):Rv d b A B=Rv d' b A B:=by rw[h]
def QsI (d:D) (k:Bool->Prop):Prop:=∃t,d=.bool t/\k t
def St.ad (s:St):D->Option (List D)
 | .ptr cs=>some cs
 | .ref k i off=>match lk s.H k with
  |some b=>match b.rows[i]? with
   |some row=>some (row.drop off)
   |none=>none
  |none=>none
 |_=>none
theorem HK {s:St} {cells:List D}:s.at d cells↔s.ad d=some cells:=by
 cases d<;>simp only[St.at,St.ad,reduceCtorEq,QzQ]
 grind
 grind
variable {K:St->Prop} {N m n:Nat} {R:List (Nat × List Nat)} {R':List (Nat × Nat)} {ao op:z5} {b w:Bool} {kk:D->Prop} {om:Oper} {r:List z1}
def QcP (op:BinOp) (k:IntKind) (x y:Int) (kk:D->Prop):Prop:=
 match op with
 | .add=>kk (.int k (k.wrap (x+y)))
 | .sub=>kk (.int k (k.wrap (x - y)))
 | .mul=>kk (.int k (k.wrap (x*y)))
 | .quo=>y≠0/\kk (.int k (k.wrap (x.tdiv y)))
 | .rem=>y≠0/\kk (.int k (x.tmod y))
 | .and=>kk (.int k (Ju .and k x y))
 | .or=>kk (.int k (Ju .or k x y))
 | .xor=>kk (.int k (Ju .xor k x y))
 | .andNot=>kk (.int k (Ju .andNot k x y))
 | .shl=>0<=y/\kk (.int k (k.wrap (x*2 ^ min y.toNat k.bits)))
 | .shr=>0<=y/\kk (.int k (x.fdiv (2 ^ min y.toNat k.bits)))
 | .eql=>kk (.bool (decide (x=y)))
 | .neq=>kk (.bool (!decide (x=y)))
 | .lss=>kk (.bool (decide (x<y)))
 | .leq=>kk (.bool (decide (x<=y)))
 | .gtr=>kk (.bool (decide (y<x)))
 | .geq=>kk (.bool (decide (y<=x)))
def Qle (op:BinOp) (x y:Bool) (kk:D->Prop):Prop:=
 match op with
 | .eql=>kk (.bool (decide (x=y)))
 | .neq=>kk (.bool (!decide (x=y)))
 |_=>False
def QhF (op:BinOp) (x y:List UInt8) (kk:D->Prop):Prop:=
 match op with
 | .add=>x.length+y.length<=9223372036854775807/\kk (.str (x++y))
 | .eql=>kk (.bool (decide (x=y)))
 | .neq=>kk (.bool (!decide (x=y)))
 | .lss=>kk (.bool (Op.bytesLess x y))
 | .leq=>kk (.bool (Op.bytesLess x y||decide (x=y)))
 | .gtr=>kk (.bool (!(Op.bytesLess x y||decide (x=y))))
 | .geq=>kk (.bool (!Op.bytesLess x y))
 |_=>False
def QdX (op:BinOp) (bt:Bool) (p q:D) (kk:D->Prop):Prop:=
 match p,q with
 | .int k m,.int j n=>(Mi op=true\/k=j)/\QcP op k m n kk
 | .bool m,.bool n=>bt=true/\Qle op m n kk
 | .str m,.str n=>QhF op m n kk
 | .w8 _ _,.val v=>v=.nilFunc/\op=.xor/\bt=true/\kk (.bool false)
 |_,_=>False
def unK (op:UnOp) (p:D) (kk:D->Prop):Prop:=
 match op,p with
 | .not,.bool b=>kk (.bool (!b))
 | .neg,.int k n=>kk (.int k (k.wrap (0 - n)))
 | .plus,.sl rows=>rows≠[]/\kk (.bool false)
 |_,_=>False
def St.va (s:St) (x:Option n5) (dflt:Nat):Option Int:=
 match x with
 |none=>some dflt
 |some y=>match s.ev y with
  |some (.int _ m)=>some m
  |_=>none
def MF (s:St) (off:Nat) (p:D) (kk:D->Prop):Prop:=
 match p with
 | .ptr cells=>off<=cells.length/\kk (.ptr (cells.drop off))
 | .ref k i j=>(lk s.H k).isSome=true/\kk (.ref k i (j+off))
 |_=>False
def R1 (rows:List (List D)) (n:Int) (l0:Nat) (kk:List D->Prop):Prop:=∃row,0<=n/\rows[n.toNat]?=some row/\row.length=l0/\kk row
def QiH (l:List UInt8) (n:Int) (kk:UInt8->Prop):Prop:=∃c,0<=n/\l[n.toNat]?=some c/\kk c
def Qbs (s:St) (l0:Nat) (i p:D) (kk:D->Prop):Prop:=
 match i,p with
 | .int _ n,.sl rows=>R1 rows n l0 λrow=>kk (.ptr row)
 | .int _ n,.x7 rows=>R1 rows n l0 λrow=>kk (.ptr row)
 | .int _ n,.s4 j m=>QB (lk s.H j) λb=>m=b.rows.length/\0<=n/\n<m/\b.l0=l0/\kk (.ref j n.toNat 0)
 |_,_=>False
def Nl (i p:D) (kk:D->Prop):Prop:=
 match i,p with
 | .int _ n,.str l=>QiH l n λc=>kk (.int .u8 c.toNat)
 |_,_=>False
def Qds:D->Option (List D)
 | .agg cs=>some cs
 |_=>none
def Qdk:D->Option (List UInt8)
 | .str l=>some l
 |_=>none
def Qly (k:IntKind):D->Option D
 | .int _ n=>some (.int k (k.wrap n))
 |_=>none
def Qtj (p q:D) (kk:D->Prop):Prop:=
 match p,q with
 | .int k m,.int _ n=>kk (.int k (min m n))
 |_,_=>False
def Qti (p q:D) (kk:D->Prop):Prop:=
 match p,q with
 | .int k m,.int _ n=>kk (.int k (max m n))
 |_,_=>False
def Dd (s:St) (l0:Nat) (q:D) (kk:List (List D)->Bool->Prop):Prop:=
 match q with
 | .sl rs=>(∀r∈rs,r.length=l0)/\kk rs true
 | .x7 rs=>(∀r∈rs,r.length=l0)/\kk rs true
 | .s4 j n=>QB (lk s.H j) λb=>n=b.rows.length/\b.l0=l0/\kk b.rows b.pr
 |_=>False
def QtK (s:St) (p:D) (kk:Nat->Nat->Nat->u4->List D->Prop):Prop:=
 match p with
 | .ref k i off=>QB (lk s.H k) λb=>QB b.rows[i]? λrow=>kk k i off b row
 |_=>False
def Qjt (dr:Bool) (l0 et bytes:Nat) (dst:Option Nat) (s:St) (p:D) (ys:List (List D)) (pr:Bool) (kk:St->Prop):Prop:=
 match p with
 | .x7 rows=>QB dst λt=>lk s.H t=none/\(rows=[]\/ys≠[])/\(∀r∈rows,r.length=l0)/\(rows.length+ys.length)*bytes<=140737488355328/\rows.length+ys.length<=4611686018427387904/\
   kk (s.apply dst (.s4 t (rows.length+ys.length)) (some ⟨rows++ys,l0,et,pr⟩))
 | .s4 k n=>dr=false/\k<1000000/\QB (lk s.H k) λb=>n=b.rows.length/\b.l0=l0/\b.et=et/\((b.pr&&pr)=true\/∀r0∈b.rows++ys,∀d∈r0,k∉d.l4)/\(n+ys.length)*bytes<=140737488355328/\n+ys.length<=4611686018427387904/\
   kk (St.apply {fr:=(s.z2 k).fr,H:=(k,⟨b.rows++ys,l0,et,b.pr&&pr⟩)::(s.z2 k).H} dst (.s4 k (n+ys.length)) none)
 |_=>False
def Qmm (l0 et bytes:Nat) (zero:List D) (dst:Option Nat) (s:St) (p q:D) (kk:St->Prop):Prop:=
 match p,q with
 | .int _ m,.int _ n=>QB dst λt=>lk s.H t=none/\m=n/\0<=n/\n.toNat*bytes<=281474976710656/\n.toNat<=4611686018427387904/\kk (s.apply dst (.s4 t n.toNat) (some ⟨List.replicate n.toNat zero,l0,et,true⟩))
 |_,_=>False
def Qlo (P:Program) (f:Nat) (ds:List D) (pu:Bool) (kk:D->Prop):Prop:=∃d,Ok P f ds d/\(pu=true\/d.flat=true)/\kk d
def Qqt (l0:Nat) (rows:List (List D)) (l h:Int) (mx:Option (Option Int)) (hs:Bool) (kk:D->Prop):Prop:=
 0<=l/\l<=h/\h<=rows.length/\(∀r∈rows,r.length=l0)/\
 match mx with
 |none=>kk (.sl ((rows.take h.toNat).drop l.toNat))
 |some m=>m=some h/\hs=true/\kk (.x7 ((rows.take h.toNat).drop l.toNat))
def Qvz (s:St) (len l0:Nat) (i p:D) (kk:D->Prop):Prop:=
 match i with
 | .int _ n=>0<=n/\n<len/\MF s (n.toNat*l0) p kk
 |_=>False
def Qe3:D->Option Int
 | .int _ n=>some n
 |_=>none
def Ql1 (s:St) (p:D) (kk:Nat->List UInt8->Nat->Prop):Prop:=
 match p with
 | .ref k 0 0=>∃l q,lk s.H k=some ⟨[],0,QR l q,false⟩/\kk k l q
 |_=>False
def QsV (p:D) (kk:Nat->List D->Prop):Prop:=
 match p with
 | .w8 f caps=>kk f caps
 |_=>False
def QsH (p:D) (kk:Nat->List D->Prop):Prop:=
 match p with
 | .re f rs=>kk f rs
 |_=>False
def Qon (p:D) (kk:List (List D)->Prop):Prop:=
 match p with
 | .x7 rows=>kk rows
 |_=>False
def QgY (s:St) (hi:Option n5) (p:D) (kk:D->Prop):Prop:=
 match p with
 | .x7 rows=>s.va hi rows.length=some (rows.length:Int)/\kk (.x7 rows)
 | .s4 j n=>QB (s.va hi n) λm=>0<=m/\m<=n/\kk (.s4 j m.toNat)
 |_=>False
def Qn3 (s:St) (l0:Nat) (hi:Option n5) (l:Int) (p:D) (kk:D->Prop):Prop:=
 match p with
 | .s4 j n=>0<=l/\l<=n/\s.va hi n=some (n:Int)/\kk (.y9 j l.toNat (l.toNat*l0) (n - l.toNat))
 |_=>False
def QlE (s:St) (l0:Nat) (hi:Option n5) (l:Int) (p:D) (kk:St->D->Prop):Prop:=
 match p with
 | .s4 j n=>QB (lk s.H j) λb=>j<1000000/\n=b.rows.length/\b.l0=l0/\l0≠0/\(∀r0∈b.rows,∀d∈r0,j∉d.l4)/\0<=l/\l<=n/\s.va hi n=some (n:Int)/\kk {fr:=(s.z2 j).fr,H:=(j,⟨b.rows.drop l.toNat,l0,b.et,b.pr⟩)::(s.z2 j).H} (.s4 j (n - l.toNat))
 |_=>False
def step (P:Program) (dr:Bool) (op:z5) (dst:Option Nat) (s:St) (k:St->Prop):Prop:=
 match op with
 | .we x=>QB (s.ev x) λd=>k (s.apply dst d none)
 | .pick c x y=>QB (s.ev c) λcd=>QsI cd λt=>QB (s.ev (if t=true then x else y)) λd=>k (s.apply dst d none)
 | .alloc et cells=>QB dst λt=>lk s.H t=none/\k (s.apply dst (.ref t 0 0) (some (Qha et cells)))
 | .box et x=>QB dst λt=>QB (s.ev x) λv=>QB v.cells λcells=>lk s.H t=none/\k (s.apply dst (.ref t 0 0) (some (Qha et cells)))
 | .build zero parts=>QB (Y1 s parts) λqs=>QB (Rj zero qs) λds=>k (s.apply dst (.agg ds) none)
 | .buildSlice l0 et parts=>(QB dst λt=>QB (Yz s l0 parts) λrows=>lk s.H t=none/\k (s.apply dst (.s4 t parts.length) (some ⟨rows,l0,et,rows.all λr=>r.all λd=>d.l4.isEmpty⟩)))\/
   QB (Yz s l0 parts) λrows=>(rows.all λr=>r.all λd=>d.l4.isEmpty)=true/\k (s.apply dst (.x7 rows) none)
 | .load agg sz x=>QB (s.ev x) λp=>QB (s.ad p) λcells=>match agg with
  |true=>sz<=cells.length/\k (s.apply dst (.agg (cells.take sz)) none)
  |false=>QB cells.head? λd=>k (s.apply dst d none)
 | .store sz x v=>QB (s.ev x) λp=>QtK s p λkk i off b row=>QB (s.ev v) λq=>QB q.cells λcells=>cells.length=sz/\off+sz<=row.length/\
   k (St.apply {s with H:=(kk,{b with rows:=b.rows.set i (setRow row off cells),pr:=b.pr&&cells.all λd=>d.l4.isEmpty})::s.H} dst .undef none)
 | .nilCheck x=>QB (s.ev x) λp=>p.kd=true/\k (s.apply dst p none)
 | .bin op bt x y=>QB (s.ev x) λp=>QB (s.ev y) λq=>QdX op bt p q λd=>k (s.apply dst d none)
 | .eqs neg ks x y=>QB (s.ev x) λp=>QB (s.ev y) λq=>QB (Qds p) λxs=>QB (Qds q) λys=>QB (KJ ks xs ys) λb=>k (s.apply dst (.bool (if neg=true then !b else b)) none)
 | .un op x=>QB (s.ev x) λp=>unK op p λd=>k (s.apply dst d none)
 | .conv kk x=>QB (s.ev x) λp=>QB (Qly kk p) λd=>k (s.apply dst d none)
 | .k9 sb x=>QB (s.ev x) λp=>match sb with
  |true=>QB (Qdk p) λl=>k (s.apply dst (.sl (l.map P2)) none)
  |false=>Dd s 1 p λys _=>QB (Ks ys) λl=>k (s.apply dst (.str l) none)
 | .slice l0 x lo hi mx=>(QB (s.ev x) λp=>QB p.rows? λrows=>QB (s.va lo 0) λl=>QB (s.va hi rows.length) λh=>Qqt l0 rows l h (mx.map λm=>s.va (some m) 0) hi.isSome λd=>k (s.apply dst d none))\/
   (mx=none/\s.va lo 0=some 0/\QB (s.ev x) λp=>QgY s hi p λd=>k (s.apply dst d none))\/
   (mx=none/\QB (s.va lo 0) λl=>QB (s.ev x) λp=>Qn3 s l0 hi l p λd=>k (s.apply dst d none))\/
   (dr=false/\mx=none/\QB (s.va lo 0) λl=>QB (s.ev x) λp=>QlE s l0 hi l p λs' d=>k (s'.apply dst d none))
 | .nc x=>QB (s.ev x) λp=>Qon p λrows=>k (s.apply dst (.int .i64 rows.length) none)
 | .xd l0 et bytes zero x y=>QB dst λt=>QB (s.ev x) λp=>Qon p λrows=>rows=[]/\QB (s.ev y) λq=>QB (Qe3 q) λn=>lk s.H t=none/\0<n/\n.toNat*bytes<=140737488355328/\n.toNat<=4611686018427387904/\
   k (s.apply dst (.s4 t n.toNat) (some ⟨List.replicate n.toNat zero,l0,et,true⟩))
 | .a8 x lo hi=>QB (s.ev x) λp=>QB (Qdk p) λc=>QB (s.va lo 0) λl=>QB (s.va hi c.length) λh=>0<=l/\l<=h/\h<=c.length/\k (s.apply dst (.str ((c.take h.toNat).drop l.toNat)) none)
 | .fieldAddr off x=>QB (s.ev x) λp=>MF s off p λd=>k (s.apply dst d none)
 | .field agg off sz x=>QB (s.ev x) λp=>QB (Qds p) λcells=>match agg with
  |true=>off+sz<=cells.length/\k (s.apply dst (.agg ((cells.drop off).take sz)) none)
  |false=>QB cells[off]? λd=>k (s.apply dst d none)
 | .indexAddr l0 x i=>QB (s.ev i) λn=>QB (s.ev x) λp=>Qbs s l0 n p λd=>k (s.apply dst d none)
 | .k8 x i=>QB (s.ev i) λn=>QB (s.ev x) λp=>Nl n p λd=>k (s.apply dst d none)
 | .extract i x=>QB (s.ev x) λp=>QB (QqU p) λds=>QB ds[i]? λd=>k (s.apply dst d none)
 | .len x=>QB (s.ev x) λp=>QB (Qhf p) λn=>k (s.apply dst (.int .i64 n) none)
 | .o9 x=>QB (s.ev x) λp=>QB (Qdk p) λl=>k (s.apply dst (.int .i64 l.length) none)
 | .min x y=>QB (s.ev x) λp=>QB (s.ev y) λq=>Qtj p q λd=>k (s.apply dst d none)
 | .max x y=>QB (s.ev x) λp=>QB (s.ev y) λq=>Qti p q λd=>k (s.apply dst d none)
 | .append l0 et bytes x y=>QB (s.ev x) λp=>QB (s.ev y) λq=>Dd s l0 q λys pr=>Qjt dr l0 et bytes dst s p ys pr k
 | .makeSlice l0 et bytes zero x y=>QB (s.ev x) λp=>QB (s.ev y) λq=>Qmm l0 et bytes zero dst s p q k
 | .range x=>QB dst λt=>QB (s.ev x) λp=>QB (Qdk p) λl=>lk s.H t=none/\k (s.apply dst (.ref t 0 0) (some ⟨[],0,QR l 0,false⟩))
 | .next x=>dr=false/\QB (s.ev x) λp=>Ql1 s p λkk l q=>
   (q<l.length/\k (St.apply {s with H:=(kk,⟨[],0,QR l (q+(Utf8.decode ⟨l.toArray⟩ q).2),false⟩)::s.H} dst (.l7 [.bool true,.int .i64 q,.int .i32 (Utf8.decode ⟨l.toArray⟩ q).1]) none))\/
   (¬q<l.length/\k (s.apply dst (.l7 [.bool false]) none))
 | .b8 len l0 x i=>QB (s.ev i) λn=>QB (s.ev x) λp=>Qvz s len l0 n p λd=>k (s.apply dst d none)
 | .j8 agg len l0 x i=>QB (s.ev i) λnd=>QB (Qe3 nd) λn=>QB (s.ev x) λp=>QB (Qds p) λcells=>0<=n/\n<len/\match agg with
  |true=>n.toNat*l0+l0<=cells.length/\k (s.apply dst (.agg ((cells.drop (n.toNat*l0)).take l0)) none)
  |false=>QB cells[n.toNat*l0]? λd=>k (s.apply dst d none)
 | .call f args=>QB (QD s args) λds=>Qlo P f (ds.map (XL s)) (ds.all D.pure) λd=>k (s.apply dst d none)
 | .yd f xs=>QB (QD s xs) λds=>ds.all D.fa=true/\(k (s.apply dst (.w8 f ds) none)\/∃kk ps,HD f=[]/\ds=.ref kk 0 0::ps/\(ps.all λd=>!d.own)=true/\k (s.apply dst (.r9 f kk ps) none))
 | .oe f xs=>QB (QD s xs) λds=>ds.all D.pure=true/\k (s.apply dst (.re f ds) none)
 | .ga x az=>QB (s.ev x) λp=>(QsV p λf caps=>caps.all D.fa=true/\QB (QD s az) λds=>Qlo P f ((ds++caps).map (XL s)) ((ds++caps).all D.pure) λd=>k (s.apply dst d none))\/(az=[]/\QsH p λf rs=>rs.all D.pure=true/\Qlo P f (rs.map (XL s)) (rs.all D.pure) λd=>k (s.apply dst d none))
 | .stop=>False
inductive Dr where
 |fixed
 |drawn (H0:QzK) (R W:List (Nat × List Nat))
def Dr.dr:Dr->Bool
 | .fixed=>false
 | .drawn _ _ _=>true
def D6 (n:Nat) (p:List Nat) (R:List (Nat × List Nat)):Bool:=p.all λk=>R.all λe=>e.1 != k||e.2.contains n
def Dr.ok:Dr->Nat->List Nat->List Nat->Bool
 | .fixed,_,_,_=>true
 | .drawn _ R W,n,p,q=>D6 n p W&&D6 n q R&&D6 n q W
def Dr.nx:Dr->List Nat->List Nat->List Nat->Dr
 | .fixed,_,_,_=>.fixed
 | .drawn H0 R W,ds,p,q=>.drawn H0 (p.map (·,ds)++R) (q.map (·,ds)++W)
def Dr.of (H0:QzK):Bool->Dr
 |false=>.fixed
 |true=>.drawn H0 [] []
def Dr.B:Dr->Nat->Prop
 | .fixed=>λ_=>True
 | .drawn H0 _ _=>λk=>(lk H0 k).isSome=true
def n5.slot:n5->Option Nat
 | .s t=>some t
 | .c _=>none
def z1.looks (o:z1):List Nat:=o.op.u6.filterMap n5.slot++(o.guard.map Prod.fst).toList
def ZL:List Nat->List z1->List Nat
 |_,[]=>[]
 |S,o::r=>if o.looks.any (λt=>S.contains t)=true then r.length::ZL (o.dst.toList++S) r else ZL S r
def Xt:List z1->List Nat
 |[]=>[]
 |o::r=>if o.op.ma=true then r.length::Xt r else Xt r
def st2 (l:List Nat):List Nat:=l
def Md (op:z5) (dst:Option Nat) (r:List z1):List Nat:=
 match op with
 | .load _ _ _=>ZL dst.toList r++st2 (Xt r)
 | .store _ _ _=>ZL dst.toList r++Xt r
 |_=>ZL dst.toList r
def z5.rf:z5->Bool
 | .call .. | .ga .. =>true
 |_=>false
def D0:List z1->List Nat
 |[]=>[]
 |o::r=>if o.op.rf=true then r.length::D0 r else D0 r
def D1 (r:List z1):List Nat:=if(r.all λo=>o.guard.isNone)=true then D0 r else[]
def MX (op:z5) (dst:Option Nat) (r:List z1):List Nat:=
 match op with
 | .call _ _=>ZL dst.toList r++D1 r
 |_=>ZL dst.toList r
def run (P:Program):Dr->List z1->(St->Prop)->St->Prop
 |_,[],K,s=>K s
 |dr,⟨dst,op,none⟩::r,K,s=>
  (dr.ok r.length (HC op (pk op s)) (Kl op (wk op s))=true/\step P dr.dr op dst s λs'=>run P (dr.nx (Md op dst r) (HC op (pk op s)) (Kl op (wk op s))) r K s')\/
  (∃p q d ef,EF P dr.B op dst s p q d ef/\dr.ok r.length (HC op p) (Kl op q)=true/\run P (dr.nx (MX op dst r) (HC op p) (Kl op q)) r K (s.g8 dst d ef))\/
  (∃f args HF Hn Hu d,dr=.fixed/\Jg s op f args/\FA P f args s HF Hn Hu d/\run P dr r K (St.apply {s with H:=Hn++(Hu++s.H)} dst d none))\/
  ∃s' d bx,dr=.fixed/\s.le s'/\Xz P ⟨dst,op,none⟩ s' d bx/\run P dr r K (s'.apply dst d bx)
 |dr,⟨dst,op,some (t,b)⟩::r,K,s=>QB (lk s.fr t) λd=>Rv d b
  ((dr.ok r.length (HC op (pk op s)) (Kl op (wk op s))=true/\step P dr.dr op dst s λs'=>run P (dr.nx (Md op dst r) (HC op (pk op s)) (Kl op (wk op s))) r K s')\/
   (∃p q d ef,EF P dr.B op dst s p q d ef/\dr.ok r.length (HC op p) (Kl op q)=true/\run P (dr.nx (ZL dst.toList r) (HC op p) (Kl op q)) r K (s.g8 dst d ef))\/
   (∃f args HF Hn Hu d,dr=.fixed/\Jg s op f args/\FA P f args s HF Hn Hu d/\run P dr r K (St.apply {s with H:=Hn++(Hu++s.H)} dst d none))\/
   ∃s' d bx,dr=.fixed/\s.le s'/\Xz P ⟨dst,op,none⟩ s' d bx/\run P dr r K (s'.apply dst d bx))
  (run P dr r K (s.apply dst .undef none))
def Lk (w:Bool) (op:z5) (dst:Option Nat) (r:List z1):List Nat:=
 match w with
 |true=>(match op with
  | .store _ _ _=>ZL dst.toList r++Xt r
  |_=>ZL dst.toList r)
 |false=>Md op dst r
def Ba (P:Program) (w:Bool):Dr->List z1->(St->Prop)->St->Prop
 |_,[],K,s=>K s
 |dr,⟨dst,op,none⟩::r,K,s=>
  (dr.ok r.length (tkR w op s (pk op s)) (tkW w op s (wk op s))=true/\step P dr.dr op dst s λs'=>Ba P w (dr.nx (Lk w op dst r) (tkR w op s (pk op s)) (tkW w op s (wk op s))) r K s')\/
  (∃p q d ef,EF P dr.B op dst s p q d ef/\dr.ok r.length (tkR w op s p) (tkW w op s q)=true/\MX op dst r=ZL dst.toList r/\Ba P w (dr.nx (ZL dst.toList r) (tkR w op s p) (tkW w op s q)) r K (s.g8 dst d ef))
 |dr,⟨dst,op,some (t,b)⟩::r,K,s=>QB (lk s.fr t) λd=>Rv d b
  ((dr.ok r.length (tkR w op s (pk op s)) (tkW w op s (wk op s))=true/\step P dr.dr op dst s λs'=>Ba P w (dr.nx (Lk w op dst r) (tkR w op s (pk op s)) (tkW w op s (wk op s))) r K s')\/
   (∃p q d ef,EF P dr.B op dst s p q d ef/\dr.ok r.length (tkR w op s p) (tkW w op s q)=true/\MX op dst r=ZL dst.toList r/\Ba P w (dr.nx (ZL dst.toList r) (tkR w op s p) (tkW w op s q)) r K (s.g8 dst d ef)))
  (Ba P w dr r K (s.apply dst .undef none))
section
variable {P:Program} {s:St} {k:St->Prop}
theorem Qlf {op:BinOp} {C:IntKind} {x y:Int} (h:QcP op C x y kk):∃d,Qq6 op C x y d/\kk d:=by
 cases op<;>simp[QcP]at h<;>simp[Qq6]
 all_goals grind
theorem QoW {op:BinOp} {bt:Bool} {p q:D} (h:QdX op bt p q kk):∃d,QoU op bt p q d/\kk d:=by
 cases p<;>cases q<;>simp[QdX]at h<;>simp[QoU]
 grind [Qlf]
 obtain⟨h1,h2⟩:=h;cases op<;>simp[Qle]at h2
 grind
 grind
 ·cases op<;>simp[QhF]at h<;>simp[Qq7]
  all_goals grind
 grind
theorem Fq {x:Option n5} {m:Int} (h:s.va x n=some m) (h0:0<=m):s.bd x n m.toNat:=by
 cases x with
 |none=>grind [St.va,St.bd]
 |some y=>
  simp[St.va]at h;split at h;rename_i k' C he;cases h;exact⟨k',m,he,h0,rfl⟩
  grind
theorem Rg {s:St} {C:List D}:∀{xs:List n5} {ds:List D},QD s xs=some ds->QD s (xs++C.map .c)=some (ds++C)
 |[],ds,h=>by grind [QD,KV]
 |x::xs,ds,h=>by
  simp[QD]at h;split at h;rename_i d ds' e1 e2;cases h
  simp[QD,e1,Rg e2]
  grind
theorem Df {dr:Bool} {gd:Option (Nat × Bool)} (h:step P dr op dst s k):
  (∃d bx,Xz P ⟨dst,op,gd⟩ s d bx/\k (s.apply dst d bx))\/((∃kk b,stD op s kk b/\k (s.g8 dst .undef [(kk,b)]))\/(dr=false/\∃s' d,Bg op s s' d/\k (s'.apply dst d none))):=by
 cases op<;>simp only[step]at h
 case we x=>obtain⟨d,h1,h2⟩:=h;exact .inl ⟨d,none,⟨h1,rfl⟩,h2⟩
 case pick c x y=>obtain⟨cd,h1,t,rfl,d,h2,C⟩:=h;exact .inl ⟨d,none,⟨t,h1,h2,rfl⟩,C⟩
 case alloc et cells=>obtain⟨t,h1,h2,C⟩:=h;exact .inl ⟨_,_,⟨t,h1,h2,rfl,rfl⟩,C⟩
 case box et x=>obtain⟨t,h1,v,h2,cells,C,G,M⟩:=h;exact .inl ⟨_,_,⟨t,v,cells,h1,h2,C,G,rfl,rfl⟩,M⟩
 case build zero parts=>obtain⟨qs,h1,ds,h2,C⟩:=h;exact .inl ⟨_,_,⟨qs,ds,h1,h2,rfl,rfl⟩,C⟩
 case buildSlice l0 et parts=>
  rcases h with⟨t,h1,rows,h2,C,G⟩ |⟨rows,h2,C,G⟩;exact .inl ⟨_,_,.inl ⟨t,rows,h1,h2,C,rfl,rfl⟩,G⟩;exact .inl ⟨_,_,.inr ⟨rows,h2,C,rfl,rfl⟩,G⟩
 case load agg sz x=>
  obtain⟨p,h1,cells,h2,C⟩:=h;cases agg with
  |true=>exact .inl ⟨_,none,⟨p,cells,h1,HK.2 h2,by grind,rfl⟩,C.2⟩
  |false=>
   obtain⟨d,G,M⟩:=C;exact .inl ⟨d,none,⟨p,cells,h1,HK.2 h2,by grind,rfl⟩,M⟩
 case store sz x v=>
  obtain⟨p,h1,h2⟩:=h;cases p<;>simp only[QtK]at h2;obtain⟨b,C,row,G,q,M,cells,O,T,U,V⟩:=h2;refine .inr (.inl ⟨_,_,⟨_,_,b,row,q,cells,h1,C,G,M,O,T,U,rfl⟩, ?_⟩);cases dst<;>exact V
 case nilCheck x=>obtain⟨p,h1,h2,C⟩:=h;exact .inl ⟨p,none,⟨p,h1,h2,rfl,rfl⟩,C⟩
 case bin op bt x y=>
  obtain⟨p,h1,q,h2,C⟩:=h;obtain⟨d,G,M⟩:=QoW C;exact .inl ⟨d,none,⟨p,q,h1,h2,G,rfl⟩,M⟩
 case eqs neg ks x y=>
  obtain⟨p,h1,q,h2,xs,C,ys,G,b,M,O⟩:=h;cases p<;>simp only[Qds,QzQ,reduceCtorEq]at C;cases q<;>simp only[Qds,QzQ,reduceCtorEq]at G;subst C;subst G;exact .inl ⟨_,none,⟨_,_,b,h1,h2,M,rfl,rfl⟩,O⟩
 case un op x=>
  obtain⟨p,h1,h2⟩:=h
  cases op<;>cases p<;>simp only[unK]at h2<;>first
   |exact .inl ⟨_,none,⟨_,h1,⟨rfl,rfl⟩,rfl⟩,h2⟩
   |exact .inl ⟨_,none,⟨_,h1,⟨rfl,h2.1,rfl⟩,rfl⟩,h2.2⟩
 case conv kk x=>
  obtain⟨p,h1,d,h2,C⟩:=h;cases p<;>simp only[Qly,QzQ,reduceCtorEq]at h2;subst h2;exact .inl ⟨_,none,⟨_,_,h1,rfl,rfl⟩,C⟩
 case k9 sb x=>
  obtain⟨p,h1,h2⟩:=h;cases sb
  have hsrc:∃ys pr l,s.src 1 p ys pr/\Ks ys=some l/\k (s.apply dst (.str l) none):=by
   cases p<;>simp only[Dd]at h2
   obtain⟨C,l,G,M⟩:=h2;exact⟨_,true,l,⟨rfl,C,rfl⟩,G,M⟩;obtain⟨C,l,G,M⟩:=h2;exact⟨_,true,l,⟨rfl,C,rfl⟩,G,M⟩;obtain⟨b,G,M,O,l,T,U⟩:=h2;exact⟨_,_,l,⟨b,G,M,O,rfl,rfl⟩,T,U⟩
  obtain⟨ys,pr,l,C,G,M⟩:=hsrc;exact .inl ⟨_,none,⟨p,h1,rfl,by grind⟩,M⟩;obtain⟨l,C,G⟩:=h2;cases p<;>simp only[Qdk,QzQ,reduceCtorEq]at C;subst C;exact .inl ⟨_,none,⟨_,h1,rfl,by simp⟩,G⟩
 case nc x=>
  obtain⟨p,h1,h2⟩:=h;cases p<;>simp only[Qon]at h2;exact .inl ⟨_,none,⟨_,h1,rfl,rfl⟩,h2⟩
 case xd l0 et bytes zero x y=>
  obtain⟨t,h1,p,h2,C⟩:=h;cases p<;>simp only[Qon]at C;obtain⟨rfl,q,G,n,M,O,T,U,V,Y⟩:=C;cases q<;>simp only[Qe3,QzQ,reduceCtorEq]at M;subst M;exact .inl ⟨_,_,⟨t,_,_,h1,h2,G,O,T,U,V,rfl,rfl⟩,Y⟩
 case slice l0 x lo hi mx=>
  rcases h with h |⟨rfl,hlo,p,h1,h2⟩ |⟨rfl,l,hlo,p,h1,h2⟩ |⟨hdr,h0,l,hlo,p,h1,h2⟩
  rotate_left
  rotate_left
  rotate_left
  cases p<;>simp only[QlE]at h2
  obtain⟨b,hb,q1,q2,q3,q4,q5,q6,q7,q8,q9⟩:=h2;exact .inr (.inr ⟨hdr,_,_,⟨_,_,l.toNat,b,h0,h1,q1,hb,q2,q3,q4,q5,Fq hlo q6,by have:=Fq q8 Wa;grind,Wa,rfl,rfl⟩,q9⟩)
  rotate_left
  rotate_left
  cases p<;>simp only[Qn3]at h2
  obtain⟨C,G,M,O⟩:=h2;exact .inl ⟨_,none,.inr (.inr ⟨rfl,rfl,_,_,_,h1,Fq hlo C,by have:=Fq M Wa;grind,Wa,rfl⟩),O⟩
  rotate_left
  cases p<;>simp only[QgY]at h2
  exact .inl ⟨_,none,.inr (.inl ⟨rfl,rfl,Fq hlo (Int.le_refl 0),.inl ⟨_,h1,by have:=Fq h2.1 Wa;grind,rfl⟩⟩),h2.2⟩
  obtain⟨m,C,G,M,O⟩:=h2;exact .inl ⟨_,none,.inr (.inl ⟨rfl,rfl,Fq hlo (Int.le_refl 0),.inr ⟨_,_,_,h1,Fq C G,Wa,rfl⟩⟩),O⟩;obtain⟨p,h1,rows,h2,l,C,hh,G,M,O,T,U,V⟩:=h;cases mx with
  |none=>
   simp only[Option.map_none]at V;exact .inl ⟨_,none,.inl ⟨p,rows,l.toNat,hh.toNat,h1,h2,Fq C M,Fq G Wa,Wa,Wa,U,rfl,rfl⟩,V⟩
  |some m=>
   simp only[QAy]at V;obtain⟨Y,h11,h12⟩:=V;exact .inl ⟨_,none,.inl ⟨p,rows,l.toNat,hh.toNat,h1,h2,Fq C M,Fq G Wa,Wa,Wa,U,⟨Fq Y Wa,h11,rfl⟩,rfl⟩,h12⟩
 case a8 x lo hi=>
  obtain⟨p,h1,c,h2,l,C,hh,G,M,O,T,U⟩:=h;cases p<;>simp only[Qdk,QzQ,reduceCtorEq]at h2;subst h2;exact .inl ⟨_,none,⟨_,l.toNat,hh.toNat,h1,Fq C M,Fq G Wa,Wa,Wa,rfl,rfl⟩,U⟩
 case fieldAddr off x=>
  obtain⟨p,h1,h2⟩:=h;cases p<;>simp only[MF]at h2;exact .inl ⟨_,none,⟨_,h1,⟨h2.1,rfl⟩,rfl⟩,h2.2⟩;exact .inl ⟨_,none,⟨_,h1,⟨h2.1,rfl⟩,rfl⟩,h2.2⟩
 case field agg off sz x=>
  obtain⟨p,h1,cells,h2,C⟩:=h;cases p<;>simp only[Qds,QzQ,reduceCtorEq]at h2;subst h2;cases agg with
  |true=>exact .inl ⟨_,none,⟨_,h1,by grind,rfl⟩,C.2⟩
  |false=>
   obtain⟨d,G,M⟩:=C;exact .inl ⟨d,none,⟨_,h1,by grind,rfl⟩,M⟩
 case indexAddr l0 x i=>
  obtain⟨n,h1,p,h2,C⟩:=h;cases n<;>try trivial
  cases p<;>simp only[Qbs]at C
  obtain⟨row,G,M,O,T⟩:=C;exact .inl ⟨_,none,⟨_,_,_,h1,h2,G,⟨row,M,O,rfl⟩,rfl⟩,T⟩;obtain⟨row,G,M,O,T⟩:=C;exact .inl ⟨_,none,⟨_,_,_,h1,h2,G,⟨row,M,O,rfl⟩,rfl⟩,T⟩;obtain⟨b,G,M,O,T,U,V⟩:=C;exact .inl ⟨_,none,⟨_,_,_,h1,h2,O,⟨b,G,M,T,U,rfl⟩,rfl⟩,V⟩
 case k8 x i=>
  obtain⟨n,h1,p,h2,C⟩:=h;cases n<;>try trivial
  cases p<;>simp only[Nl]at C
  obtain⟨c,G,M,O⟩:=C;exact .inl ⟨_,none,⟨_,_,_,c,h1,h2,G,M,rfl,rfl⟩,O⟩
 case extract i x=>
  obtain⟨p,h1,ds,h2,d,C,G⟩:=h;exact .inl ⟨d,none,⟨p,ds,h1,h2,C,rfl⟩,G⟩
 case len x=>obtain⟨p,h1,n,h2,C⟩:=h;exact .inl ⟨_,none,⟨p,n,h1,h2,rfl,rfl⟩,C⟩
 case o9 x=>
  obtain⟨p,h1,l,h2,C⟩:=h;cases p<;>simp only[Qdk,QzQ,reduceCtorEq]at h2;subst h2;exact .inl ⟨_,none,⟨_,h1,rfl,rfl⟩,C⟩
 case min x y=>
  obtain⟨p,h1,q,h2,C⟩:=h;cases p<;>try trivial
  cases q<;>simp only[Qtj]at C
  exact .inl ⟨_,none,⟨_,_,_,_,h1,h2,rfl,rfl⟩,C⟩
 case max x y=>
  obtain⟨p,h1,q,h2,C⟩:=h;cases p<;>try trivial
  cases q<;>simp only[Qti]at C
  exact .inl ⟨_,none,⟨_,_,_,_,h1,h2,rfl,rfl⟩,C⟩
 case append l0 et bytes x y=>
  obtain⟨p,h1,q,h2,C⟩:=h
  have hsrc:∃ys pr,s.src l0 q ys pr/\Qjt dr l0 et bytes dst s p ys pr k:=by
   cases q<;>simp only[Dd]at C
   exact⟨_,true,⟨rfl,C.1,rfl⟩,C.2⟩;exact⟨_,true,⟨rfl,C.1,rfl⟩,C.2⟩;obtain⟨b,G,M,O,T⟩:=C;exact⟨_,_,⟨b,G,M,O,rfl,rfl⟩,T⟩
  obtain⟨ys,pr,G,M⟩:=hsrc;cases p<;>simp only[Qjt]at M;obtain⟨t,O,T,U,V,Y,h11,h12⟩:=M;exact .inl ⟨_,_,⟨t,_,q,ys,pr,O,h1,h2,G,T,U,V,Y,h11,rfl,rfl⟩,h12⟩;obtain⟨hd,hk0,b,O,T,U,V,Y,h12,h13,h14⟩:=M;exact .inr <| .inr ⟨hd,_,_,⟨_,_,b,q,ys,pr,h1,hk0,O,T,U,V,Y,h2,G,h12,h13,rfl,rfl⟩,h14⟩
 case makeSlice l0 et bytes zero x y=>
  obtain⟨p,h1,q,h2,C⟩:=h;cases p<;>try trivial
  cases q<;>simp only[Qmm]at C
  obtain⟨t,G,M,rfl,O,T,U,V⟩:=C;exact .inl ⟨_,_,⟨t,_,_,_,G,h1,h2,M,O,T,U,rfl,rfl⟩,V⟩
 case range x=>
  obtain⟨t,h1,p,h2,l,C,G,M⟩:=h;cases p<;>simp only[Qdk,QzQ,reduceCtorEq]at C;subst C;exact .inl ⟨_,_,⟨t,_,h1,h2,G,rfl,rfl⟩,M⟩
 case next x=>
  obtain⟨hd,p,h1,h2⟩:=h;unfold Ql1 at h2;split at h2;obtain⟨l,q,C,G⟩:=h2;rcases G with⟨G,M⟩ |⟨G,M⟩
  exact .inr <| .inr ⟨hd,_,_,⟨_,l,q,h1,C,.inl ⟨G,rfl,rfl⟩⟩,M⟩
  exact .inr <| .inr ⟨hd,_,_,⟨_,l,q,h1,C,.inr ⟨G,rfl,rfl⟩⟩,M⟩
  grind
 case b8 len l0 x i=>
  obtain⟨nd,h1,p,h2,C⟩:=h;cases nd<;>try trivial
  obtain⟨G,M,O⟩:=C;cases p<;>simp only[MF]at O;exact .inl ⟨_,none,⟨_,_,_,h1,h2,G,M,⟨O.1,rfl⟩,rfl⟩,O.2⟩;exact .inl ⟨_,none,⟨_,_,_,h1,h2,G,M,⟨O.1,rfl⟩,rfl⟩,O.2⟩
 case j8 agg len l0 x i=>
  obtain⟨nd,h1,n,h2,p,C,cells,G,M,O,T⟩:=h;cases nd<;>simp only[Qe3,QzQ,reduceCtorEq]at h2;subst h2;cases p<;>simp only[Qds,QzQ,reduceCtorEq]at G;subst G;cases agg with
  |true=>exact .inl ⟨_,none,⟨_,_,_,h1,C,M,O,by grind,rfl⟩,T.2⟩
  |false=>
   obtain⟨d,U,V⟩:=T;exact .inl ⟨d,none,⟨_,_,_,h1,C,M,O,by grind,rfl⟩,V⟩
 case call f args=>
  obtain⟨ds,h1,d,h2,C,G⟩:=h;exact .inl ⟨d,none,⟨rfl,ds,h1,h2,C⟩,G⟩
 case yd f xs=>
  obtain⟨ds,h1,h2,C |⟨kk,ps,q1,q2,q3,C⟩⟩:=h;exact .inl ⟨_,none,⟨ds,h1,h2,.inl rfl,rfl⟩,C⟩;exact .inl ⟨_,none,⟨ds,h1,h2,.inr ⟨kk,ps,q1,q2,q3,rfl⟩,rfl⟩,C⟩
 case oe f xs=>
  obtain⟨ds,h1,h2,C⟩:=h;exact .inl ⟨_,none,⟨ds,h1,h2,rfl,rfl⟩,C⟩
 case ga x az=>
  obtain⟨p,h1,h2⟩:=h;rcases h2 with h2 |⟨rfl,h2⟩
  cases p<;>simp only[QsV]at h2
  obtain⟨C,ds,G,d,M,O,T⟩:=h2;exact .inl ⟨d,none,⟨rfl,.inl ⟨_,_,h1,C,_,Rg G,M,O⟩⟩,T⟩;cases p<;>simp only[QsH]at h2;obtain⟨C,d,M,O,T⟩:=h2;exact .inl ⟨d,none,⟨rfl,.inr ⟨rfl,_,_,h1,C,_,KV _,M,O⟩⟩,T⟩
theorem Qgl {A B:Prop} (h:QB (lk s.fr t) λd=>Rv d b A B):(gw s (some (t,b))=some true/\A)\/(gw s (some (t,b))=some false/\B):=by
 obtain⟨d,h1,h2⟩:=h;simp[gw];cases d<;>simp[Rv]at h2
 grind
 rename_i c;simp[Qrf]at h2;cases c<;>cases b
 all_goals grind
theorem Zq:∀{l:List z1} {s:St},run P .fixed l k s->HL P l k s
 |[],s,h=>h
 |⟨dst,op,none⟩::r,s,h=>by
  rcases h with h |⟨p,q,d,ef,h1,_,h2⟩ |⟨f,args,HF,Hn,Hu,d,_,h1,h2,C⟩ |⟨s',d,bx,_,h1,h2,C⟩;rcases Df h.2 with⟨d,bx,h1,h2⟩ |⟨kk,b,h1,h2⟩ |⟨_,s',d,h1,h2⟩;exact .inl ⟨d,bx,h1,Zq h2⟩;refine .inr (.inl ⟨_,_,De h1,Zq ?_⟩);cases dst<;>exact h2;exact .inr (.inl ⟨s',d,h1,Zq h2⟩);exact .inr (.inr (.inl ⟨p,q,d,ef,h1,Zq h2⟩));exact .inr (.inr (.inr (.inl ⟨f,args,HF,Hn,Hu,d,h1,h2,Zq C⟩)));exact .inr (.inr (.inr (.inr ⟨s',d,bx,h1,h2,Zq C⟩)))
 |⟨dst,op,some (t,b)⟩::r,s,h=>by
  simp only[HL,Qg8];rcases Qgl h with⟨G,h⟩ |⟨G,h⟩
  rw[G];rcases h with h |⟨p,q,d,ef,h1,_,h2⟩ |⟨f,args,HF,Hn,Hu,d,_,h1,h2,C⟩ |⟨s',d,bx,_,h1,h2,C⟩
  rcases Df h.2 with⟨d,bx,h1,h2⟩ |⟨kk,b,h1,h2⟩ |⟨_,s',d,h1,h2⟩;exact .inl ⟨d,bx,h1,Zq h2⟩;refine .inr (.inl ⟨_,_,De h1,Zq ?_⟩);cases dst<;>exact h2;exact .inr (.inl ⟨s',d,h1,Zq h2⟩);exact .inr (.inr (.inl ⟨p,q,d,ef,h1,Zq h2⟩));exact .inr (.inr (.inr (.inl ⟨f,args,HF,Hn,Hu,d,h1,h2,Zq C⟩)));exact .inr (.inr (.inr (.inr ⟨s',d,bx,h1,h2,Zq C⟩)));rw[G];exact Zq h
section
variable {nt:Nat} {ops:Array Oper} {l':List z1}
def SQ (ops:Array Oper):Prop:=∀m j om oj,m<j->ops[m]?=some om->ops[j]?=some oj->Dep ops j m\/om.apart ops oj=true
theorem RE:∀(fuel k:Nat) (listed:Array Bool),Region.lexFrom .any ops fuel k listed=true->(∀j,k<=j->j<ops.size->listed.getD j true=false)->
  ∀m j om oj,k<=m->m<k+fuel->m<j->ops[m]?=some om->ops[j]?=some oj->Dep ops j m\/om.apart ops oj=true
 |0,k,listed,_,_,m,j,om,oj,h1,h2,_,_,_=>Wa
 |fuel+1,k,listed,h,hun,m,j,om,oj,h1,h2,h3,h4,h5=>by
  simp[Region.lexFrom]at h;obtain⟨⟨hr,O⟩,C⟩:=h
  by_cases hm:m=k
  grind [Dep,Region.free_spec]
  refine RE fuel (k+1) _ C (λi M G=>?_) m j om oj Wa Wa h3 h4 h5;rw[getD_set_ne true Wa]
  grind
theorem LJ (h:Region.lexB .any ops=true):SQ ops:=λm j om oj h1 h2 C=>by
 simp[Region.lexB]at h;have hm:=(QAc.1 h2).1;exact RE ops.size 0 _ h.2 (λi _ hi=>by simp[hi]) m j om oj (QzZ _) Wa h1 h2 C
theorem Qaf {o:Oper} {o':z1} (hp:QW P nt ops o=some o') (T:t<900000) (C:t∈o'.looks):t∈o.looksAt ops:=by
 obtain⟨O,j2,Y,V⟩:=Qq hp;unfold Oper.looksAt;rcases QzY.1 C with C |C
 ·obtain⟨x,hx,hs⟩:=List.mem_filterMap.1 C
  have M:∀i,x≠.s (900000+i):=λi e=>by
   grind [n5.slot]
  rcases Mo O x hx with⟨y,hy,G⟩ |⟨i,e⟩
  case inr=>grind
  refine QAN _ (List.mem_filterMap.2 ⟨y,by grind, ?_⟩);rcases NA G with⟨U,rfl,rfl⟩ |⟨d',rfl,_⟩ |⟨i,e⟩
  case inr.inr=>grind
  trivial;trivial
 grind [Zo]
theorem Jr (C:SQ ops) (hp:Ql P nt ops ops.toList=some l') {i:Nat}:∀(r:List z1) (j:Nat) (S:List Nat),r=l'.drop j->j+r.length=l'.length->(∀t∈S,∃m om,m<j/\ops[m]?=some om/\om.dst=some t/\(m=i\/j9 ops m i))->
  ∀n∈ZL S r,j9 ops (l'.length - 1 - n) i
 |[],_,_,_,_,_,n,M=>by cases M
 |o'::r,j,S,hr,hl,hS,n,M=>by
  have T:=by
   have:=congrArg List.tail hr
   simpa using this
  have V:j+1+r.length=l'.length:=by grind
  have hoj:l'[j]?=some o':=by
   have:=congrArg (·[0]?) hr
   grind
  have hsz:l'.length=ops.size:=by
   have hlen:∀{l:List Oper} {l':List z1},Ql P nt ops l=some l'->l'.length=l.length:=by
    intro l
    induction l with
    |nil=>grind [Ql]
    |cons x xs ih=>
     grind [Ql]
   grind
  have hjs:j<ops.size:=Wa;have O:=QAS hjs
  have U:QW P nt ops ops[j]=some o':=by
   obtain⟨o2,q1,q2⟩:=QK hp j _ (by rw[QAF];exact O)
   grind
  simp only[ZL]at M;split at M;rename_i Y
  have hanc:j9 ops j i:=by
   obtain⟨t,G,hts⟩:=QAW.1 Y;obtain⟨m,om,h1,h2,h3,h4⟩:=hS t Wb
   have ht9:t<900000:=by
    obtain⟨o2,_,q2⟩:=QK hp m om Wb;exact NB q2 h3
   have hd:=(C m j om _ h1 h2 O).resolve_right λha=>(Oper.apart_spec ha).1 t h3 (Qaf U ht9 G);rcases h4 with rfl |h4
   exact .one hd;exact .more hd h4
  rcases QzP.1 M with rfl |M
  grind
  refine Jr C hp r (j+1) _ T V (λt G=>?_) n M;rcases QzY.1 G with G |G
  refine⟨j,_,QAX j,O, ?_,.inr hanc⟩;rw[<- (Qq U).2.2.1]
  grind
  obtain⟨m,om,h1,h2⟩:=hS t G;exact⟨m,om,Wa,h2⟩;refine Jr C hp r (j+1) _ T V (λt G=>?_) n M;obtain⟨m,om,h1,h2⟩:=hS t G;exact⟨m,om,Wa,h2⟩
theorem Qir (h:lsB ops=true) (h2:1<=ops.toList.countP λo=>Z0 o.op) (C:m<j) (hm:ops[m]?=some om) (M:ops[j]?=some oj) (T:Z0 oj.op=true) (U:(Qbw om.op||Z0 om.op)=true):Dep ops j m:=by
 simp only[lsB,QAT]at h;rcases h with h |h
 have:=QzN h;omega;have G:=(QAc.1 M).1;have O:=QzX.1 (QzX.1 h j (QAa.2 G)) m (QAa.2 C);simp only[M,hm,T,U,Td]at O;obtain⟨e,he,hb⟩:=Array.any_eq_true'.1 O;simp at hb;exact⟨oj,M,e,he,hb.1,hb.2⟩
theorem QiX (h:ssB ops=true) (C:m<j) (hm:ops[m]?=some om) (M:ops[j]?=some oj) (O:Z0 oj.op=true) (T:Z0 om.op=true):Dep ops j m:=by
 simp only[ssB,QAT]at h;rcases h with h |h
 have h:=QzN h;have e:=(QAn j ops.toList).symm;rw[e,List.countP_append]at h;have h1:0<(ops.toList.take j).countP λo=>Z0 o.op:=List.countP_pos_iff.2 ⟨om,QAg (i:=m) Wb,T⟩;have h2:0<(ops.toList.drop j).countP λo=>Z0 o.op:=List.countP_pos_iff.2 ⟨oj,QAg (i:=0) Wb,O⟩;omega;have G:=(QAc.1 M).1;have U:=QzX.1 (QzX.1 h j (QAa.2 G)) m (QAa.2 C);simp only[M,hm,O,T,Td]at U;obtain⟨e,he,hb⟩:=Array.any_eq_true'.1 U;simp at hb;exact⟨oj,M,e,he,hb.1,hb.2⟩
theorem ND {op:Op} (hp:Zx P op=some ao) (h:ao.ma=true):Z0 op=true:=by
 cases ao<;>simp[z5.ma]at h
 cases op<;>simp[Zx]at hp<;>first
  |rfl
  |(done)
  |(
   simp[XR,ZU,Q3,ZT,QU,YI,YH,XT,ZA,YG,XS,Q8,Ym,Hs]at hp
   (repeat' split at hp)<;>first |(cases hp) |(obtain⟨_,_,h⟩:=QzM.1 hp;cases h))
  |((repeat' split at hp)<;>first |(cases hp) |(obtain⟨_,_,h⟩:=QzM.1 hp;cases h;done))
theorem QfX {op:Op} {agg:Bool} {sz:Nat} {x:n5} (hp:Zx P op=some (.load agg sz x)):Qbw op=true:=by
 cases op<;>simp[Zx]at hp<;>first
  |rfl
  |(done)
  |(
   simp[XR,ZU,Q3,ZT,QU,YI,YH,XT,ZA,YG,XS,Q8,Ym,Hs]at hp
   (repeat' split at hp)<;>first |(cases hp) |(obtain⟨_,_,h⟩:=QzM.1 hp;cases h))
  |((repeat' split at hp)<;>first |(cases hp) |(obtain⟨_,_,h⟩:=QzM.1 hp;cases h))
theorem Hg:∀r:List z1,(Xt r).length=r.countP λo=>o.op.ma
 |[]=>rfl
 |o::r=>by
  simp[Xt,List.countP_cons];split;simp[Hg r];simp[Hg r]
theorem Mq {ops:Array Oper}:∀{l:List Oper} {l':List z1},Ql P nt ops l=some l'->(l'.countP λo=>o.op.ma)<=l.countP λo=>Z0 o.op
 |[],l',h=>by simp[Ql]at h;grind
 |o::l,l',h=>by
  simp[Ql]at h;split at h;rename_i o' C e1 e2;have h1:=Mq e2;have h2:=λh=>ND (Qq e1).1 h
  grind
  grind
theorem Hf (hp:Ql P nt ops ops.toList=some l') {i:Nat} (H:∀j oj,i<j->ops[j]?=some oj->Z0 oj.op=true->Dep ops j i):∀(r:List z1) (j:Nat),r=l'.drop j->j+r.length=l'.length->i<j->∀n∈Xt r,j9 ops (l'.length - 1 - n) i
 |[],_,_,_,_,n,C=>by cases C
 |o'::r,j,hr,hl,hij,n,C=>by
  have G:=by
   have:=congrArg List.tail hr
   simpa using this
  have O:j+1+r.length=l'.length:=by grind
  have hoj:l'[j]?=some o':=by
   have:=congrArg (·[0]?) hr
   grind
  have Y:l'.length=ops.size:=by
   have hlen:∀{l:List Oper} {l':List z1},Ql P nt ops l=some l'->l'.length=l.length:=by
    intro l
    induction l with
    |nil=>grind [Ql]
    |cons x xs ih=>
     grind [Ql]
   grind
  have V:j<ops.size:=Wa;have M:=QAS V
  have U:QW P nt ops ops[j]=some o':=by
   obtain⟨o2,q1,q2⟩:=QK hp j _ (by rw[QAF];exact M)
   grind
  simp[Xt]at C;split at C;rename_i T;rcases QzP.1 C with rfl |C
  have:l'.length - 1 - r.length=j:=Wa;rw[this];exact .one (H j _ hij M (ND (Qq U).1 T));exact Hf hp H r (j+1) G O Wa n C;exact Hf hp H r (j+1) G O Wa n C
theorem NP (C:lsB ops=true) (hp:Ql P nt ops ops.toList=some l') {oi:Oper} (hi:ops[i]?=some oi) (G:(Qbw oi.op||Z0 oi.op)=true) (h2:1<=ops.toList.countP λo=>Z0 o.op):∀(r:List z1) (j:Nat),r=l'.drop j->j+r.length=l'.length->i<j->∀n∈Xt r,j9 ops (l'.length - 1 - n) i:=
 Hf hp λj oj M T O=>Qir C h2 M hi T O G
def Rec (ops:Array Oper) (N:Nat) (R:List (Nat × List Nat)) (R':List (Nat × Nat)):Prop:=∀k i,(k,i)∈R'->∃ds,(k,ds)∈R/\∀n∈ds,j9 ops (N - 1 - n) i
theorem Jc (hr:Rec ops N R R') (h:D6 n p R=true):∀k∈p,∀i,(k,i)∈R'->j9 ops (N - 1 - n) i:=by
 intro k hk i hi;obtain⟨ds,h1,h2⟩:=hr k i hi
 grind [D6]
theorem Rec.more (hr:Rec ops N R R') {ds:List Nat} (hd:∀n∈ds,j9 ops (N - 1 - n) i):Rec ops N (p.map (·,ds)++R) (tag i p++R'):=λk j C=>by
 rcases QzY.1 C with C |C;obtain⟨h1,rfl⟩:=FF.1 C
 exact⟨ds,QAN _ (Qz1.2 ⟨k,h1,rfl⟩),hd⟩;obtain⟨ds',h1,h2⟩:=hr k j C
 grind
theorem Qin (h:lcB ops=true) (M:m<j) (hm:ops[m]?=some om) (T:ops[j]?=some oj) (V:Jw oj.op=true) (U:Jw om.op=true) (hf:∀k o,m<=k->ops[k]?=some o->o.guard=none) (hn:∀k o,m<k->k<j->ops[k]?=some o->Jw o.op=false):Dep ops j m:=by
 have O:=(QAc.1 T).1;have Y:=QzX.1 (QzX.1 h j (QAa.2 O)) m (QAa.2 M)
 have C:Nd ops m=true:=QzX.2 λo ho=>by
  obtain⟨i,hi⟩:=List.getElem?_of_mem ho
  grind
 have G:CL ops m j=true:=QzX.2 λo ho=>by
  obtain⟨i,hi⟩:=List.getElem?_of_mem ho
  grind
 simp only[T,hm,V,U,C,G,Td]at Y;obtain⟨e,he,hb⟩:=Array.any_eq_true'.1 Y;simp at hb;exact⟨oj,T,e,he,hb.1,hb.2⟩
theorem CW {op:Op} (hp:Zx P op=some ao):Jw op=ao.rf:=by
 cases op<;>simp only[Zx]at hp
 case call c=>
  unfold YH at hp;unfold Jw;split at hp
  ·rename_i h1 _;simp[h1];unfold XT at hp;(repeat' split at hp)<;>first |(cases hp;done) |(cases hp;rfl)
  ·rename_i h1 _;simp[h1]
   (repeat' split at hp)<;>first |(cases hp;done) |(cases hp;rfl)
  ·rename_i h1 _;simp[h1]
   (repeat' split at hp)<;>first |(cases hp;done) |(cases hp;rfl)
  ·rename_i h1 _;simp[h1];unfold ZA YG at hp;(repeat' split at hp)<;>first |(cases hp;done) |(cases hp;rfl)
  ·rename_i h1 _;simp[h1];unfold XS at hp;(repeat' split at hp)<;>first |(cases hp;done) |(cases hp;rfl)
  rename_i h1;simp[h1];obtain⟨_,_,h⟩:=QzM.1 hp;subst h;rfl;rename_i h1;simp[h1];split at hp;obtain⟨_,_,h⟩:=QzM.1 hp;subst h;rfl
  grind
  grind
 all_goals first
  |(cases hp;rfl)
  |(obtain⟨_,_,h⟩:=QzM.1 hp;subst h;rfl)
  |(
   simp[XR,ZU,Q3,ZT,QU,YI,Q8,Ym,Hs]at hp
   (repeat' split at hp)<;>first |(cases hp;done) |(cases hp;rfl) |(obtain⟨_,_,h⟩:=QzM.1 hp;subst h;rfl))
  |((repeat' split at hp)<;>first |(cases hp;done) |(cases hp;rfl) |(obtain⟨_,_,h⟩:=QzM.1 hp;subst h;rfl))
theorem H7 (M:lcB ops=true) (hp:Ql P nt ops ops.toList=some l') {i:Nat} (hf:∀k o,i<=k->ops[k]?=some o->o.guard=none):∀(r:List z1) (j m:Nat) (om:Oper),r=l'.drop j->j+r.length=l'.length->i<=m->m<j->ops[m]?=some om->Jw om.op=true->(m=i\/j9 ops m i)->
  (∀k o,m<k->k<j->ops[k]?=some o->Jw o.op=false)->∀n∈D0 r,j9 ops (l'.length - 1 - n) i
 |[],_,_,_,_,_,_,_,_,_,_,_,n,C=>by cases C
 |o'::r,j,m,om,hr,hl,him,hmj,hm,hcm,T,hno,n,C=>by
  have O:=by
   have:=congrArg List.tail hr
   simpa using this
  have U:j+1+r.length=l'.length:=by grind
  have hoj:l'[j]?=some o':=by
   have:=congrArg (·[0]?) hr
   grind
  have hsz:l'.length=ops.size:=by
   have hlen:∀{l:List Oper} {l':List z1},Ql P nt ops l=some l'->l'.length=l.length:=by
    intro l
    induction l with
    |nil=>grind [Ql]
    |cons x xs ih=>
     grind [Ql]
   grind
  have hjs:j<ops.size:=Wa;have G:=QAS hjs
  have Y:QW P nt ops ops[j]=some o':=by
   obtain⟨o2,q1,q2⟩:=QK hp j _ (by rw[QAF];exact G)
   grind
  have hcl:=CW (Qq Y).1;simp[D0]at C;split at C;have hd:=Qin M hmj hm G Wb hcm (λk o hk ho=>hf k o Wa ho) hno
  have V:j9 ops j i:=by
   rcases T with rfl |h;exact .one hd;exact .more hd h
  rcases QzP.1 C with rfl |C
  grind
  exact H7 M hp hf r (j+1) j _ O U Wa Wa G Wb (.inr V) (λk o h1 h2 _=>Wa) n C;refine H7 M hp hf r (j+1) m om O U him Wa hm hcm T (λk o h1 h2 ho=>?_) n C
  grind
theorem GQ {H0:QzK} (T:SQ ops) (U:lsB ops=true) (V:lcB ops=true) (hp:Ql P nt ops ops.toList=some l'):∀(l:List z1) (j:Nat) (R W:List (Nat × List Nat)) (R' W':List (Nat × Nat)) (s:St),l=l'.drop j->j+l.length=l'.length->Rec ops l'.length R R'->Rec ops l'.length W W'->
  run P (.drawn H0 R W) l k s->QaN P (λk=>(lk H0 k).isSome=true) (j9 ops) l j R' W' k s
 |[],_,_,_,_,_,s,_,_,_,_,h=>h
 |o::r,j,R,W,R',W',s,hl,hlen,hR,hW,h=>by
  have M:=by
   have:=congrArg List.tail hl
   simpa using this
  have C:j+1+r.length=l'.length:=by grind
  have hj:l'.length - 1 - r.length=j:=Wa
  have hoj:l'[j]?=some o:=by
   have:=congrArg (·[0]?) hl
   grind
  have hpo:∃oo,ops[j]?=some oo/\oo.dst=o.dst/\Zx P oo.op=some o.op:=by
   have hsz:l'.length=ops.size:=by
    have hlen:∀{l:List Oper} {l':List z1},Ql P nt ops l=some l'->l'.length=l.length:=by
     intro l
     induction l with
     |nil=>grind [Ql]
     |cons x xs ih=>
      grind [Ql]
    grind
   have hjs:j<ops.size:=Wa;refine⟨ops[j],QAS hjs, ?_⟩;obtain⟨o2,q1,q2⟩:=QK hp j _ (by rw[QAF];exact QAS hjs)
   rw[hoj]at q1;cases q1;exact⟨(Qq q2).2.2.1.symm,(Qq q2).1⟩
  obtain⟨oo,Y,hdst,O⟩:=hpo
  have hds:∀n∈ZL o.dst.toList r,j9 ops (l'.length - 1 - n) j:=Jr T hp r (j+1) _ M C λt ht=>by
   refine⟨j,oo,QAX j,Y, ?_,.inl rfl⟩
   grind
  have hdO:∀n∈Md o.op o.dst r,j9 ops (l'.length - 1 - n) j:=λn G=>by
   unfold Md at G;split at G;rename_i agg sz x hop;rcases QzY.1 G with G |G
   grind
   rw[hop]at O;have hm:n∈Xt r/\1<=(Xt r).length:=⟨G,List.length_pos_of_mem G⟩;refine NP U hp Y (by rw[QfX O,Bool.true_or]) ?_ r (j+1) M C (QAX j) n hm.1;have h1:=Mq hp
   grind [List.drop_sublist,Hg]
   rename_i sz x v hop;rcases QzY.1 G with G |G
   grind
   rw[hop]at O;refine NP U hp Y (by rw[ND O rfl,QAY]) ?_ r (j+1) M C (QAX j) n G;have h1:=Mq hp;have h3:((o::r).countP λo=>o.op.ma)<=l'.countP λo=>o.op.ma:=by rw[hl];grind [List.drop_sublist]
   have h5:0<(Xt r).length:=List.length_pos_of_mem G;rw[Hg]at h5
   grind
   grind
  have ok:∀{p q:List Nat},(Dr.drawn H0 R W).ok r.length p q=true->mf (j9 ops j) p q R' W':=λ{p q} h=>by
   simp only[Dr.ok,QzR]at h;refine⟨λk hk i hi=>?_,λk hk=>⟨λi hi=>?_,λi hi=>?_⟩⟩
   grind [Jc]
   grind [Jc]
   grind [Jc]
  have go:∀(DE:List Nat) (hDE:∀n∈DE,j9 ops (l'.length - 1 - n) j) (hg:gw s o.guard=some true),((Dr.drawn H0 R W).ok r.length (HC o.op (pk o.op s)) (Kl o.op (wk o.op s))=true/\step P true o.op o.dst s λs'=>run P ((Dr.drawn H0 R W).nx (Md o.op o.dst r) (HC o.op (pk o.op s)) (Kl o.op (wk o.op s))) r k s')\/
    (∃p q d ef,EF P (Dr.drawn H0 R W).B o.op o.dst s p q d ef/\(Dr.drawn H0 R W).ok r.length (HC o.op p) (Kl o.op q)=true/\run P ((Dr.drawn H0 R W).nx DE (HC o.op p) (Kl o.op q)) r k (s.g8 o.dst d ef))\/
    (∃f args HF Hn Hu d,(Dr.drawn H0 R W)=.fixed/\Jg s o.op f args/\FA P f args s HF Hn Hu d/\run P (Dr.drawn H0 R W) r k (St.apply {s with H:=Hn++(Hu++s.H)} o.dst d none))\/
    (∃s' d bx,(Dr.drawn H0 R W)=.fixed/\s.le s'/\Xz P ⟨o.dst,o.op,none⟩ s' d bx/\run P (Dr.drawn H0 R W) r k (s'.apply o.dst d bx))->QaN P (λk=>(lk H0 k).isSome=true) (j9 ops) (o::r) j R' W' k s:=λDE hDE hg h=>by
   rcases h with⟨h1,h2⟩ |⟨p,q,d,ef,h1,h2,h3⟩ |⟨_,_,_,_,_,_,h,_⟩ |⟨_,_,_,h,_⟩;rcases Df h2 with⟨d,bx,q1,q2⟩ |⟨kk,b,q1,q2⟩ |⟨h,_⟩;refine⟨_,_,d,_,.inl ⟨hg,.inl ⟨.inl ⟨bx,q1,rfl⟩,rfl,rfl⟩⟩,ok h1, ?_⟩;rw[<- HJ];exact GQ T U V hp r (j+1) _ _ _ _ _ M C (hR.more hdO) (hW.more hdO) q2;refine⟨_,_,_,_,.inl ⟨hg,.inl ⟨.inr ⟨kk,b,q1,rfl,rfl⟩,rfl,rfl⟩⟩,ok h1, ?_⟩;exact GQ T U V hp r (j+1) _ _ _ _ _ M C (hR.more hdO) (hW.more hdO) q2
   grind
   exact⟨p,q,d,ef,.inl ⟨hg,.inr h1⟩,ok h2,GQ T U V hp r (j+1) _ _ _ _ _ M C (hR.more hDE) (hW.more hDE) h3⟩
   grind
   grind
  obtain⟨dst,op,gd⟩:=o;cases gd with
  |none=>
   simp only[run]at h;refine go _ (λn G=>?_) rfl h
   have hdF:n∈ZL dst.toList r\/((∃f az,op=.call f az)/\n∈D1 r):=by
    revert G
    cases op<;>simp only[MX]<;>intro G<;>first
     |grind
     |(grind)
   rcases hdF with G |⟨⟨f,az,rfl⟩,hn2⟩
   grind
   clear G;have G:=hn2;unfold D1 at G;split at G;rename_i hall;have hcj:Jw oo.op=true:=CW O
   have hszo:l'.length=ops.size:=by
    have hlen:∀{l:List Oper} {l':List z1},Ql P nt ops l=some l'->l'.length=l.length:=by
     intro l
     induction l with
     |nil=>grind [Ql]
     |cons x xs ih=>
      grind [Ql]
    grind
   refine H7 V hp (λk o hk ho=>?_) r (j+1) j oo M C (QAe _) (QAX _) Y hcj (.inl rfl) (λk o h1 h2 _=>Wa) n G;have hks:k<ops.size:=(QAc.1 ho).1;obtain⟨o2,q1,q2⟩:=QK hp k _ (by rw[QAF];exact ho)
   have hg2:o2.guard=none:=by
    by_cases hkj:k=j
    grind
    have hmem:o2∈r:=by
     rw[M];refine QAg (i:=k - (j+1)) ?_
     grind
    (repeat clear hK K);simp_all
   have h3:=(Qq q2).2.1;cases hgo:o.guard with
   |none=>rfl
   |some x=>
    grind [Zo]
   grind
  |some tb=>
   obtain⟨t,b⟩:=tb;simp only[run]at h;rcases Qgl h with⟨hg,h⟩ |⟨hg,h⟩
   exact go _ hds hg h;refine⟨[],[],_,_,.inr ⟨hg,rfl,rfl,rfl,rfl⟩,⟨by grind [Do],by grind [Dq]⟩, ?_⟩;rw[Do,Dq];rw[<- (show s.apply dst .undef none=s.g8 dst .undef [] by rw[HJ];cases dst<;>rfl)]
   exact GQ T U V hp r (j+1) _ _ _ _ _ M C hR hW h
theorem NK {H0:QzK} (G:SQ ops) (O:ssB ops=true) (hp:Ql P nt ops ops.toList=some l'):∀(l:List z1) (j:Nat) (R W:List (Nat × List Nat)) (R' W':List (Nat × Nat)) (s:St),l=l'.drop j->j+l.length=l'.length->Rec ops l'.length R R'->Rec ops l'.length W W'->
  Ba P true (.drawn H0 R W) l k s->Hm true P (λk=>(lk H0 k).isSome=true) (j9 ops) l j R' W' k s
 |[],_,_,_,_,_,s,_,_,_,_,h=>h
 |o::r,j,R,W,R',W',s,hl,hlen,hR,hW,h=>by
  have M:=by
   have:=congrArg List.tail hl
   simpa using this
  have C:j+1+r.length=l'.length:=by grind
  have hj:l'.length - 1 - r.length=j:=Wa
  have hoj:l'[j]?=some o:=by
   have:=congrArg (·[0]?) hl
   grind
  have hpo:∃oo,ops[j]?=some oo/\oo.dst=o.dst/\Zx P oo.op=some o.op:=by
   have hsz:l'.length=ops.size:=by
    have hlen:∀{l:List Oper} {l':List z1},Ql P nt ops l=some l'->l'.length=l.length:=by
     intro l
     induction l with
     |nil=>grind [Ql]
     |cons x xs ih=>
      grind [Ql]
    grind
   have hjs:j<ops.size:=Wa;refine⟨ops[j],QAS hjs, ?_⟩;obtain⟨o2,q1,Y⟩:=QK hp j _ (by rw[QAF];exact QAS hjs)
   rw[hoj]at q1;cases q1;exact⟨(Qq Y).2.2.1.symm,(Qq Y).1⟩
  obtain⟨oo,hoo,hdst,U⟩:=hpo
  have hds:∀n∈ZL o.dst.toList r,j9 ops (l'.length - 1 - n) j:=Jr G hp r (j+1) _ M C λt ht=>by
   refine⟨j,oo,QAX j,hoo, ?_,.inl rfl⟩
   grind
  have T:∀n∈Lk true o.op o.dst r,j9 ops (l'.length - 1 - n) j:=λn hn=>by
   simp[Lk]at hn;split at hn;rename_i sz x v hop;rcases QzY.1 hn with hn |hn
   grind
   rw[hop]at U;exact Hf hp (λj2 oj2 h1 h2 h3=>QiX O h1 hoo h2 h3 (ND U rfl)) r (j+1) M C (QAX j) n hn
   grind
  have ok:∀{p q:List Nat},(Dr.drawn H0 R W).ok r.length p q=true->mf (j9 ops j) p q R' W':=λ{p q} h=>by
   simp[Dr.ok]at h;refine⟨λk hk i hi=>?_,λk hk=>⟨λi hi=>?_,λi hi=>?_⟩⟩
   grind [Jc]
   grind [Jc]
   grind [Jc]
  have go:∀(V:gw s o.guard=some true),((Dr.drawn H0 R W).ok r.length (tkR true o.op s (pk o.op s)) (tkW true o.op s (wk o.op s))=true/\step P true o.op o.dst s λs'=>Ba P true ((Dr.drawn H0 R W).nx (Lk true o.op o.dst r) (tkR true o.op s (pk o.op s)) (tkW true o.op s (wk o.op s))) r k s')\/
    (∃p q d ef,EF P (Dr.drawn H0 R W).B o.op o.dst s p q d ef/\(Dr.drawn H0 R W).ok r.length (tkR true o.op s p) (tkW true o.op s q)=true/\MX o.op o.dst r=ZL o.dst.toList r/\Ba P true ((Dr.drawn H0 R W).nx (ZL o.dst.toList r) (tkR true o.op s p) (tkW true o.op s q)) r k (s.g8 o.dst d ef))->Hm true P (λk=>(lk H0 k).isSome=true) (j9 ops) (o::r) j R' W' k s:=λV h=>by
   rcases h with⟨h1,h2⟩ |⟨p,q,d,ef,h1,h2,_,h3⟩;rcases Df h2 with⟨d,bx,q1,Y⟩ |⟨kk,b,q1,Y⟩ |⟨h,_⟩;refine⟨_,_,d,_,.inl ⟨V,.inl ⟨.inl ⟨bx,q1,rfl⟩,rfl,rfl⟩⟩,ok h1, ?_⟩;rw[<- HJ];exact NK G O hp r (j+1) _ _ _ _ _ M C (hR.more T) (hW.more T) Y;refine⟨_,_,_,_,.inl ⟨V,.inl ⟨.inr ⟨kk,b,q1,rfl,rfl⟩,rfl,rfl⟩⟩,ok h1, ?_⟩;exact NK G O hp r (j+1) _ _ _ _ _ M C (hR.more T) (hW.more T) Y
   grind
   exact⟨p,q,d,ef,.inl ⟨V,.inr h1⟩,ok h2,NK G O hp r (j+1) _ _ _ _ _ M C (hR.more hds) (hW.more hds) h3⟩
  obtain⟨dst,op,gd⟩:=o;cases gd with
  |none=>
   simp[Ba]at h;exact go rfl h
  |some tb=>
   obtain⟨t,b⟩:=tb;simp[Ba]at h;rcases Qgl h with⟨V,h⟩ |⟨V,h⟩
   exact go V h;refine⟨[],[],_,_,.inr ⟨V,rfl,rfl,rfl,rfl⟩,⟨by grind [Do],by grind [Dq]⟩, ?_⟩;rw[Do,Dq];rw[<- (show s.apply dst .undef none=s.g8 dst .undef [] by rw[HJ];cases dst<;>rfl)]
   exact NK G O hp r (j+1) _ _ _ _ _ M C hR hW h
end
end
section
variable {P:Program} {nt:Nat} {Q:AExit->St->Prop} {s:St}
theorem Qas (h:run P (.drawn s.H [] []) ops K s):AwD P nt ops K s:=λC hp G=>
 GQ (LJ (by simp_all [Rf,KA])) (by simp_all [Rf]) (by simp_all [Rf]) hp ops 0 [] [] [] [] s Wc Wc (λ_ _ h=>by cases h) (λ_ _ h=>by cases h) h
theorem QmV (h:Ba P true (.drawn s.H [] []) ops K s):AwW P nt ops K s:=λG hp C=>
 NK (LJ (KA C.1)) C.2 hp ops 0 [] [] [] [] s Wc Wc (λ_ _ h=>by cases h) (λ_ _ h=>by cases h) h
def Qde (P:Program) (w:Bool) (dr:Dr) (l:List z1) (K:St->Prop) (s:St):Prop:=
 match w with
 |true=>Ba P true dr l K s
 |false=>run P dr l K s
abbrev Qrm (P:Program) (w:Bool) (dr:Dr) (op:z5) (dst:Option Nat) (r:List z1) (s:St) (F:Dr->St->Prop):Prop:=
 (dr.ok r.length (tkR w op s (pk op s)) (tkW w op s (wk op s))=true/\step P dr.dr op dst s λs'=>F (dr.nx (Lk w op dst r) (tkR w op s (pk op s)) (tkW w op s (wk op s))) s')\/
  (∃p q d ef,EF P dr.B op dst s p q d ef/\dr.ok r.length (tkR w op s p) (tkW w op s q)=true/\MX op dst r=ZL dst.toList r/\F (dr.nx (ZL dst.toList r) (tkR w op s p) (tkW w op s q)) (s.g8 dst d ef))
theorem PE {dr:Dr} (h:Qrm P w dr op dst r s λdr s=>Qde P w dr r K s):Qde P w dr (⟨dst,op,none⟩::r) K s:=by
 cases w
 rcases h with h |⟨p,q,d,ef,h1,h2,G,C⟩;exact .inl h;exact .inr (.inl ⟨p,q,d,ef,h1,h2,by rw[G];exact C⟩)
 trivial
theorem Qgh {dr:Dr} (hx:lk s.fr t=some (.bool b)) (h:Qrm P w dr op dst r s λdr s=>Qde P w dr r K s):Qde P w dr (⟨dst,op,some (t,b)⟩::r) K s:=by
 cases w
 refine⟨_,hx,λ_=>?_,λC=>absurd C Wc⟩;rcases h with h |⟨p,q,d,ef,h1,h2,M,G⟩
 exact .inl h;exact .inr (.inl ⟨p,q,d,ef,h1,h2,G⟩);exact⟨_,hx,λ_=>h,λC=>absurd C Wc⟩
theorem Qgg {dr:Dr} {c:Bool} (hx:lk s.fr t=some (.bool c)) (G:¬c=b) (h:Qde P w dr r K (s.apply dst .undef none)):Qde P w dr (⟨dst,op,some (t,b)⟩::r) K s:=by
 cases w
 exact⟨_,hx,λC=>absurd C G,λ_=>h⟩;exact⟨_,hx,λC=>absurd C G,λ_=>h⟩
theorem Qgi {dr:Dr} (hx:lk s.fr t=some .undef) (h:Qde P w dr r K (s.apply dst .undef none)):Qde P w dr (⟨dst,op,some (t,b)⟩::r) K s:=by
 cases w
 exact⟨_,hx,h⟩;exact⟨_,hx,h⟩
theorem TM (h:∀K:St->Prop,(∀s',Q .normal s'->K s')->Ba P true (Dr.of s.H true) ops K s):TW P nt (.ba ops) Q s:=
 Qkx (QmV (h _ λ_ h=>h))
theorem MW {dr:Bool} {l:List Nat} {b:y5} (h:∀K:St->Prop,(∀fr H,TW P nt b Q ⟨Qz l fr,H⟩->K ⟨fr,H⟩)->run P (Dr.of s.H dr) ops K s):TW P nt (.seq (.region dr ops) l b) Q s:=by
 cases dr
 exact Qsw λK C=>Zq (h K C);exact QoK λK C=>Qas (h K C)
theorem Mw {dr:Bool} (h:∀K:St->Prop,(∀s',Q .normal s'->K s')->run P (Dr.of s.H dr) ops K s):TW P nt (.region dr ops) Q s:=by
 cases dr
 exact QoJ λK C=>Zq (h K C);exact QkT λK C=>Qas (h K C)
end
variable {H H' HF:QzK} {args:List n5} {pr:Bool} {bytes l0 et g:Nat} {cs ds' row' xs:List D} {p q:D} {e:AExit} {fr fr':QzL} {h n:Int} {hi lo:Option n5} {ki:IntKind} {kk:List (List D)->Bool->Prop} {ks ts:List Nat} {l:List UInt8} {rows rs ys:List (List D)} {v x y:n5} {β:Type}
theorem Z3 {e:Int} (h1: -9223372036854775808<=e) (h2:e<=9223372036854775807):IntKind.i64.wrap e=e:=by
 unfold IntKind.wrap;simp[IntKind.bits,IntKind.signed]
 grind
theorem GW {e:Int} (h1: -2147483648<=e) (h2:e<=2147483647):IntKind.i32.wrap e=e:=by
 unfold IntKind.wrap;simp[IntKind.bits,IntKind.signed]
 grind
theorem Mv {e:Int} (h1:0<=e) (h2:e<=255):IntKind.u8.wrap e=e:=by
 unfold IntKind.wrap;simp[IntKind.bits,IntKind.signed,if_false];omega
section
variable {P:Program} {dr:Dr} {r:List z1} {K:St->Prop} {s:St} {dst:Option Nat} {op:z5}
theorem Sc {p q ds:List Nat} (hp:pk op s=p) (hw:wk op s=q) (C:Md op dst r=ds) (ho:dr.ok r.length (HC op p) (Kl op q)=true) (h:step P dr.dr op dst s λs'=>run P (dr.nx ds (HC op p) (Kl op q)) r K s'):run P dr (⟨dst,op,none⟩::r) K s:=by
 subst hp hw C;exact .inl ⟨ho,h⟩
theorem Qt (hp:pk op s=[]) (hw:wk op s=[]) (h:step P dr.dr op dst s λs'=>run P dr r K s'):run P dr (⟨dst,op,none⟩::r) K s:=by
 refine Sc hp hw rfl (by rw[PH,PI];cases dr<;>rfl) ?_
 rw[PH,PI];have:dr.nx (Md op dst r) [] []=dr:=by cases dr<;>rfl
 grind
theorem Xd (h:step P false op dst s λs'=>run P .fixed r K s'):run P .fixed (⟨dst,op,none⟩::r) K s:=.inl ⟨rfl,h⟩
theorem pk1 (C:op.b9=[x]) (hx:s.ev x=some p):pk op s=p.ids:=by
 grind [pk,Qbr]
theorem QfR:∀{args:List n5} {ds:List D},QD s args=some ds->(args.flatMap λx=>Qbr (s.ev x))=ds.flatMap D.ids
 |[],ds,h=>by grind [QD]
 |x::xs,ds,h=>by
  simp[QD]at h;split at h;rename_i d ds' e1 e2;cases h
  simp[e1];exact congrArg _ (QfR e2)
  grind
end
section
variable {P:Program} {dr:Dr} {r:List z1} {K:St->Prop} {fr:QzL} {H:QzK} {t:Nat}
theorem Yr (hx:St.ev ⟨fr,H⟩ x=some d) (k:run P dr r K ⟨(t,d)::fr,H⟩):run P dr (⟨some t,.we x,none⟩::r) K ⟨fr,H⟩:=Qt rfl rfl ⟨d,hx,k⟩
theorem SS {c:n5} (C:St.ev ⟨fr,H⟩ c=some (.bool b)) (hx:St.ev ⟨fr,H⟩ (if b=true then x else y)=some d) (k:run P dr r K ⟨(t,d)::fr,H⟩):run P dr (⟨some t,.pick c x y,none⟩::r) K ⟨fr,H⟩:=Qt rfl rfl ⟨_,C,b,rfl,d,hx,k⟩
theorem Bt {cells:List D} (C:lk H t=none) (k:run P dr r K ⟨(t,.ref t 0 0)::fr,(t,Qha et cells)::H⟩):run P dr (⟨some t,.alloc et cells,none⟩::r) K ⟨fr,H⟩:=Qt rfl rfl ⟨t,rfl,C,k⟩
theorem QkF {v:D} {cells:List D} (hx:St.ev ⟨fr,H⟩ x=some v) (G:v.cells=some cells) (C:lk H t=none) (k:run P dr r K ⟨(t,.ref t 0 0)::fr,(t,Qha et cells)::H⟩):run P dr (⟨some t,.box et x,none⟩::r) K ⟨fr,H⟩:=Qt rfl rfl ⟨t,rfl,v,hx,cells,G,C,k⟩
theorem PO {zero:List D} {parts:List (Nat × Nat × n5)} {C:List (Nat × Nat × D)} (G:Y1 ⟨fr,H⟩ parts=some C) (M:Rj zero C=some ds) (k:run P dr r K ⟨(t,.agg ds)::fr,H⟩):run P dr (⟨some t,.build zero parts,none⟩::r) K ⟨fr,H⟩:=Qt rfl rfl ⟨C,G,ds,M,k⟩
theorem Qo {parts:List n5} (C:Yz ⟨fr,H⟩ l0 parts=some rows) (G:lk H t=none) (k:run P dr r K ⟨(t,.s4 t parts.length)::fr,(t,⟨rows,l0,et,rows.all λr=>r.all λd=>d.l4.isEmpty⟩)::H⟩):run P dr (⟨some t,.buildSlice l0 et parts,none⟩::r) K ⟨fr,H⟩:=Qt rfl rfl (.inl ⟨t,rfl,rows,C,G,k⟩)
theorem QF {parts:List n5} (C:Yz ⟨fr,H⟩ l0 parts=some rows) (hp:(rows.all λr=>r.all λd=>d.l4.isEmpty)=true) (k:run P dr r K ⟨(t,.x7 rows)::fr,H⟩):run P dr (⟨some t,.buildSlice l0 et parts,none⟩::r) K ⟨fr,H⟩:=Qt rfl rfl (.inr ⟨rows,C,hp,k⟩)
theorem FP {cells:List D} (hx:St.ev ⟨fr,H⟩ x=some p) (ha:St.ad ⟨fr,H⟩ p=some cells) (hd:cells.head?=some d) (k:run P .fixed r K ⟨(t,d)::fr,H⟩):run P .fixed (⟨some t,.load false sz x,none⟩::r) K ⟨fr,H⟩:=Xd ⟨p,hx,cells,ha,d,hd,k⟩
theorem QG {cells:List D} (hx:St.ev ⟨fr,H⟩ x=some p) (ha:St.ad ⟨fr,H⟩ p=some cells) (C:Nat.ble sz cells.length=true) (G:cells.take sz=cs) (k:run P .fixed r K ⟨(t,.agg cs)::fr,H⟩):run P .fixed (⟨some t,.load true sz x,none⟩::r) K ⟨fr,H⟩:=Xd ⟨p,hx,cells,ha,QzN C,G ▸ k⟩
theorem Jh {kk:Nat} {b:u4} {row cells:List D} (hx:St.ev ⟨fr,H⟩ x=some (.ref kk i off)) (hb:lk H kk=some b) (hr:b.rows[i]?=some row) (G:St.ev ⟨fr,H⟩ v=some q) (O:q.cells=some cells)
 (M:cells.length=sz) (ho:Nat.ble (off+sz) row.length=true) (C:setRow row off cells=row')
 (k:run P .fixed r K ⟨fr,(kk,{b with rows:=b.rows.set i row',pr:=b.pr&&cells.all λd=>d.l4.isEmpty})::H⟩):run P .fixed (⟨none,.store sz x v,none⟩::r) K ⟨fr,H⟩:=Xd ⟨_,hx,b,hb,row,hr,q,G,cells,O,M,QzN ho,C ▸ k⟩
section
variable {H0:QzK} {R W:List (Nat × List Nat)} {ds0:List Nat}
theorem NY {cells:List D} (hx:St.ev ⟨fr,H⟩ x=some p) (ha:St.ad ⟨fr,H⟩ p=some cells) (hd:cells.head?=some d) (ho:(Dr.drawn H0 R W).ok r.length (p.ids.map (2*·)) []=true) (C:Md (.load false sz x) (some t) r=ds0) (k:run P (.drawn H0 ((p.ids.map (2*·)).map (·,ds0)++R) W) r K ⟨(t,d)::fr,H⟩):run P (.drawn H0 R W) (⟨some t,.load false sz x,none⟩::r) K ⟨fr,H⟩:=
 Sc (pk1 rfl hx) rfl C ho ⟨p,hx,cells,ha,d,hd,k⟩
theorem Qy {cells:List D} (hx:St.ev ⟨fr,H⟩ x=some p) (ha:St.ad ⟨fr,H⟩ p=some cells) (G:Nat.ble sz cells.length=true) (M:cells.take sz=cs) (ho:(Dr.drawn H0 R W).ok r.length (p.ids.map (2*·)) []=true) (C:Md (.load true sz x) (some t) r=ds0) (k:run P (.drawn H0 ((p.ids.map (2*·)).map (·,ds0)++R) W) r K ⟨(t,.agg cs)::fr,H⟩):run P (.drawn H0 R W) (⟨some t,.load true sz x,none⟩::r) K ⟨fr,H⟩:=
 Sc (pk1 rfl hx) rfl C ho ⟨p,hx,cells,ha,QzN G,M ▸ k⟩
theorem KN {kk:Nat} {b:u4} {row cells:List D} (hx:St.ev ⟨fr,H⟩ x=some (.ref kk i off)) (hb:lk H kk=some b) (hr:b.rows[i]?=some row) (O:St.ev ⟨fr,H⟩ v=some q) (U:q.cells=some cells)
 (T:cells.length=sz) (ho:Nat.ble (off+sz) row.length=true) (C:setRow row off cells=row') (G:(Dr.drawn H0 R W).ok r.length [2*kk] [2*kk]=true) (M:Md (.store sz x v) none r=ds0)
 (k:run P (.drawn H0 ((2*kk,ds0)::R) ((2*kk,ds0)::W)) r K ⟨fr,(kk,{b with rows:=b.rows.set i row',pr:=b.pr&&cells.all λd=>d.l4.isEmpty})::H⟩):run P (.drawn H0 R W) (⟨none,.store sz x v,none⟩::r) K ⟨fr,H⟩:=
 Sc (q:=[kk]) (pk1 rfl hx) (by simp[wk,hx];rfl) M G ⟨_,hx,b,hb,row,hr,q,O,cells,U,T,QzN ho,C ▸ k⟩
theorem DI {i:n5} {b:u4} (hi:St.ev ⟨fr,H⟩ i=some (.int ki n)) (hx:St.ev ⟨fr,H⟩ x=some (.s4 j m)) (hb:lk H j=some b) (hm:m=b.rows.length) (h0:0<=n) (h1:n<m) (M:b.l0=l0) (C:(Dr.drawn H0 R W).ok r.length [2*j+1] []=true) (G:ZL [t] r=ds0) (k:run P (.drawn H0 ((2*j+1,ds0)::R) W) r K ⟨(t,.ref j n.toNat 0)::fr,H⟩):run P (.drawn H0 R W) (⟨some t,.indexAddr l0 x i,none⟩::r) K ⟨fr,H⟩:=
 Sc (pk1 rfl hx) rfl G C ⟨_,hi,_,hx,b,hb,hm,h0,h1,M,k⟩
theorem Qw (C:Ok P f ds' d) (ha:QD ⟨fr,H⟩ args=some ds) (hd:ds.map (XL ⟨fr,H⟩)=ds') (hp:ds.all D.pure=true\/d.flat=true) (ho:(Dr.drawn H0 R W).ok r.length ((ds.flatMap D.ids).map (2*·)) []=true) (G:ZL [t] r=ds0) (k:run P (.drawn H0 (((ds.flatMap D.ids).map (2*·)).map (·,ds0)++R) W) r K ⟨(t,d)::fr,H⟩):run P (.drawn H0 R W) (⟨some t,.call f args,none⟩::r) K ⟨fr,H⟩:=
 Sc (QfR ha) rfl G ho ⟨ds,ha,d,hd ▸ C,hp,k⟩
theorem NX (hx:St.ev ⟨fr,H⟩ x=some (.x7 rows)) (M:St.ev ⟨fr,H⟩ y=some q) (O:∀kk:List (List D)->Bool->Prop,kk ys pr->Dd ⟨fr,H⟩ l0 q kk) (T:lk H t=none) (C:rows=[]\/ys≠[]) (he:∀r∈rows,r.length=l0) (hb:(rows.length+ys.length)*bytes<=140737488355328) (U:rows.length+ys.length<=4611686018427387904) (ho:(Dr.drawn H0 R W).ok r.length (q.ids.map (2*·)) []=true) (G:ZL [t] r=ds0)
 (k:run P (.drawn H0 ((q.ids.map (2*·)).map (·,ds0)++R) W) r K ⟨(t,.s4 t (rows.length+ys.length))::fr,(t,⟨rows++ys,l0,et,pr⟩)::H⟩):run P (.drawn H0 R W) (⟨some t,.append l0 et bytes x y,none⟩::r) K ⟨fr,H⟩:=
 Sc (by unfold pk;simp[z5.b9,hx,M,QAj];rfl) rfl G ho ⟨_,hx,q,M,O (λys pr=>Qjt true l0 et bytes (some t) ⟨fr,H⟩ (.x7 rows) ys pr λs'=>run P (.drawn H0 ((q.ids.map (2*·)).map (·,ds0)++R) W) r K s') ⟨t,rfl,T,C,he,hb,U,k⟩⟩
theorem QoF {p q:List Nat} {ef:QzK} (he:EF P (λk=>(lk H0 k).isSome=true) op dst ⟨fr,H⟩ p q d ef) (ho:(Dr.drawn H0 R W).ok r.length (HC op p) (Kl op q)=true) (C:MX op dst r=ds0)
 (k:run P (.drawn H0 ((HC op p).map (·,ds0)++R) ((Kl op q).map (·,ds0)++W)) r K (St.g8 ⟨fr,H⟩ dst d ef)):run P (.drawn H0 R W) (⟨dst,op,none⟩::r) K ⟨fr,H⟩:=by
 subst C;exact .inr (.inl ⟨p,q,d,ef,he,ho,k⟩)
theorem TK {kk C:Nat} {b b':u4} (M:QcT P f args ⟨fr,H⟩ HF kk t b b' C) (O:∀j∈HF.map Prod.fst,(lk H0 j).isSome=true) (ho:(Dr.drawn H0 R W).ok r.length ((kk::HF.map Prod.fst).map (2*·)) [2*kk,2*kk+1]=true) (G:MX (.call f args) (some t) r=ds0)
 (k:run P (.drawn H0 (((kk::HF.map Prod.fst).map (2*·)).map (·,ds0)++R) ((2*kk,ds0)::(2*kk+1,ds0)::W)) r K ⟨(t,.s4 t C)::fr,(t,b')::(kk,Zr)::H⟩):run P (.drawn H0 R W) (⟨some t,.call f args,none⟩::r) K ⟨fr,H⟩:=
 QoF (.inr (.inl ⟨HF,kk,t,b,b',C,rfl,M,O,rfl,rfl,rfl,rfl⟩)) ho G k
theorem YL {kk n:Nat} {b:u4} (hx:St.ev ⟨fr,H⟩ x=some (.s4 kk n)) (T:St.ev ⟨fr,H⟩ y=some q) (V:kk∉q.ids) (U:St.src ⟨fr,H⟩ l0 q ys pr) (Y:lk H t=none)
 (hb:lk H kk=some b) (hl:n=b.rows.length) (he:b.l0=l0) (het:b.et=et) (O:(n+ys.length)*bytes<=140737488355328) (hc:n+ys.length<=4611686018427387904) (ho:(Dr.drawn H0 R W).ok r.length ((kk::q.ids).map (2*·)) [2*kk,2*kk+1]=true) (M:ZL [t] r=ds0)
 (k:run P (.drawn H0 (((kk::q.ids).map (2*·)).map (·,ds0)++R) ((2*kk,ds0)::(2*kk+1,ds0)::W)) r K ⟨(t,.s4 t (n+ys.length))::fr,(t,⟨b.rows++ys,l0,et,b.pr&&pr⟩)::(kk,Zr)::H⟩) (G:kk<1000000:=by decide) (C:t<1000000:=by decide):run P (.drawn H0 R W) (⟨some t,.append l0 et bytes x y,none⟩::r) K ⟨fr,H⟩:=
 QoF ⟨t,kk,n,b,q,ys,pr,rfl,hx,G,Y,C,hb,hl,he,het,T,V,U,O,hc,rfl,rfl,rfl,rfl⟩ ho M k
end
theorem QdC {Hn Hu:QzK} (C:FA P f args ⟨fr,H⟩ HF Hn Hu d) (k:run P .fixed r K ⟨(t,d)::fr,Hn++(Hu++H)⟩):run P .fixed (⟨some t,.call f args,none⟩::r) K ⟨fr,H⟩:=
 .inr (.inr (.inl ⟨f,args,HF,Hn,Hu,d,rfl,.inl rfl,C,k⟩))
theorem QdB (ks:List Nat) (G:∀k∈ks,k<1000000) (M:St.v8 ks ⟨fr,H⟩=⟨fr',H'⟩) (C:Ok P f ds' d) (ha:QD ⟨fr',H'⟩ args=some ds) (hd:ds.map (XL ⟨fr',H'⟩)=ds') (hp:ds.all D.pure=true\/d.flat=true)
 (k:run P .fixed r K ⟨(t,d)::fr',H'⟩):run P .fixed (⟨some t,.call f args,none⟩::r) K ⟨fr,H⟩:=
 .inr (.inr (.inr ⟨⟨fr',H'⟩,d,none,rfl,λ_ _ _ _ r=>M ▸ Rel.v8 ks r G,⟨rfl,ds,ha,hd ▸ C,hp⟩,k⟩))
theorem ZV (hx:St.ev ⟨fr,H⟩ x=some p) (hp:p.kd=true) (k:run P dr r K ⟨(t,p)::fr,H⟩):run P dr (⟨some t,.nilCheck x,none⟩::r) K ⟨fr,H⟩:=Qt rfl rfl ⟨p,hx,hp,k⟩
section
variable {bt:Bool} {x y:n5} {ki:IntKind} {m n z:Int}
theorem QcH (hx:St.ev ⟨fr,H⟩ x=some (.int ki m)) (G:St.ev ⟨fr,H⟩ y=some (.int ki n)) (C:ki.wrap (m+n)=z) (k:run P dr r K ⟨(t,.int ki z)::fr,H⟩):run P dr (⟨some t,.bin .add bt x y,none⟩::r) K ⟨fr,H⟩:=by subst C;exact Qt rfl rfl ⟨_,hx,_,G,.inr rfl,k⟩
theorem QkP (hx:St.ev ⟨fr,H⟩ x=some (.int ki m)) (G:St.ev ⟨fr,H⟩ y=some (.int ki n)) (C:ki.wrap (m - n)=z) (k:run P dr r K ⟨(t,.int ki z)::fr,H⟩):run P dr (⟨some t,.bin .sub bt x y,none⟩::r) K ⟨fr,H⟩:=by subst C;exact Qt rfl rfl ⟨_,hx,_,G,.inr rfl,k⟩
theorem QoH (hx:St.ev ⟨fr,H⟩ x=some (.int ki m)) (G:St.ev ⟨fr,H⟩ y=some (.int ki n)) (C:ki.wrap (m*n)=z) (k:run P dr r K ⟨(t,.int ki z)::fr,H⟩):run P dr (⟨some t,.bin .mul bt x y,none⟩::r) K ⟨fr,H⟩:=by subst C;exact Qt rfl rfl ⟨_,hx,_,G,.inr rfl,k⟩
theorem Qsr (hx:St.ev ⟨fr,H⟩ x=some (.int ki m)) (C:St.ev ⟨fr,H⟩ y=some (.int ki n)) (h0:n≠0) (k:run P dr r K ⟨(t,.int ki (m.tmod n))::fr,H⟩):run P dr (⟨some t,.bin .rem bt x y,none⟩::r) K ⟨fr,H⟩:=Qt rfl rfl ⟨_,hx,_,C,.inr rfl,h0,k⟩
theorem QcI (hx:St.ev ⟨fr,H⟩ x=some (.int ki m)) (C:St.ev ⟨fr,H⟩ y=some (.int ki n)) (k:run P dr r K ⟨(t,.bool (decide (m=n)))::fr,H⟩):run P dr (⟨some t,.bin .eql bt x y,none⟩::r) K ⟨fr,H⟩:=Qt rfl rfl ⟨_,hx,_,C,.inr rfl,k⟩
theorem Qhs (hx:St.ev ⟨fr,H⟩ x=some (.int ki m)) (C:St.ev ⟨fr,H⟩ y=some (.int ki n)) (k:run P dr r K ⟨(t,.bool (!decide (m=n)))::fr,H⟩):run P dr (⟨some t,.bin .neq bt x y,none⟩::r) K ⟨fr,H⟩:=Qt rfl rfl ⟨_,hx,_,C,.inr rfl,k⟩
theorem Qsq (hx:St.ev ⟨fr,H⟩ x=some (.int ki m)) (C:St.ev ⟨fr,H⟩ y=some (.int ki n)) (k:run P dr r K ⟨(t,.bool (decide (m<n)))::fr,H⟩):run P dr (⟨some t,.bin .lss bt x y,none⟩::r) K ⟨fr,H⟩:=Qt rfl rfl ⟨_,hx,_,C,.inr rfl,k⟩
theorem Qsp (hx:St.ev ⟨fr,H⟩ x=some (.int ki m)) (C:St.ev ⟨fr,H⟩ y=some (.int ki n)) (k:run P dr r K ⟨(t,.bool (decide (m<=n)))::fr,H⟩):run P dr (⟨some t,.bin .leq bt x y,none⟩::r) K ⟨fr,H⟩:=Qt rfl rfl ⟨_,hx,_,C,.inr rfl,k⟩
theorem Qso (hx:St.ev ⟨fr,H⟩ x=some (.int ki m)) (C:St.ev ⟨fr,H⟩ y=some (.int ki n)) (k:run P dr r K ⟨(t,.bool (decide (n<m)))::fr,H⟩):run P dr (⟨some t,.bin .gtr bt x y,none⟩::r) K ⟨fr,H⟩:=Qt rfl rfl ⟨_,hx,_,C,.inr rfl,k⟩
theorem Qsn (hx:St.ev ⟨fr,H⟩ x=some (.int ki m)) (C:St.ev ⟨fr,H⟩ y=some (.int ki n)) (k:run P dr r K ⟨(t,.bool (decide (n<=m)))::fr,H⟩):run P dr (⟨some t,.bin .geq bt x y,none⟩::r) K ⟨fr,H⟩:=Qt rfl rfl ⟨_,hx,_,C,.inr rfl,k⟩
end
section
variable {x y:n5} {m n:Bool}
theorem QkG (hx:St.ev ⟨fr,H⟩ x=some (.bool m)) (C:St.ev ⟨fr,H⟩ y=some (.bool n)) (k:run P dr r K ⟨(t,.bool (decide (m=n)))::fr,H⟩):run P dr (⟨some t,.bin .eql true x y,none⟩::r) K ⟨fr,H⟩:=Qt rfl rfl ⟨_,hx,_,C,rfl,k⟩
theorem QkK (hx:St.ev ⟨fr,H⟩ x=some (.bool m)) (C:St.ev ⟨fr,H⟩ y=some (.bool n)) (k:run P dr r K ⟨(t,.bool (!decide (m=n)))::fr,H⟩):run P dr (⟨some t,.bin .neq true x y,none⟩::r) K ⟨fr,H⟩:=Qt rfl rfl ⟨_,hx,_,C,rfl,k⟩
end
section
variable {bt:Bool} {x y:n5} {m n:List UInt8}
theorem QkH (hx:St.ev ⟨fr,H⟩ x=some (.str m)) (C:St.ev ⟨fr,H⟩ y=some (.str n)) (k:run P dr r K ⟨(t,.bool (decide (m=n)))::fr,H⟩):run P dr (⟨some t,.bin .eql bt x y,none⟩::r) K ⟨fr,H⟩:=Qt rfl rfl ⟨_,hx,_,C,k⟩
theorem QkL (hx:St.ev ⟨fr,H⟩ x=some (.str m)) (C:St.ev ⟨fr,H⟩ y=some (.str n)) (k:run P dr r K ⟨(t,.bool (!decide (m=n)))::fr,H⟩):run P dr (⟨some t,.bin .neq bt x y,none⟩::r) K ⟨fr,H⟩:=Qt rfl rfl ⟨_,hx,_,C,k⟩
theorem QkJ (hx:St.ev ⟨fr,H⟩ x=some (.str m)) (C:St.ev ⟨fr,H⟩ y=some (.str n)) (k:run P dr r K ⟨(t,.bool (Op.bytesLess m n))::fr,H⟩):run P dr (⟨some t,.bin .lss bt x y,none⟩::r) K ⟨fr,H⟩:=Qt rfl rfl ⟨_,hx,_,C,k⟩
theorem QkI (hx:St.ev ⟨fr,H⟩ x=some (.str m)) (C:St.ev ⟨fr,H⟩ y=some (.str n)) (k:run P dr r K ⟨(t,.bool (!(Op.bytesLess m n||decide (m=n))))::fr,H⟩):run P dr (⟨some t,.bin .gtr bt x y,none⟩::r) K ⟨fr,H⟩:=Qt rfl rfl ⟨_,hx,_,C,k⟩
end
theorem QoG {neg:Bool} {ys:List D} (hx:St.ev ⟨fr,H⟩ x=some (.agg xs)) (C:St.ev ⟨fr,H⟩ y=some (.agg ys)) (he:KJ ks xs ys=some b) (k:run P dr r K ⟨(t,.bool (if neg=true then !b else b))::fr,H⟩):run P dr (⟨some t,.eqs neg ks x y,none⟩::r) K ⟨fr,H⟩:=Qt rfl rfl ⟨_,hx,_,C,xs,rfl,ys,rfl,b,he,k⟩
theorem JO {ys:List D} (hx:St.ev ⟨fr,H⟩ x=some (.agg xs)) (C:St.ev ⟨fr,H⟩ y=some (.agg ys)) (he:KJ ks xs ys=some b) (k:run P dr r K ⟨(t,.bool b)::fr,H⟩):run P dr (⟨some t,.eqs false ks x y,none⟩::r) K ⟨fr,H⟩:=QoG hx C he k
theorem Qjn {ys:List D} (hx:St.ev ⟨fr,H⟩ x=some (.agg xs)) (C:St.ev ⟨fr,H⟩ y=some (.agg ys)) (he:KJ ks xs ys=some b) (k:run P dr r K ⟨(t,.bool (!b))::fr,H⟩):run P dr (⟨some t,.eqs true ks x y,none⟩::r) K ⟨fr,H⟩:=QoG hx C he k
theorem QkM (hx:St.ev ⟨fr,H⟩ x=some (.bool b)) (k:run P dr r K ⟨(t,.bool (!b))::fr,H⟩):run P dr (⟨some t,.un .not x,none⟩::r) K ⟨fr,H⟩:=Qt rfl rfl ⟨_,hx,k⟩
theorem Qjm {kj:IntKind} {m z:Int} (hx:St.ev ⟨fr,H⟩ x=some (.int ki m)) (C:kj.wrap m=z) (k:run P dr r K ⟨(t,.int kj z)::fr,H⟩):run P dr (⟨some t,.conv kj x,none⟩::r) K ⟨fr,H⟩:=Qt rfl rfl ⟨_,hx,_,rfl,C ▸ k⟩
theorem XM {rows':List (List D)} {l:Int} (hx:St.ev ⟨fr,H⟩ x=some p) (hr:p.rows?=some rows) (G:St.va ⟨fr,H⟩ lo 0=some l) (M:St.va ⟨fr,H⟩ hi rows.length=some h)
 (h0:0<=l) (h1:l<=h) (h2:h<=rows.length) (he:∀r∈rows,r.length=l0) (C:(rows.take h.toNat).drop l.toNat=rows') (k:run P dr r K ⟨(t,.sl rows')::fr,H⟩):run P dr (⟨some t,.slice l0 x lo hi none,none⟩::r) K ⟨fr,H⟩:=Qt rfl rfl (.inl ⟨p,hx,rows,hr,l,G,h,M,h0,h1,h2,he,C ▸ k⟩)
theorem Qhv {n:Nat} {l:Int} (hx:St.ev ⟨fr,H⟩ x=some (.s4 j n)) (C:St.va ⟨fr,H⟩ lo 0=some l) (G:St.va ⟨fr,H⟩ hi n=some (n:Int)) (h0:0<=l) (h1:l<=n)
 (k:run P dr r K ⟨(t,.y9 j l.toNat (l.toNat*l0) (n - l.toNat))::fr,H⟩):run P dr (⟨some t,.slice l0 x lo hi none,none⟩::r) K ⟨fr,H⟩:=Qt rfl rfl (.inr (.inr (.inl ⟨rfl,l,C,_,hx,h0,h1,G,k⟩)))
theorem Gz {c c':List UInt8} {l:Int} (hx:St.ev ⟨fr,H⟩ x=some (.str c)) (G:St.va ⟨fr,H⟩ lo 0=some l) (M:St.va ⟨fr,H⟩ hi c.length=some h)
 (h0:0<=l) (h1:l<=h) (h2:h<=c.length) (C:(c.take h.toNat).drop l.toNat=c') (k:run P dr r K ⟨(t,.str c')::fr,H⟩):run P dr (⟨some t,.a8 x lo hi,none⟩::r) K ⟨fr,H⟩:=Qt rfl rfl ⟨_,hx,c,rfl,l,G,h,M,h0,h1,h2,C ▸ k⟩
theorem TL {cells:List D} (hx:St.ev ⟨fr,H⟩ x=some (.ptr cells)) (ho:Nat.ble off cells.length=true) (k:run P dr r K ⟨(t,.ptr (cells.drop off))::fr,H⟩):run P dr (⟨some t,.fieldAddr off x,none⟩::r) K ⟨fr,H⟩:=Qt rfl rfl ⟨_,hx,QzN ho,k⟩
theorem Xu {kk:Nat} (hx:St.ev ⟨fr,H⟩ x=some (.ref kk i j)) (hk:(lk H kk).isSome=true) (k:run P dr r K ⟨(t,.ref kk i (j+off))::fr,H⟩):run P dr (⟨some t,.fieldAddr off x,none⟩::r) K ⟨fr,H⟩:=Qt rfl rfl ⟨_,hx,hk,k⟩
theorem KM {i:n5} {row:List D} (hi:St.ev ⟨fr,H⟩ i=some (.int ki n)) (hx:St.ev ⟨fr,H⟩ x=some p) (hp:p.rows?=some rows) (h0:0<=n) (hr:rows[n.toNat]?=some row) (C:row.length=l0) (k:run P dr r K ⟨(t,.ptr row)::fr,H⟩):run P dr (⟨some t,.indexAddr l0 x i,none⟩::r) K ⟨fr,H⟩:=by
 refine Qt (by rw[pk1 rfl hx];cases p<;>first |rfl |trivial) rfl ?_
 refine⟨_,hi,_,hx, ?_⟩;cases p<;>simp[D.rows?,reduceCtorEq]at hp;subst hp;exact⟨row,h0,hr,C,k⟩;subst hp;exact⟨row,h0,hr,C,k⟩
theorem Yg {i:n5} {b:u4} (hi:St.ev ⟨fr,H⟩ i=some (.int ki n)) (hx:St.ev ⟨fr,H⟩ x=some (.s4 j m)) (hb:lk H j=some b) (hm:m=b.rows.length) (h0:0<=n) (h1:n<m) (C:b.l0=l0) (k:run P .fixed r K ⟨(t,.ref j n.toNat 0)::fr,H⟩):run P .fixed (⟨some t,.indexAddr l0 x i,none⟩::r) K ⟨fr,H⟩:=Xd ⟨_,hi,_,hx,b,hb,hm,h0,h1,C,k⟩
theorem Kp {i:n5} {c:UInt8} (hi:St.ev ⟨fr,H⟩ i=some (.int ki n)) (hx:St.ev ⟨fr,H⟩ x=some (.str l)) (h0:0<=n) (C:l[n.toNat]?=some c) (k:run P dr r K ⟨(t,.int .u8 c.toNat)::fr,H⟩):run P dr (⟨some t,.k8 x i,none⟩::r) K ⟨fr,H⟩:=Qt rfl rfl ⟨_,hi,_,hx,c,h0,C,k⟩
theorem PP (hx:St.ev ⟨fr,H⟩ x=some (.l7 ds)) (hd:ds[i]?=some d) (k:run P dr r K ⟨(t,d)::fr,H⟩):run P dr (⟨some t,.extract i x,none⟩::r) K ⟨fr,H⟩:=Qt rfl rfl ⟨_,hx,ds,rfl,d,hd,k⟩
theorem Sy (hx:St.ev ⟨fr,H⟩ x=some p) (C:Qhf p=some n) (k:run P dr r K ⟨(t,.int .i64 n)::fr,H⟩):run P dr (⟨some t,.len x,none⟩::r) K ⟨fr,H⟩:=Qt rfl rfl ⟨p,hx,n,C,k⟩
theorem TP (hx:St.ev ⟨fr,H⟩ x=some (.str l)) (k:run P dr r K ⟨(t,.int .i64 l.length)::fr,H⟩):run P dr (⟨some t,.o9 x,none⟩::r) K ⟨fr,H⟩:=Qt rfl rfl ⟨_,hx,l,rfl,k⟩
theorem Qhq (hx:St.ev ⟨fr,H⟩ x=some (.str l)) (k:run P dr r K ⟨(t,.sl (l.map P2))::fr,H⟩):run P dr (⟨some t,.k9 true x,none⟩::r) K ⟨fr,H⟩:=Qt (by simp[pk,z5.b9,hx,Qbr,D.ids,D.l4]) rfl ⟨_,hx,l,rfl,k⟩
theorem QaG (hx:St.ev ⟨fr,H⟩ x=some (.x7 rows)) (G:St.ev ⟨fr,H⟩ y=some q) (M:∀kk:List (List D)->Bool->Prop,kk ys pr->Dd ⟨fr,H⟩ l0 q kk) (O:lk H t=none) (C:rows=[]\/ys≠[]) (he:∀r∈rows,r.length=l0) (hb:(rows.length+ys.length)*bytes<=140737488355328) (T:rows.length+ys.length<=4611686018427387904)
 (k:run P .fixed r K ⟨(t,.s4 t (rows.length+ys.length))::fr,(t,⟨rows++ys,l0,et,pr⟩)::H⟩):run P .fixed (⟨some t,.append l0 et bytes x y,none⟩::r) K ⟨fr,H⟩:=Xd ⟨_,hx,q,G,M _ ⟨t,rfl,O,C,he,hb,T,k⟩⟩
theorem QqL (he:∀r∈rs,r.length=l0) (h:kk rs true):Dd s l0 (.x7 rs) kk:=⟨he,h⟩
theorem Sf (he:∀r∈rs,r.length=l0) (h:kk rs true):Dd s l0 (.sl rs) kk:=⟨he,h⟩
theorem YE {n:Nat} {b:u4} (hb:lk s.H j=some b) (C:n=b.rows.length) (he:b.l0=l0) (h:kk b.rows b.pr):Dd s l0 (.s4 j n) kk:=⟨b,hb,C,he,h⟩
theorem Qf (C:Ok P f ds' d) (ha:QD ⟨fr,H⟩ args=some ds) (hd:ds.map (XL ⟨fr,H⟩)=ds') (hp:ds.all D.pure=true\/d.flat=true) (k:run P .fixed r K ⟨(t,d)::fr,H⟩):run P .fixed (⟨some t,.call f args,none⟩::r) K ⟨fr,H⟩:=Xd ⟨ds,ha,d,hd ▸ C,hp,k⟩
theorem QdH (hx:St.ev ⟨fr,H⟩ x=some (.str l)) (C:lk H t=none) (k:run P dr r K ⟨(t,.ref t 0 0)::fr,(t,⟨[],0,QR l 0,false⟩)::H⟩):run P dr (⟨some t,.range x,none⟩::r) K ⟨fr,H⟩:=Qt rfl rfl ⟨t,rfl,_,hx,l,rfl,C,k⟩
theorem QaH {p c n:Nat} (hx:St.ev ⟨fr,H⟩ x=some (.ref j 0 0)) (hb:lk H j=some ⟨[],0,QR l p,false⟩) (hp:p<l.length) (hd:Utf8.decode ⟨l.toArray⟩ p=(c,n))
 (k:run P .fixed r K ⟨(t,.l7 [.bool true,.int .i64 p,.int .i32 c])::fr,(j,⟨[],0,QR l (p+n),false⟩)::H⟩):run P .fixed (⟨some t,.next x,none⟩::r) K ⟨fr,H⟩:=
 Xd ⟨rfl,_,hx,l,p,hb,.inl ⟨hp,by rw[hd];exact k⟩⟩
theorem DJ {p:Nat} (hx:St.ev ⟨fr,H⟩ x=some (.ref j 0 0)) (hb:lk H j=some ⟨[],0,QR l p,false⟩) (hp:¬p<l.length)
 (k:run P .fixed r K ⟨(t,.l7 [.bool false])::fr,H⟩):run P .fixed (⟨some t,.next x,none⟩::r) K ⟨fr,H⟩:=
 Xd ⟨rfl,_,hx,l,p,hb,.inr ⟨hp,k⟩⟩
theorem Qsl (h:lk fr g=some (.bool b)) (k:run P dr (⟨dst,op,none⟩::r) K ⟨fr,H⟩) (C:(op.rf&&(dr.dr&&!(D1 r).isEmpty))=false:=by rfl):run P dr (⟨dst,op,some (g,b)⟩::r) K ⟨fr,H⟩:=by
 have e:∀p q,dr.nx (MX op dst r) p q=dr.nx (ZL dst.toList r) p q:=λp q=>by
  cases op<;>try rfl
  cases dr
  rfl
  (repeat clear hK K);simp_all [z5.rf,Dr.dr,MX]
 simp only[run]at k;simp only[e]at k;exact⟨_,h,(λ_=>k),λh=>by grind⟩
theorem Qsk (h:lk fr g=some (.bool (!b))) (k:run P dr r K ⟨(t,.undef)::fr,H⟩):run P dr (⟨some t,op,some (g,b)⟩::r) K ⟨fr,H⟩:=
 ⟨_,h,(λh=>by grind),λ_=>k⟩
theorem Bq (h:lk fr g=some .undef) (k:run P dr r K ⟨(t,.undef)::fr,H⟩):run P dr (⟨some t,op,some (g,b)⟩::r) K ⟨fr,H⟩:=⟨_,h,k⟩
theorem QkC {l:List z1} {c:Bool} (C:lk fr g=some (.bool c)) (h1:c=true->run P dr l K ⟨fr,H⟩) (h2:c=false->run P dr l K ⟨fr,H⟩):run P dr l K ⟨fr,H⟩:=by
 grind
end
theorem Qc {q:QzL} (h:lk fr t=some d) (C:Qz ts fr=q):Qz (t::ts) fr=(t,d)::q:=by grind [Qz]
theorem Qs:Qz [] fr=[]:=rfl
section
variable {P:Program} {nt:Nat} {Q:AExit->St->Prop} {l:List Nat} {b:y5} {fr fr':QzL} {H:QzK}
theorem Ji (h:Qz l fr=fr') (k:TW P nt b Q ⟨fr',H⟩):TW P nt b Q ⟨Qz l fr,H⟩:=h ▸ k
theorem JD (h:Qz l fr=fr') (k:TW P nt b Q ⟨fr',H⟩):Qki P nt l b Q .normal ⟨fr,H⟩:=by
 grind [Qki]
end
section
variable {fr:QzL} {H:QzK} {t:Nat} {d p:D}
end
section
variable {fr:QzL} {H:QzK} {t:Nat}
theorem ZJ {b':Bool} (h:lk fr t=some (.bool b)) (hb:b=b') (he:e=.ret\/e=.normal:=by first |exact .inl rfl |exact .inr rfl):s7 [.tmp t] (.bool b') e ⟨fr,H⟩:=by
 subst hb;rcases he with rfl |rfl<;>exact⟨_,h,rfl⟩
theorem R2 {k:IntKind} {b b':Int} (h:lk fr t=some (.int k b)) (hb:b=b') (he:e=.ret\/e=.normal:=by first |exact .inl rfl |exact .inr rfl):s7 [.tmp t] (.int k b') e ⟨fr,H⟩:=by
 subst hb;rcases he with rfl |rfl<;>exact⟨_,h,rfl⟩
theorem QO (h:lk fr t=some p) (hd:XL ⟨fr,H⟩ p=d) (he:e=.ret\/e=.normal:=by first |exact .inl rfl |exact .inr rfl):s7 [.tmp t] d e ⟨fr,H⟩:=by
 subst hd;rcases he with rfl |rfl<;>exact⟨_,h,rfl⟩
end
section
variable {fr:QzL} {H:QzK} {t u:Nat}
theorem Qr {d':D} (h:lk fr t=some p) (h2:lk fr u=some q) (hd:XL ⟨fr,H⟩ p=d/\XL ⟨fr,H⟩ q=d') (he:e=.ret\/e=.normal:=by first |exact .inl rfl |exact .inr rfl):s7 [.tmp t,.tmp u] (.l7 [d,d']) e ⟨fr,H⟩:=by
 obtain⟨rfl,rfl⟩:=hd;rcases he with rfl |rfl<;>exact⟨_,rfl,_,_,rfl,⟨p,h,rfl⟩,_,_,rfl,⟨q,h2,rfl⟩,rfl⟩
theorem Zb {cells:List D} (h:lk fr t=some p) (ha:St.ad ⟨fr,H⟩ p=some cells) (C:Nat.ble sz cells.length=true) (G:cells.take sz=cs) (hd:XL ⟨fr,H⟩ (.agg cs)=.agg ds) (he:e=.ret\/e=.normal:=by first |exact .inl rfl |exact .inr rfl):s7 [.cell t true sz] (.agg ds) e ⟨fr,H⟩:=by
 subst G;rcases he with rfl |rfl<;>exact⟨p,cells,h,HK.2 ha,by exact⟨QzN C,hd.symm⟩⟩
end
section
variable {P:Program} {nt:Nat} {Q:AExit->St->Prop} {l:List Nat} {b:y5} {s:St} {id i:Nat}
def Qil (st:ι->St) (I:ι->Prop) (Q:AExit->St->Prop):AExit->St->Prop
 | .normal,s=>∃j,s.le (st j)/\I j
 |e,s=>Q e s
theorem FQ (st:ι->St) (I:ι->Prop) {a:y5} (h:TW P nt a (Qil st I Q) s) (k:∀j,I j->TW P nt b Q (st j)):TW P nt (.seq a l b) Q s:=
 PM (λcode E g a w hm hp O C r=>wpIn_mono (h code E g a w hm hp O C r) λe a' w' G=>by
  cases e<;>simp only[AQ]at G ⊢
  obtain⟨s',g',⟨j,hle,T⟩,M⟩:=G;exact⟨s',g',DD hle (k j T),M⟩;trivial;trivial)
theorem Ze {st:ι->St} {I:ι->Prop} (j:ι) (h:s.le (st j)) (C:I j):Qil st I Q .normal s:=⟨j,h,C⟩
theorem Qbx {st:ι->St} {I:ι->Prop} (h:Q .ret s):Qil st I Q .ret s:=h
theorem Gt (h:Q (.exit id) s):Qki P nt l b Q (.exit id) s:=h
theorem L9 (h:Q .ret s):Qki P nt l b Q .ret s:=h
theorem HO (h:Q .normal s):YX id Q .normal s:=h
theorem HN (h:Q .normal s):YX id Q (.exit id) s:=by simp_all [YX]
theorem Zl (C:i≠id) (h:Q (.exit i) s):YX id Q (.exit i) s:=by simp_all [YX]
theorem DU (h:Q .ret s):YX id Q .ret s:=h
section
variable {ι:Type} {st:ι->St} {I:ι->Prop} {μ:ι->Nat} {j:ι}
theorem Qd (C:ι) (h:s.le (st C)) (G:I C) (hm:μ C<μ j):Tv st I μ j Q .normal s:=⟨C,h,G,hm⟩
theorem KF (h:Q (.exit id) s):Tv st I μ j Q (.exit id) s:=h
theorem C3 (h:Q .ret s):Tv st I μ j Q .ret s:=h
end
end
def Zs:List Nat->QzK->QzK
 |[],_=>[]
 |t::ts,H=>match lk H t with
  |some d=>(t,d)::Zs ts H
  |none=>Zs ts H
theorem Qa {d:u4} {q:QzK} (h:lk H t=some d) (C:Zs ts H=q):Zs (t::ts) H=(t,d)::q:=by grind [Zs]
theorem Qb:Zs [] H=[]:=rfl
theorem X8:∀(l:List Nat) (fr:QzK) (t:Nat) (d:u4),lk (Zs l fr) t=some d->lk fr t=some d
 |[],fr,t,d,h=>by cases h
 |u::us,fr,t,d,h=>by
  simp[Zs]at h;split at h;rw[Qe]at h;split at h
  grind
  exact X8 us fr t d h;exact X8 us fr t d h
theorem Qn {l lH:List Nat} {fr1:QzL} {H1:QzK} (M:Qz l fr=fr1) (O:Zs lH H=H1) (ef:fr1=fr') (T:H1=H') (hw:ua H' fr'=true) (C:QdW H H'=true:=by rfl):St.le ⟨fr,H⟩ ⟨fr',H'⟩:=by
 subst ef T M O;intro E g a w r;simp only[ua,QzR,QzX]at hw;exact⟨g,r.less (λt d h=>YA l fr t d h) (λk b h=>X8 lH H k b h) (λt d h k hk=>hw.1 (t,d) (QV h) k hk) (λk b h j G=>hw.2 (k,b) (QV h) j G) (N4 C)⟩
theorem Zi (t k l0 et:Nat) (G:lk fr t=some (.x7 [])) (hk:lk H k=none):St.le ⟨fr,H⟩ ⟨(t,.s4 k 0)::fr,(k,⟨[],l0,et,true⟩)::H⟩:=by
 intro E g a w r;obtain⟨g',T,O,C⟩:=r.pb hk;refine⟨g',{C with fr:=λu d h=>?_,s9:=λu d h j M=>?_}⟩;rw[Qe]at h;split at h;rename_i e;have h1:=C.fr t (.x7 []) G;simp[l6,z3,l3]at h1 ⊢
 grind
 exact C.fr u d h;rw[Qe]at h;split at h
 grind [D.ids,D.l4,Qe]
 exact C.s9 u d h j M
section
variable {P:Program} {r:List z1} {K:St->Prop} {fr:QzL} {H:QzK} {t:Nat}
theorem QkE {n:Nat} {b:u4} (hx:St.ev ⟨fr,H⟩ x=some (.s4 k n)) (M:St.ev ⟨fr,H⟩ y=some q) (T:∀kk:List (List D)->Bool->Prop,kk ys pr->Dd ⟨fr,H⟩ l0 q kk)
 (hb:lk H k=some b) (U:n=b.rows.length) (he:b.l0=l0) (O:b.et=et) (hp:(b.pr&&pr)=true\/∀r0∈b.rows++ys,∀d∈r0,k∉d.l4) (G:(n+ys.length)*bytes<=140737488355328) (V:n+ys.length<=4611686018427387904)
 (kk:run P .fixed r K ⟨(t,.s4 k (n+ys.length))::fr.map λp=>(p.1,p.2.z2 k),(k,⟨b.rows++ys,l0,et,b.pr&&pr⟩)::H.map λp=>(p.1,p.2.z2 k)⟩) (C:k<1000000:=by decide):run P .fixed (⟨some t,.append l0 et bytes x y,none⟩::r) K ⟨fr,H⟩:=Xd ⟨_,hx,q,M,T (λys pr=>Qjt false l0 et bytes (some t) ⟨fr,H⟩ (.s4 k n) ys pr λs'=>run P .fixed r K s') ⟨rfl,C,b,hb,U,he,O,hp,G,V,kk⟩⟩
theorem ZR {n:Nat} {b:u4} (hx:St.ev ⟨fr,H⟩ x=some (.s4 k n)) (M:St.ev ⟨fr,H⟩ y=some q) (T:∀kk:List (List D)->Bool->Prop,kk ys true->Dd ⟨fr,H⟩ l0 q kk)
 (hb:lk H k=some b) (U:n=b.rows.length) (he:b.l0=l0) (O:b.et=et) (hp:b.pr=true) (G:(n+ys.length)*bytes<=140737488355328) (V:n+ys.length<=4611686018427387904)
 (kk:run P .fixed r K ⟨(t,.s4 k (n+ys.length))::fr.map λp=>(p.1,p.2.z2 k),(k,⟨b.rows++ys,l0,et,true⟩)::H.map λp=>(p.1,p.2.z2 k)⟩) (C:k<1000000:=by decide):run P .fixed (⟨some t,.append l0 et bytes x y,none⟩::r) K ⟨fr,H⟩:=
 QkE hx M T hb U he O (.inl Wb) G V Wb C
end
theorem idx_at {l:List α} (h:i<l.length):l[((i:Nat):Int).toNat]?=some l[i]:=by simp
theorem Gc {l:List α} {f:α->β} (h:i<l.length):(l.map f)[((i:Nat):Int).toNat]?=some (f l[i]):=by grind
theorem JY {l:List α} {f:α->β} {k:Int} (h0:0<=k) (h:k<l.length):(l.map f)[k.toNat]?=some (f (l[k.toNat]'Wa)):=by
 grind
theorem Zg {l:List α} {p:α->Bool} (h:i<l.length) (ha:(l.take i).all p=true) (hp:p l[i]=true):(l.take (i+1)).all p=true:=by
 grind [List.take_succ_eq_append_getElem]
theorem QJ {l:List Nat} (h:Qz l fr=fr'):St.le ⟨fr,H⟩ ⟨fr',H⟩:=h ▸ KY l fr H
theorem D9 {p:Nat} (h:p<l.length) (ha:(l[p]).toNat<128):Utf8.decode ⟨l.toArray⟩ p=((l[p]).toNat,1):=by
 have C:p<(ByteArray.mk l.toArray).size:=by trivial
 exact decode_ascii ⟨l.toArray⟩ p C ha
theorem Qa0 {p:Nat} (h:p<l.length) (ha:128<=(l[p]).toNat):∃c n,128<=c/\Utf8.decode ⟨l.toArray⟩ p=(c,n):=by
 suffices hh:128<=(Utf8.decode ⟨l.toArray⟩ p).1 from⟨_,_,hh,rfl⟩
 have e:((ByteArray.mk l.toArray).get! (p+0)).toNat=(l[p]).toNat:=by
  show((l.toArray)[p]!).toNat=_;rw[getElem!_pos _ _ (by simpa using h)];simp
 unfold Utf8.decode;simp only[e]
 repeat' split
 all_goals first |(simp only[Utf8.runeError];omega) |(simp_all;omega)
variable {K:Kn} {S:Nat->Bool} {v:Value} {x:ResultVar}
def small (k:Nat):Bool:=decide (k<500000)
def Fm (rs:List Xy) (d:D) (H':QzK):AExit->St->Prop
  | .exit _,_=>False
  |_,s=>((rs=[]/\d=.l7 [])\/(∃r,rs=[r]/\XJ small s r d)\/(∃r1 r2 d1 d2,rs=[r1,r2]/\d=.l7 [d1,d2]/\d1.pure=true/\d2.pure=true/\XJ small s r1 d1/\XJ small s r2 d2)\/∃r1 r2 cs d2,rs=[r1,r2]/\d=.w9 cs d2/\d2.pure=true/\XJ small s r1 (.agg cs)/\XJ small s r2 d2)/\∀k b,lk H' k=some b->lk s.H k=some b
section
variable {P:Program} {E:Env} {g:Gh} {s:St} {a:Act} {w:World}
theorem T0 (C:∀d v,z3 g d v->(∀k∈d.l4,(lk s.H k).isSome=true)->z3 {g with K:=K} (d.o7 s.H S) v) (h:l6 g d v) (G:Has s d):l6 {g with K:=K} (FN S s d) v:=
  (l6.fz C h G).lh
theorem NI (r:Rel E g s a w) (C:∀d v,z3 g d v->(∀k∈d.l4,(lk s.H k).isSome=true)->z3 {g with K:=K} (d.o7 s.H S) v) {x':Xy} (hp:Ki P x=some x') (h:XJ S s x' d):
    ∃v,(J4 a.tmps x).run P w=.ok v w/\l6 {g with K:=K} d v:=by
  cases x with
  |tmp t=>
    obtain⟨G,rfl⟩:=R3 hp;obtain⟨p,h1,rfl⟩:=h;exact⟨_,by rfl,T0 C (r.th G h1) (r.s9 t p h1)⟩
  |cell t ty=>
    simp only[Ki]at hp;split at hp
    case isFalse=>grind
    rename_i G;split at hp;rename_i b sz e1 e2;cases hp
    obtain⟨p,cells,h1,h2,U⟩:=h;obtain⟨B,off,hv,hc,Y⟩:=M8 r (r.th G h1) h2;cases b with
    |true=>
      simp only[if_true]at U;obtain⟨hl,rfl⟩:=U;obtain⟨cs,q1,T,O,V⟩:=Qcn (P:=P) (hc.take sz);rw[QAk,Nat.min_eq_left hl]at V;refine⟨.agg cs.toArray, ?_,T0 C ⟨cs,rfl,T,O⟩ λk hk=>?_⟩
      (repeat clear hK K);simp_all [J4,asAddr,loadVar,ZC,QM]
      obtain⟨y,hy,hk⟩:=QzU.1 hk
      grind
    |false=>
      simp only[QzV,if_false]at U;obtain⟨q,hq,rfl⟩:=U;cases cells with
      |nil=>grind
      |cons y ys=>
        simp at hq;subst hq;obtain⟨cs,q1,T,O,V⟩:=hc;cases cs with
        |nil=>grind
        |cons c cs=>
          have M:=V 0 c Wc;simp only[QAC]at M;refine⟨c, ?_,T0 C (T.1.td (O _ Wc)) (Nj T.1 (O _ Wc) λk hk=>Y _ Wc k hk)⟩
          (repeat clear hK K);simp_all [J4,asAddr,loadVar,ZC]
    grind
theorem Qaq (hx:fn.results.toList=[x]) (h:(J4 a.tmps x).run P w=.ok v w):(results fn a.tmps).run P w=.ok v w:=by
  have C:results fn a.tmps=(fn.results.mapM (J4 a.tmps)>>=λvs=>pure (if h:vs.size=1 then vs[0]else .tuple vs)):=by
    rfl
  (repeat clear hK K);simp_all [Array.mapM_eq_mapM_toList]
theorem R7 {y:ResultVar} (hx:fn.results.toList=[x,y]) {u:Value} (h:(J4 a.tmps x).run P w=.ok v w) (h2:(J4 a.tmps y).run P w=.ok u w):(results fn a.tmps).run P w=.ok (.tuple #[v,u]) w:=by
  have C:results fn a.tmps=(fn.results.mapM (J4 a.tmps)>>=λvs=>pure (if h:vs.size=1 then vs[0]else .tuple vs)):=by
    rfl
  (repeat clear hK K);simp_all [Array.mapM_eq_mapM_toList]
theorem MS {xs:List ResultVar} {O M:Xy} (h:Zn P xs=some [O,M]):∃G C,xs=[G,C]/\Ki P G=some O/\Ki P C=some M:=by
  cases xs with
  |nil=>grind [Zn]
  |cons x xs=>
    simp only[Zn]at h;split at h;rename_i x' T e1 e2;cases h
    cases xs with
    |nil=>grind [Zn]
    |cons y ys=>
      simp only[Zn]at e2;split at e2;rename_i y' s' e3 U;cases e2
      have:ys=[]:=by
        cases ys with
        |nil=>rfl
        |cons z zs=>grind [Zn]
      grind
      grind
    grind
theorem PD {g:Gh}:∀{ds:List D} {vs:List Value},o8 g ds vs->vs.length=ds.length/\∀(i:Nat) x,ds[i]?=some x->∃v,vs[i]?=some v/\l6 g x v
  |[],[],_=>⟨rfl,λi x h=>by grind⟩
  |y::ys,v::vs,h=>by
    obtain⟨h1,h2⟩:=PD h.2;refine⟨by grind,λi x hx=>?_⟩;cases i with
    |zero=>simp at hx;subst hx;exact⟨v,by simp,h.1⟩
    |succ i=>grind
  |[],_::_,h=>h.elim
  |_::_,[],h=>h.elim
theorem n6.jh {fr0:QzL} (hm:P.follows .mixedOrders=true) (hf:P.funcs[f]?=some fn) (hp:Qk P fn=some af) (hn:ds.length<=af.nt+(HD f).length)
 (hfr:∀g vs,o8 g ds (vs++gVs f)->∀t x,lk fr0 t=some x->x∈ds/\((∃v,vs[t]?=some v/\l6 g x v)\/∃i,t=900000+i/\l6 g x (.pointer (some ⟨i,0,none⟩))))
 (hin:∀k,1000000<=k->(lk H k).isSome=true->(lk H' k).isSome=true) (hcl:∀k b,lk H' k=some b->500000<=k/\∀j∈b.ids,(lk H' j).isSome=true)
 (h:AW P af.nt af.body (Fm af.rs d H') ⟨fr0,H⟩):n6 P f ds H d H':=by
  unfold Qk at hp;split at hp;rename_i c rs hbody hrs;split at hp;rename_i ac hac;split at hp
  ·rename_i V;cases hp
   refine⟨⟨fn,hf,V.1,by grind⟩,λg w vs Y hvs hids=>?_⟩;have hfr:=hfr g vs hvs;have hlen:=(PD hvs).1;rw[QAs,gVs,QAH]at hlen;simp only at hn h;let E:Env:=⟨fn.ntmps,w.heap.size,w,g.K,λb=>NW g H b,λk=>1000000<=k/\(lk H k).isSome=true,g.β,g.σ,none,some w.heap.size⟩;have hsz:(vs.toArray++Array.replicate (fn.ntmps - vs.toArray.size) Go.undef).size=fn.ntmps:=by grind
   have r0:Rel E g ⟨fr0,H⟩ {tmps:=vs.toArray++Array.replicate (fn.ntmps - vs.toArray.size) Go.undef,defers:=[]} w:=by
     refine⟨⟨hsz,V.2⟩,ic.nil rfl,λt x hx=>?_,λt x hx k hk=>?_,Y.u9,λk b hb=>(Y.bx k b hb).move ⟨rfl,rfl⟩ (λ_ _ _ _ _ _=>⟨rfl,rfl⟩) (Kn.le_refl _) λB e hβ=>⟨rfl,λ_ h=>h,λ_=>.inr ⟨k,e,by grind,hβ⟩⟩,Y.inj,Y.kr,⟨QAe _,λb hb _=>rfl,z7.refl w⟩,λb hb _=>rfl,λk hk=>⟨hk.1,rfl,rfl,hk.2⟩⟩;rcases(hfr t x hx).2 with⟨v,h1,h2⟩ |⟨i,rfl,h2⟩
     have:(vs.toArray++Array.replicate (fn.ntmps - vs.toArray.size) Go.undef).getD t (Fb t)=v:=by
       have hlt:=(QAm.1 h1).1
       (repeat clear hK K);simp_all [Array.getElem?_append_left]
     grind
     have:(vs.toArray++Array.replicate (fn.ntmps - vs.toArray.size) Go.undef).getD (900000+i) (Fb (900000+i))=.pointer (some ⟨i,0,none⟩):=by
       have h9:=V.2;rw[QAf,Array.getElem?_eq_none Wa,Option.getD_none,Fb,if_neg Wa,Nat.add_sub_cancel_left]
     grind
     grind
   refine(callsIn_wide (n:=0)).1 (callsIn_of_wp_marks hf hbody trivial (wpIn_mono (h c E g _ w hm hac rfl (.inl ⟨rfl,_,rfl,QAe _⟩) r0) λe a' w' hq=>?_))
   have fin0:∀s' g' a' w',Fm rs d H' .normal s'->Rel E g' s' a' w'->∃v,(results fn a'.tmps).run P w'=.ok v w'/\∃v_1 g'',Ending.returned v=.returned v_1/\l6 g'' d v_1/\ia g'' H' w'/\w.heap.size<=w'.heap.size/\(∀b,b<w.heap.size->¬NW g H b->w'.heap[b]?=w.heap[b]?/\g''.K b=g.K b)/\z7 w w'/\
       (∀k,1000000<=k->(lk H k).isSome=true->(lk H' k).isSome=true/\g''.β k=g.β k/\g''.σ k=g.σ k)/\∀k B e,k<1000000->(lk H' k).isSome=true->g''.β k=some (B,e)->w.heap.size<=B\/∃k2 e2,k2<1000000/\(lk H k2).isSome=true/\g.β k2=some (B,e2):=by
     intro s' g' a' w' ⟨hres0,M⟩ C;obtain⟨K2,hle,hkr2,hoth,T⟩:=Pf C small
     have G:∃v,(results fn a'.tmps).run P w'=.ok v w'/\l6 {g' with K:=K2} d v:=by
      rcases hres0 with⟨hrs0,rfl⟩ |⟨x',O,hres⟩ |⟨r1,r2,d1,d2,O,rfl,hp1,hp2,G,U⟩ |⟨r1,r2,cs,d2,O,rfl,hp2,G,U⟩
      rotate_right
      subst O;obtain⟨x1,x2,hx,hpx1,hpx2⟩:=MS hrs;obtain⟨v1,q1,q2⟩:=NI C T hpx1 G;obtain⟨v2,q3,q4⟩:=NI C T hpx2 U;obtain⟨vs,rfl,q5,q6⟩:=q2;exact⟨.tuple #[_,v2],R7 hx q1 q3,vs,v2,rfl,q5,q6,q4.mc hp2⟩
      rotate_right
      subst O;obtain⟨x1,x2,hx,hpx1,hpx2⟩:=MS hrs;obtain⟨v1,q1,q2⟩:=NI C T hpx1 G;obtain⟨v2,q3,q4⟩:=NI C T hpx2 U;refine⟨.tuple #[v1,v2],R7 hx q1 q3, ?_⟩;simp only[l6,z3,l3];exact⟨[v1,v2],rfl,by simp only[j5];exact⟨q2.mc hp1,q4.mc hp2,trivial⟩⟩
      subst hrs0
      have hx:fn.results.toList=[]:=by
        cases hx:fn.results.toList with
        |nil=>rfl
        |cons y ys=>grind [Zn]
      refine⟨.tuple #[], ?_, ?_⟩
      simp_all [results]
      simp only[l6,z3,l3];exact⟨[],rfl,by trivial⟩;subst O
      obtain⟨x,hx,hpx⟩:∃x,fn.results.toList=[x]/\Ki P x=some x':=by
       cases hx:fn.results.toList with
       |nil=>grind [Zn]
       |cons x xs=>
         rw[hx]at hrs;simp only[Zn]at hrs;split at hrs;rename_i x2 r2 e1 e2;cases hrs
         have hxs:xs=[]:=by
           cases xs with
           |nil=>rfl
           |cons y ys=>grind [Zn]
         grind
         grind
      obtain⟨v,q1,q2⟩:=NI C T hpx hres
      grind [Qaq]
     obtain⟨v,q1,q2⟩:=G;have hblk:∀k b B e,lk s'.H k=some b->g'.β k=some (B,e)->w.heap.size<=B\/NW g H B:=λk b B e hk hβ=>((C.bx k b hk).gb hβ).2.2;refine⟨v,q1,v,{g' with K:=K2},rfl,q2,⟨λk b hk=>(hcl k b hk).2,λk b hk=>?_,λk k' b b' B e e' h1 h2 h3 h4=>C.inj k k' b b' B e e' (M k b h1) (M k' b' h2) h3 h4,hkr2⟩,C.ext.1,λb hb hno=>⟨C.ext.2.1 b hb hno, ?_⟩,C.ext.2.2,λk h6 hk=>⟨hin k h6 hk,(C.kp k ⟨h6,hk⟩).2.1,(C.kp k ⟨h6,hk⟩).2.2.1⟩,λk B e hk hk' hβ=>?_⟩;refine(C.bx k b (M k b hk)).move ⟨rfl,rfl⟩ (λ_ _ _ _ _ _=>⟨rfl,rfl⟩) hle λB e hβ=>⟨rfl,λo ho=>?_,λ_=>.inl (QzZ _)⟩;show K2 B o=none;rw[hoth B λk2 b2 e2 p1 p2 p3=>?_];omega;have:=C.inj k k2 b b2 B e e2 (M k b hk) p1 hβ p3;subst this;have h5:=(hcl k b hk).1;simp only[small,decide_eq_true_eq]at p2;omega;show K2 b=g.K b;rw[hoth b λk2 b2 e2 p1 p2 p3=>?_];exact C.kx b hb hno
     grind
     obtain⟨b,hb⟩:=QzT.1 hk';rcases hblk k b B e (M k b hb) hβ with h |⟨k2,e2,h1,h2⟩
     omega
     by_cases h6:1000000<=k2
     obtain⟨_,p1,_,p2⟩:=C.kp k2 ⟨h6,h1⟩;obtain⟨b2,hb2⟩:=QzT.1 p2;have:=C.inj k k2 b b2 B e e2 (M k b hb) hb2 hβ (p1.trans h2);omega
     grind
   cases e<;>simp only[AQ]at hq
   obtain⟨s',g',hq,C⟩:=hq;exact Pk (λn h=>by grind) C λa2 w2 _ r2=>fin0 s' g' a2 w2 hq r2;obtain⟨s',g',hq,C⟩:=hq;trivial;obtain⟨s',g',hq,C⟩:=hq;exact Pk (λn h=>by grind) C λa2 w2 _ r2=>fin0 s' g' a2 w2 hq r2
  grind
  grind
  grind
theorem n6.of (hm:P.follows .mixedOrders=true) (T:P.funcs[f]?=some fn) (hp:Qk P fn=some af) (U:ds.length<=af.nt)
 (G:∀k,1000000<=k->(lk H k).isSome=true->(lk H' k).isSome=true) (M:∀k b,lk H' k=some b->500000<=k/\∀j∈b.ids,(lk H' j).isSome=true)
 (h:AW P af.nt af.body (Fm af.rs d H') ⟨MB 0 ds,H⟩) (O:HD f=[]:=by rfl):n6 P f ds H d H':=n6.jh hm T hp Wa (λg vs C t x hx=>by
  rw[gVs,O,QAV,QAj]at C;rw[RF,if_pos (QzZ _),Nat.sub_zero]at hx;obtain⟨v,h1,h2⟩:=(PD C).2 t x hx
  grind) G M h
theorem n6.ka {dg:D} (hm:P.follows .mixedOrders=true) (Y:P.funcs[f]?=some fn) (hp:Qk P fn=some tf.erase) (V:ds.length<=tf.nt)
 (O:∀k,1000000<=k->(lk H k).isSome=true->(lk H' k).isSome=true) (T:∀k b,lk H' k=some b->500000<=k/\∀j∈b.ids,(lk H' j).isSome=true)
 (h:TW P tf.nt tf.body (Fm tf.rs d H') ⟨MB 0 ds++[(900000,dg)],H⟩) (U:HD f=[0]:=by rfl):n6 P f (ds++[dg]) H d H':=n6.jh (af:=tf.erase) hm Y hp (by rw[U,QAs];exact Nat.add_le_add_right V 1) (λg vs C t x hx=>by
  rw[gVs,U]at C;obtain⟨h1,h2⟩:=PD C;simp only[QAr,QAV,QAs,List.length_singleton,Nat.add_right_cancel_iff]at h1;rw[Z8]at hx;split at hx;rename_i y G;cases hx
  rw[RF,if_pos (QzZ _),Nat.sub_zero]at G;have M:=(QAm.1 G).1;obtain⟨v,h3,h4⟩:=h2 t _ (by rw[QAI M];exact G)
  grind
  rw[Qe]at hx;split at hx;rename_i e;cases hx;subst e;obtain⟨v,h3,h4⟩:=h2 ds.length dg Wc
  grind
  trivial) O T h
theorem n6.b7 (hm:P.follows .mixedOrders=true) (T:P.funcs[f]?=some fn) (hp:Qk P fn=some tf.erase) (M:ds.length<=tf.nt)
 (C:∀k,1000000<=k->(lk H k).isSome=true->(lk H' k).isSome=true) (G:∀k b,lk H' k=some b->500000<=k/\∀j∈b.ids,(lk H' j).isSome=true)
 (h:TW P tf.nt tf.body (Fm tf.rs d H') ⟨MB 0 ds,H⟩) (O:HD f=[]:=by rfl):n6 P f ds H d H':=n6.of (af:=tf.erase) hm T hp M C G h O
end
def Zw (t m k:Nat):Nat:=if k=t then m else if k=m then t else k
theorem ZK (t m k:Nat):Zw t m (Zw t m k)=k:=by
  grind [Zw]
def L1 (ρ:Nat->Nat) (H:QzK):QzK:=H.map λp=>(ρ p.1,p.2.o5 ρ)
def St.o5 (ρ:Nat->Nat) (s:St):St:=⟨s.fr.map λp=>(p.1,p.2.o5 ρ),L1 ρ s.H⟩
theorem Kf {ρ:Nat->Nat} (hρ:∀k,ρ (ρ k)=k):∀(H:QzK) (k:Nat),lk (L1 ρ H) k=(lk H (ρ k)).map (u4.o5 ρ)
  |[],_=>rfl
  |(j,b)::H,k=>by
    have:=Kf hρ H k;simp only[L1,QAr,Qe]at this ⊢
    grind
theorem KZ (t m:Nat) (ht:t<1000000) (hm:m<1000000) (s:St):s.le (s.o5 (Zw t m)):=λE g a w r=>by
  have hρ:=ZK t m;have T:∀k,1000000<=k->Zw t m k=k:=λk hk=>by unfold Zw;grind
  have O:(g.pull (Zw t m)).pull (Zw t m)=g:=by
    show(⟨g.K,λk=>g.β (Zw t m (Zw t m k)),λk=>g.σ (Zw t m (Zw t m k))⟩:Gh)=g
    (repeat clear hK K);simp_all
  have G:=Kf hρ s.H;have C:∀k,(lk (L1 (Zw t m) s.H) (Zw t m k)).isSome=(lk s.H k).isSome:=λk=>by grind
  refine⟨g.pull (Zw t m),r.nt,r.df,λu d h=>?_,λu d h k hk=>?_,λk b h j M=>?_,λk b h=>?_,λk k' b b' B e e' h1 h2 V U=>?_,r.kr,r.ext,r.kx,λk hk=>?_⟩;simp only[St.o5,Z9]at h;obtain⟨d0,h1,rfl⟩:=QzM.1 h;rw[l6.o5,O];exact r.fr u d0 h1;simp only[St.o5,Z9]at h;obtain⟨d0,h1,rfl⟩:=QzM.1 h;rw[j7]at hk;obtain⟨j,M,rfl⟩:=Qz1.1 hk;show(lk (L1 _ s.H) _).isSome=true;rw[C];exact r.s9 u d0 h1 j M;change lk (L1 _ s.H) k=some b at h;rw[G]at h;obtain⟨b0,h1,rfl⟩:=QzM.1 h;rw[u4.j7]at M;obtain⟨i,hi,rfl⟩:=Qz1.1 M;show(lk (L1 _ s.H) _).isSome=true;rw[C];exact r.u9 _ b0 h1 i hi;change lk (L1 _ s.H) k=some b at h;rw[G]at h;obtain⟨b0,h1,rfl⟩:=QzM.1 h;have:=r.bx _ b0 h1
  grind [j6.o5]
  change lk (L1 _ s.H) k=some b at h1;change lk (L1 _ s.H) k'=some b' at h2;rw[G]at h1 h2;obtain⟨b0,q1,rfl⟩:=QzM.1 h1;obtain⟨b1,Y,rfl⟩:=QzM.1 h2;have:=r.inj _ _ b0 b1 B e e' q1 Y V U
  grind
  obtain⟨h1,h2,V,U⟩:=r.kp k hk;refine⟨h1, ?_, ?_, ?_⟩;show g.β (Zw t m k)=_;grind;show g.σ (Zw t m k)=_;grind;show(lk (L1 _ s.H) k).isSome=true
  grind
variable {P:Program} {c x y:y5} {b b' b0:u4} {d':D} {n u:Nat}
def TX (P:Program) (nt:Nat) (c:y5) (Q:AExit->St->Prop) (s:St):Prop:=∃e s',Q e s'/\TW P nt c (λe2 s2=>e2=e/\s2=s') s
section
variable {P:Program} {nt:Nat} {Q Q':AExit->St->Prop} {s:St}
theorem Zh (h:∀e s,Q e s->Q' e s) (k:TW P nt c Q s):TW P nt c Q' s:=λcode E g a w hm hp M C r=>
 wpIn_mono (k code E g a w hm hp M C r) λe a' w' G=>by
  cases e<;>simp[AQ]at G ⊢<;>try exact G
  all_goals
   grind
theorem Jj (h:∀e s,Q e s->Q' e s):TX P nt c Q s->TX P nt c Q' s:=λ⟨e,s',h1,h2⟩=>⟨e,s',h e s' h1,h2⟩
theorem Qlg {op:BinOp} {bt:Bool} {kk:D->Prop} (h:QdX op bt p q kk):∃d,kk d/\∀k2:D->Prop,k2 d->QdX op bt p q k2:=by
 cases p<;>cases q<;>simp[QdX]at h ⊢<;>try exact h.elim
 ·obtain⟨h1,h2⟩:=h;cases op<;>simp[QcP]at h2 ⊢
  all_goals grind
 ·obtain⟨h1,h2⟩:=h;cases op<;>simp[Qle]at h2 ⊢<;>try exact h2.elim
  all_goals grind
 ·cases op<;>simp[QhF]at h ⊢<;>try exact h.elim
  all_goals grind
 grind
theorem Qgs {dr:Bool} {op:z5} {dst:Option Nat} {k:St->Prop} (h:step P dr op dst s k):∃s',k s'/\∀k2:St->Prop,k2 s'->step P dr op dst s k2:=by
 cases op<;>simp only[step]at h ⊢
 case we x=>obtain⟨d,h1,h2⟩:=h;exact⟨_,h2,λk2 hk=>⟨d,h1,hk⟩⟩
 case pick c x y=>obtain⟨cd,h1,t,h2,d,C,G⟩:=h;exact⟨_,G,λk2 hk=>⟨cd,h1,t,h2,d,C,hk⟩⟩
 case alloc et cells=>obtain⟨t,h1,h2,C⟩:=h;exact⟨_,C,λk2 hk=>⟨t,h1,h2,hk⟩⟩
 case box et x=>obtain⟨t,h1,v,h2,cells,C,G,M⟩:=h;exact⟨_,M,λk2 hk=>⟨t,h1,v,h2,cells,C,G,hk⟩⟩
 case build zero parts=>obtain⟨qs,h1,ds,h2,C⟩:=h;exact⟨_,C,λk2 hk=>⟨qs,h1,ds,h2,hk⟩⟩
 case buildSlice l0 et parts=>
  rcases h with⟨t,h1,rows,h2,C,G⟩ |⟨rows,h2,C,G⟩;exact⟨_,G,λk2 hk=>.inl ⟨t,h1,rows,h2,C,hk⟩⟩;exact⟨_,G,λk2 hk=>.inr ⟨rows,h2,C,hk⟩⟩
 case load agg sz x=>
  obtain⟨p,h1,cells,h2,C⟩:=h;cases agg with
  |true=>exact⟨_,C.2,λk2 hk=>⟨p,h1,cells,h2,C.1,hk⟩⟩
  |false=>obtain⟨d,G,M⟩:=C;exact⟨_,M,λk2 hk=>⟨p,h1,cells,h2,d,G,hk⟩⟩
 case store sz x v=>
  obtain⟨p,h1,h2⟩:=h;cases p<;>simp only[QtK]at h2<;>try exact h2.elim
  obtain⟨b,C,row,G,q,M,cells,O,T,U,Y⟩:=h2;exact⟨_,Y,λk2 hk=>⟨_,h1,b,C,row,G,q,M,cells,O,T,U,hk⟩⟩
 case nilCheck x=>obtain⟨p,h1,h2,C⟩:=h;exact⟨_,C,λk2 hk=>⟨p,h1,h2,hk⟩⟩
 case bin op bt x y=>
  obtain⟨p,h1,q,h2,C⟩:=h;obtain⟨d,G,M⟩:=Qlg C;exact⟨_,G,λk2 hk=>⟨p,h1,q,h2,M _ hk⟩⟩
 case eqs neg ks x y=>obtain⟨p,h1,q,h2,xs,C,ys,G,b,M,O⟩:=h;exact⟨_,O,λk2 hk=>⟨p,h1,q,h2,xs,C,ys,G,b,M,hk⟩⟩
 case un op x=>
  obtain⟨p,h1,h2⟩:=h;cases op<;>cases p<;>simp only[unK]at h2<;>try exact h2.elim
  all_goals first
   |exact⟨_,h2,λk2 hk=>⟨_,h1,hk⟩⟩
   |exact⟨_,h2.2,λk2 hk=>⟨_,h1,h2.1,hk⟩⟩
 case conv kk x=>obtain⟨p,h1,d,h2,C⟩:=h;exact⟨_,C,λk2 hk=>⟨p,h1,d,h2,hk⟩⟩
 case k9 sb x=>
  obtain⟨p,h1,h2⟩:=h;cases sb
  cases p<;>simp only[Dd]at h2
  obtain⟨C,l,G,M⟩:=h2;exact⟨_,M,λk2 hk=>⟨_,h1,C,l,G,hk⟩⟩;obtain⟨C,l,G,M⟩:=h2;exact⟨_,M,λk2 hk=>⟨_,h1,C,l,G,hk⟩⟩;obtain⟨b,G,M,O,l,T,U⟩:=h2;exact⟨_,U,λk2 hk=>⟨_,h1,b,G,M,O,l,T,hk⟩⟩;obtain⟨l,C,G⟩:=h2;exact⟨_,G,λk2 hk=>⟨p,h1,l,C,hk⟩⟩
 case nc x=>
  obtain⟨p,h1,h2⟩:=h;cases p<;>simp only[Qon]at h2<;>try exact h2.elim
  exact⟨_,h2,λk2 hk=>⟨_,h1,hk⟩⟩
 case xd l0 et bytes zero x y=>
  obtain⟨t,h1,p,h2,C⟩:=h;cases p<;>simp only[Qon]at C<;>try exact C.elim
  obtain⟨G,q,M,n,O,T,U,Y,V,h11⟩:=C;exact⟨_,h11,λk2 hk=>⟨t,h1,_,h2,G,q,M,n,O,T,U,Y,V,hk⟩⟩
 case slice l0 x lo hi mx=>
  rcases h with h |⟨h0,hlo,p,h1,h2⟩ |⟨h0,l,hlo,p,h1,h2⟩ |⟨h00,h0,l,hlo,p,h1,h2⟩
  rotate_left
  rotate_left
  rotate_left
  cases p<;>simp only[QlE]at h2<;>try exact h2.elim
  obtain⟨b,hb,q1,q2,q3,q4,q5,q6,q7,q8,q9⟩:=h2;exact⟨_,q9,λk2 hk=>.inr (.inr (.inr ⟨h00,h0,l,hlo,_,h1,b,hb,q1,q2,q3,q4,q5,q6,q7,q8,hk⟩))⟩
  rotate_left
  rotate_left
  cases p<;>simp only[Qn3]at h2<;>try exact h2.elim
  obtain⟨C,G,M,O⟩:=h2;exact⟨_,O,λk2 hk=>.inr (.inr (.inl ⟨h0,l,hlo,_,h1,C,G,M,hk⟩))⟩
  rotate_left
  cases p<;>simp only[QgY]at h2<;>try exact h2.elim
  exact⟨_,h2.2,λk2 hk=>.inr (.inl ⟨h0,hlo,_,h1,h2.1,hk⟩)⟩;obtain⟨m,C,G,M,O⟩:=h2;exact⟨_,O,λk2 hk=>.inr (.inl ⟨h0,hlo,_,h1,m,C,G,M,hk⟩)⟩;obtain⟨p,h1,rows,h2,l,C,hh,G,M,O,T,U,Y⟩:=h;cases mx with
  |none=>exact⟨_,Y,λk2 hk=>.inl ⟨p,h1,rows,h2,l,C,hh,G,M,O,T,U,hk⟩⟩
  |some m=>
   obtain⟨V,h11,h12⟩:=Y;exact⟨_,h12,λk2 hk=>.inl ⟨p,h1,rows,h2,l,C,hh,G,M,O,T,U,V,h11,hk⟩⟩
 case a8 x lo hi=>obtain⟨p,h1,c,h2,l,C,hh,G,M,O,T,U⟩:=h;exact⟨_,U,λk2 hk=>⟨p,h1,c,h2,l,C,hh,G,M,O,T,hk⟩⟩
 case fieldAddr off x=>
  obtain⟨p,h1,h2⟩:=h;cases p<;>simp only[MF]at h2<;>try exact h2.elim
  all_goals exact⟨_,h2.2,λk2 hk=>⟨_,h1,h2.1,hk⟩⟩
 case field agg off sz x=>
  obtain⟨p,h1,cells,h2,C⟩:=h;cases agg with
  |true=>exact⟨_,C.2,λk2 hk=>⟨p,h1,cells,h2,C.1,hk⟩⟩
  |false=>obtain⟨d,G,M⟩:=C;exact⟨_,M,λk2 hk=>⟨p,h1,cells,h2,d,G,hk⟩⟩
 case indexAddr l0 x i=>
  obtain⟨n,h1,p,h2,C⟩:=h;cases n<;>try trivial
  cases p<;>simp only[Qbs]at C<;>try exact C.elim
  obtain⟨row,G,M,O,T⟩:=C;exact⟨_,T,λk2 hk=>⟨_,h1,_,h2,row,G,M,O,hk⟩⟩;obtain⟨row,G,M,O,T⟩:=C;exact⟨_,T,λk2 hk=>⟨_,h1,_,h2,row,G,M,O,hk⟩⟩;obtain⟨b,G,M,O,T,U,Y⟩:=C;exact⟨_,Y,λk2 hk=>⟨_,h1,_,h2,b,G,M,O,T,U,hk⟩⟩
 case k8 x i=>
  obtain⟨n,h1,p,h2,C⟩:=h;cases n<;>try trivial
  cases p<;>simp only[Nl]at C<;>try exact C.elim
  obtain⟨c,G,M,O⟩:=C;exact⟨_,O,λk2 hk=>⟨_,h1,_,h2,c,G,M,hk⟩⟩
 case extract i x=>obtain⟨p,h1,ds,h2,d,C,G⟩:=h;exact⟨_,G,λk2 hk=>⟨p,h1,ds,h2,d,C,hk⟩⟩
 case len x=>obtain⟨p,h1,n,h2,C⟩:=h;exact⟨_,C,λk2 hk=>⟨p,h1,n,h2,hk⟩⟩
 case o9 x=>obtain⟨p,h1,l,h2,C⟩:=h;exact⟨_,C,λk2 hk=>⟨p,h1,l,h2,hk⟩⟩
 case min x y=>
  obtain⟨p,h1,q,h2,C⟩:=h;cases p<;>try trivial
  cases q<;>simp only[Qtj]at C<;>try exact C.elim
  exact⟨_,C,λk2 hk=>⟨_,h1,_,h2,hk⟩⟩
 case max x y=>
  obtain⟨p,h1,q,h2,C⟩:=h;cases p<;>try trivial
  cases q<;>simp only[Qti]at C<;>try exact C.elim
  exact⟨_,C,λk2 hk=>⟨_,h1,_,h2,hk⟩⟩
 case append l0 et bytes x y=>
  obtain⟨p,h1,q,h2,C⟩:=h
  have happ:∀(ys:List (List D)) (pr:Bool),Qjt dr l0 et bytes dst s p ys pr k->∃s',k s'/\∀k2,k2 s'->Qjt dr l0 et bytes dst s p ys pr k2:=by
   intro ys pr M;cases p<;>simp only[Qjt]at M<;>try exact M.elim
   obtain⟨t,O,T,U,Y,V,h11,h12⟩:=M;exact⟨_,h12,λk2 hk=>⟨t,O,T,U,Y,V,h11,hk⟩⟩;obtain⟨hd,hk0,b,O,T,U,Y,V,h12,h13,h14⟩:=M;exact⟨_,h14,λk2 hk=>⟨hd,hk0,b,O,T,U,Y,V,h12,h13,hk⟩⟩
  cases q<;>simp only[Dd]at C<;>try exact C.elim
  obtain⟨s',q1,q2⟩:=happ _ _ C.2;exact⟨s',q1,λk2 hk=>⟨p,h1,_,h2,C.1,q2 k2 hk⟩⟩;obtain⟨s',q1,q2⟩:=happ _ _ C.2;exact⟨s',q1,λk2 hk=>⟨p,h1,_,h2,C.1,q2 k2 hk⟩⟩;obtain⟨b,G,M,O,T⟩:=C;obtain⟨s',q1,q2⟩:=happ _ _ T;exact⟨s',q1,λk2 hk=>⟨p,h1,_,h2,b,G,M,O,q2 k2 hk⟩⟩
 case makeSlice l0 et bytes zero x y=>
  obtain⟨p,h1,q,h2,C⟩:=h;cases p<;>try trivial
  cases q<;>simp only[Qmm]at C<;>try exact C.elim
  obtain⟨t,G,M,O,T,U,Y,V⟩:=C;exact⟨_,V,λk2 hk=>⟨_,h1,_,h2,t,G,M,O,T,U,Y,hk⟩⟩
 case range x=>obtain⟨t,h1,p,h2,l,C,G,M⟩:=h;exact⟨_,M,λk2 hk=>⟨t,h1,p,h2,l,C,G,hk⟩⟩
 case next x=>
  obtain⟨hd,p,h1,h2⟩:=h;unfold Ql1 at h2;split at h2;obtain⟨l,q,C,G⟩:=h2;rcases G with⟨G,M⟩ |⟨G,M⟩
  exact⟨_,M,λk2 hk=>⟨hd,_,h1,l,q,C,.inl ⟨G,hk⟩⟩⟩;exact⟨_,M,λk2 hk=>⟨hd,_,h1,l,q,C,.inr ⟨G,hk⟩⟩⟩
  grind
 case b8 len l0 x i=>
  obtain⟨nd,h1,p,h2,C⟩:=h;cases nd<;>try trivial
  obtain⟨G,M,O⟩:=C;cases p<;>simp only[MF]at O<;>try exact O.elim
  all_goals exact⟨_,O.2,λk2 hk=>⟨_,h1,_,h2,G,M,O.1,hk⟩⟩
 case j8 agg len l0 x i=>
  obtain⟨nd,h1,n,h2,p,C,cells,G,M,O,T⟩:=h;cases agg with
  |true=>exact⟨_,T.2,λk2 hk=>⟨nd,h1,n,h2,p,C,cells,G,M,O,T.1,hk⟩⟩
  |false=>obtain⟨d,U,Y⟩:=T;exact⟨_,Y,λk2 hk=>⟨nd,h1,n,h2,p,C,cells,G,M,O,d,U,hk⟩⟩
 case call f args=>obtain⟨ds,h1,d,h2,C,G⟩:=h;exact⟨_,G,λk2 hk=>⟨ds,h1,d,h2,C,hk⟩⟩
 case yd f xs=>
  obtain⟨ds,h1,h2,C |⟨kk,ps,q1,q2,q3,C⟩⟩:=h;exact⟨_,C,λk2 hk=>⟨ds,h1,h2,.inl hk⟩⟩;exact⟨_,C,λk2 hk=>⟨ds,h1,h2,.inr ⟨kk,ps,q1,q2,q3,hk⟩⟩⟩
 case oe f xs=>obtain⟨ds,h1,h2,C⟩:=h;exact⟨_,C,λk2 hk=>⟨ds,h1,h2,hk⟩⟩
 case ga x az=>
  obtain⟨p,h1,h2⟩:=h;rcases h2 with h2 |⟨rfl,h2⟩
  cases p<;>simp only[QsV]at h2<;>try exact h2.elim
  obtain⟨C,ds,G,d,M,O,T⟩:=h2;exact⟨_,T,λk2 hk=>⟨_,h1,.inl ⟨C,ds,G,d,M,O,hk⟩⟩⟩;cases p<;>simp only[QsH]at h2<;>try exact h2.elim
  obtain⟨C,d,M,O,T⟩:=h2;exact⟨_,T,λk2 hk=>⟨_,h1,.inr ⟨rfl,C,d,M,O,hk⟩⟩⟩
theorem JC {K:St->Prop}:∀{l:List z1} {dr:Dr} {s:St},run P dr l K s->∃s',K s'/\∀k2:St->Prop,k2 s'->run P dr l k2 s
 |[],_,s,h=>⟨s,h,λ_ hk=>hk⟩
 |⟨dst,op,none⟩::r,dr,s,h=>by
  simp[run]at h ⊢;rcases h with⟨h1,h2⟩ |⟨p,q,d,ef,h1,h2,C⟩ |⟨f,args,HF,T,O,d,h1,h2,C,G⟩ |⟨s',d,bx,h1,h2,C,G⟩
  obtain⟨s1,C,h4⟩:=Qgs h2;obtain⟨s2,G,M⟩:=JC C
  grind
  obtain⟨s2,M,U⟩:=JC C
  grind
  obtain⟨s2,M,U⟩:=JC G
  grind
  obtain⟨s2,M,U⟩:=JC G
  grind
 |⟨dst,op,some (t,b)⟩::r,dr,s,h=>by
  obtain⟨d,h0,h⟩:=h
  have Y:((dr.ok r.length (HC op (pk op s)) (Kl op (wk op s))=true/\step P dr.dr op dst s λs'=>run P (dr.nx (Md op dst r) (HC op (pk op s)) (Kl op (wk op s))) r K s')\/
    (∃p q d ef,EF P dr.B op dst s p q d ef/\dr.ok r.length (HC op p) (Kl op q)=true/\run P (dr.nx (ZL dst.toList r) (HC op p) (Kl op q)) r K (s.g8 dst d ef))\/
    (∃f args HF T O d,dr=.fixed/\Jg s op f args/\FA P f args s HF T O d/\run P dr r K (St.apply {s with H:=T++(O++s.H)} dst d none))\/
    ∃s' d bx,dr=.fixed/\s.le s'/\Xz P ⟨dst,op,none⟩ s' d bx/\run P dr r K (s'.apply dst d bx))->
    ∃s',K s'/\∀k2,k2 s'->((dr.ok r.length (HC op (pk op s)) (Kl op (wk op s))=true/\step P dr.dr op dst s λs'=>run P (dr.nx (Md op dst r) (HC op (pk op s)) (Kl op (wk op s))) r k2 s')\/
    (∃p q d ef,EF P dr.B op dst s p q d ef/\dr.ok r.length (HC op p) (Kl op q)=true/\run P (dr.nx (ZL dst.toList r) (HC op p) (Kl op q)) r k2 (s.g8 dst d ef))\/
    (∃f args HF T O d,dr=.fixed/\Jg s op f args/\FA P f args s HF T O d/\run P dr r k2 (St.apply {s with H:=T++(O++s.H)} dst d none))\/
    ∃s' d bx,dr=.fixed/\s.le s'/\Xz P ⟨dst,op,none⟩ s' d bx/\run P dr r k2 (s'.apply dst d bx)):=λh=>by
   rcases h with⟨h1,h2⟩ |⟨p,q,d,ef,h1,h2,C⟩ |⟨f,args,HF,T,O,d,h1,h2,C,G⟩ |⟨s',d,bx,h1,h2,C,G⟩;obtain⟨s1,C,h4⟩:=Qgs h2
   obtain⟨s2,G,M⟩:=JC C
   grind
   obtain⟨s2,M,U⟩:=JC C
   grind
   obtain⟨s2,M,U⟩:=JC G
   grind
   obtain⟨s2,M,U⟩:=JC G
   grind
  have V:run P dr r K (s.apply dst .undef none)->∃s',K s'/\∀k2,k2 s'->run P dr r k2 (s.apply dst .undef none):=JC;cases d<;>simp only[Rv]at h<;>try exact h.elim
  obtain⟨s2,h1,h2⟩:=V h;exact⟨s2,h1,λk2 hk=>⟨_,h0,h2 k2 hk⟩⟩;rename_i c;cases c<;>cases b;obtain⟨s2,h1,h2⟩:=Y (h.1 rfl);exact⟨s2,h1,λk2 hk=>⟨_,h0,⟨λ_=>h2 k2 hk,λh=>by cases h⟩⟩⟩;obtain⟨s2,h1,h2⟩:=V (h.2 rfl);exact⟨s2,h1,λk2 hk=>⟨_,h0,⟨(λh=>by cases h),λ_=>h2 k2 hk⟩⟩⟩;obtain⟨s2,h1,h2⟩:=V (h.2 rfl);exact⟨s2,h1,λk2 hk=>⟨_,h0,⟨(λh=>by cases h),λ_=>h2 k2 hk⟩⟩⟩;obtain⟨s2,h1,h2⟩:=Y (h.1 rfl);exact⟨s2,h1,λk2 hk=>⟨_,h0,⟨λ_=>h2 k2 hk,λh=>by cases h⟩⟩⟩
variable {l:List Nat} {b:y5} {id i:Nat}
theorem Qjo {dr:Bool} (h:∀K:St->Prop,(∀fr H,TX P nt b Q ⟨Qz l fr,H⟩->K ⟨fr,H⟩)->run P (Dr.of s.H dr) ops K s):TX P nt (.seq (.region dr ops) l b) Q s:=by
 obtain⟨s1,⟨e,s2,h1,h2⟩,G⟩:=JC (h (λst=>TX P nt b Q ⟨Qz l st.fr,st.H⟩) λfr H h=>h);exact⟨e,s2,h1,MW λK C=>G K (C s1.fr s1.H h2)⟩
theorem QdE {dr:Bool} (h:∀K:St->Prop,(∀s',Q .normal s'->K s')->run P (Dr.of s.H dr) ops K s):TX P nt (.region dr ops) Q s:=by
 obtain⟨s1,h1,G⟩:=JC (h (Q .normal) λ_ h=>h);exact⟨.normal,s1,h1,Mw λK C=>G K (C s1 ⟨rfl,rfl⟩)⟩
def Qqs (P:Program) (nt:Nat) (l:List Nat) (b:y5) (Q:AExit->St->Prop):AExit->St->Prop
 | .normal,s=>TX P nt b Q ⟨Qz l s.fr,s.H⟩
 |e,s=>Q e s
theorem Qhx (h:TX P nt a (Qqs P nt l b Q) s):TX P nt (.seq a l b) Q s:=by
 obtain⟨e,s1,h1,h2⟩:=h;cases e with
 |normal=>
  obtain⟨e2,s2,G,C⟩:=h1;exact⟨e2,s2,G,Kr (Zh (λ_ _ ⟨p,q⟩=>by subst p q;exact C) h2)⟩
 |exit n=>exact⟨.exit n,s1,h1,Kr (Zh (λ_ _ ⟨p,q⟩=>by subst p q;trivial) h2)⟩
 |ret=>exact⟨.ret,s1,h1,Kr (Zh (λ_ _ ⟨p,q⟩=>by subst p q;trivial) h2)⟩
theorem DP {c:n5} {t:Bool} (M:s.ev c=some (.bool t)) (h1:t=true->TX P nt x Q s) (h2:t=false->TX P nt y Q s):TX P nt (.cond c x y) Q s:=by
 cases t
 obtain⟨e,s1,G,C⟩:=h2 rfl;exact⟨e,s1,G,QP M C⟩;obtain⟨e,s1,G,C⟩:=h1 rfl;exact⟨e,s1,G,Qx M C⟩
theorem HH {c:n5} (C:s.ev c=some (.bool true)) (h1:TX P nt x Q s):TX P nt (.cond c x y) Q s:=DP C (λ_=>h1) (λh=>by cases h)
theorem BA {c:n5} (C:s.ev c=some (.bool false)) (h1:TX P nt y Q s):TX P nt (.cond c x y) Q s:=DP C (λh=>by cases h) (λ_=>h1)
theorem Bz (h:TX P nt a (YX id Q) s):TX P nt (.block id a) Q s:=by
 obtain⟨e,s1,h1,h2⟩:=h;cases e with
 |normal=>exact⟨.normal,s1,h1,HG (Zh (λ_ _ ⟨p,q⟩=>by subst p q;trivial) h2)⟩
 |ret=>exact⟨.ret,s1,h1,HG (Zh (λ_ _ ⟨p,q⟩=>by subst p q;trivial) h2)⟩
 |exit n=>
  by_cases hn:n=id
  subst hn;simp[YX]at h1;exact⟨.normal,s1,h1,HG (Zh (λ_ _ ⟨p,q⟩=>by simp_all [YX]) h2)⟩;simp[YX,if_neg hn]at h1;exact⟨.exit n,s1,h1,HG (Zh (λ_ _ ⟨p,q⟩=>by simp_all [YX]) h2)⟩
theorem QkV (h:TX P nt a Q s):TX P nt (.scope a) Q s:=let⟨e,s1,h1,h2⟩:=h;⟨e,s1,h1,PR h2⟩
theorem QdL (h:Q (.exit id) s):TX P nt (.exit id) Q s:=⟨_,s,h,Mx ⟨rfl,rfl⟩⟩
theorem QkU (h:Q .ret s):TX P nt .ret Q s:=⟨_,s,h,By ⟨rfl,rfl⟩⟩
theorem QdM (h:Q .normal s):TX P nt .skip Q s:=⟨_,s,h,SU ⟨rfl,rfl⟩⟩
theorem QoN (h:s.le s') (hw:TX P nt c Q s'):TX P nt c Q s:=let⟨e,s1,h1,h2⟩:=hw;⟨e,s1,h1,Dx h h2⟩
inductive x8 (P:Program) (nt:Nat) (a:y5) (e:AExit) (s':St):Nat->St->Prop
 |stop {s:St}:TW P nt a (λe2 s2=>e2=e/\s2=s') s->e≠.normal->x8 P nt a e s' 0 s
 |next {s t s2:St} {n:Nat}:TW P nt a (λe2 s3=>e2=.normal/\s3=t) s->t.le s2->x8 P nt a e s' n s2->x8 P nt a e s' (n+1) s
theorem x8.tw (h:x8 P nt a e s' n s):TW P nt (.loop a) (λe2 s2=>e2=e/\s2=s') s:=by
 refine QE (λj=>j.2) (λj=>x8 P nt a e s' j.1 j.2) (λj=>j.1) (n,s) (le_refl _) h λj C=>?_;obtain⟨m,st⟩:=j;cases C with
 |stop h1 h2=>
  refine Zh (λe2 s2 ⟨p,q⟩=>?_) h1;cases e2 with
  |normal=>grind
  |exit n=>trivial
  |ret=>trivial
 |next h1 h2 h3=>
  refine Zh (λe2 s2 ⟨p,q⟩=>?_) h1;subst p q;exact⟨(_,_),h2,h3,QAX _⟩
theorem Xg (st:ι->St) (I:ι->Prop) (μ:ι->Nat) (i0:ι) (h0:s.le (st i0)) (O:I i0) (round:∀i,I i->TX P nt a (Tv st I μ i Q) (st i)):TX P nt (.loop a) Q s:=by
 refine QoN h0 ?_
 have key:∀n i,μ i=n->I i->∃e s',Q e s'/\∃m,x8 P nt a e s' m (st i):=by
  intro n
  induction n using Nat.strongRecOn with
  |_ n ih=>
   intro i G hi;obtain⟨e,s1,h1,h2⟩:=round i hi;cases e with
   |normal=>
    obtain⟨j,hle,M,C⟩:=h1;obtain⟨e,s',U,m,T⟩:=ih (μ j) (G ▸ C) j rfl M;exact⟨e,s',U,m+1,.next h2 hle T⟩
   |exit k=>exact⟨_,_,h1,0,.stop h2 Wc⟩
   |ret=>exact⟨_,_,h1,0,.stop h2 Wc⟩
 obtain⟨e,s',h1,m,h2⟩:=key _ i0 rfl O;exact⟨e,s',h1,h2.tw⟩
theorem QoO (st:ι->St) (I:ι->Prop) (h:TX P nt a (Qil st I Q) s) (k:∀j,I j->TX P nt b Q (st j)):TX P nt (.seq a l b) Q s:=by
 obtain⟨e,s1,h1,h2⟩:=h;cases e with
 |normal=>
  obtain⟨j,hle,C⟩:=h1;obtain⟨e2,s2,M,G⟩:=k j C;refine⟨e2,s2,M,FQ (λ_=>st j) (λ_=>True) (Zh (λ_ _ ⟨p,q⟩=>by subst p q;exact⟨(),hle,trivial⟩) h2) λ_ _=>G⟩
 |exit n=>exact⟨.exit n,s1,h1,Kr (Zh (λ_ _ ⟨p,q⟩=>by subst p q;trivial) h2)⟩
 |ret=>exact⟨.ret,s1,h1,Kr (Zh (λ_ _ ⟨p,q⟩=>by subst p q;trivial) h2)⟩
theorem PQ (h:Qz l fr=fr') (k:TX P nt b Q ⟨fr',H⟩):TX P nt b Q ⟨Qz l fr,H⟩:=h ▸ k
theorem Be (h:Qz l fr=fr') (k:TX P nt b Q ⟨fr',H⟩):Qqs P nt l b Q .normal ⟨fr,H⟩:=by
 grind [Qqs]
theorem Bd (h:Q (.exit id) s):Qqs P nt l b Q (.exit id) s:=h
theorem Qcp (h:Q .ret s):Qqs P nt l b Q .ret s:=h
end
section
variable {P:Program}
theorem Ok.jd {R:D->Prop} (hm:P.follows .mixedOrders=true) (M:P.funcs[f]?=some fn) (hp:Qk P fn=some tf.erase) (C:ds.length<=tf.nt)
 (h:TX P tf.nt tf.body (λe s=>∃d,R d/\s7 tf.rs d e s) ⟨MB 0 ds,[]⟩) (G:HD f=[]:=by rfl):∃d,R d/\Ok P f ds d:=by
 obtain⟨e,s,⟨d,h1,h2⟩,O⟩:=h
 grind [Ok.b7,Zh]
theorem n6.jd {R:D->QzK->Prop} (hm:P.follows .mixedOrders=true) (M:P.funcs[f]?=some fn) (hp:Qk P fn=some tf.erase) (C:ds.length<=tf.nt)
 (h:TX P tf.nt tf.body (λe s=>∃d H',R d H'/\(∀k,1000000<=k->(lk H k).isSome=true->(lk H' k).isSome=true)/\(∀k b,lk H' k=some b->500000<=k/\∀j∈b.ids,(lk H' j).isSome=true)/\Fm tf.rs d H' e s) ⟨MB 0 ds,H⟩) (G:HD f=[]:=by rfl):∃d H',R d H'/\n6 P f ds H d H':=by
 obtain⟨e,s,⟨d,H',h1,h2,U,T⟩,O⟩:=h
 grind [n6.b7,Zh]
end
section
variable {fr:QzL} {H H':QzK} {t:Nat}
theorem ZH (h:lk fr t=some p) (hd:FN small ⟨fr,H⟩ p=d) (C:∀k b,lk H' k=some b->lk H k=some b) (he:e=.ret\/e=.normal:=by first |exact .inl rfl |exact .inr rfl):Fm [.tmp t] d H' e ⟨fr,H⟩:=by
 subst hd;rcases he with rfl |rfl<;>exact⟨.inr (.inl ⟨_,rfl,_,h,rfl⟩),C⟩
theorem Y9 (h:lk fr t=some p) (h2:lk fr u=some q) (hd:FN small ⟨fr,H⟩ p=d/\FN small ⟨fr,H⟩ q=d') (hp:d.pure=true/\d'.pure=true) (C:∀k b,lk H' k=some b->lk H k=some b) (he:e=.ret\/e=.normal:=by first |exact .inl rfl |exact .inr rfl):Fm [.tmp t,.tmp u] (.l7 [d,d']) H' e ⟨fr,H⟩:=by
 obtain⟨rfl,rfl⟩:=hd;rcases he with rfl |rfl<;>exact⟨.inr (.inr (.inl ⟨_,_,_,_,rfl,rfl,hp.1,hp.2,⟨_,h,rfl⟩,⟨_,h2,rfl⟩⟩)),C⟩
end
theorem Qd6 {args:List n5} {ds':List D} {U:Nat} (ha:QD s args=some ds) (hb:lk s.H k=some b) (hp:b.pr=true) (hk:k<1000000) (Y:lk s.H t=none) (V:t<1000000) (T:∀x∈ds,∀j∈x.ids,j=k) (O:∃x∈ds,k∈x.ids) (G:b'.pr=true)
 (hu:ds.map (QsA k)=ds') (M:n6 P f ds' [(500000,b)] (.s4 500000 U) [(500000,b')]):QcT P f args s [] k t b b' U:=by
 subst hu;exact⟨ds,ha,hb,hp,hk,Y,V,(λj x C=>by cases C),(λj x C=>by cases C),(λx hx j C=>.inl (T x hx j C)),O,G,M⟩
section
variable {fr:QzL} {H:QzK} {t u:Nat}
theorem s7.eq {rs:List Xy} (h:s7 rs d e s) (hd:d=d'):s7 rs d' e s:=hd ▸ h
theorem ZI {sz:Nat} {cells cs:List D} (h:lk fr t=some p) (ha:St.ad ⟨fr,H⟩ p=some cells) (C:Nat.ble sz cells.length=true) (G:cells.take sz=cs) (h2:lk fr u=some q) (hd:XL ⟨fr,H⟩ (.agg cs)=.agg ds/\XL ⟨fr,H⟩ q=d')
 (he:e=.ret\/e=.normal:=by first |exact .inl rfl |exact .inr rfl):s7 [.cell t true sz,.tmp u] (.l7 [.agg ds,d']) e ⟨fr,H⟩:=by
 subst G;obtain⟨M,rfl⟩:=hd
 have:Tt ⟨fr,H⟩ [.cell t true sz,.tmp u] [.agg ds,XL ⟨fr,H⟩ q]:=
  ⟨_,_,rfl,⟨p,cells,h,HK.2 ha,by exact⟨QzN C,M.symm⟩⟩,_,_,rfl,⟨q,h2,rfl⟩,rfl⟩
 rcases he with rfl |rfl<;>exact⟨_,rfl,this⟩
end
theorem Nq (h:lk [(m,b0)] k=some b):k=m/\b=b0:=by
 rw[Qe]at h;split at h
 grind
 trivial
theorem n6.mv (hm:P.follows .mixedOrders=true) (O:P.funcs[f]?=some fn) (hp:Qk P fn=some tf.erase) (G:ds.length<=tf.nt) (hb:b'.pr=true)
 (h:TW P tf.nt tf.body (Fm tf.rs d [(500000,b')]) ⟨MB 0 ds,[(500000,b)]⟩) (M:HD f=[]:=by rfl):n6 P f ds [(500000,b)] d [(500000,b')]:=by
 refine n6.b7 hm O hp G (λk hk h1=>?_) (λk x hk=>?_) h M;obtain⟨y,C⟩:=QzT.1 h1;obtain⟨rfl,_⟩:=Nq C;omega;obtain⟨rfl,rfl⟩:=Nq hk
 (repeat clear hK K);simp_all [u4.ids]
theorem Qaw (h:lk H m=some b0):∀k b,lk [(m,b0)] k=some b->lk H k=some b:=λk b hk=>by
 obtain⟨rfl,rfl⟩:=Nq hk;exact h
theorem T3 {i off:Nat} {row:List D} (hb:lk s.H k=some b) (hr:b.rows[i]?=some row):s.ad (.ref k i off)=some (row.drop off):=by
 grind [St.ad]
theorem Qaa {l:List Nat} {fr1:QzL} (m:Nat) (hk:Qz l fr=fr1) (hp:(fr1.all λp=>p.2.ids.isEmpty)=true) (hu:lk fr u=some (.s4 t n)) (hb:lk H t=some b) (G:b.pr=true)
 (hB:QdW H []=true:=by rfl) (Y:t<1000000:=by decide) (hm:m<1000000:=by decide):St.le ⟨fr,H⟩ ⟨(u,.s4 m n)::fr1,[(m,b)]⟩:=λE g a w r=>by
 obtain⟨g',V⟩:=KZ t m Y hm ⟨fr,H⟩ E g a w r;have hsw:Zw t m t=m:=by unfold Zw;simp
 have O:b.o5 (Zw t m)=b:=u4.n9 ((r.bx t b hb).2.1 G)
 have U:∀v d,lk fr1 v=some d->d.ids=[]:=λv d h=>by
  simp only[QzX]at hp;have:=hp (v,d) (QV h)
  grind
 refine⟨g',V.less (λv d h=>?_) (λj x h=>?_) (λv d h j T=>?_) (λj x h i hi=>?_) λj T hs=>?_⟩;simp only[St.o5,Z9];rw[Qe]at h;split at h
 grind [D.o5,D.o6]
 ·have h2:lk fr v=some d:=by grind [YA]
  have one:∀d:D,d.l4=[]->d.o6 (Zw t m)=d:=λd hd=>by cases d<;>first |rfl |(trivial)
  cases d<;>first |rfl |trivial |skip
  all_goals
   grind [D.o5,D.ids,List.flatMap_eq_nil_iff,ZG]
 obtain⟨rfl,rfl⟩:=Nq h;show lk (L1 (Zw t j) H) j=some x
 grind [Kf,ZK]
 grind [Qe,D.ids,D.l4]
 obtain⟨rfl,rfl⟩:=Nq h
 grind [u4.ids]
 have C:(lk (L1 (Zw t m) H) j).isSome=true:=hs;rw[Kf (ZK t m),Qz5]at C;have M:Zw t m j=j:=by unfold Zw;grind
 rw[M]at C;have:=N4 hB j T C;trivial
section
variable {P:Program} {dr:Dr} {r:List z1} {K:St->Prop} {fr:QzL} {H:QzK} {t:Nat} {bt:Bool} {x y:n5} {ki kj:IntKind} {m n z:Int}
end
variable {H1:QzK} {fr1:QzL} {l lH:List Nat} {ρ:Nat->Nat}
theorem Kb (h:∀k∈d.l4,S k=false):d.o7 H S=d:=by
 cases d<;>try rfl
 (repeat clear hK K);simp_all [D.o7,D.l4]
 (repeat clear hK K);simp_all [D.o7,D.l4]
 (repeat clear hK K);simp_all [D.o7,D.l4]
 (repeat clear hK K);simp_all [D.o7,D.l4]
theorem QeK (h:∀k∈d.ids,S k=false):d.fz H S=d:=by
 cases d
 case agg cs=>
  simp only[D.fz];rw[ZG λx hx=>Kb λk hk=>h k (QzU.2 ⟨x,hx,hk⟩)]
 case w8 f cs=>
  simp only[D.fz];rw[ZG λx hx=>Kb λk hk=>h k (QzU.2 ⟨x,hx,hk⟩)]
 case w9 cs z=>
  simp only[D.fz];rw[ZG λx hx=>Kb λk hk=>h k (QzU.2 ⟨x,hx,hk⟩)]
 case s4 k n=>exact Kb (d:=.s4 k n) h
 case y9 k lo c n=>exact Kb (H:=H) (d:=.y9 k lo c n) h
 case ref k i o=>exact Kb (d:=.ref k i o) h
 case r9 f k ps=>exact Kb (H:=H) (d:=.r9 f k ps) h
 all_goals rfl
theorem Qd0 (h:b.pr=true\/∀k∈b.ids,S k=false):b.fz H S=b:=by
 unfold u4.fz;split;rfl;rename_i hp;have G:=h.resolve_left hp;have C:b.ids=b.rows.flatMap λr=>r.flatMap D.l4:=by unfold u4.ids;grind
 rw[C]at G
 have key:∀rows:List (List D),(∀k∈rows.flatMap (λr=>r.flatMap D.l4),S k=false)->(rows.map λr=>r.map (D.o7 H S))=rows:=by
  intro rows
  induction rows with
  |nil=>simp
  |cons r rs ih=>
   intro G
   rw[QAr,ih (λk hk=>G k Wb),
    ZG λx hx=>Kb λk hk=>G k Wb]
 have this:=key b.rows G;rw[this]
theorem Cw (k t:Nat) (U:Qz l fr=fr1) (hH:Zs lH H=H1) (ht:lk fr t=some (.s4 k n)) (hb:lk H k=some b) (hp:b.pr=true) (hn:n=b.rows.length)
 (O:(fr1.all λp=>!p.2.ids.contains k)=true) (M:(H1.all λp=>p.1 != k&&(p.2.pr||!p.2.ids.contains k))=true) (hw:ua H1 fr1=true) (V:QdW H H1=true) (hk:k<1000000:=by decide):St.le ⟨fr,H⟩ ⟨(t,.sl b.rows)::fr1,H1⟩:=by
 intro E g a w r;obtain⟨g',_,T⟩:=r.freeze k hk;subst U hH;simp only[ua,QzR,QzX]at hw;simp only[QzX,QAU,QA0,decide_eq_false_iff_not]at O;simp only[QzX,QzR,QAT,QAU,QA0,decide_eq_false_iff_not,bne_iff_ne,ne_eq]at M
 have Y:∀(x:D),k∉x.ids->x.fz H (·==k)=x:=λx hx=>QeK λj C=>by
  grind
 refine⟨g',T.less (λu d h=>?_) (λj x h=>?_) (λu d h j C=>?_) (λj x h i hi=>hw.2 (j,x) (QV h) i hi) λj C G=>?_⟩;simp only[St.freeze,Z9];rw[Qe]at h;split at h;rename_i e;cases h;subst e
 (repeat clear hK K);simp_all [D.fz,D.o7]
 have h1:=YA l fr u d h;rw[h1,QAy,Y d (O (u,d) (QV h))];have h1:=X8 lH H j x h;have h2:=M (j,x) (QV h);simp only[St.freeze,MJ];rw[if_neg h2.1,Z9 (u4.fz H (·==k)),h1,QAy]
 congr 1
 refine Qd0 (h2.2.imp id λh3 i hi=>?_)
 grind
 rw[Qe]at h;split at h;cases h;trivial;exact hw.1 (u,d) (QV h) j C
 have:(lk H j).isSome=true:=by
  simp only[St.freeze,MJ]at G;rw[if_neg Wa,Z9 (u4.fz H (·==k)),Qz5]at G;omega
 grind [N4]
theorem LI {α:Type} {f:α->List D} {l:List α}:Qhf (.sl (l.map f))=some (l.length:Int):=by simp[Qhf]
theorem J3 (h:∀k∈d.l4,ρ k=k):d.o6 ρ=d:=by
 cases d<;>try rfl
 grind [D.o6,D.l4]
 grind [D.o6,D.l4]
 grind [D.o6,D.l4]
 grind [D.o6,D.l4]
theorem Qao (h:∀k∈d.ids,ρ k=k):d.o5 ρ=d:=by
 cases d
 case agg cs=>
  simp only[D.o5];rw[ZG λx hx=>J3 λk hk=>h k (QzU.2 ⟨x,hx,hk⟩)]
 case w8 f cs=>
  simp only[D.o5];rw[ZG λx hx=>J3 λk hk=>h k (QzU.2 ⟨x,hx,hk⟩)]
 case w9 cs z=>
  simp only[D.o5];rw[ZG λx hx=>J3 λk hk=>h k (QzU.2 ⟨x,hx,hk⟩)]
 case s4 k n=>exact J3 (d:=.s4 k n) h
 case y9 k lo c n=>exact J3 (d:=.y9 k lo c n) h
 case ref k i o=>exact J3 (d:=.ref k i o) h
 case r9 f k ps=>exact J3 (d:=.r9 f k ps) h
 all_goals rfl
theorem N5 (hp:b.pr=false) (h:∀k∈b.ids,ρ k=k):b.o5 ρ=b:=by
 have C:b.ids=b.rows.flatMap λr=>r.flatMap D.l4:=by unfold u4.ids;grind
 rw[C]at h
 have key:∀rows:List (List D),(∀k∈rows.flatMap (λr=>r.flatMap D.l4),ρ k=k)->(rows.map λr=>r.map (D.o6 ρ))=rows:=by
  intro rows
  induction rows with
  |nil=>simp
  |cons r rs ih=>
   intro G
   rw[QAr,ih (λk hk=>G k Wb),
    ZG λx hx=>J3 λk hk=>G k Wb]
 unfold u4.o5;rw[key b.rows h]
theorem FC (t m u:Nat) (hf:Qz l fr=fr1) (hH:Zs lH H=H1) (hu:lk fr u=some (.s4 t n)) (hb:lk H t=some b) (M:b.pr=true)
 (V:(fr1.all λp=>!p.2.ids.contains t&&!p.2.ids.contains m)=true) (U:(H1.all λp=>p.1 != t&&p.1 != m&&(p.2.pr||(!p.2.ids.contains t&&!p.2.ids.contains m)))=true) (hw:ua H1 fr1=true) (hbk:QdW H H1=true) (ht:t<1000000:=by decide) (hm:m<1000000:=by decide):
  St.le ⟨fr,H⟩ ⟨(u,.s4 m n)::fr1,(m,b)::H1⟩:=λE g a w r=>by
 subst hf hH;obtain⟨g',Y⟩:=KZ t m ht hm ⟨fr,H⟩ E g a w r;have hsw:Zw t m t=m:=by unfold Zw;simp
 have hsm:Zw t m m=t:=by grind [ZK]
 have C:∀k,k≠t->k≠m->Zw t m k=k:=λk h1 h2=>by unfold Zw;grind
 have T:b.o5 (Zw t m)=b:=u4.n9 ((r.bx t b hb).2.1 M);simp only[ua,QzR,QzX]at hw;simp only[QzX,QzR,QAU,QA0,decide_eq_false_iff_not]at V;simp only[QzX,QzR,QAT,QAU,QA0,decide_eq_false_iff_not,bne_iff_ne,ne_eq]at U
 have up:∀j,(lk (Zs lH H) j).isSome=true->(lk ((m,b)::Zs lH H) j).isSome=true:=λj O=>by
  grind [Qe]
 refine⟨g',Y.less (λv d h=>?_) (λj x h=>?_) (λv d h j O=>?_) (λj x h i hi=>?_) λj O hs=>?_⟩;simp only[St.o5,Z9];rw[Qe]at h;split at h
 grind [D.o5,D.o6]
 have h2:=YA l fr v d h;rw[h2,QAy]
 congr 1
 have G:=V (v,d) (QV h);exact Qao λk hk=>C k Wb Wb;show lk (L1 (Zw t m) H) j=some x;rw[Kf (ZK t m)];rw[Qe]at h;split at h
 grind
 have h2:=X8 lH H j x h;have G:=U (j,x) (QV h);rw[C j G.1.1 G.1.2,h2,QAy]
 congr 1
 cases hp:x.pr with
 |true=>exact u4.n9 ((r.bx j x h2).2.1 hp)
 |false=>
  have h4:=G.2.resolve_left Wb;exact N5 hp λk hk=>C k Wb Wb
 rw[Qe]at h;split at h
 grind [D.ids,D.l4,Qe]
 exact up j (hw.1 (v,d) (QV h) j O);rw[Qe]at h;split at h
 grind [u4.ids]
 exact up i (hw.2 (j,x) (QV h) i hi);have hs':(lk (L1 (Zw t m) H) j).isSome=true:=hs
 grind [Kf,N4]
section
variable {P:Program} {dr:Dr} {r:List z1} {K:St->Prop} {fr:QzL} {H:QzK} {t:Nat}
theorem QdG {l0 et bytes:Nat} {zero:List D} {x y:n5} {ki kj:IntKind} {n:Int} (hx:St.ev ⟨fr,H⟩ x=some (.int ki n)) (C:St.ev ⟨fr,H⟩ y=some (.int kj n)) (G:lk H t=none) (h0:0<=n) (hb:n.toNat*bytes<=281474976710656) (M:n.toNat<=4611686018427387904)
 (k:run P dr r K ⟨(t,.s4 t n.toNat)::fr,(t,⟨List.replicate n.toNat zero,l0,et,true⟩)::H⟩):run P dr (⟨some t,.makeSlice l0 et bytes zero x y,none⟩::r) K ⟨fr,H⟩:=Qt rfl rfl ⟨_,hx,_,C,t,rfl,G,rfl,h0,hb,M,k⟩
end
def Big (H:QzK):Prop:=∀k b,lk H k=some b->1000000<=k
def DH (H:QzK):Prop:=∀k b,lk H k=some b->∀j∈b.ids,(lk H j).isSome=true
theorem Qmg {α:Type} {k:Nat} {v:α} {l:List (Nat × α)}:lk ((k,v)::l) k=some v:=by rw[Qe,if_pos rfl]
def Plain (b:u4):Prop:=b.ids=[]
section
variable {P:Program} {r:List z1} {K:St->Prop} {fr:QzL} {H:QzK} {t:Nat}
end
theorem Ql8 {fr:QzL} {H:QzK} (t:Nat) (C:lk fr t=some (.x7 [])):St.le ⟨fr,H⟩ ⟨(t,.sl [])::fr,H⟩:=by
 intro E g a w r;refine⟨g,{r with fr:=λu d h=>?_,s9:=λu d h j G=>?_}⟩;rw[Qe]at h;split at h;rename_i e;cases h;subst e;have h1:=r.fr t (.x7 []) C;simp only[l6,z3,l3]at h1 ⊢
 grind
 exact r.fr u d h;rw[Qe]at h;split at h;cases h;trivial;exact r.s9 u d h j G
variable {p:Prop}
def dn:Nat->List Nat |0=>[] |n+1=>n::dn n
theorem Z.{u} {α:Sort u} {a:α}:a=a:=rfl
theorem qB:(∀(p:Prop) [Decidable p],(decide p=true)=p)/\(∀(p:Prop) [Decidable p],(decide p=false)↔¬p)/\(∀a b:Bool,((!a)=b)=(a= !b))/\(!true)=false/\(!false)=true:=⟨λ_ _=>decide_eq_true_eq,λ_ _=>decide_eq_false_iff_not,λa b=>by simp,rfl,rfl⟩
theorem qA:(∀(p:Prop) [Decidable p],(decide p=true)=p)/\(∀(p:Prop) [Decidable p],(decide p=false)↔¬p)/\(∀a b:Bool,((!a)=b)=(a= !b))/\(!true)=false/\(!false)=true/\(∀(α β:Type) (f:α->β) (l:List α),(l.map f).length=l.length):=⟨qB.1,qB.2.1,qB.2.2.1,rfl,rfl,λ_ _ _ _=>QAH _⟩
theorem qa [Decidable p]:(decide p=true)=p:=decide_eq_true_eq
theorem qb [Decidable p]:(decide p=false)↔¬p:=decide_eq_false_iff_not
theorem qc {a b:Bool}:((!a)=b)=(a= !b):=by simp
theorem qd:(!true)=false:=rfl
theorem qe:(!false)=true:=rfl
section
variable {fr:QzL} {t0 t1 t2 t3 t4 t5 t6 t7 t8 t9 t10 t11 t12 t13 t14 t15 t16 t17 t18 t19 t20 t21 t22 t23:Nat} {d0 d1 d2 d3 d4 d5 d6 d7 d8 d9 d10 d11 d12 d13 d14 d15 d16 d17 d18 d19 d20 d21 d22 d23:D}
abbrev kE (fr:QzL) (t:Nat) (d:D):Prop:=lk fr t=some d
theorem kp1 (h0:kE fr t0 d0):Qz [t0] fr=[(t0,d0)]:=Qc h0 Qs
theorem kp2 (h0:kE fr t0 d0) (h1:kE fr t1 d1):Qz [t0,t1] fr=[(t0,d0),(t1,d1)]:=Qc h0 (kp1 h1)
theorem kp3 (h0:kE fr t0 d0) (h1:kE fr t1 d1) (h2:kE fr t2 d2):Qz [t0,t1,t2] fr=[(t0,d0),(t1,d1),(t2,d2)]:=Qc h0 (kp2 h1 h2)
theorem kp4 (h0:kE fr t0 d0) (h1:kE fr t1 d1) (h2:kE fr t2 d2) (C:kE fr t3 d3):Qz [t0,t1,t2,t3] fr=[(t0,d0),(t1,d1),(t2,d2),(t3,d3)]:=Qc h0 (kp3 h1 h2 C)
theorem kp5 (h0:kE fr t0 d0) (h1:kE fr t1 d1) (h2:kE fr t2 d2) (G:kE fr t3 d3) (C:kE fr t4 d4):Qz [t0,t1,t2,t3,t4] fr=[(t0,d0),(t1,d1),(t2,d2),(t3,d3),(t4,d4)]:=Qc h0 (kp4 h1 h2 G C)
theorem kp6 (h0:kE fr t0 d0) (h1:kE fr t1 d1) (h2:kE fr t2 d2) (M:kE fr t3 d3) (G:kE fr t4 d4) (C:kE fr t5 d5):Qz [t0,t1,t2,t3,t4,t5] fr=[(t0,d0),(t1,d1),(t2,d2),(t3,d3),(t4,d4),(t5,d5)]:=Qc h0 (kp5 h1 h2 M G C)
theorem kp7 (h0:kE fr t0 d0) (h1:kE fr t1 d1) (h2:kE fr t2 d2) (O:kE fr t3 d3) (M:kE fr t4 d4) (G:kE fr t5 d5) (C:kE fr t6 d6):Qz [t0,t1,t2,t3,t4,t5,t6] fr=[(t0,d0),(t1,d1),(t2,d2),(t3,d3),(t4,d4),(t5,d5),(t6,d6)]:=Qc h0 (kp6 h1 h2 O M G C)
theorem kp8 (h0:kE fr t0 d0) (h1:kE fr t1 d1) (h2:kE fr t2 d2) (T:kE fr t3 d3) (O:kE fr t4 d4) (M:kE fr t5 d5) (G:kE fr t6 d6) (C:kE fr t7 d7):Qz [t0,t1,t2,t3,t4,t5,t6,t7] fr=[(t0,d0),(t1,d1),(t2,d2),(t3,d3),(t4,d4),(t5,d5),(t6,d6),(t7,d7)]:=Qc h0 (kp7 h1 h2 T O M G C)
theorem kp9 (h0:kE fr t0 d0) (h1:kE fr t1 d1) (h2:kE fr t2 d2) (U:kE fr t3 d3) (T:kE fr t4 d4) (O:kE fr t5 d5) (M:kE fr t6 d6) (G:kE fr t7 d7) (C:kE fr t8 d8):Qz [t0,t1,t2,t3,t4,t5,t6,t7,t8] fr=[(t0,d0),(t1,d1),(t2,d2),(t3,d3),(t4,d4),(t5,d5),(t6,d6),(t7,d7),(t8,d8)]:=Qc h0 (kp8 h1 h2 U T O M G C)
theorem Qrg (h0:kE fr t0 d0) (h1:kE fr t1 d1) (h2:kE fr t2 d2) (V:kE fr t3 d3) (U:kE fr t4 d4) (T:kE fr t5 d5) (O:kE fr t6 d6) (M:kE fr t7 d7) (G:kE fr t8 d8) (C:kE fr t9 d9):Qz [t0,t1,t2,t3,t4,t5,t6,t7,t8,t9] fr=[(t0,d0),(t1,d1),(t2,d2),(t3,d3),(t4,d4),(t5,d5),(t6,d6),(t7,d7),(t8,d8),(t9,d9)]:=Qc h0 (kp9 h1 h2 V U T O M G C)
theorem QjS (h0:kE fr t0 d0) (h1:kE fr t1 d1) (h2:kE fr t2 d2) (Y:kE fr t3 d3) (V:kE fr t4 d4) (U:kE fr t5 d5) (T:kE fr t6 d6) (O:kE fr t7 d7) (M:kE fr t8 d8) (G:kE fr t9 d9) (C:kE fr t10 d10):Qz [t0,t1,t2,t3,t4,t5,t6,t7,t8,t9,t10] fr=[(t0,d0),(t1,d1),(t2,d2),(t3,d3),(t4,d4),(t5,d5),(t6,d6),(t7,d7),(t8,d8),(t9,d9),(t10,d10)]:=Qc h0 (Qrg h1 h2 Y V U T O M G C)
theorem Qrh (h0:kE fr t0 d0) (h1:kE fr t1 d1) (h2:kE fr t2 d2) (h3:kE fr t3 d3) (Y:kE fr t4 d4) (V:kE fr t5 d5) (U:kE fr t6 d6) (T:kE fr t7 d7) (O:kE fr t8 d8) (M:kE fr t9 d9) (G:kE fr t10 d10) (C:kE fr t11 d11):Qz [t0,t1,t2,t3,t4,t5,t6,t7,t8,t9,t10,t11] fr=[(t0,d0),(t1,d1),(t2,d2),(t3,d3),(t4,d4),(t5,d5),(t6,d6),(t7,d7),(t8,d8),(t9,d9),(t10,d10),(t11,d11)]:=Qc h0 (QjS h1 h2 h3 Y V U T O M G C)
end
section
variable {P:Program} {nt:Nat} {Q:AExit->St->Prop} {l:List Nat} {b:y5} {K:St->Prop} {H:QzK} {fr fr':QzL} {r:List z1} {dr:Dr} {x y z v:n5} {p q:D} {t u:Nat}
variable {t0 t1 t2 t3 t4 t5 t6 t7 t8:Nat} {d0 d1 d2 d3 d4 d5 d6 d7 d8:D}
theorem kc (C:∀fr H,TW P nt b Q ⟨Qz l fr,H⟩->K ⟨fr,H⟩) (h:Qz l fr=fr') (k:TW P nt b Q ⟨fr',H⟩):K ⟨fr,H⟩:=C _ _ (Ji h k)
theorem kc1 (C:∀fr H,TW P nt b Q ⟨Qz [t0] fr,H⟩->K ⟨fr,H⟩) (h0:kE fr t0 d0) (k:TW P nt b Q ⟨[(t0,d0)],H⟩):K ⟨fr,H⟩:=kc C (kp1 h0) k
theorem ks1 (h0:kE fr t0 d0) (k:TW P nt b Q ⟨[(t0,d0)],H⟩):Qki P nt [t0] b Q .normal ⟨fr,H⟩:=JD (kp1 h0) k
theorem kc2 (C:∀fr H,TW P nt b Q ⟨Qz [t0,t1] fr,H⟩->K ⟨fr,H⟩) (h0:kE fr t0 d0) (h1:kE fr t1 d1) (k:TW P nt b Q ⟨[(t0,d0),(t1,d1)],H⟩):K ⟨fr,H⟩:=kc C (kp2 h0 h1) k
theorem kc3 (C:∀fr H,TW P nt b Q ⟨Qz [t0,t1,t2] fr,H⟩->K ⟨fr,H⟩) (h0:kE fr t0 d0) (h1:kE fr t1 d1) (h2:kE fr t2 d2) (k:TW P nt b Q ⟨[(t0,d0),(t1,d1),(t2,d2)],H⟩):K ⟨fr,H⟩:=kc C (kp3 h0 h1 h2) k
theorem ks5 (h0:kE fr t0 d0) (h1:kE fr t1 d1) (h2:kE fr t2 d2) (G:kE fr t3 d3) (C:kE fr t4 d4) (k:TW P nt b Q ⟨[(t0,d0),(t1,d1),(t2,d2),(t3,d3),(t4,d4)],H⟩):Qki P nt [t0,t1,t2,t3,t4] b Q .normal ⟨fr,H⟩:=JD (kp5 h0 h1 h2 G C) k
theorem kc6 (C:∀fr H,TW P nt b Q ⟨Qz [t0,t1,t2,t3,t4,t5] fr,H⟩->K ⟨fr,H⟩) (h0:kE fr t0 d0) (h1:kE fr t1 d1) (h2:kE fr t2 d2) (O:kE fr t3 d3) (M:kE fr t4 d4) (G:kE fr t5 d5) (k:TW P nt b Q ⟨[(t0,d0),(t1,d1),(t2,d2),(t3,d3),(t4,d4),(t5,d5)],H⟩):K ⟨fr,H⟩:=kc C (kp6 h0 h1 h2 O M G) k
theorem ks6 (h0:kE fr t0 d0) (h1:kE fr t1 d1) (h2:kE fr t2 d2) (M:kE fr t3 d3) (G:kE fr t4 d4) (C:kE fr t5 d5) (k:TW P nt b Q ⟨[(t0,d0),(t1,d1),(t2,d2),(t3,d3),(t4,d4),(t5,d5)],H⟩):Qki P nt [t0,t1,t2,t3,t4,t5] b Q .normal ⟨fr,H⟩:=JD (kp6 h0 h1 h2 M G C) k
theorem kc7 (C:∀fr H,TW P nt b Q ⟨Qz [t0,t1,t2,t3,t4,t5,t6] fr,H⟩->K ⟨fr,H⟩) (h0:kE fr t0 d0) (h1:kE fr t1 d1) (h2:kE fr t2 d2) (T:kE fr t3 d3) (O:kE fr t4 d4) (M:kE fr t5 d5) (G:kE fr t6 d6) (k:TW P nt b Q ⟨[(t0,d0),(t1,d1),(t2,d2),(t3,d3),(t4,d4),(t5,d5),(t6,d6)],H⟩):K ⟨fr,H⟩:=kc C (kp7 h0 h1 h2 T O M G) k
end
open Go.RowKit
section
variable {P:Program} {E:Env} {g:Gh} {s:St} {a a':Act} {w w':World}
end
section
variable {P:Program} {nt:Nat} {K:Kn} {α:Type} {iv:α->Int} {l B N:Nat} {J:Bool->List α->World->Prop}
structure Yc (P:Program) (K:Kn) {α:Type} (iv:α->Int) (l B N:Nat) (J:Bool->List α->World->Prop):Prop where
 ab:∀t,AbidesFrom B (J t)
 yl:∀pre x W,J true pre W->pre.length<N->YieldAt Fence.wide 0 P l #[.int .i64 (iv x)] W λe W'=>(e=.returned (.bool true)/\J true (pre++[x]) W'/\(x9 K W->x9 K W'))\/(e=.returned (.bool false)/\J false (pre++[x]) W')
end
structure JSt (α:Type) where
 fr:QzL
 t:Bool
 pre:List α
section
variable {P:Program} {nt:Nat} {K:Kn} {α:Type} {iv:α->Int} {l B N:Nat} {J:Bool->List α->World->Prop}
variable {Q:AExit->JSt α->Prop} {s:JSt α}
end
section
variable {P:Program} {nt:Nat} {K:Kn} {α:Type} {iv:α->Int} {l B N:Nat} {J:Bool->List α->World->Prop} {ops:Array Oper}
end
end Go.Abs
namespace Go.Abs
open Go
variable {a:Addr}
inductive Ty where
 |int (k:IntKind)
 |bool
 |str
 |sl (row:List Ty)
mutual
def Sat:Ty->D->Prop
 | .int k,d=>∃n:Int,d=.int k n/\k.min<=n/\n<=k.max
 | .bool,d=>∃b,d=.bool b
 | .str,d=>∃l,d=.str l/\l.length<=9223372036854775807
 | .sl r,d=>∃rows,d=.sl rows/\rows.length<=9223372036854775807/\∀row∈rows,a9 r row
def a9:List Ty->List D->Prop
 |[],ds=>ds=[]
 |t::ts,ds=>∃d r,ds=d::r/\Sat t d/\a9 ts r
end
theorem a9.append:∀{ts us:List Ty} {ds es:List D},a9 ts ds->a9 us es->a9 (ts++us) (ds++es)
 |[],us,ds,es,h,h'=>by simp only[a9]at h;subst h;exact h'
 |t::ts,us,ds,es,h,h'=>by
  simp only[a9]at h;obtain⟨d,r,rfl,h1,h2⟩:=h;simp only[QAJ,a9];exact⟨d,r++es,rfl,h1,h2.append h'⟩
def Qge (P:Program) (rT:TypeId->Option (List Ty)):Nat->List Field->Option (List Ty)
 |_,[]=>some []
 |k,f::fs=>if f.offset=k then match rT f.type with
   |some r=>if r.length=P.cellsOf f.type then(Qge P rT (k+r.length) fs).map (r++·)else none
   |none=>none
  else none
def SN (P:Program):Nat->TypeId->Option (List Ty)
 |0,_=>none
 |n+1,t=>match P.underlying t with
  |some (.int k)=>some [.int k]
  |some .bool=>some [.bool]
  |some .string=>some [.str]
  |some (.slice e)=>match SN P n e with
   |some r=>if r.length=P.cellsOf e/\r.length≠0 then some [.sl r]else none
   |none=>none
  |some (.struct fs)=>match Qge P (SN P n) 0 fs.toList with
   |some r=>if r.length=P.cellsOf t then some r else none
   |none=>none
  |_=>none
def Gu (w:World):Kn:=λb o=>match w.heap[b]? with
 |some (.cells c _ _)=>c[o]?
 |_=>none
theorem PG (w:World):x9 (Gu w) w:=by
 intro b o x h;unfold Gu at h;split at h;rename_i c e f C;exact⟨c,e,f,C,h⟩;cases h
theorem Rb {w:World} {x:Value} (h:w.cell? a=some x):a.spot=none/\Gu w a.block a.off=some x:=by
 unfold World.cell? at h;unfold Gu;split at h;rename_i c e f C;split at h;cases h
 rename_i G;rw[C];exact⟨by cases M:a.spot<;>simp_all,h⟩
 cases h
theorem Pr {α β:Type} {f:α->Option β}:∀{l:List α} {r:List β},l.mapM f=some r->r.length=l.length/\∀(i:Nat) a,l[i]?=some a->∃b,r[i]?=some b/\f a=some b
 |[],r,h=>by simp at h;subst h;exact⟨rfl,by simp⟩
 |a::l,r,h=>by
  simp only[List.mapM_cons,Option.bind_eq_bind,QAl,Option.pure_def,QzQ]at h;obtain⟨b,h1,M,h2,rfl⟩:=h;obtain⟨G,C⟩:=Pr h2;refine⟨by simp[G],λi x hi=>?_⟩;cases i with
  |zero=>simp at hi;subst hi;exact⟨b,rfl,h1⟩
  |succ i=>exact C i x (by simpa using hi)
theorem NG {K:Kn} {b:Nat}:∀{off:Nat} {ds:List D} {cs:List Value},x5 K ds cs->(∀(i:Nat) v,cs[i]?=some v->K b (off+i)=some v)->a5 K b off ds
 |_,[],[],_,_=>by simp only[a5]
 |off,d::ds,v::vs,h,hk=>by
  simp only[x5]at h;simp only[a5];refine⟨⟨h.1.1,v,by simpa using hk 0 v rfl,h.1.2⟩,NG h.2 λi v hi=>?_⟩;have:=hk (i+1) v (by simpa using hi);rw[show off+1+i=off+(i+1) by omega];exact this
 |_,[],_::_,h,_=>by simp only[x5]at h
 |_,_::_,[],h,_=>by simp only[x5]at h
theorem x5.append {K:Kn}:∀{ds es:List D} {vs us:List Value},x5 K ds vs->x5 K es us->x5 K (ds++es) (vs++us)
 |[],_,[],_,_,h=>h
 |d::ds,es,v::vs,us,h,h'=>by
  simp only[QAJ,x5]at h ⊢;exact⟨h.1,x5.append h.2 h'⟩
 |[],_,_::_,_,h,_=>by simp only[x5]at h
 |_::_,_,[],_,h,_=>by simp only[x5]at h
theorem x5.len {K:Kn}:∀{ds:List D} {vs:List Value},x5 K ds vs->vs.length=ds.length
 |[],[],_=>rfl
 |d::ds,v::vs,h=>by simp only[x5]at h;simp[x5.len h.2]
 |[],_::_,h=>by simp only[x5]at h
 |_::_,[],h=>by simp only[x5]at h
section
variable {H:Type} {enc:TypeId × Value->H} {P:Program} {w:World} {base:Nat} {sp:Nat->Bool} {held:Bool}
theorem Qgf {fuel l0:Nat} {e:TypeId} {r:List Ty} {b off:Nat} (O:P.cellsOf e=l0)
  (ih:∀(cs:List Value) (x:DataW H × List MemPlace),DataW.trod enc P w base sp held fuel e cs=some x->∃ds,a9 r ds/\x5 (Gu w) ds cs):
  ∀(n k:Nat),(∀i,i<n->∃y,((w.cells? base ((⟨b,off,none⟩:Addr).add ((k+i)*l0)) l0).bind (DataW.trod enc P w base sp held fuel e))=some y)->
   ∃rows:List (List D),rows.length=n/\(∀row∈rows,a9 r row)/\(∀row∈rows,row.length=l0)/\u5 (Gu w) b (off+k*l0) rows
 |0,k,_=>⟨[],rfl,by simp,by simp,by simp only[u5]⟩
 |n+1,k,h=>by
  obtain⟨rows,h1,h2,h3,h4⟩:=Qgf O ih n (k+1) (λi hi=>by have:=h (i+1) Wa;rwa [show k+(i+1)=k+1+i by omega]at this)
  obtain⟨y,V⟩:=h 0 Wa;obtain⟨cs,C,V⟩:=QAl.1 V;obtain⟨ds,M,G⟩:=ih cs y V;unfold World.cells? at C;split at C;obtain⟨hl,hg⟩:=Pr C;have hlen:cs.length=l0:=by rw[hl,List.length_range]
  have T:ds.length=l0:=by rw[<- hlen,G.len]
  refine⟨ds::rows,by simp[h1], ?_, ?_, ?_⟩;intro row hr;rcases QzP.1 hr with rfl |hr
  exact M;exact h2 row hr;intro row hr;rcases QzP.1 hr with rfl |hr
  exact T;exact h3 row hr;simp only[u5];refine⟨NG G λi v hv=>?_, ?_⟩;have hi:=(QAm.1 hv).1;obtain⟨u,U,Y⟩:=hg i i (by rw[List.getElem?_range Wa]);rw[hv]at U;cases U;have:=(Rb Y).2
  simpa only[add_lit,QAC]using this
  rw[T,show off+k*l0+l0=off+(k+1)*l0 by rw[Nat.succ_mul];omega];exact h4;cases C
theorem Db {l0 m:Nat} {fuel:Nat} {e:TypeId} {y:DataW H × List MemPlace} (h0:l0≠0) (hm:m=0) (h:((w.cells? base (a.add m) l0).bind (DataW.trod enc P w base sp held fuel e))=some y):a.spot=none:=by
 subst hm;obtain⟨cs,C,_⟩:=QAl.1 h;unfold World.cells? at C;split at C;obtain⟨_,G⟩:=Pr C;obtain⟨b,_,hb⟩:=G 0 0 (by rw[List.getElem?_range Wa]);have:=(Rb hb).1
 simpa [Addr.add]using this
 cases C
theorem PA:∀(fuel n:Nat) (t:TypeId) (r:List Ty) (cs:List Value) (x:DataW H × List MemPlace),SN P n t=some r->DataW.trod enc P w base sp held fuel t cs=some x->∃ds,a9 r ds/\x5 (Gu w) ds cs
 |0,_,_,_,_,_,_,h=>by simp[DataW.trod]at h
 |fuel+1,0,_,_,_,_,h,_=>by simp[SN]at h
 |fuel+1,n+1,t,r,cs,x,hr,h=>by
  simp only[SN]at hr;unfold DataW.trod at h;cases hu:P.underlying t with
  |none=>simp[hu]at hr
  |some ty=>
   rw[hu]at hr h;cases ty<;>simp only[QzQ,reduceCtorEq]at hr
   case bool=>
    subst hr
    match cs,h with
    |[.bool b],h=>exact⟨[.bool b],by simp[a9,Sat],by simp[x5,l3,D.y4]⟩
   case int k=>
    subst hr
    match cs,h with
    |[.int k' m],h=>
    simp only at h;split at h<;>try (cases h;done)
    rename_i hk;obtain⟨rfl,hwf⟩:=hk;have hw:k'.min<=m/\m<=k'.max:=by simpa [Lit.wf]using hwf
    refine⟨[.int k' m], ?_,by simp[x5,l3,D.y4]⟩;simp only[a9,Sat];exact⟨_,[],rfl,⟨m,rfl,hw⟩,rfl⟩
   case string=>
    subst hr
    match cs,h with
    |[.string s],h=>
    simp only at h;split at h<;>try (cases h;done)
    rename_i O;refine⟨[.str s.data.toList], ?_,by simp only[x5,l3];exact⟨⟨rfl,trivial⟩,trivial⟩⟩
    simp only[a9,Sat];refine⟨_,[],rfl,⟨_,rfl, ?_⟩,rfl⟩;unfold maxLen at O;have e1:s.data.toList.length=s.size:=by rw[QAv];rfl
    omega
   case slice e=>
    split at hr;rename_i T hre;split at hr
    ·rename_i hlen;cases hr
     have U:∀(cs:List Value) (x:DataW H × List MemPlace),DataW.trod enc P w base sp held fuel e cs=some x->∃ds,a9 T ds/\x5 (Gu w) ds cs:=λcs x hx=>PA fuel n e T cs x hre hx
     match cs,h with
     |[.slice none len cap],h=>
      have:len=0/\cap=0:=by
       cases len<;>cases cap<;>first |exact⟨rfl,rfl⟩ |(simp at h;done)
      obtain⟨rfl,rfl⟩:=this;refine⟨[.sl []], ?_, ?_⟩;simp only[a9,Sat];exact⟨_,[],rfl,⟨[],rfl,by simp,by simp⟩,rfl⟩;simp only[x5,l3];exact⟨⟨rfl,none,0,rfl,QAe _,.inl trivial⟩,trivial⟩
     |(.slice none _ _)::_::_,h=>simp at h
     |[.slice (some a) len cap],h=>
      simp only at h;split at h;rename_i hb;obtain⟨elems,h1,h2⟩:=QAl.1 h;obtain⟨hl,hg⟩:=Pr h1;simp only[List.length_range]at hl
      have C:∀i,i<len->∃y,((w.cells? base (a.add ((0+i)*P.cellsOf e)) (P.cellsOf e)).bind (DataW.trod enc P w base sp held fuel e))=some y:=λi hi=>by
       obtain⟨y,_,hy⟩:=hg i i (by simp[hi]);exact⟨y,by rw[Nat.zero_add];exact hy⟩
      have hmax:len<=9223372036854775807:=by
       have:=hb.2.2;unfold maxLen at this;omega
      by_cases h0:len=0
      subst h0;refine⟨[.sl []], ?_, ?_⟩;simp only[a9,Sat];exact⟨_,[],rfl,⟨[],rfl,by simp,by simp⟩,rfl⟩;simp only[x5,l3];exact⟨⟨rfl,some a,cap,rfl,QzZ _,.inl trivial⟩,trivial⟩;obtain⟨y0,Y⟩:=C 0 Wa;have O:a.spot=none:=Db (by rw[<- hlen.1];exact hlen.2) Wc Y
      obtain⟨ab,ao,as1⟩:=a;simp only at O;subst O;obtain⟨rows,q1,q2,q3,q4⟩:=Qgf (r:=T) rfl U len 0 C;refine⟨[.sl rows], ?_, ?_⟩;simp only[a9,Sat];exact⟨_,[],rfl,⟨rows,rfl,Wa,q2⟩,rfl⟩;simp only[x5,l3];exact⟨⟨rfl,some _,cap,by rw[q1],by rw[q1];exact hb.2.1,.inr ⟨ab,ao,P.cellsOf e,rfl,q3,by simpa using q4⟩⟩,trivial⟩
      cases h
    cases hr
    cases hr
   case struct fs=>
    split at hr;rename_i rs hrs;split at hr;rename_i hlen;cases hr
    have h':(if cs.length=P.cellsOf t then(fs.toList.mapM λf=>DataW.trod enc P w base sp held fuel f.type ((cs.drop f.offset).take (P.cellsOf f.type))).map λxs=>(DataW.agg (xs.map (·.1)),xs.flatMap (·.2))else none)=some x:=by
     revert h;split<;>simp_all
    split at h';rename_i hcl;obtain⟨xs,hx,_⟩:=QzM.1 h'
    have key:∀(l:List Field) (k:Nat) (r:List Ty) (xs:List (DataW H × List MemPlace)),Qge P (SN P n) k l=some r->l.mapM (λf=>DataW.trod enc P w base sp held fuel f.type ((cs.drop f.offset).take (P.cellsOf f.type)))=some xs->cs.length=k+r.length->
      ∃ds,a9 r ds/\x5 (Gu w) ds (cs.drop k):=by
     intro l
     induction l with
     |nil=>
      intro k r xs hk _ hc;simp only[Qge,QzQ]at hk;subst hk;refine⟨[],by simp[a9], ?_⟩;rw[Qz8 (by simp at hc;omega)]
      simp only[x5]
     |cons f l U=>
      intro k r xs hk hm hc;simp only[Qge]at hk;split at hk;rename_i G;split at hk;rename_i M hrf;split at hk;rename_i hrl;obtain⟨r2,hr2,rfl⟩:=QzM.1 hk;simp only[List.mapM_cons,Option.bind_eq_bind,QAl,Option.pure_def,QzQ]at hm;obtain⟨y,hy,ys,V,rfl⟩:=hm;obtain⟨ds,d1,d2⟩:=PA fuel n f.type M _ y hrf hy;obtain⟨es,e1,e2⟩:=U (k+M.length) r2 ys hr2 V (by simp at hc;omega)
      refine⟨ds++es,d1.append e1, ?_⟩
      have:cs.drop k=(cs.drop k).take M.length++cs.drop (k+M.length):=by
       rw[<- List.drop_drop,QAn]
      rw[this];rw[G,<- hrl]at d2;exact d2.append e2;cases hk
      cases hk
      cases hk
    have:=key fs.toList 0 r xs hrs hx (by rw[hcl,<- hlen];omega)
    simpa using this
    cases h'
    cases hr
    cases hr
end
open Go.RowKit Go.WideShapes Go.ChangeShapes
variable {s:ChangeSpec} {v:Value}
inductive ASh where
 |one (t:Ty)
 |agg (r:List Ty)
def SatA:ASh->D->Prop
 | .one t,d=>Sat t d
 | .agg r,d=>∃ds,d=.agg ds/\a9 r ds
def SatAs:List ASh->List D->Prop
 |[],ds=>ds=[]
 |s::ss,ds=>∃d r,ds=d::r/\SatA s d/\SatAs ss r
def QtP (P:Program) (t:TypeId):Option ASh:=
 match P.underlying t with
 |some (.struct _)=>(SN P 60 t).map .agg
 |some _=>match SN P 60 t with
  |some [x]=>some (.one x)
  |_=>none
 |none=>none
def Qdj (P:Program):List TypeId->Option (List ASh)
 |[]=>some []
 |t::ts=>match QtP P t,Qdj P ts with
  |some s,some ss=>some (s::ss)
  |_,_=>none
section
variable {H:Type} {enc:TypeId × Value->H} {P:Program} {W:World}
theorem Qk3 {t:TypeId} {sh:ASh} {d:DataW H} {p:List MemPlace} {r:Reach} {b0 base:Nat} {sp:Nat->Bool} {held:Bool} (M:QtP P t=some sh) (C:Value.okWide P W r b0 t v) (h:DataW.Trod enc P W base sp held t v d p):
  ∃D,SatA sh D/\l3 (Gu W) D v:=by
 obtain⟨fuel,h⟩:=h;unfold QtP at M;cases hu:P.underlying t with
 |none=>simp[hu]at M
 |some ty=>
  rw[hu]at M
  by_cases hst:∃fs,ty=.struct fs
  obtain⟨fs,rfl⟩:=hst;obtain⟨row,hr,rfl⟩:=QzM.1 M;unfold Value.okWide at C;rw[hu]at C;obtain⟨cs,rfl,_,_⟩:=C;obtain⟨ds,h1,h2⟩:=PA fuel 60 t row _ _ hr h;refine⟨.agg ds,⟨ds,rfl,h1⟩, ?_⟩;simp only[l3];exact⟨cs.toList,rfl,h2⟩
  have G:(match SN P 60 t with |some [x]=>some (ASh.one x) |_=>none)=some sh:=by
   revert M;cases ty<;>simp_all
  split at G;rename_i x hr;cases G
  obtain⟨ds,h1,h2⟩:=PA fuel 60 t [x] _ _ hr h;simp only[a9]at h1;obtain⟨D,_,rfl,T,rfl⟩:=h1;refine⟨D,T, ?_⟩
  have O:v.cells.toList=[v]:=by
   cases v<;>try rfl
   exfalso;unfold SN at hr;rw[hu]at hr;unfold Value.okWide at C;rw[hu]at C;cases ty<;>simp_all [Cell.okWide,Cell.ok]
  rw[O]at h2;simp only[x5]at h2;exact h2.1.2;cases G
theorem T1:∀{ts:List TypeId} {shs:List ASh} {vs:List Value} {ds:List (DataW H)} {ps:List MemPlace} {r:Reach} {b0 base:Nat} {sp:Nat->Bool} {held:Bool},Qdj P ts=some shs->
  (∀(j:Nat) t v,ts[j]?=some t->vs[j]?=some v->Value.okWide P W r b0 t v)->DataW.TrodAll enc P W base sp held ts vs ds ps->∃Ds,SatAs shs Ds/\j5 (Gu W) Ds vs
 |[],shs,vs,ds,ps,_,_,_,_,_,C,_,h=>by
  obtain⟨rfl,rfl,rfl⟩:=trodAll_nil h;simp only[Qdj,QzQ]at C;subst C;exact⟨[],rfl,by simp only[j5]⟩
 |t::ts,shs,vs,ds,ps,_,_,_,_,_,C,hv,h=>by
  obtain⟨v,O,d,ds',p,q,rfl,rfl,rfl,hd,G⟩:=trodAll_cons h;simp only[Qdj]at C;split at C;rename_i s ss e1 e2;cases C
  obtain⟨D,h1,h2⟩:=Qk3 e1 (hv 0 t v rfl rfl) hd;obtain⟨Ds,V,U⟩:=T1 e2 (λj t v T M=>hv (j+1) t v (by simpa using T) (by simpa using M)) G;exact⟨D::Ds,⟨D,Ds,rfl,h1,V⟩,by simp only[j5];exact⟨h2,U⟩⟩
  cases C
theorem Hh (M:laidOutB P=true) {W':World} {G:Nat->Bool} (hb:Below W.heap.size W W'):∀{ts:List TypeId} {vs:List Value} {ds:List (DataW H)} {ps:List MemPlace},(∀t∈ts,P.readableRec t=true/\t<P.types.size)->
  DataW.TrodAll enc P W 0 (λ_=>true) true ts vs ds ps->(∀p∈ps,p.block<W.heap.size)->(∀p∈ps,G p.block=true)->DataW.TrodAll enc P W' 0 G true ts vs ds ps
 |[],vs,ds,ps,_,h,_,_=>by
  obtain⟨rfl,rfl,rfl⟩:=trodAll_nil h;exact rfl
 |t::ts,vs,ds,ps,hr,h,hlt,hsp=>by
  obtain⟨v,O,d,ds',p,q,rfl,rfl,rfl,hd,C⟩:=trodAll_cons h;obtain⟨U,T⟩:=hr t Wc
  exact⟨p,q,WideElems.Trod_stays M U T hd (λx hx=>hb.same (hlt x (by simp[hx]))) (λx hx=>hsp x (by simp[hx])),
   Hh M hb (λt V=>hr t (by simp[V])) C (λx hx=>hlt x (by simp[hx])) (λx hx=>hsp x (by simp[hx])),rfl⟩
theorem To {f:Func} {apart fresh handsOn again:Bool} {W':World} {args:Array Value} {ds gs:List (DataW H)} {before pa pv:List MemPlace}
 (hW:DataW.Whole enc P f.params.toList s.vars apart W args.toList ds gs before)
 (O:∀(b:Nat) (sp:Nat->Bool) (hd:Bool),DataW.TrodAll enc P W' b sp hd f.resultTypes.toList (v.resultList f.resultTypes.size) (s.fn H (ds++gs)).results [])
 (G:∀sp:Nat->Bool,(∀p∈before,sp p.block=true)->DataW.TrodAll enc P W' 0 sp true f.params.toList args.toList (s.fn H (ds++gs)).args pa)
 (C:∀sp:Nat->Bool,(∀p∈before,sp p.block=true)->DataW.TrodVars enc P W' sp s.vars (s.fn H (ds++gs)).vars pv)
 (M:before=pa++pv) (hb:Below W.heap.size W W')
 (Y:∀(j:Nat) (t:TypeId) (r:Value),f.resultTypes[j]?=some t->(v.resultList f.resultTypes.size)[j]?=some r->Value.okWide P W' .any 0 t r):
  s.post enc P f apart fresh handsOn again W args v W':=by
 have V:∀p∈before,p.block<W.heap.size:=λp hp=>hW.lt p hp;have U:∀p∈before,(λb=>decide (b<W.heap.size)) p.block=true:=λp hp=>by simpa using V p hp
 refine⟨ds,gs,before,[],pa,pv,hW,O _ _ _,G _ U,C _ U,World.keptBut_mono (λp hp=>⟨hp, ?_⟩) (hb.frame (·∈before)),λ_=>?_⟩;rw[M,QzY]at hp;exact .inr hp;obtain⟨_,_,_,_,_,hz,hn⟩:=hW;refine⟨Y,_,_,([]++pa)++pv,⟨[]++pa,pv,trodAll_append (G _ (λ_ _=>rfl)) (O _ _ _),C _ (λ_ _=>rfl),rfl,λb off hp=>?_,λha=>?_⟩,λp hp _=>?_⟩;have T:MemPlace.cell b off∈before:=by rw[M];simpa using hp
 rw[hb.frozen (V _ T)];exact hz b off T;have:=hn ha;rw[M]at this
 simpa using this
 rw[M];simpa using hp
end
theorem law_lift {C:Checked} {os:Os} {F:Nat} {fn:Func} {conds:List PathCond} {H:Type} {enc:TypeId × Value->H} {shs:List ASh} {tb:TypeId} (own:ownKnob C.prog.godebug=none) (started:os.Started)
 (T:C.prog.inits.idxOf? F=none) (hfn:C.prog.funcs[F]?=some fn) (G:s.vars=[])
 (witness:∃(w:World) (tape:Tape) (i:Input),w.os=os/\(w.forCall tape i).Shaped C.prog/\i.vars=[]/\Input.okWide C.prog (w.forCall tape i) .any w.heap.size F i/\
 s.pre6 enc C.prog fn conds false (w.forCall tape i).memory i.args/\({}:Assume).holds C.prog (lone (Frame.enter C.prog F i.args .normal) [] (w.forCall tape i)))
 (hl:laidOutB C.prog=true) (hread:∀t∈fn.params.toList,C.prog.readableRec t=true/\t<C.prog.types.size) (U:fn.resultTypes=#[tb]) (O:C.prog.underlying tb=some .bool)
 (hsh:Qdj C.prog fn.params.toList=some shs) (V:∀ds:List (DataW H),ds.length=fn.params.toList.length->s.fn H ds={results:=[.lit (.bool true)],args:=ds})
 (hlaw:∀Ds,SatAs shs Ds->Ok C.prog F Ds (.bool true)) (hg:HD F=[]:=by rfl):
  ReturnsInHanded {} C os F .any (s.pre6 enc C.prog fn conds false) (s.post enc C.prog fn false true false false):=by
 refine returnsInHanded_of_change own started T hfn witness ?_;intro W base args ds gs before hval hW _ _;have hW':=hW;obtain⟨p,q,hA,hV,rfl,hfz,hnd⟩:=hW;rw[G]at hV;obtain⟨rfl,rfl⟩:=trodVars_none hV;obtain⟨Ds,h1,h2⟩:=T1 hsh (λj t v ht hv=>hval j t v (by simpa using ht) (by simpa using hv)) hA
 have hlen:ds.length=fn.params.toList.length:=by
  have:∀{ts:List TypeId} {vs:List Value} {ds:List (DataW H)} {ps:List MemPlace},DataW.TrodAll enc C.prog W 0 (λ_=>true) true ts vs ds ps->ds.length=ts.length:=by
   intro ts
   induction ts with
   |nil=>intro vs ds ps h;obtain⟨_,rfl,_⟩:=trodAll_nil h;rfl
   |cons t ts ih=>
    intro vs ds ps h;obtain⟨v,vs',d,ds',p,q,rfl,rfl,rfl,hd,hrest⟩:=trodAll_cons h;simp[ih hrest]
  exact this hA
 have Y:s.fn H (ds++[])={results:=[.lit (.bool true)],args:=ds}:=by rw[QAj];exact V ds hlen
 have M:=(hlaw Ds h1).2 (Gu W) W args.toList (PG W) (by rw[gVs,hg,QAV,QAj];exact h2)
 rw[Array.toArray_toList]at M;refine M.mono λe W' ⟨v,K',he,hv,hkr,hsz,hh,hk,hfx⟩=>?_;simp only[l3]at hv;subst he;subst hv;have hb:Below W.heap.size W W':=⟨hfx.1,hfx.2.1,hfx.2.2,hsz,λk hk=>hh k hk⟩;refine⟨_,rfl,To (pa:=p) (pv:=[]) hW' (λb sp hd=>?_) (λsp hsp'=>?_) (λ_ _=>?_) rfl hb (ok_one U rfl (okWide_bool_mk O true))⟩;rw[Y,U];exact trodAll_mk1 (shut_bool O true);rw[Y];exact Hh hl hb hread hA (λx hx=>hW'.lt x (by simp[hx])) (λx hx=>hsp' x (by simp[hx]));rw[Y,G];rfl
theorem sat_ints {rows:List (List D)} (h:∀row∈rows,a9 [.int .i64] row):∃l:List Int,rows=l.map (λx=>[D.int .i64 x])/\∀x∈l, -9223372036854775808<=x/\x<=9223372036854775807:=by
 induction rows with
 |nil=>exact⟨[],rfl,by simp⟩
 |cons row rows ih=>
  obtain⟨l,h1,h2⟩:=ih λr hr=>h r (by simp[hr]);have h0:=h row Wc;simp only[a9,Sat]at h0;obtain⟨_,_,rfl,⟨n,rfl,G,C⟩,rfl⟩:=h0;refine⟨n::l,by simp[h1],λx hx=>?_⟩;rcases QzP.1 hx with rfl |hx
  exact⟨G,C⟩;exact h2 x hx
variable {fs:Array Field}
def zeroV:DataW Unit:=.agg [.lit (.int .i64 0),.lit (.int .i64 0),.lit (.int .i64 0),.lit (.string []),.lit (.string [])]
def zeroG:D:=.ptr [.int .i64 0,.int .i64 0,.int .i64 0,.str [],.str []]
def Qn8 (P:Program) (fs:Array Field):Bool:=fs.size==5&&(List.range 5).all λi=>match fs[i]? with
 |some f=>f.offset==i&&P.cellsOf f.type==1&&(match P.underlying f.type with
  |some (.int .i64)=>decide (i<3)
  |some .string=>decide (3<=i)
  |_=>false)
 |none=>false
theorem Bk {P:Program} {W:World} {nm:String} {t:TypeId} (h:laidMet P [(nm,zeroV)] W) (hg:P.globalNamed nm=some 0) (ht:(P.globals[0]?).map (·.type)=some t)
 (hu:P.underlying t=some (.struct fs)) (hb:Qn8 P fs=true):l3 (Gu W) zeroG (.pointer (some ⟨0,0,none⟩)):=by
 obtain⟨ps,⟨g,t',cs,fuel,p,q,Y,U,hv,hd,_,_⟩,_,_⟩:=h;obtain rfl:=QA1 (hg.symm.trans Y);obtain rfl:=QA1 (ht.symm.trans U);obtain⟨xs,m,_,ex,_,hl,hel⟩:=DataW.trod_struct hu hd;simp only[Qn8,QzR,beq_iff_eq,QzX,QAa]at hb;obtain⟨h5,hb⟩:=hb;have e0:xs.map (·.1)=[.lit (.int .i64 0),.lit (.int .i64 0),.lit (.int .i64 0),.lit (.string []),.lit (.string [])]:=(DataW.agg.inj (Prod.mk.inj ex).1).symm
 have key:∀i,i<5->∃v,cs[i]?=some v/\((i<3/\v=.int .i64 0)\/(3<=i/\v=.string ⟨#[]⟩)):=by
  intro i hi;have G:=hb i hi;split at G<;>try (cases G;done)
  rename_i f hf;simp only[QzR,beq_iff_eq]at G;obtain⟨⟨ho,hc⟩,hk⟩:=G;have hE:=hel i f hf;rw[ho,hc,QAB Wa]at hE;have e1:(xs.map (·.1))[i]?=some xs[i].1:=by rw[List.getElem?_map,QAB Wa];rfl
  rw[e0]at e1
  have T:∀v,(cs.toList.drop i).take 1=[v]->cs[i]?=some v:=λv M=>by
   have h0:((cs.toList.drop i).take 1)[0]?=some v:=by rw[M];rfl
   simpa using h0
  split at hk;rename_i O;obtain⟨z,e2,e3,_⟩:=DataW.trod_int O hE;refine⟨_,T _ e2,.inl ⟨of_decide_eq_true hk, ?_⟩⟩;have V:=of_decide_eq_true hk;rw[e3]at e1;rcases(Wa:i=0\/i=1\/i=2)with rfl |rfl |rfl<;>(simp at e1;rw[<- e1])
  rename_i O;obtain⟨s,e2,e3,_⟩:=DataW.trod_string O hE;refine⟨_,T _ e2,.inr ⟨of_decide_eq_true hk, ?_⟩⟩;have V:=of_decide_eq_true hk;rw[e3]at e1
  have hs:s.data.toList=[]:=by
   rcases(Wa:i=3\/i=4)with rfl |rfl<;>(simp at e1;simpa using e1.symm)
  obtain⟨⟨l⟩⟩:=s;simp at hs;rw[hs];cases hk
 have C:∀i v,cs[i]?=some v->Gu W 0 i=some v:=λi v M=>by
  have:=World.var?_cell hg hv i;exact(Rb (this.trans M)).2
 obtain⟨v0,a0,b0⟩:=key 0 Wa;obtain⟨v1,a1,b1⟩:=key 1 Wa;obtain⟨v2,a2,b2⟩:=key 2 Wa;obtain⟨v3,a3,b3⟩:=key 3 Wa;obtain⟨v4,a4,b4⟩:=key 4 Wa;have c0:=C _ _ a0;have c1:=C _ _ a1;have c2:=C _ _ a2;have c3:=C _ _ a3;have c4:=C _ _ a4;simp at b0 b1 b2 b3 b4;subst b0 b1 b2 b3 b4;simp only[zeroG,l3];refine⟨0,0,rfl, ?_⟩;simp only[a5];exact⟨⟨rfl,_,c0,by simp only[l3]⟩,⟨rfl,_,c1,by simp only[l3]⟩,⟨rfl,_,c2,by simp only[l3]⟩,⟨rfl,_,c3,by simp only[l3]⟩,⟨rfl,_,c4,by simp only[l3]⟩,trivial⟩
theorem law_liftL {C:Checked} {os:Os} {F:Nat} {fn:Func} {s:ChangeSpec} {conds:List PathCond} {H:Type} {enc:TypeId × Value->H} {shs:List ASh} {tb:TypeId} {nm:String} {tg:TypeId}
 (own:ownKnob C.prog.godebug=none) (started:os.Started)
 (T:C.prog.inits.idxOf? F=none) (hfn:C.prog.funcs[F]?=some fn) (G:s.vars=[])
 (witness:∃(w:World) (tape:Tape) (i:Input),w.os=os/\(w.forCall tape i).Shaped C.prog/\i.vars=[]/\Input.okWide C.prog (w.forCall tape i) .any w.heap.size F i/\
 ((s.pre enc C.prog fn conds false (w.forCall tape i).memory i.args/\laidMetH C.prog [(nm,zeroV)] (w.forCall tape i).memory)/\sizedMet enc C.prog fn (OpenSpec.ofChange s) false (w.forCall tape i).memory i.args)/\({}:Assume).holds C.prog (lone (Frame.enter C.prog F i.args .normal) [] (w.forCall tape i)))
 (hl:laidOutB C.prog=true) (hread:∀t∈fn.params.toList,C.prog.readableRec t=true/\t<C.prog.types.size) (U:fn.resultTypes=#[tb]) (O:C.prog.underlying tb=some .bool)
 (hsh:Qdj C.prog fn.params.toList=some shs) (V:∀ds:List (DataW H),ds.length=fn.params.toList.length->s.fn H ds={results:=[.lit (.bool true)],args:=ds})
 (hgn:C.prog.globalNamed nm=some 0) (hgt:(C.prog.globals[0]?).map (·.type)=some tg) (hgu:C.prog.underlying tg=some (.struct fs)) (hgb:Qn8 C.prog fs=true)
 (hlaw:∀Ds,SatAs shs Ds->Ok C.prog F (Ds++[zeroG]) (.bool true)) (hg:HD F=[0]:=by rfl):
  ReturnsInHanded {} C os F .any (λw args=>(s.pre enc C.prog fn conds false w args/\laidMetH C.prog [(nm,zeroV)] w)/\sizedMet enc C.prog fn (OpenSpec.ofChange s) false w args) (s.post enc C.prog fn false true false false):=by
 refine returnsInHanded_of_change_and (X:=λw _=>laidMetH C.prog [(nm,zeroV)] w) (λ_ _ _ hh h=>h.of_heap hh) own started T hfn witness ?_;intro W base args ds gs before hval hW _ _ hL _;rw[MakeChecks.laidMetH_plain _ _ _ Wl]at hL;have hz:=Bk hL hgn hgt hgu hgb;have hW':=hW;obtain⟨p,q,hA,hV,rfl,hfz,hnd⟩:=hW;rw[G]at hV;obtain⟨rfl,rfl⟩:=trodVars_none hV;obtain⟨Ds,h1,h2⟩:=T1 hsh (λj t v ht hv=>hval j t v (by simpa using ht) (by simpa using hv)) hA
 have hlen:ds.length=fn.params.toList.length:=by
  have:∀{ts:List TypeId} {vs:List Value} {ds:List (DataW H)} {ps:List MemPlace},DataW.TrodAll enc C.prog W 0 (λ_=>true) true ts vs ds ps->ds.length=ts.length:=by
   intro ts
   induction ts with
   |nil=>intro vs ds ps h;obtain⟨_,rfl,_⟩:=trodAll_nil h;rfl
   |cons t ts ih=>
    intro vs ds ps h;obtain⟨v,vs',d,ds',p,q,rfl,rfl,rfl,hd,hrest⟩:=trodAll_cons h;simp[ih hrest]
  exact this hA
 have Y:s.fn H (ds++[])={results:=[.lit (.bool true)],args:=ds}:=by rw[QAj];exact V ds hlen
 have hrep:∀{Ds:List D} {vs:List Value},j5 (Gu W) Ds vs->j5 (Gu W) (Ds++[zeroG]) (vs++[.pointer (some ⟨0,0,none⟩)]):=by
  intro Ds
  induction Ds with
  |nil=>intro vs h;cases vs with
   |nil=>exact⟨hz,trivial⟩
   |cons v vs=>simp[j5]at h
  |cons D Ds ih=>intro vs h;cases vs with
   |nil=>simp[j5]at h
   |cons v vs=>
    simp only[j5]at h;simp only[QAJ,j5];exact⟨h.1,ih h.2⟩
 have M:=(hlaw Ds h1).2 (Gu W) W args.toList (PG W) (by rw[gVs,hg];exact hrep h2)
 rw[Array.toArray_toList]at M;refine M.mono λe W' ⟨v,K',he,hv,hkr,hsz,hh,hk,hfx⟩=>?_;simp only[l3]at hv;subst he;subst hv;have hb:Below W.heap.size W W':=⟨hfx.1,hfx.2.1,hfx.2.2,hsz,λk hk=>hh k hk⟩;refine⟨_,rfl,To (pa:=p) (pv:=[]) hW' (λb sp hd=>?_) (λsp hsp'=>?_) (λ_ _=>?_) rfl hb (ok_one U rfl (okWide_bool_mk O true))⟩;rw[Y,U];exact trodAll_mk1 (shut_bool O true);rw[Y];exact Hh hl hb hread hA (λx hx=>hW'.lt x (by simp[hx])) (λx hx=>hsp' x (by simp[hx]));rw[Y,G];rfl
end Go.Abs
namespace Go.Abs
open Go Go.RowKit
section
variable {P:Program} {nt:Nat} {ops:Array Oper} {E:Env}
theorem Xa:∀{l:List Oper} {l':List z1},Ql P nt ops l=some l'->l'.length=l.length
 |[],l',h=>by grind [Ql]
 |x::xs,l',h=>by
  simp only[Ql]at h;split at h;rename_i e2;cases h;simp[Xa e2]
  grind
end
end Go.Abs
namespace Go.Abs
open Go
variable {Q:AExit->St->Prop} {d:D} {fr:QzL} {k:Nat} {l:List z1} {o:z1} {s:St}
def JA (k j:Nat):Nat:=if j=k then 500000 else upN j
def Sw (k:Nat) (H:QzK):QzK:=H.map λp=>(JA k p.1,p.2.o5 (JA k))
theorem Qcd {i j:Nat} (h:JA k i=JA k j):i=j:=by
 grind [JA,upN]
theorem Ke {k:Nat}:∀(H:QzK) (j:Nat),lk (Sw k H) (JA k j)=(lk H j).map (u4.o5 (JA k))
 |[],_=>rfl
 |(i,b)::H,j=>by
  have:=Ke (k:=k) H j;simp only[Sw,QAr,Qe]at this ⊢;rw[this]
  by_cases h:i=j
  grind
  rw[if_neg h,if_neg (λe=>h (Qcd e))]
theorem Ya {k:Nat}:∀{H:QzK} {i:Nat} {b:u4},lk (Sw k H) i=some b->∃j b0,i=JA k j/\lk H j=some b0/\b=b0.o5 (JA k)
 |[],_,_,h=>by cases h
 |(j,x)::H,i,b,h=>by
  have h0:=h;simp only[Sw,QAr,Qe]at h;split at h;rename_i e;cases h;exact⟨j,x,e.symm,by rw[Qe,if_pos rfl],rfl⟩;rename_i e;obtain⟨C,b0,h1,h2,G⟩:=Ya (H:=H) h;refine⟨C,b0,h1, ?_,G⟩;rw[Qe,if_neg (λe2=>e Wb)];omega
def QoZ (P:Program) (f:Nat) (args:List n5) (s:St) (k:Nat) (Hr:QzK) (d:D):Prop:=
 ∃ds,QD s args=some ds/\k<1000000/\(∀t x,lk s.fr t=some x->k∉x.ids)/\d.ids=[]/\(∀j,(lk Hr j).isSome=(lk s.H j).isSome)/\
  n6 P f (ds.map λd=>(d.o5 (JA k)).can) (Sw k s.H) d (Sw k Hr)
section
variable {P:Program} {E:Env} {g:Gh} {s:St} {a:Act} {w:World}
theorem P9 {o:Oper} {ao:z5} {f:Nat} {args:List n5} {Hr:QzK} {K':Act->World->Prop} {Q:Exit->Act->World->Prop} (r:Rel E g s a w) (hp:Zx P o.op=some ao) (hcal:Jg s ao f args) (hc:QoZ P f args s k Hr d)
 (ht:∀t,o.dst=some t->t<E.nt) (hK:∀g' a' w',Rel E g' (St.apply ⟨s.fr,Hr⟩ o.dst d none) a' w'->K' a' w'):o.wp P a w K' Q:=by
 obtain⟨ds,hds,hk,hfr0,hd0,hdom,hen,hok⟩:=hc;obtain⟨vs,hxs,hhas,hrun⟩:=Kv r hp hcal hds hen;unfold Oper.wp;rw[hrun,Oper.upon_enter]
 obtain⟨G,guK,hB0,hS0⟩:∃G:Gh,G.K=g.K/\(∀j,G.β j=if j=500000 then g.β k else g.β (j - 1000000))/\∀j,G.σ j=if j=500000 then g.σ k else g.σ (j - 1000000):=
  ⟨⟨g.K,λj=>if j=500000 then g.β k else g.β (j - 1000000),λj=>if j=500000 then g.σ k else g.σ (j - 1000000)⟩,rfl,λ_=>rfl,λ_=>rfl⟩
 have Y:∀j,G.β (JA k j)=g.β j/\G.σ (JA k j)=g.σ j:=λj=>by
  rw[hB0,hS0];unfold JA;split
  grind
  have h1:upN j≠500000:=by grind [upN]
  have h2:upN j - 1000000=j:=by simp_all [upN]
  (repeat clear hK K);simp_all
 have hgu:G.pull (JA k)=g:=by
  have h1:(λj=>G.β (JA k j))=g.β:=funext λj=>(Y j).1;have h2:(λj=>G.σ (JA k j))=g.σ:=funext λj=>(Y j).2
  (repeat clear hK K);simp_all [Gh.pull]
 have hrel:ia G (Sw k s.H) w:=by
  refine⟨λi b hi j C=>?_,λi b hi=>?_,λi i' b b' B e e' h1 h2 h3 h4=>?_,by rw[guK];exact r.kr⟩
  obtain⟨j1,b0,rfl,h1,rfl⟩:=Ya hi;rw[u4.j7]at C;obtain⟨j0,hj0,rfl⟩:=Qz1.1 C;rw[Ke,Qz5];exact r.u9 j1 b0 h1 j0 hj0;obtain⟨j1,b0,rfl,h1,rfl⟩:=Ya hi;refine j6.o5.2 ?_;rw[hgu];exact(r.bx j1 b0 h1).move ⟨rfl,rfl⟩ (λ_ _ _ _ _ _=>⟨rfl,rfl⟩) (Kn.le_refl _) λB e _=>⟨rfl,λ_ h=>h,λ_=>.inl (QzZ _)⟩;obtain⟨j1,b0,rfl,q1,rfl⟩:=Ya h1;obtain⟨j2,b1,rfl,q2,rfl⟩:=Ya h2;rw[(Y _).1]at h3 h4;rw[r.inj j1 j2 b0 b1 B e e' q1 q2 h3 h4]
 refine(hok G w vs hrel (Ku hgu hxs) ?_).mono λe w' ⟨v,g',he,hv,U,hsz,V,hfx,hkeep,hnew⟩=>?_;intro x hx j C;obtain⟨x0,hx0,rfl⟩:=Qz1.1 hx;rw[Le,j7]at C;obtain⟨j0,hj0,rfl⟩:=Qz1.1 C;rw[Ke,Qz5];exact hhas x0 hx0 j0 hj0;subst he;rw[guK]at V
 have T:∀B,NW G (Sw k s.H) B->∃j b0 e,lk s.H j=some b0/\g.β j=some (B,e):=λB ⟨i,e,h1,h2⟩=>by
  obtain⟨b1,hb1⟩:=QzT.1 h1;obtain⟨j,b0,rfl,q1,_⟩:=Ya hb1
  grind
 have O:∀B,NW G (Sw k s.H) B->(∀o,g.K B o=none)/\(E.B0<=B\/E.fo B)/\¬XN w B:=λB hB=>by
  obtain⟨j,b0,e,h1,h2⟩:=T B hB;exact⟨((r.bx j b0 h1).gb h2).2.1,((r.bx j b0 h1).gb h2).2.2,(r.bx j b0 h1).xe h2⟩
 have hKle:g.K.le g'.K:=λb q x hx=>by
  have hb:=r.kr.lt hx
  grind
 have kU:∀j,(lk s.H j).isSome=true->j≠k->g'.β (JA k j)=g.β j/\g'.σ (JA k j)=g.σ j:=λj C M=>by
  have hbig:1000000<=JA k j:=by unfold JA;simp_all [upN]
  grind [Ke]
 have kK:∀B e,(lk s.H k).isSome=true->g'.β (JA k k)=some (B,e)->w.heap.size<=B\/(∃e2,g.β k=some (B,e2)):=λB e hs hβ=>by
  have e5:JA k k=500000:=if_pos rfl;have hs2:(lk (Sw k Hr) (JA k k)).isSome=true:=by grind [Ke]
  rcases hnew (JA k k) B e Wa hs2 hβ with h |⟨k2,e2,h1,h2,h3⟩;omega;obtain⟨b2,hb2⟩:=QzT.1 h2
  obtain⟨j,b0,rfl,q1,_⟩:=Ya hb2
  have M:j=k:=Classical.byContradiction λM=>by
   unfold JA at h1;rw[if_neg M]at h1;grind [upN]
  grind
 have r2:Rel E (g'.pull (JA k)) ⟨s.fr,Hr⟩ a w':=by
  refine⟨r.nt,r.df.of rfl (λD hD=>((V D (QAc.1 hD).1 (λho=>(O D ho).2.2 hD)).1).trans hD),λt x h=>(r.fr t x h).congr hKle λj C=>kU j (r.s9 t x h j C) (λe=>hfr0 t x h (e ▸ C)),λt x h j C=>by rw[hdom];exact r.s9 t x h j C,λj b h i hi=>?_,λj b h=>?_,λj j' b b' B e e' h1 h2 h3 h4=>?_,U.kr,
   ⟨Qz6 r.ext.1 hsz,λb hb hf=>?_,r.ext.2.2.trans hfx⟩,λb hb hf=>?_,λj C=>?_⟩
  have h1:lk (Sw k Hr) (JA k j)=some (b.o5 (JA k)):=by grind [Ke]
  have:=U.u9 _ _ h1 (JA k i) (by rw[u4.j7];grind)
  grind [Ke]
  have h1:lk (Sw k Hr) (JA k j)=some (b.o5 (JA k)):=by grind [Ke]
  have hb:=j6.o5.1 (U.bx _ _ h1);have hs:(lk s.H j).isSome=true:=by grind
  refine hb.move ⟨rfl,rfl⟩ (λ_ _ _ _ _ _=>⟨rfl,rfl⟩) (Kn.le_refl _) λB e hβ=>⟨rfl,λ_ h=>h,λ_=>?_⟩
  by_cases M:j=k
  subst M;rcases kK B e hs hβ with h2 |⟨e2,h2⟩
  exact .inl (Qz6 r.ext.1 h2);obtain⟨b0,hb0⟩:=QzT.1 hs;exact((r.bx j b0 hb0).gb h2).2.2;have hβ':g'.β (JA k j)=some (B,e):=hβ;rw[(kU j hs M).1]at hβ';obtain⟨b0,hb0⟩:=QzT.1 hs;exact((r.bx j b0 hb0).gb hβ').2.2;have q1:lk (Sw k Hr) (JA k j)=some (b.o5 (JA k)):=by grind [Ke]
  have q2:lk (Sw k Hr) (JA k j')=some (b'.o5 (JA k)):=by grind [Ke]
  exact Qcd (U.inj _ _ _ _ B e e' q1 q2 h3 h4)
  have hno:¬NW G (Sw k s.H) b:=λho=>by
   grind
  exact(V b (QAd hb r.ext.1) hno).1.trans (r.ext.2.1 b hb hf)
  have hno:¬NW G (Sw k s.H) b:=λho=>by
   grind
  exact(V b (QAd hb r.ext.1) hno).2.trans (r.kx b hb hf);obtain⟨h1,h2,h3,h4⟩:=r.kp j C;have:=kU j h4 Wa;exact⟨h1,this.1.trans h2,this.2.trans h3,by grind⟩
 have r3:Rel E (g'.pull (JA k)) (St.s6 ⟨s.fr,Hr⟩ o.dst none) a w':=by cases o.dst<;>exact r2
 refine hK _ _ w' (r3.apply (hv.congr (Kn.le_refl _) λj C=>?_) ?_ ht)
 grind
 intro j C;grind
end
section
variable {P:Program} {nt:Nat} {E:Env}
def opX (P:Program) (o:z1) (K:St->Prop) (s:St):Prop:=
 o.guard=none/\∃t f args k Hr d,o.dst=some t/\Jg s o.op f args/\QoZ P f args s k Hr d/\K ⟨(t,d)::s.fr,Hr⟩
theorem Tm {ops:Array Oper} {K:St->Prop} {Q:Exit->Act->World->Prop} (G:E.nt=nt) (C:∀(j:Nat) (o':Oper),ops[j]?=some o'->∀t,o'.dst=some t->t<E.nt) (ol:z1):∀(l:List Oper) (k:Nat) (l':List z1) (s:St) (g:Gh) (a:Act) (w:World),(∀j,l[j]?=ops[k+j]?)->
  Ql P nt ops l=some (l'++[ol])->Rel E g s a w->HL P l' (opX P ol K) s->(∀s' g' a' w',Rel E g' s' a' w'->K s'->Q .normal a' w')->wpOps P ops Q (List.range' k l.length) a w
 |[],k,l',s,g,a,w,_,hp,r,h,hK=>by
  simp only[Ql,QzQ]at hp
  (repeat clear hK K);simp_all
 |o::l,k,l',s,g,a,w,hl,hp,r,h,hK=>by
  simp only[Ql]at hp;split at hp;rename_i o' O e1 e2;have h0:ops[k]?=some o:=by simpa using(hl 0).symm
  rw[QAt,List.range'_succ,wpOps_cons];unfold wpOp;rw[h0];simp only;cases l' with
  |nil=>
   simp only[QA2,QzQ,QA3]at hp;obtain⟨rfl,rfl⟩:=hp;obtain⟨hg,t,f,args,kk,Hr,d,U,M,hc,hk⟩:=h;obtain⟨p1,p2,Y,p4⟩:=Qq e1
   have T:l=[]:=by
    have:=Xa e2
    grind
   subst T;have hw:Region.wanted o (yielded ops a.tmps)=true:=Yf r p2 C true (by rw[hg];rfl)
   rw[if_pos hw];refine .inl (P9 r p1 M hc (λt ht=>by grind) λg' a' w' O=>?_);have e:St.apply ⟨s.fr,Hr⟩ o.dst d none=⟨(t,d)::s.fr,Hr⟩:=by rw[<- Y,U];rfl
   rw[e]at O;exact hK _ g' a' w' O hk
  |cons o2 l2=>
   simp only[QAJ,QzQ,QA3]at hp;obtain⟨rfl,rfl⟩:=hp
   have:=Pz (Q:=Q) G r e1 C h (K':=wpOps P ops Q (List.range' (k+1) l.length)) λs' g' a' w' V h2=>
    Tm G C ol l (k+1) l2 s' g' a' w' (λj=>by have:=hl (j+1);grind) e2 V h2 hK
   grind
  grind
theorem QcF (h:HL P l (opX P o (Q .normal)) s):AW P nt (.region false (l++[o])) Q s:=λcode E g a w hm hp C O r=>by
 obtain⟨id,ops,rfl,_,h1⟩:=Jf hp;refine wpIn_region (Hj (λ⟨_,_,h⟩=>h) (Ye h1) _ _ _ ?_);rw[List.range_eq_range',<- QAv];exact Tm C (λj o' ho t M=>by rw[C];exact ZQ h1 j o' ho t M) o ops.toList 0 l s g a w Wc h1 r h λs' g' a' w' G T=>⟨s',g',T,G⟩
theorem Qv3 (h:(fr.all λp=>!p.2.ids.contains k)=true):∀t x,lk fr t=some x->k∉x.ids:=λt x hx hk=>by
 have:=QzX.1 h (t,x) (QV hx)
 grind
theorem Pj:∀{H Hr:QzK},Hr.map Prod.fst=H.map Prod.fst->∀j,(lk Hr j).isSome=(lk H j).isSome
 |[],[],_,_=>rfl
 |(a,x)::H,(b,y)::Hr,h,j=>by
  simp only[QAr,QA3]at h;rw[Qe,Qe,h.1];split;rfl;exact Pj h.2 j
 |[],_::_,h,_=>by cases h
 |_::_,[],h,_=>by cases h
theorem DK {ol:List z1} (C:ol=l++[o]) (h:run P .fixed l (opX P o (Q .normal)) s):TW P nt (.region false ol) Q s:=by
 subst C;exact QcF (Zq h)
theorem QfU {H H':QzK} {e:AExit} (hd:d=.l7 []) (C:∀k b,lk H' k=some b->lk H k=some b) (he:e=.ret\/e=.normal:=by first |exact .inl rfl |exact .inr rfl):Fm [] d H' e ⟨fr,H⟩:=by
 subst hd;rcases he with rfl |rfl<;>exact⟨.inl ⟨rfl,rfl⟩,C⟩
end
variable {H:QzK}
theorem MA {g:Gh} {c:Array Value} {k:Nat}:∀{off:Nat} {row:List D} {j:Nat},z4 g c off row->row[j]?=some (.x7 [])->z4 g c off (row.set j (.s4 k 0))
 |_,[],_,_,hj=>by grind
 |off,d::ds,0,h,hj=>by
  simp only[List.getElem?_cons_zero,QzQ]at hj;subst hj;simp only[List.set_cons_zero,z4]at h ⊢;obtain⟨⟨_,x,h2,G⟩,C⟩:=h;refine⟨⟨rfl,x,h2, ?_⟩,C⟩;simp only[z3,l3]at G ⊢
  grind
 |off,d::ds,j+1,h,hj=>by
  simp only[List.getElem?_cons_succ]at hj;simp only[List.set_cons_succ,z4]at h ⊢;exact⟨h.1,MA h.2 hj⟩
theorem Qgp {α:Type} {l:List α} {j:Nat} {x y:α} (h:y∈l.set j x):y=x\/y∈l:=by
 grind
theorem Gf (k0 j k l0 et:Nat) {row row':List D} {e0 t0:Nat} {p0:Bool} (hb:lk H k0=some ⟨[row],e0,t0,p0⟩) (hj:row[j]?=some (.x7 [])) (hr:row.set j (.s4 k 0)=row') (hk:lk H k=none):
  St.le ⟨fr,H⟩ ⟨fr,(k0,⟨[row'],e0,t0,false⟩)::(k,⟨[],l0,et,true⟩)::H⟩:=by
 subst hr;intro E g a w r;obtain⟨g',hK,hβ,C⟩:=r.pb (l0:=l0) (et:=et) (t:=k) hk;have hne:k0≠k:=λe=>by grind
 have O:lk ((k,(⟨[],l0,et,true⟩:u4))::H) k0=some ⟨[row],e0,t0,p0⟩:=by simp_all [Qe,Ne.symm]
 have up:∀i,(lk ((k,(⟨[],l0,et,true⟩:u4))::H) i).isSome=true->(lk ((k0,(⟨[row.set j (.s4 k 0)],e0,t0,false⟩:u4))::(k,⟨[],l0,et,true⟩)::H) i).isSome=true:=λi hi=>by
  grind [Qe]
 have M:∀i x,lk ((k0,(⟨[row.set j (.s4 k 0)],e0,t0,false⟩:u4))::(k,⟨[],l0,et,true⟩)::H) i=some x->∃x',lk ((k,(⟨[],l0,et,true⟩:u4))::H) i=some x':=λi x h=>by
  grind [Qe]
 refine⟨g',⟨C.nt,C.df,C.fr,λt d h i hi=>up i (C.s9 t d h i hi),λi x h i2 G=>?_,λi x h=>?_,λi i' x x' B e e' h1 h2=>?_,C.kr,C.ext,C.kx,λi hi=>let⟨q1,Y,T,U⟩:=C.kp i hi;⟨q1,Y,T,up i U⟩⟩⟩
 rw[Qe]at h;split at h;rename_i e;cases h
 simp only[u4.ids,QzV,if_false,QAi,QA4,QAj,QzU]at G;obtain⟨d,hd,V⟩:=G;rcases Qgp hd with rfl |hd
 (repeat clear hK K);simp_all [D.l4,Qmg]
 exact up i2 (C.ua k0 _ O row Wc d hd i2 V);exact up i2 (C.u9 i x h i2 G);rw[Qe]at h;split at h;rename_i e;cases h;subst e;obtain⟨q1,Y,T⟩:=C.bx k0 _ O;rcases T with⟨T,_⟩ |⟨_,B,c,U,q5,q6,q7,q8,q9⟩
 grind
 refine⟨λr0 hr0=>?_,by simp,.inr ⟨by simp,B,c,U,q5,q6, ?_,q8,q9⟩⟩
 grind
 grind [l5,MA]
 exact C.bx i x h;obtain⟨y1,e1⟩:=M i x h1;obtain⟨y2,e2⟩:=M i' x' h2;exact C.inj i i' y1 y2 B e e' e1 e2
theorem Qio {fr1:QzL} {H1:QzK} {l lH:List Nat} (t m k0:Nat) {b b0 G:u4} (hf:Qz l fr=fr1) (hH:Zs lH H=H1) (hb:lk H t=some b) (O:b.pr=true) (h0:lk H k0=some b0) (e0:b0.o5 (Zw t m)=G)
 (hw:ua ((m,b)::(k0,G)::H1) fr1=true) (Y:(fr1.all λp=>!p.2.ids.contains t&&!p.2.ids.contains m)=true) (V:(H1.all λp=>p.1 != t&&p.1 != m&&(p.2.pr||(!p.2.ids.contains t&&!p.2.ids.contains m)))=true) (hbk:QdW H H1=true) (ht:t<1000000:=by decide) (hm:m<1000000:=by decide) (hk0:k0≠t/\k0≠m:=by decide):
  St.le ⟨fr,H⟩ ⟨fr1,(m,b)::(k0,G)::H1⟩:=λE g a w r=>by
 subst hf hH e0;obtain⟨g',r'⟩:=KZ t m ht hm ⟨fr,H⟩ E g a w r;have hsw:Zw t m t=m:=by unfold Zw;simp
 have hsm:Zw t m m=t:=by grind [ZK]
 have C:∀k,k≠t->k≠m->Zw t m k=k:=λk h1 h2=>by unfold Zw;grind
 have T:b.o5 (Zw t m)=b:=u4.n9 ((r.bx t b hb).2.1 O);simp only[ua,QzR,QzX]at hw;simp only[QzX,QzR,QAU,QA0,decide_eq_false_iff_not]at Y;simp only[QzX,QzR,QAT,QAU,QA0,decide_eq_false_iff_not,bne_iff_ne,ne_eq]at V;refine⟨g',r'.less (λv d h=>?_) (λj x h=>?_) (λv d h j U=>hw.1 (v,d) (QV h) j U) (λj x h i hi=>hw.2 (j,x) (QV h) i hi) λj U hs=>?_⟩;simp only[St.o5,Z9];have h2:=YA l fr v d h;rw[h2,QAy]
 congr 1
 have M:=Y (v,d) (QV h);exact Qao λk hk=>C k Wb Wb;show lk (L1 (Zw t m) H) j=some x;rw[Kf (ZK t m)];rw[Qe]at h;split at h
 grind
 rw[Qe]at h;split at h
 grind
 have h2:=X8 lH H j x h;have M:=V (j,x) (QV h);rw[C j M.1.1 M.1.2,h2,QAy]
 congr 1
 cases hp:x.pr with
 |true=>exact u4.n9 ((r.bx j x h2).2.1 hp)
 |false=>
  have h4:=M.2.resolve_left Wb;exact N5 hp λk hk=>C k Wb Wb
 have hs':(lk (L1 (Zw t m) H) j).isSome=true:=hs
 grind [Kf,N4,Qe]
theorem Tz {g:Gh} {c:Array Value} {l0:Nat}:∀(lo:Nat) {off:Nat} {rs:List (List D)},(∀r∈rs,r.length=l0)->l5 g c off rs->l5 g c (off+lo*l0) (rs.drop lo)
 |0,off,rs,_,h=>by grind
 |lo+1,off,[],_,_=>by trivial
 |lo+1,off,r::rs,hl,h=>by
  simp only[l5]at h;have:=Tz lo (λr hr=>hl r Wb) h.2
  grind
theorem S1 {g g':Gh} {c:Array Value} {d':D}:∀{off:Nat} {row:List D} {j:Nat},z4 g c off row->(∀d v,row[j]?=some d->z3 g d v->d'.y4=true/\z3 g' d' v)->(∀i d v,i≠j->row[i]?=some d->z3 g d v->z3 g' d v)->z4 g' c off (row.set j d')
 |_,[],_,_,_,_=>by trivial
 |off,d::ds,0,h,h1,h2=>by
  simp only[List.set_cons_zero,z4]at h ⊢;obtain⟨⟨O,x,M,G⟩,C⟩:=h;obtain⟨V,U⟩:=h1 d x rfl G;refine⟨⟨V,x,M,U⟩, ?_⟩
  have key:∀{off:Nat} {ds:List D},z4 g c off ds->(∀(i:Nat) (d:D) (v:Value),ds[i]?=some d->z3 g d v->z3 g' d v)->z4 g' c off ds:=by
   intro off ds
   induction ds generalizing off with
   |nil=>grind [z4]
   |cons d ds ih=>
    intro h T;simp only[z4]at h ⊢;obtain⟨⟨O,x,M,G⟩,C⟩:=h;exact⟨⟨O,x,M,T 0 d x rfl G⟩,ih C λi d v hi=>T (i+1) d v hi⟩
  exact key C λi d v hi=>h2 (i+1) d v Wa hi
 |off,d::ds,j+1,h,h1,h2=>by
  simp only[List.set_cons_succ,z4]at h ⊢;obtain⟨⟨O,x,M,G⟩,C⟩:=h;exact⟨⟨O,x,M,h2 0 d x Wa rfl G⟩,S1 C (λd v hd=>h1 d v hd) λi d v hi hd=>h2 (i+1) d v Wa hd⟩
theorem Qma {fr:QzL} {H:QzK} (k0 j k:Nat) {row row':List D} {rows rows':List (List D)} {e0 t0 lo c n l0 et:Nat} {p0 pr:Bool} (h0:lk H k0=some ⟨[row],e0,t0,p0⟩) (hb:lk H k=some ⟨rows,l0,et,pr⟩)
 (hj:row[j]?=some (.y9 k lo c n)) (hc:c=lo*l0) (hn:lo+n=rows.length) (hr:row.set j (.s4 k n)=row') (hd:rows.drop lo=rows') (hz:l0≠0) (hk:k<1000000) (U:k0≠k)
 (hfr:(fr.all λp=>!p.2.ids.contains k)=true) (hH:(H.all λp=>p.1==k0||p.2.pr||!p.2.ids.contains k)=true) (O:∀i d,i≠j->row[i]?=some d->k∉d.l4):
  St.le ⟨fr,H⟩ ⟨fr,(k0,⟨[row'],e0,t0,false⟩)::(k,⟨rows',l0,et,pr⟩)::H⟩:=by
 subst hr hd hc;intro E g a w r;obtain⟨o,ho⟩:∃o,o=((g.σ k).1,(g.σ k).2+lo*l0):=⟨_,rfl⟩;obtain⟨q1,q2,q3⟩:=r.bx k _ hb;obtain⟨g',hg'⟩:∃g':Gh,g'=⟨g.K,g.β,λi=>if i=k then o else g.σ i⟩:=⟨_,rfl⟩;have hK:g'.K=g.K:=by grind
 have hβ:∀i,g'.β i=g.β i:=λi=>by rw[hg']
 have hσk:g'.σ k=o:=by simp_all
 have hσ:∀i,i≠k->g'.σ i=g.σ i:=λi hi=>by simp_all
 have hle:g.K.le g'.K:=by grind [Kn.le_refl]
 have M:∀i,i≠k->g'.β i=g.β i/\g'.σ i=g.σ i:=λi hi=>⟨hβ i,hσ i hi⟩;have hnk:∀t d,lk fr t=some d->k∉d.ids:=Qv3 hfr
 have T:∀i x,lk H i=some x->i≠k0->∀r∈x.rows,∀d∈r,k∉d.l4:=λi x hx hi r0 C d hd hm=>by
  have:=QzX.1 hH (i,x) (QV hx);simp only[QAT,beq_iff_eq,QAU,QA0,decide_eq_false_iff_not]at this;rcases this with(this |this) |this
  omega;rw[(r.bx i x hx).2.1 this r0 C d hd]at hm;grind;apply this;unfold u4.ids;split;rename_i hp;rw[(r.bx i x hx).2.1 hp r0 C d hd]at hm;omega
  grind
 have hng:¬g.gone k:=λhg=>by
  rcases q3 with⟨_,⟨_,h⟩ |⟨_,h,_⟩⟩ |⟨_,B,cc,h,_⟩;have:=h.1 hg.2
  grind [Zr]
  grind
  exact hg.no h
 have up:∀i,(lk H i).isSome=true->(lk ((k0,(⟨[row.set j (.s4 k n)],e0,t0,false⟩:u4))::(k,⟨rows.drop lo,l0,et,pr⟩)::H) i).isSome=true:=λi hi=>by
  grind [Qe]
 have V:∀i x,lk ((k0,(⟨[row.set j (.s4 k n)],e0,t0,false⟩:u4))::(k,⟨rows.drop lo,l0,et,pr⟩)::H) i=some x->∃x',lk H i=some x':=λi x h=>by
  grind [Qe]
 have hrm:∀d∈row.set j (.s4 k n),∀i∈d.l4,(lk H i).isSome=true:=λd hd i hi=>by
  rcases Qgp hd with rfl |hd
  grind [D.l4]
  exact r.ua k0 _ h0 row Wc d hd i hi
 refine⟨g',r.nt,r.df,λt d h=>(r.fr t d h).congr hle λi hi=>M i (λe=>hnk t d h (e ▸ hi)),λt d h i hi=>up i (r.s9 t d h i hi),λi x h i2 G=>?_,λi x h=>?_,λi i' x x' B e e' h1 h2=>?_,by rw[hK];exact r.kr,r.ext,λb=>by rw[hK];exact r.kx b,λi hi=>?_⟩
 rw[Qe]at h;split at h;cases h
 simp only[u4.ids,QzV,if_false,QAi,QA4,QAj,QzU]at G
 grind
 rw[Qe]at h;split at h;cases h
 refine up i2 (r.u9 k _ hb i2 ?_);revert G;unfold u4.ids
 grind
 exact up i2 (r.u9 i x h i2 G);rw[Qe]at h;split at h;rename_i e;cases h;subst e;obtain⟨p1,p2,Y⟩:=r.bx k0 _ h0;rcases Y with⟨Y,_⟩ |⟨_,B,cc,p4,p5,p6,p7,p8,p9⟩
 grind
 refine⟨λr0 C=>?_,by simp,.inr ⟨by simp,B,cc,by grind,p5,by grind, ?_,by simp_all,p9⟩⟩
 grind
 rw[hσ k0 U];simp only[l5]at p7 ⊢;refine⟨S1 p7.1 (λd v hd hv=>⟨rfl, ?_⟩) λi d v hi hd hv=>hv.congr hle λi2 G=>M i2 (λe=>O i d hi hd (e ▸ G)), ?_⟩;rw[hj]at hd;cases hd;obtain⟨a0,cap,rfl,h1,h2⟩:=hv;refine⟨a0,cap,rfl,h1, ?_⟩
 grind
 simp;rename_i hne;rw[Qe]at h;split at h;rename_i e;cases h;subst e;refine⟨λr0 C=>q1 r0 (QAh C),λhp r0 C=>q2 hp r0 (QAh C), ?_⟩;rcases q3 with⟨h1,⟨h2,h3⟩ |⟨_,h,_⟩⟩ |⟨_,B,cc,h2,h3,h4,h5,h6⟩
 grind
 grind
 refine .inr ⟨.inr hz,B,cc,by grind,h3,by grind, ?_,by simp_all⟩;rw[hσk,ho];refine l5.congr hle (Tz lo q1 h5) λr0 C d hd i hi=>M i λe=>?_;exact T k _ hb (Ne.symm U) r0 (QAh C) d hd (e ▸ hi);refine(r.bx i x h).move (M i (λe=>Wa)) (λr0 C d hd i2 G=>M i2 λe=>T i x h (Ne.symm hne) r0 C d hd (e ▸ G)) hle λB e he=>⟨rfl,λo ho=>by grind,id⟩;obtain⟨y1,e1⟩:=V i x h1;obtain⟨y2,e2⟩:=V i' x' h2;rw[hβ,hβ];exact r.inj i i' y1 y2 B e e' e1 e2;obtain⟨p1,p2,Y,p4⟩:=r.kp i hi
 grind
variable {lr ol:List z1}
section
variable {P:Program} {nt:Nat} {E:Env}
theorem RY {ops:Array Oper} {K:St->Prop} {Q:Exit->Act->World->Prop} (G:E.nt=nt) (C:∀(j:Nat) (o':Oper),ops[j]?=some o'->∀t,o'.dst=some t->t<E.nt) (ol:z1) (lr:List z1):∀(l:List Oper) (k:Nat) (l':List z1) (s:St) (g:Gh) (a:Act) (w:World),(∀j,l[j]?=ops[k+j]?)->
  Ql P nt ops l=some (l'++ol::lr)->Rel E g s a w->HL P l' (opX P ol (HL P lr K)) s->(∀s' g' a' w',Rel E g' s' a' w'->K s'->Q .normal a' w')->wpOps P ops Q (List.range' k l.length) a w
 |[],k,l',s,g,a,w,_,hp,r,h,hK=>by
  simp only[Ql,QzQ]at hp
  (repeat clear hK K);simp_all
 |o::l,k,l',s,g,a,w,hl,hp,r,h,hK=>by
  simp only[Ql]at hp;split at hp;rename_i o' O e1 e2;have h0:ops[k]?=some o:=by simpa using(hl 0).symm
  rw[QAt,List.range'_succ,wpOps_cons];unfold wpOp;rw[h0];simp only;cases l' with
  |nil=>
   simp only[QA2,QzQ,QA3]at hp;obtain⟨rfl,rfl⟩:=hp;obtain⟨Y,t,f,args,kk,Hr,d,T,M,hc,hk⟩:=h;obtain⟨p1,p2,V,p4⟩:=Qq e1;have hw:Region.wanted o (yielded ops a.tmps)=true:=Yf r p2 C true (by rw[Y];rfl)
   rw[if_pos hw];refine .inl (P9 r p1 M hc (λt ht=>by grind) λg' a' w' O=>?_);have e:St.apply ⟨s.fr,Hr⟩ o.dst d none=⟨(t,d)::s.fr,Hr⟩:=by rw[<- V,T];rfl
   rw[e]at O;exact RZ G C l (k+1) _ _ g' a' w' (λj=>by have:=hl (j+1);grind) e2 O hk hK
  |cons o2 l2=>
   simp only[QAJ,QzQ,QA3]at hp;obtain⟨rfl,rfl⟩:=hp
   have:=Pz (Q:=Q) G r e1 C h (K':=wpOps P ops Q (List.range' (k+1) l.length)) λs' g' a' w' U h2=>
    RY G C ol lr l (k+1) l2 s' g' a' w' (λj=>by have:=hl (j+1);grind) e2 U h2 hK
   grind
  grind
theorem PL (h:HL P l (opX P o (HL P lr (Q .normal))) s):AW P nt (.region false (l++o::lr)) Q s:=λcode E g a w hm hp C O r=>by
 obtain⟨id,ops,rfl,_,h1⟩:=Jf hp;refine wpIn_region (Hj (λ⟨_,_,h⟩=>h) (Ye h1) _ _ _ ?_);rw[List.range_eq_range',<- QAv];exact RY C (λj o' ho t M=>by rw[C];exact ZQ h1 j o' ho t M) o lr ops.toList 0 l s g a w Wc h1 r h λs' g' a' w' G T=>⟨s',g',T,G⟩
theorem QcJ (C:ol=l++o::lr) (h:run P .fixed l (opX P o (λs'=>run P .fixed lr (Q .normal) s')) s):TW P nt (.region false ol) Q s:=by
 subst C;exact PL (Yh (λ_ h=>by
  obtain⟨h1,t,f,args,k,Hr,d,h2,O,M,G⟩:=h;exact⟨h1,t,f,args,k,Hr,d,h2,O,M,Zq G⟩) (Zq h))
theorem Py {t f k:Nat} {az:List n5} {ds ds':List D} {d:D} {fr:QzL} {H Hr H1 H2:QzK} {K:St->Prop} (ho:o=⟨some t,.call f az,none⟩) (T:QD ⟨fr,H⟩ az=some ds) (hk:k<1000000)
 (O:(fr.all λp=>!p.2.ids.contains k)=true) (hd:d.ids=[]) (G:Hr.map Prod.fst=H.map Prod.fst) (C:(ds.map λd=>(d.o5 (JA k)).can)=ds') (h1:Sw k H=H1) (h2:Sw k Hr=H2) (M:n6 P f ds' H1 d H2) (U:K ⟨(t,d)::fr,Hr⟩):opX P o K ⟨fr,H⟩:=by
 subst ho C h1 h2;exact⟨rfl,t,f,_,k,Hr,d,rfl,.inl rfl,⟨ds,T,hk,Qv3 O,hd,Pj G,M⟩,U⟩
end
section
variable {P:Program} {nt:Nat}
theorem QkO {live:List Nat} {b:y5} (h:∀K:St->Prop,(∀fr H,TW P nt b Q ⟨Qz live fr,H⟩->K ⟨fr,H⟩)->run P .fixed l (opX P o (λs'=>run P .fixed lr K s')) s) (C:ol=l++o::lr:=by rfl):TW P nt (.seq (.region false ol) live b) Q s:=by
 subst C;refine PM (PL ?_);refine Yh (λ_ h=>?_) (Zq (h (λs'=>AW P nt b.erase Q s') λfr H hb=>?_));obtain⟨h1,t,f,args,k,Hr,d,h2,O,M,G⟩:=h;exact⟨h1,t,f,args,k,Hr,d,h2,O,M,Zq G⟩
 grind [DD,KY]
end
variable {Hr:QzK} {f:Nat}
def ZN (G:List Nat) (j:Nat):Nat:=if G.contains j=true then j else upN j
def Xq (G:List Nat) (H:QzK):QzK:=H.map λp=>(ZN G p.1,p.2.o5 (ZN G))
def Sd (G:List Nat):Bool:=G.all λk=>decide (k<1000000)
theorem KH {G:List Nat} (h:Sd G=true) {k:Nat} (hk:G.contains k=true):k<1000000:=by
 simpa using QzX.1 h k Wb
theorem Qce {G:List Nat} (C:Sd G=true) {i j:Nat} (h:ZN G i=ZN G j):i=j:=by
 unfold ZN at h;split at h<;>split at h;omega;rename_i h1 h2;have:=KH C h1;grind [upN];rename_i h1 h2;have:=KH C h2;grind [upN]
 grind [QnZ]
theorem Yb {G:List Nat} (C:Sd G=true):∀(H:QzK) (j:Nat),lk (Xq G H) (ZN G j)=(lk H j).map (u4.o5 (ZN G))
 |[],_=>rfl
 |(i,b)::H,j=>by
  have:=Yb C H j;simp only[Xq,QAr,Qe]at this ⊢;rw[this]
  by_cases h:i=j
  grind
  rw[if_neg h,if_neg (λe=>h (Qce C e))]
theorem Zj {G:List Nat}:∀{H:QzK} {i:Nat} {b:u4},lk (Xq G H) i=some b->∃j b0,i=ZN G j/\lk H j=some b0/\b=b0.o5 (ZN G)
 |[],_,_,h=>by cases h
 |(j,x)::H,i,b,h=>by
  have h0:=h;simp only[Xq,QAr,Qe]at h;split at h;rename_i e;cases h;exact⟨j,x,e.symm,by rw[Qe,if_pos rfl],rfl⟩;rename_i e;obtain⟨C,b0,h1,h2,M⟩:=Zj (H:=H) h;refine⟨C,b0,h1, ?_,M⟩;rw[Qe,if_neg (λe2=>e Wb)];omega
def SB (P:Program) (f:Nat) (args:List n5) (s:St) (G:List Nat) (Hr:QzK) (d:D):Prop:=
 ∃ds,QD s args=some ds/\Sd G=true/\(∀t x,lk s.fr t=some x->∀k∈x.ids,G.contains k=false)/\(∀k∈d.ids,G.contains k=true/\(lk Hr k).isSome=true)/\(∀j,(lk s.H j).isSome=true->(lk Hr j).isSome=true)/\(∀j,(lk Hr j).isSome=true->G.contains j=true\/(lk s.H j).isSome=true)/\
  n6 P f (ds.map λd=>(d.o5 (ZN G)).can) (Xq G s.H) d (Xq G Hr)
section
variable {P:Program} {E:Env} {g:Gh} {s:St} {a:Act} {w:World}
theorem Ra {o:Oper} {ao:z5} {args:List n5} {G:List Nat} {K':Act->World->Prop} {Q:Exit->Act->World->Prop} (r:Rel E g s a w) (hp:Zx P o.op=some ao) (hcal:Jg s ao f args) (hc:SB P f args s G Hr d)
 (ht:∀t,o.dst=some t->t<E.nt) (hK:∀g' a' w',Rel E g' (St.apply ⟨s.fr,Hr⟩ o.dst d none) a' w'->K' a' w'):o.wp P a w K' Q:=by
 obtain⟨ds,hds,hG,hfr0,hd0,hdom,hdom2,hen,hok⟩:=hc;obtain⟨vs,hxs,hhas,hrun⟩:=Kv r hp hcal hds hen;unfold Oper.wp;rw[hrun,Oper.upon_enter]
 obtain⟨M,guK,hB0,hS0⟩:∃M:Gh,M.K=g.K/\(∀j,M.β j=if G.contains j=true then g.β j else g.β (j - 1000000))/\∀j,M.σ j=if G.contains j=true then g.σ j else g.σ (j - 1000000):=
  ⟨⟨g.K,λj=>if G.contains j=true then g.β j else g.β (j - 1000000),λj=>if G.contains j=true then g.σ j else g.σ (j - 1000000)⟩,rfl,λ_=>rfl,λ_=>rfl⟩
 have hup:∀j,M.β (ZN G j)=g.β j/\M.σ (ZN G j)=g.σ j:=λj=>by
  by_cases e:G.contains j=true
  have hr:ZN G j=j:=if_pos e
  grind
  have hr:ZN G j=upN j:=if_neg e;have h1:¬G.contains (upN j)=true:=λh=>by have:=KH hG h;grind [upN]
  have h2:upN j - 1000000=j:=by simp_all [upN]
  grind
 have hgu:M.pull (ZN G)=g:=by
  have h1:(λj=>M.β (ZN G j))=g.β:=funext λj=>(hup j).1;have h2:(λj=>M.σ (ZN G j))=g.σ:=funext λj=>(hup j).2
  (repeat clear hK K);simp_all [Gh.pull]
 have hrel:ia M (Xq G s.H) w:=by
  refine⟨λi b hi j C=>?_,λi b hi=>?_,λi i' b b' B e e' h1 h2 Y h4=>?_,by rw[guK];exact r.kr⟩
  obtain⟨j1,b0,rfl,h1,rfl⟩:=Zj hi;rw[u4.j7]at C;obtain⟨j0,hj0,rfl⟩:=Qz1.1 C;rw[Yb hG,Qz5];exact r.u9 j1 b0 h1 j0 hj0;obtain⟨j1,b0,rfl,h1,rfl⟩:=Zj hi;refine j6.o5.2 ?_;rw[hgu];exact(r.bx j1 b0 h1).move ⟨rfl,rfl⟩ (λ_ _ _ _ _ _=>⟨rfl,rfl⟩) (Kn.le_refl _) λB e _=>⟨rfl,λ_ h=>h,λ_=>.inl (QzZ _)⟩;obtain⟨j1,b0,rfl,q1,rfl⟩:=Zj h1;obtain⟨j2,b1,rfl,q2,rfl⟩:=Zj h2;rw[(hup _).1]at Y h4;rw[r.inj j1 j2 b0 b1 B e e' q1 q2 Y h4]
 refine(hok M w vs hrel (Ku hgu hxs) ?_).mono λe w' ⟨v,g',he,hv,U,hsz,V,hfx,hkeep,hnew⟩=>?_;intro x hx j C;obtain⟨x0,hx0,rfl⟩:=Qz1.1 hx;rw[Le,j7]at C;obtain⟨j0,hj0,rfl⟩:=Qz1.1 C;rw[Yb hG,Qz5];exact hhas x0 hx0 j0 hj0;subst he;rw[guK]at V
 have T:∀B,NW M (Xq G s.H) B->∃j b0 e,lk s.H j=some b0/\g.β j=some (B,e):=λB ⟨i,e,h1,h2⟩=>by
  obtain⟨b1,hb1⟩:=QzT.1 h1;obtain⟨j,b0,rfl,q1,_⟩:=Zj hb1
  grind
 have O:∀B,NW M (Xq G s.H) B->(∀o,g.K B o=none)/\(E.B0<=B\/E.fo B)/\¬XN w B:=λB hB=>by
  obtain⟨j,b0,e,h1,h2⟩:=T B hB;exact⟨((r.bx j b0 h1).gb h2).2.1,((r.bx j b0 h1).gb h2).2.2,(r.bx j b0 h1).xe h2⟩
 have hKle:g.K.le g'.K:=λb q x hx=>by
  have hb:=r.kr.lt hx
  grind
 have kU:∀j,(lk s.H j).isSome=true->G.contains j=false->g'.β (ZN G j)=g.β j/\g'.σ (ZN G j)=g.σ j:=λj C hjk=>by
  have hbig:1000000<=ZN G j:=by unfold ZN;simp_all [upN]
  grind [Yb]
 have kK:∀k,G.contains k=true->∀B e,(lk Hr k).isSome=true->g'.β (ZN G k)=some (B,e)->w.heap.size<=B\/(∃j b0 e2,lk s.H j=some b0/\g.β j=some (B,e2)):=λk hk B e hs hβ=>by
  have e5:ZN G k=k:=if_pos hk;have hs2:(lk (Xq G Hr) (ZN G k)).isSome=true:=by grind [Yb]
  rcases hnew (ZN G k) B e (by rw[e5];exact KH hG hk) hs2 hβ with h |⟨k2,e2,h1,h2,Y⟩
  omega;obtain⟨b2,hb2⟩:=QzT.1 h2;obtain⟨j,b0,rfl,q1,_⟩:=Zj hb2
  grind
 have r2:Rel E (g'.pull (ZN G)) ⟨s.fr,Hr⟩ a w':=by
  refine⟨r.nt,r.df.of rfl (λD hD=>((V D (QAc.1 hD).1 (λho=>(O D ho).2.2 hD)).1).trans hD),λt x h=>(r.fr t x h).congr hKle λj C=>kU j (r.s9 t x h j C) (hfr0 t x h j C),λt x h j C=>hdom j (r.s9 t x h j C),λj b h i hi=>?_,λj b h=>?_,λj j' b b' B e e' h1 h2 Y h4=>?_,U.kr,
   ⟨Qz6 r.ext.1 hsz,λb hb hf=>?_,r.ext.2.2.trans hfx⟩,λb hb hf=>?_,λj C=>?_⟩
  have h1:lk (Xq G Hr) (ZN G j)=some (b.o5 (ZN G)):=by grind [Yb]
  have:=U.u9 _ _ h1 (ZN G i) (by rw[u4.j7];grind)
  grind [Yb]
  have h1:lk (Xq G Hr) (ZN G j)=some (b.o5 (ZN G)):=by grind [Yb]
  have hb:=j6.o5.1 (U.bx _ _ h1);have hsr:(lk Hr j).isSome=true:=by grind
  refine hb.move ⟨rfl,rfl⟩ (λ_ _ _ _ _ _=>⟨rfl,rfl⟩) (Kn.le_refl _) λB e hβ=>⟨rfl,λ_ h=>h,λ_=>?_⟩;cases hjk:G.contains j
  have hs:(lk s.H j).isSome=true:=(hdom2 j hsr).resolve_left Wb;have hβ':g'.β (ZN G j)=some (B,e):=hβ;rw[(kU j hs hjk).1]at hβ';obtain⟨b0,hb0⟩:=QzT.1 hs;exact((r.bx j b0 hb0).gb hβ').2.2;rcases kK j hjk B e hsr hβ with h2 |⟨j2,b0,e2,h2,Y⟩
  exact .inl (Qz6 r.ext.1 h2);exact((r.bx j2 b0 h2).gb Y).2.2;have q1:lk (Xq G Hr) (ZN G j)=some (b.o5 (ZN G)):=by grind [Yb]
  have q2:lk (Xq G Hr) (ZN G j')=some (b'.o5 (ZN G)):=by grind [Yb]
  exact Qce hG (U.inj _ _ _ _ B e e' q1 q2 Y h4)
  have hno:¬NW M (Xq G s.H) b:=λho=>by
   grind
  exact(V b (QAd hb r.ext.1) hno).1.trans (r.ext.2.1 b hb hf)
  have hno:¬NW M (Xq G s.H) b:=λho=>by
   grind
  exact(V b (QAd hb r.ext.1) hno).2.trans (r.kx b hb hf);obtain⟨h1,h2,Y,h4⟩:=r.kp j C
  have hjG:G.contains j=false:=by
   grind [KH]
  have:=kU j h4 hjG;exact⟨h1,this.1.trans h2,this.2.trans Y,hdom j h4⟩
 have r3:Rel E (g'.pull (ZN G)) (St.s6 ⟨s.fr,Hr⟩ o.dst none) a w':=by cases o.dst<;>exact r2
 refine hK _ _ w' (r3.apply (hv.congr (Kn.le_refl _) λj C=>?_) ?_ ht);have e5:ZN G j=j:=if_pos (hd0 j C).1;show g'.β (ZN G j)=g'.β j/\g'.σ (ZN G j)=g'.σ j
 grind
 intro j C;have h1:=(hd0 j C).2;cases hdst:o.dst<;>exact h1
end
section
variable {P:Program} {nt:Nat} {E:Env}
def opZ (P:Program) (o:z1) (K:St->Prop) (s:St):Prop:=
 o.guard=none/\∃t f args G Hr d,o.dst=some t/\Jg s o.op f args/\SB P f args s G Hr d/\K ⟨(t,d)::s.fr,Hr⟩
theorem Qp1 {G:List Nat} (h:(fr.all λp=>p.2.ids.all λk=>!G.contains k)=true):∀t x,lk fr t=some x->∀k∈x.ids,G.contains k=false:=λt x hx k hk=>by
 simpa using QzX.1 (QzX.1 h (t,x) (QV hx)) k hk
theorem QbZ {o:z1} {t:Nat} {G:List Nat} {az:List n5} {ds ds':List D} {H H1 H2:QzK} {K:St->Prop} (ho:o=⟨some t,.call f az,none⟩) (T:QD ⟨fr,H⟩ az=some ds) (hk:Sd G=true)
 (O:(fr.all λp=>p.2.ids.all λk=>!G.contains k)=true) (hd:d.ids=[]) (U:Hr.map Prod.fst=H.map Prod.fst) (C:(ds.map λd=>(d.o5 (ZN G)).can)=ds') (h1:Xq G H=H1) (h2:Xq G Hr=H2) (M:n6 P f ds' H1 d H2) (Y:K ⟨(t,d)::fr,Hr⟩):opZ P o K ⟨fr,H⟩:=by
 subst ho C h1 h2;exact⟨rfl,t,f,_,G,Hr,d,rfl,.inl rfl,⟨ds,T,hk,Qp1 O,λk V=>by grind,λj h=>by grind [Pj],λj h=>.inr (by grind [Pj]),M⟩,Y⟩
end
section
variable {P:Program} {nt:Nat}
end
end Go.Abs
namespace Go.Abs
open Go
variable {H H':QzK} {P:Program} {d:D} {ds:List D} {f i:Nat} {ρ ρ':Nat->Nat}
structure Rn (ρ ρ':Nat->Nat):Prop where
 inv:∀k,ρ' (ρ k)=k
 small:∀k,ρ k<1000000↔k<1000000
def Ko (ρ:Nat->Nat) (H:QzK):QzK:=H.map λp=>(ρ p.1,p.2.o5 ρ)
section
variable {ρ ρ':Nat->Nat} (hρ:Rn ρ ρ')
include hρ
theorem Rn.inj {j:Nat} (h:ρ i=ρ j):i=j:=by rw[<- hρ.inv i,h,hρ.inv]
theorem Y5:∀(H:QzK) (j:Nat),lk (Ko ρ H) (ρ j)=(lk H j).map (u4.o5 ρ)
 |[],_=>rfl
 |(i,b)::H,j=>by
  have:=Y5 H j;simp only[Ko,QAr,Qe]at this ⊢;rw[this]
  by_cases h:i=j
  grind
  rw[if_neg h,if_neg (λe=>h (hρ.inj e))]
omit hρ in
theorem MI:∀{H:QzK} {i:Nat} {b:u4},lk (Ko ρ H) i=some b->∃j,i=ρ j
 |[],_,_,h=>by cases h
 |(j,x)::H,i,b,h=>by
  simp only[Ko,QAr,Qe]at h;split at h;rename_i e;exact⟨j,e.symm⟩;exact MI (H:=H) h
theorem Xo {b:u4} (h:lk (Ko ρ H) i=some b):∃j b0,i=ρ j/\lk H j=some b0/\b=b0.o5 ρ:=by
 obtain⟨j,rfl⟩:=MI h;rw[Y5 hρ]at h;obtain⟨b0,h1,h2⟩:=QzM.1 h
 grind
end
theorem o8.o5 {g:Gh} {ρ:Nat->Nat}:∀{ds:List D} {vs:List Value},o8 g (ds.map (D.o5 ρ)) vs↔o8 (g.pull ρ) ds vs
 |[],[]=>Iff.rfl
 |d::ds,v::vs=>by simp only[QAr,o8];rw[l6.o5,o8.o5]
 |[],_::_=>Iff.rfl
 |_::_,[]=>Iff.rfl
theorem n6.vi (hρ:Rn ρ ρ') (h:n6 P f ds H d H'):n6 P f (ds.map (D.o5 ρ)) (Ko ρ H) (d.o5 ρ) (Ko ρ H'):=by
 refine⟨h.1,λg w vs C Y hids=>?_⟩
 have hr0:ia (g.pull ρ) H w:=by
  refine⟨λk b hk j V=>?_,λk b hk=>?_,λi i' b b' B e e' h1 h2 T h4=>?_,C.kr⟩;have h1:lk (Ko ρ H) (ρ k)=some (b.o5 ρ):=by grind [Y5]
  have:=C.u9 _ _ h1 (ρ j) (by rw[u4.j7];grind)
  grind [Y5]
  have h1:lk (Ko ρ H) (ρ k)=some (b.o5 ρ):=by grind [Y5]
  exact j6.o5.1 (C.bx _ _ h1);have q1:lk (Ko ρ H) (ρ i)=some (b.o5 ρ):=by grind [Y5]
  have q2:lk (Ko ρ H) (ρ i')=some (b'.o5 ρ):=by grind [Y5]
  exact hρ.inj (C.inj _ _ _ _ B e e' q1 q2 T h4)
 refine(h.2 (g.pull ρ) w vs hr0 (o8.o5.1 Y) (λx hx k hk=>?_)).mono λe w' ⟨v,g',he,hv,O,hsz,hfr,hfx,U,hnew⟩=>?_
 grind [List.mem_map_of_mem,j7,Y5]
 obtain⟨M,guK,hB0,hS0⟩:∃M:Gh,M.K=g'.K/\(∀j,M.β j=g'.β (ρ' j))/\∀j,M.σ j=g'.σ (ρ' j):=
  ⟨⟨g'.K,λj=>g'.β (ρ' j),λj=>g'.σ (ρ' j)⟩,rfl,λ_=>rfl,λ_=>rfl⟩
 have G:∀j,M.β (ρ j)=g'.β j/\M.σ (ρ j)=g'.σ j:=λj=>by
  rw[hB0,hS0,hρ.inv];simp
 have hgu:M.pull ρ=g':=by
  have h1:(λj=>M.β (ρ j))=g'.β:=funext λj=>(G j).1;have h2:(λj=>M.σ (ρ j))=g'.σ:=funext λj=>(G j).2
  (repeat clear hK K);simp_all [Gh.pull]
 have hown:∀b,NW (g.pull ρ) H b->NW g (Ko ρ H) b:=λb ⟨k,e,h1,h2⟩=>⟨ρ k,e,by grind [Y5],h2⟩;refine⟨v,M,he,l6.o5.2 Wb,⟨λi b hi j V=>?_,λi b hi=>?_,λi i' b b' B e e' h1 h2 T h4=>?_,by rw[guK];exact O.kr⟩,hsz,λb hb hn=>?_,hfx,λk hk hs=>?_,λk B e hk hs hβ=>?_⟩
 obtain⟨j1,b0,rfl,h1,rfl⟩:=Xo hρ hi;rw[u4.j7]at V;obtain⟨j0,hj0,rfl⟩:=Qz1.1 V;rw[Y5 hρ,Qz5];exact O.u9 j1 b0 h1 j0 hj0;obtain⟨j1,b0,rfl,h1,rfl⟩:=Xo hρ hi;refine j6.o5.2 ?_;rw[hgu];exact O.bx j1 b0 h1;obtain⟨j1,b0,rfl,q1,rfl⟩:=Xo hρ h1;obtain⟨j2,b1,rfl,q2,rfl⟩:=Xo hρ h2;rw[(G _).1]at T h4;rw[O.inj j1 j2 b0 b1 B e e' q1 q2 T h4];rw[guK];exact hfr b hb λho=>hn (hown b ho);obtain⟨b,hb⟩:=QzT.1 hs;obtain⟨j,b0,rfl,q1,rfl⟩:=Xo hρ hb
 have V:1000000<=j:=by
  have:=hρ.small j;omega
 obtain⟨h1,h2,T⟩:=U j V Wb;exact⟨by grind [Y5],by rw[(G j).1];exact h2,by rw[(G j).2];exact T⟩
 obtain⟨b,hb⟩:=QzT.1 hs;obtain⟨j,b0,rfl,q1,rfl⟩:=Xo hρ hb;have V:j<1000000:=(hρ.small j).1 hk;rw[(G j).1]at hβ;rcases hnew j B e V Wb hβ with h |⟨k2,e2,h1,h2,T⟩
 omega;exact .inr ⟨ρ k2,e2,(hρ.small k2).2 h1,by grind [Y5],T⟩
def Bn (a b:Nat) (k:Nat):Nat:=if k=a then b else if k=b then a else k
theorem rnS {a b:Nat} (ha:1000000<=a) (hb:1000000<=b):Rn (Bn a b) (Bn a b) where
 inv k:=by grind [Bn]
 small k:=by grind [Bn]
theorem n6.cg {ds2:List D} {H2 H2':QzK} {d2:D} (hρ:Rn ρ ρ') (h:n6 P f ds H d H') (e1:ds.map (D.o5 ρ)=ds2) (e2:Ko ρ H=H2) (e3:d.o5 ρ=d2) (C:Ko ρ H'=H2'):n6 P f ds2 H2 d2 H2':=by
 subst e1 e2 e3 C;exact h.vi hρ
end Go.Abs
namespace Go.Abs
open Go
variable {Q Q1:Exit->Act->World->Prop} {i j k:Nat} {l1 l2:List z1} {o:Oper} {s:St}
section
variable {P:Program} {nt m:Nat} {ops:Array Oper}
theorem j9.trans (h:j9 ops k j) (h2:j9 ops j i):j9 ops k i:=by
 induction h with
 |one h=>exact .more h h2
 |more h _ ih=>exact .more h (ih h2)
def Ff (ops:Array Oper) (m:Nat):Array Oper:=(ops.toList.take m).toArray
theorem QaV (i:Nat):(Ff ops m)[i]?=if i<m then ops[i]? else none:=by
 simp[Ff,List.getElem?_take]
theorem Xn (h:i<m):(Ff ops m)[i]?=ops[i]?:=by rw[QaV,if_pos h]
theorem D7 (h:(Ff ops m)[i]?=some o):i<m/\ops[i]?=some o:=by
 grind [QaV]
theorem Kx (hm:m<=ops.size):(Ff ops m).size=m:=by grind [Ff]
theorem Lr (h:gdB ops=true) {b:Bool} (ho:ops[k]?=some o) (C:o.guard=some (j,b)):j<k:=by
 have hk:=(QAc.1 ho).1;have:=QzX.1 h k (QAa.2 hk)
 grind
theorem Qeh (h:gdB ops=true) (hk:k<m) (ho:ops[k]?=some o):o.looksAt (Ff ops m)=o.looksAt ops:=by
 unfold Oper.looksAt;cases C:o.guard with
 |none=>rfl
 |some p=>
  obtain⟨j,b⟩:=p;have:=Lr h ho C
  grind [Xn]
theorem Qef (h:gdB ops=true) {p:Oper} (hk:k<m) (ho:ops[k]?=some o) (C:j<m) (hp:ops[j]?=some p):o.apart (Ff ops m) p=o.apart ops p:=by
 grind [Oper.apart,Qeh]
theorem Qeg (h:gdB ops=true) (hk:k<m) (ho:ops[k]?=some o):Zo (Ff ops m) o.guard=Zo ops o.guard:=by
 cases C:o.guard with
 |none=>rfl
 |some p=>
  obtain⟨j,b⟩:=p;have:=Lr h ho C
  grind [Zo,Xn]
theorem QaW:∀{l:List Oper} {l':List z1},(∀o∈l,Zo (Ff ops m) o.guard=Zo ops o.guard)->Ql P nt ops l=some l'->Ql P nt (Ff ops m) l=some l'
 |[],_,_,h=>h
 |o::l,l',hg,h=>by
  simp only[Ql]at h ⊢
  have e:QW P nt (Ff ops m) o=QW P nt ops o:=by
   grind [QW]
  rw[e];split at h;rename_i o' C e1 e2;rw[e1,QaW (λx hx=>hg x Wb) e2];exact h
  grind
theorem Jz:∀{l:List Oper} {a b:List z1},Ql P nt ops l=some (a++b)->Ql P nt ops (l.take a.length)=some a/\Ql P nt ops (l.drop a.length)=some b
 |l,[],b,h=>⟨by rfl,by grind⟩
 |[],x::a,b,h=>by grind [Ql]
 |o::l,x::a,b,h=>by
  simp only[Ql]at h;split at h;rename_i o' C e1 e2;simp only[QAJ,QzQ,QA3]at h;obtain⟨rfl,rfl⟩:=h;obtain⟨h1,h2⟩:=Jz e2;refine⟨?_,by grind⟩
  grind [Ql]
  grind
def Qoi (l1 l2:List z1):Bool:=(l2.all λo=>o.guard.isNone)||match l1.getLast? with
 |some o=>o.guard.isSome
 |none=>true
theorem Fi {x:Option (Nat × Bool)} (h:Zo ops o.guard=some x):x.isNone=o.guard.isNone:=by
 cases C:o.guard with
 |none=>rw[C]at h;grind [Zo]
 |some p=>
  grind [Zo]
theorem QhU (G:gdB ops=true) (hm:m<=ops.size) (h:MY ops=true):MY (Ff ops m)=true:=by
 simp only[MY,QzR,QzX,QAa]at h ⊢;refine⟨?_,λk hk=>?_⟩;unfold Region.noSelect at h ⊢;rw[Array.all_eq_true_iff_forall_mem]at h ⊢;intro o ho;obtain⟨i,hi,e⟩:=Array.mem_iff_getElem.1 ho;exact h.1 o (Array.mem_of_getElem? (D7 (by rw[<- e];exact QAS hi)).2)
 rw[Kx hm]at hk;have C:=h.2 k Wa;unfold Ce at C ⊢;rw[Xn hk];cases ho:ops[k]? with
 |none=>grind
 |some o=>
  rw[ho]at C;simp only[QzR,QzX,QAa]at C ⊢
  grind [Kx,Xn,Qef]
theorem Qo9 (hm:m<=ops.size) (h:lsB ops=true):lsB (Ff ops m)=true:=by
 simp only[lsB,QAT]at h ⊢;rcases h with h |h
 left;have h1:=QzN h
 grind [Ff,List.take_sublist]
 right;simp only[QzX,QAa]at h ⊢;intro j C k hk;rw[Kx hm]at C;rw[Xn C,Xn (Wa:k<m)];exact h j Wa k hk
theorem Qo8 (hp:Ql P nt ops ops.toList=some (l1++l2)) (M:Qoi l1 l2=true) (h:lcB ops=true):lcB (Ff ops l1.length)=true:=by
 obtain⟨hp1,U⟩:=Jz hp;have hlen:=Xa hp;have hm:l1.length<=ops.size:=by grind
 simp only[lcB,QzX,QAa]at h ⊢;intro j hj k hk;rw[Kx hm]at hj;have:=h j Wa k hk;rw[Xn hj,Xn (Wa:k<l1.length)];cases Y:ops[j]? with
 |none=>simp
 |some oj=>
  cases V:ops[k]? with
  |none=>simp
  |some ok=>
   rw[Y,V]at this;simp only[QAT,QAU,Qz0]at this ⊢;have G:(Ff ops l1.length).toList=ops.toList.take l1.length:=by rfl
   have e1:Nd (Ff ops l1.length) k=true->Nd ops k=true:=λhf=>by
    simp only[Nd,G]at hf ⊢;simp only[Qoi,QAT]at M
    have T:ops.toList.drop k=(ops.toList.take l1.length).drop k++ops.toList.drop l1.length:=by
     grind [List.take_append_drop]
    rcases M with M |M;rw[T,List.all_append,hf,QAA];rw[QzX]at M ⊢;intro x hx;obtain⟨i,hi⟩:=List.mem_iff_getElem?.1 hx
    obtain⟨x',h1,h2⟩:=QK U i x hi;rw[<- Fi (Qq h2).2.1]
    grind
    exfalso;have O:l1≠[]:=by grind
    rw[List.getLast?_eq_some_getLast O]at M;have C:∃o,ops[l1.length - 1]?=some o:=⟨_,QAS (Wa:l1.length - 1<ops.size)⟩;obtain⟨o,ho⟩:=C;obtain⟨o',h1,h2⟩:=QK hp (l1.length - 1) o Wb;rw[QAI Wa,<- List.getLast?_eq_getElem?,List.getLast?_eq_some_getLast O]at h1;cases h1
    have hn:=Fi (Qq h2).2.1
    have hmem:o∈(ops.toList.take l1.length).drop k:=by
     refine List.mem_iff_getElem?.2 ⟨l1.length - 1 - k, ?_⟩;rw[List.getElem?_drop,List.getElem?_take,if_pos Wa,show k+(l1.length - 1 - k)=l1.length - 1 by omega,QAF];omega
    (repeat clear hK K);simp_all
   have e2:CL (Ff ops l1.length) k j=CL ops k j:=by
    grind [CL,List.drop_take]
   rcases this with⟨h1 |h1 |h1⟩ |h1
   grind
   grind
   grind
   exact .inr h1
theorem Qo7 (hm:m<=ops.size) (h:gdB ops=true):gdB (Ff ops m)=true:=by
 grind [gdB,Kx,Xn]
theorem TH {Q:Exit->Act->World->Prop}:∀(fuel:Nat) (listed:Array Bool) (a:Act) (w:World),wpAny P .any ops Q fuel listed a w->wpAny P .any ops Q (fuel+1) listed a w
 |0,listed,a,w,h=>⟨λ_=>h.2,λi hi=>by rw[h.1]at hi;grind⟩
 |fuel+1,listed,a,w,h=>⟨h.1,λi hi=>wpOp_mono (λa w h=>TH fuel _ a w h) (h.2 i hi)⟩
theorem Sr {Q:Exit->Act->World->Prop} (n:Nat):∀(k:Nat) (listed:Array Bool) (a:Act) (w:World),wpAny P .any ops Q n listed a w->wpAny P .any ops Q (k+n) listed a w
 |0,_,_,_,h=>by grind
 |k+1,listed,a,w,h=>by
  rw[show k+1+n=k+n+1 by omega];exact TH _ _ _ _ (Sr n k listed a w h)
theorem Qpa {a:Act} {w:World} {K K':Act->World->Prop} (C:∀e a w,e≠.normal->Q1 e a w->Q e a w) (M:∀a w,K a w->K' a w) (h:o.wp P a w K Q1):o.wp P a w K' Q:=by
 unfold Oper.wp at*;generalize (execOp a.eval o).run P w=r at*;have G:LetsOut Q1->LetsOut Q:=λ⟨a,w,h⟩=>⟨a,w,C _ _ _ Wc h⟩;cases r with
 |ok n w'=>
  cases n<;>simp only[Oper.upon]at h ⊢<;>
   first
    |grind
    |grind [Calls.mono]
    |grind [Rows.mono]
    |exact h
 |halt x w'=>cases x<;>simp only[Oper.upon]at h ⊢<;>first |grind |exact h
theorem QcV (G:gdB ops=true) (hk:k<m) (ho:ops[k]?=some o) (tmps:Array Value):Region.wanted o (yielded (Ff ops m) tmps)=Region.wanted o (yielded ops tmps):=by
 unfold Region.wanted;cases C:o.guard with
 |none=>rfl
 |some p=>
  obtain⟨j,b⟩:=p;have:=Lr G ho C
  grind [yielded,Xn]
theorem Kd {listed:Array Bool}:∀(k:Nat),(∃i,i<k/\listed.getD i true=false)->∃i,i<k/\listed.getD i true=false/\∀j,j<i->listed.getD j true=true
 |0,⟨_,h,_⟩=>Wa
 |k+1,⟨i,h1,h2⟩=>by
  by_cases h:∃i,i<k/\listed.getD i true=false
  obtain⟨i,M,G,C⟩:=Kd k h
  grind
  grind
theorem Qg6 {rest:Nat} (hg:gdB ops=true) (hf:MY ops=true) (hm:m<=ops.size) (hQ:∀e a w,e≠.normal->Q1 e a w->Q e a w) (hbar:∀i j,i<m->m<=j->j<ops.size->j9 ops j i)
 (hN:∀a w (listed:Array Bool),listed.size=ops.size->(∀i,i<ops.size->listed.getD i true=decide (i<m))->Qhm ops listed->Q1 .normal a w->wpAny P .any ops Q rest listed a w):
  ∀(fuel:Nat) (C listed:Array Bool) (a:Act) (w:World),listed.size=ops.size->C.size=m->(∀i,i<m->listed.getD i true=C.getD i true)->(∀i,m<=i->i<ops.size->listed.getD i true=false)->Qhm ops listed->
   wpAny P .any (Ff ops m) Q1 fuel C a w->wpAny P .any ops Q (fuel+rest) listed a w:=by
 have V:∀k,k<ops.size->Ce ops k=true:=by
  (repeat clear hK K);simp_all [MY]
 have Y:∀{k:Nat} {o:Oper},ops[k]?=some o->∀e∈o.after,Region.binds .any e=true->e.on<k:=λ{k o} ho e he hb=>by
  have h1:=V k (QAc.1 ho).1;unfold Ce at h1;rw[ho]at h1;simp only[QzR,Array.all_eq_true_iff_forall_mem]at h1
  grind
 intro fuel
 induction fuel with
 |zero=>
  intro C listed a w h1 h2 h3 h4 hd h;rw[Nat.zero_add];refine hN a w listed h1 (λi hi=>?_) hd h.2
  by_cases G:i<m
  rw[decide_eq_true G];cases hx:listed.getD i true with
  |true=>rfl
  |false=>
   obtain⟨i0,q1,q2,q3⟩:=Kd m ⟨i,G,by rw[<- h3 i G];omega⟩
   have ho:ops[i0]?=some ops[i0]:=QAS Wa
   have:i0∈Region.ready .any (Ff ops m) C:=mem_ready.2 ⟨q2,_,by rw[Xn q1];exact ho,λe he hb=>by
    grind⟩
   rw[h.1]at this;grind
  grind
 |succ fuel ih=>
  intro C listed a w h1 h2 h3 h4 hd h
  by_cases hall:∃i,i<m/\C.getD i true=false
  obtain⟨i0,q1,q2,q3⟩:=Kd m hall;have ho:ops[i0]?=some ops[i0]:=QAS Wa
  have hr0:i0∈Region.ready .any ops listed:=mem_ready.2 ⟨by grind,_,ho,λe he hb=>by
    grind⟩
  rw[show fuel+1+rest=(fuel+rest)+1 by omega];refine⟨λhx=>Wb,λi hi=>?_⟩;obtain⟨hu,o,M,hal⟩:=mem_ready.1 hi
  have G:i<m:=Classical.byContradiction λhn=>by
   grind [NE]
  have U:i∈Region.ready .any (Ff ops m) C:=mem_ready.2 ⟨by grind,o,by grind [Xn],λe he hb=>by
   grind⟩
  have hw:=h.2 i U;unfold wpOp at hw ⊢;rw[Xn G,M]at hw;rw[M];simp only at hw ⊢;rw[QcV hg G M]at hw
  have step:∀a w,wpAny P .any (Ff ops m) Q1 fuel (C.setIfInBounds i true) a w->wpAny P .any ops Q (fuel+rest) (listed.setIfInBounds i true) a w:=λa w hh=>by
   refine ih _ _ a w Wb Wb (λk hk=>?_) (λk hk hk2=>?_) (Pd hd hi) hh
   by_cases e:i=k
   (repeat clear hK K);simp_all
   (repeat clear hK K);simp_all
   rw[getD_set_ne true Wa];grind
  split;rename_i O;rw[if_pos O]at hw;rcases hw with hw |⟨hw,a',w',hL⟩
  grind [Qpa]
  exact .inr ⟨hw,a',w',hQ _ _ _ Wc hL⟩
  grind
  have T:Region.ready .any (Ff ops m) C=[]:=by
   rw[List.eq_nil_iff_forall_not_mem]
   grind [mem_ready]
  rw[show fuel+1+rest=(fuel+1)+rest by omega];refine Sr rest (fuel+1) listed a w (hN a w listed h1 (λi hi=>?_) hd (h.1 T))
  grind
end
section
variable {P:Program} {nt:Nat} {ops:Array Oper}
def QhD:List z1->z1->List z1->Bool
 |[],o,l2=>(List.range l2.length).all λn=>(ZL o.dst.toList l2).contains n
 |x::b,o,l2=>(ZL x.dst.toList (b++o::l2)).contains l2.length&&QhD b o l2
theorem QdU:∀{l1:List z1} {o:z1} {l2:List z1},QhD l1 o l2=true->(∀i (h:i<l1.length),(ZL l1[i].dst.toList (l1.drop (i+1)++o::l2)).contains l2.length=true)/\∀n,n<l2.length->(ZL o.dst.toList l2).contains n=true
 |[],o,l2,h=>⟨λi hi=>by grind,λn C=>by grind [QhD]⟩
 |x::b,o,l2,h=>by
  simp only[QhD,QzR]at h;obtain⟨h1,h2⟩:=QdU h.2
  grind
theorem QcM {o:z1} (C:SQ ops) (hp:Ql P nt ops ops.toList=some (l1++o::l2)) (hb:QhD l1 o l2=true):(∀i,i<l1.length->j9 ops l1.length i)/\∀j,l1.length<j->j<ops.size->j9 ops j l1.length:=by
 obtain⟨h1,h2⟩:=QdU hb;have hlen:=Xa hp;simp only[QAs,QAt,QAv]at hlen
 have key:∀i (hi:i<(l1++o::l2).length),∀n∈ZL ((l1++o::l2)[i]).dst.toList ((l1++o::l2).drop (i+1)),j9 ops ((l1++o::l2).length - 1 - n) i:=λi hi=>by
  refine Jr C hp (i:=i) _ (i+1) _ rfl Wb λt ht=>?_;have M:i<ops.size:=by grind
  have G:ops[i]?=some ops[i]:=QAS M;obtain⟨o2,O,T⟩:=QK hp i ops[i] Wc;rw[QAB hi]at O;cases O
  refine⟨i,ops[i],QAX i,G, ?_,.inl rfl⟩;rw[<- (Qq T).2.2.1]
  grind
 refine⟨λi hi=>?_,λj hj U=>?_⟩;have Y:=h1 i hi
 have V:=key i Wb l2.length (by
  grind)
 grind
 have Y:=h2 (l1.length+l2.length - j) Wa
 have V:=key l1.length Wc (l1.length+l2.length - j) (by
  (repeat clear hK K);simp_all)
 grind
def QmF (P:Program) (o:z1) (K:St->Prop) (s:St):Prop:=
 gw s o.guard=some true/\∃t f args G Hr d,o.dst=some t/\Jg s o.op f args/\SB P f args s G Hr d/\K ⟨(t,d)::s.fr,Hr⟩
def QbY (P:Program) (o:z1) (K:St->Prop) (s:St):Prop:=∃s',s.le s'/\QmF P o K s'
theorem PK {Q:AExit->St->Prop} {o:z1} (hb:QhD l1 o l2=true) (hc:Qoi l1 (o::l2)=true)
 (h:run P (.drawn s.H [] []) l1 (QbY P o (λs'=>run P (.drawn s'.H [] []) l2 (Q .normal) s')) s):AW P nt (.region true (l1++o::l2)) Q s:=λcode E g a w hm hp hn hfl r=>by
 obtain⟨id,ops,rfl,hB,h1⟩:=Jf hp;refine wpIn_region_any hm (GV (λ⟨_,_,h⟩=>h) (Ye h1) _ _ _ _ ?_);have hB':=hB rfl;simp only[Rf,QzR]at hB';obtain⟨⟨hf,hls⟩,hlc,hg⟩:=hB';have T:SQ ops:=LJ (KA hf);have hlen:=Xa h1;simp only[QAs,QAt,QAv]at hlen;have hmz:l1.length<=ops.size:=Wa;obtain⟨hb1,hb2⟩:=QcM T h1 hb;have C:∀(j:Nat) (o':Oper),ops[j]?=some o'->∀t,o'.dst=some t->t<E.nt:=λj o' ho t ht=>by rw[hn];exact ZQ h1 j o' ho t ht
 have hfs:∀k,k<ops.size->Ce ops k=true:=by
  have hf':=hf
  (repeat clear hK K);simp_all [MY]
 obtain⟨hp1,_⟩:=Jz h1
 have O:Ql P nt (Ff ops l1.length) (Ff ops l1.length).toList=some l1:=by
  grind [Ff,QaW,List.mem_iff_getElem?,Qeg]
 have hdr:Rf (Ff ops l1.length)=true:=by
  simp only[Rf,QzR]
  grind [QhU,Qo9,Qo8,Qo7]
 have U:=hdr;simp only[Rf,QzR]at U
 obtain⟨Q1,V,hQ1⟩:∃Q1:Exit->Act->World->Prop,(∀a w,Q1 .normal a w↔∃s' g',Rel E g' s' a w/\QbY P o (λs'=>run P (.drawn s'.H [] []) l2 (Q .normal) s') s')/\∀e a w,e≠.normal->(Q1 e a w↔AQ E Q e a w):=
  ⟨λe a w=>(e=.normal/\∃s' g',Rel E g' s' a w/\QbY P o (λs'=>run P (.drawn s'.H [] []) l2 (Q .normal) s') s')\/(e≠.normal/\AQ E Q e a w),λa w=>⟨λh=>h.elim (λh=>h.2) (λh=>absurd rfl h.1),λh=>.inl ⟨rfl,h⟩⟩,λe a w he=>⟨λh=>h.elim (λh=>absurd h.1 he) (λh=>h.2),λh=>.inr ⟨he,h⟩⟩⟩
 have hcz:(Ff ops l1.length).size=l1.length:=Kx hmz
 have inner:wpAny P .any (Ff ops l1.length) Q1 l1.length (Array.replicate l1.length false) a {w with drawn:=w.drawn+1}:=by
  have:=Hb (Q:=Q1) (KA U.1.1) hn O (λj o' ho t ht=>C j o' (D7 ho).2 t ht) r (λ_ h=>h) (Qas h _ O hdr) λs' g' a' w' r' h'=>(V a' w').2 ⟨s',g',r',h'⟩
  grind
 have hsz:ops.size=l1.length+(l2.length+1):=Wa;have main:=Qg6 (P:=P) (Q:=AQ E Q) (rest:=l2.length+1) hg hf hmz (λe a w he hq=>(hQ1 e a w he).1 hq) (λi j hi hj hjs=>?_) (λa w listed hls1 hls2 hdn hq=>?_) l1.length (Array.replicate l1.length false) (Array.replicate ops.size false) a _ Wc Wc (λi hi=>by simp[hi,show i<ops.size by omega]) (λi h1 h2=>by simp[h2]) (λj i hj _=>?_) inner
 grind
 rcases Nat.eq_or_lt_of_le hj with e |e
 grind
 exact(hb2 j e hjs).trans (hb1 i hi);obtain⟨s0,g0,r0,s1,hle,hgo,t,f,args,G,Hr,d,hdt,hcal,hcz2,hk⟩:=(V a w).1 hq;obtain⟨g1,r1⟩:=hle _ _ _ _ r0;have hms:l1.length<ops.size:=Wa;have Y:ops[l1.length]?=some ops[l1.length]:=QAS hms
 have hpo:QW P nt ops ops[l1.length]=some o:=by
  obtain⟨o2,q1,q2⟩:=QK h1 l1.length ops[l1.length] Wc
  grind
 have hready:l1.length∈Region.ready .any ops listed:=mem_ready.2 ⟨by grind,_,Y,λe he hb=>by
  have h2:=hfs l1.length hms;unfold Ce at h2;rw[Y]at h2;simp only[QzR,Array.all_eq_true_iff_forall_mem]at h2
  grind⟩
 refine⟨λhx=>Wb,λi hi=>?_⟩;obtain⟨hu,oi,hoi,_⟩:=mem_ready.1 hi;have his:i<ops.size:=(QAc.1 hoi).1
 have him:i=l1.length:=by
  rw[hls2 i his]at hu;have h2:¬i<l1.length:=of_decide_eq_false hu;refine Classical.byContradiction λhne=>?_
  grind [NE]
 subst him;unfold wpOp;rw[Y];simp only;obtain⟨p1,p2,p3,p4⟩:=Qq hpo;rw[Yf r1 p2 C true hgo];simp only[if_true];refine .inl (Ra r1 p1 hcal hcz2 (λt ht=>by grind) λg' a' w' r'=>?_);have e:St.apply ⟨s1.fr,Hr⟩ (ops[l1.length]).dst d none=⟨(t,d)::s1.fr,Hr⟩:=by rw[<- p3,hdt];rfl
 rw[e]at r'
 have hdrop:l2=(l1++o::l2).drop (l1.length+1):=by
  simp
 have hD:QaN P (λk=>(lk Hr k).isSome=true) (j9 ops) l2 (l1.length+1) [] [] (Q .normal) ⟨(t,d)::s1.fr,Hr⟩:=GQ (H0:=Hr) T hls hlc h1 l2 (l1.length+1) [] [] [] [] ⟨(t,d)::s1.fr,Hr⟩ hdrop Wb (λ_ _ h=>by cases h) (λ_ _ h=>by cases h) hk;have M:PN P nt ops (l1++o::l2):=λi o ho=>QK h1 i o Wb
 have hlx:Region.lexFrom .any ops l2.length (l1.length+1) (listed.setIfInBounds l1.length true)=true:=by
  refine Gg hfs l2.length (l1.length+1) _ Wa Wb λi d hi=>?_
  by_cases e:l1.length=i
  subst e;rw[decide_eq_true Wa,QAf,Array.getElem?_setIfInBounds_self_of_lt Wa];rfl;rw[getD_set_ne d e]
  grind
 refine JP (ww:=false) (KK:=λs=>∃s',s.same s'/\Q .normal s') (B:=λk=>(lk Hr k).isSome=true) hn M C (λs g a w ⟨s',q1,q2⟩ r=>⟨s',g,q2,r.same q1⟩) l2.length _ [] [] _ g' a' w' r' ?_
 exact N0 hn (λs s' hs ⟨s2,q1,q2⟩=>⟨s2,⟨λt=>(hs.1 t).symm.trans (q1.1 t),λk=>(hs.2 k).symm.trans (q1.2 k)⟩,q2⟩) M l2 (l1.length+1) _ [] [] _ (λj=>by
  grind) ⟨g',a',w',r'⟩ (λ_ h=>h) (Pd hdn hi) hlx (PZ (K:=Q .normal) (K':=λs=>∃s',s.same s'/\Q .normal s') (λs h=>⟨s,⟨λ_=>rfl,λ_=>rfl⟩,h⟩) hD)
 rcases QAb j ops.size with h' |h'
 (repeat clear hK K);simp_all
 grind
end
section
variable {P:Program} {nt:Nat}
theorem QkN {Q:AExit->St->Prop} {ol:List z1} {o:z1} {live:List Nat} {b:y5} (h:∀K:St->Prop,(∀fr H,TW P nt b Q ⟨Qz live fr,H⟩->K ⟨fr,H⟩)->run P (.drawn s.H [] []) l1 (QbY P o (λs'=>run P (.drawn s'.H [] []) l2 K s')) s) (C:ol=l1++o::l2:=by rfl) (hb:QhD l1 o l2=true:=by rfl) (G:Qoi l1 (o::l2)=true:=by rfl):TW P nt (.seq (.region true ol) live b) Q s:=by
 subst C;exact PM (PK hb G (h (λs'=>AW P nt b.erase Q s') λfr H hb=>DD (KY live fr H) hb))
end
variable {K:Kn} {d:D} {v:Value}
def D.pe (H:QzK):Nat->D->D
 |0,d=>if d.own=true then .r8 else d
 |n+1,d=>match d with
  | .s4 k m=>(match lk H k with
   |some b=>if m=b.rows.length then .sl (b.rows.map λr=>r.map (D.pe H n))else .r8
   |none=>.r8)
  | .ref k i off=>(match lk H k with
   |some b=>.ptr (((b.rows.getD i []).drop off).map (D.pe H n))
   |none=>.r8)
  |d=>if d.own=true then .r8 else d
def D.sc (H:QzK) (n:Nat):D->D
 | .agg cs=>.agg (cs.map (D.pe H n))
 |d=>d.pe H n
section
variable {g:Gh} {H:QzK} {w:World}
theorem Se {B:Nat} {c:Array Value} {e:TypeId} {f:Nat × Nat} (h:w.heap[B]?=some (.cells c e f)) (p:Nat):Gu w B p=c[p]?:=by grind [Gu]
theorem Qab (h:x9 K w):K.le (Gu w):=λb o x hx=>by
 obtain⟨c,e,f,h1,h2⟩:=h b o x hx
 grind [Se]
theorem LV (h:z3 g d v) (ho:d.own=true):v.oneCell'=true:=by
 cases d<;>simp only[D.own,QzV]at ho
 case s4=>obtain⟨a,cap,rfl,_⟩:=h;rfl
 case y9=>obtain⟨a,cap,rfl,_⟩:=h;rfl
 case ref=>obtain⟨B,l0,o,_,rfl⟩:=h;rfl
 case r9=>obtain⟨B,l0,o,cs,_,rfl,_⟩:=h;rfl
theorem Qb3 (C:x9 g.K w) (h:z3 g d v):l3 (Gu w) (if d.own=true then .r8 else d) v:=by
 split
 grind [l3,LV]
 rename_i ho;exact l3.mono (Qab C) _ _ (h.mc Wb)
theorem CY (h:d.y4=true):(if d.own=true then D.r8 else d).y4=true:=by
 split;rfl;omega
theorem Qa2 (h:d.y4=true):∀n,(d.pe H n).y4=true
 |0=>CY h
 |n+1=>by
  unfold D.pe;split;split;split<;>rfl;rfl;split<;>rfl
  grind [CY]
theorem ia.l4 (hr:ia g H w) {k:Nat} {b:u4} (hb:lk H k=some b):∀r∈b.rows,∀d∈r,∀j∈d.l4,(lk H j).isSome=true:=λr C d hd j G=>by
 by_cases hp:b.pr=true
 rw[(hr.bx k b hb).2.1 hp r C d hd]at G;grind;refine hr.u9 k b hb j ?_;unfold u4.ids
 grind
theorem BM (hr:ia g H w):∀(n:Nat) {d:D} {v:Value},z3 g d v->l3 (Gu w) (d.pe H n) v
 |0,d,v,h=>Qb3 hr.kr h
 |n+1,d,v,h=>by
  have G:∀{B:Nat} {c:Array Value},(∀p,Gu w B p=c[p]?)->∀{off:Nat} {ds:List D},z4 g c off ds->a5 (Gu w) B off (ds.map (D.pe H n)):=by
   intro B c hc off ds
   induction ds generalizing off with
   |nil=>intro _;trivial
   |cons d ds ih=>
    intro hh;simp only[z4]at hh;simp only[QAr,a5];obtain⟨⟨h1,x,h2,C⟩,U⟩:=hh;exact⟨⟨Qa2 h1 n,x,by grind,BM hr n C⟩,ih U⟩
  have M:∀{B:Nat} {c:Array Value},(∀p,Gu w B p=c[p]?)->∀{off:Nat} {rs:List (List D)},l5 g c off rs->u5 (Gu w) B off (rs.map λr=>r.map (D.pe H n)):=by
   intro B c hc off rs
   induction rs generalizing off with
   |nil=>intro _;trivial
   |cons r rs ih=>
    grind [l5,u5]
  unfold D.pe;split;rename_i k m;cases hb:lk H k with
  |none=>simp only[l3];exact LV h rfl
  |some b=>
   simp only;split;rename_i hm;obtain⟨a,cap,h1,h2,C⟩:=h;subst hm;simp only[l3,QAH];refine⟨a,cap,h1,h2, ?_⟩
   by_cases h0:b.rows=[]
   grind
   right;obtain⟨b1,b2,T⟩:=hr.bx k b hb;rcases T with⟨T,_⟩ |⟨_,B,c,b4,Y,b6,V,_⟩
   grind
   rcases C with⟨C,_⟩ |⟨B',l0,C,U,_⟩ |C
   grind
   rw[b4]at C;cases C;exact⟨B,(g.σ k).2,b.l0,U,λr hrr=>by grind,M (Se Y) V⟩;exact(C.no b4).elim;simp only[l3];exact LV h rfl
  rename_i k i off;cases hb:lk H k with
  |none=>simp only[l3];exact LV h rfl
  |some b=>
   simp only;obtain⟨B',l0,o,h1,h2⟩:=h;simp only[l3]
   by_cases hi:i<b.rows.length
   obtain⟨b1,b2,T⟩:=hr.bx k b hb;rcases T with⟨T,_⟩ |⟨_,B,c,b4,Y,b6,V,_⟩
   grind
   rcases h1 with⟨h1,rfl⟩ |h1;rw[b4]at h1;cases h1;refine⟨_,_,h2, ?_⟩;have O:b.rows[i]?=some (b.rows.getD i []):=by grind
   have hc:=JB i b1 V O;rw[show(g.σ k).2+(i*b.l0+off)=(g.σ k).2+i*b.l0+off by omega];refine G (Se Y) (F5 λj d hj=>?_)
   grind [H8]
   exact(h1.no b4).elim
   grind [a5]
  exact Qb3 hr.kr h
theorem Qa1 (hr:ia g H w) (n:Nat):∀{ds:List D} {vs:List Value},x4 g ds vs->(∀d∈ds,d.y4=true)->x5 (Gu w) (ds.map (D.pe H n)) vs
 |[],[],_,_=>by trivial
 |d::ds,v::vs,h,hc=>by
  simp only[QAr,x5];exact⟨⟨Qa2 (hc d Wc) n,BM hr n h.1⟩,Qa1 hr n h.2 λx hx=>hc x Wb⟩
 |[],_::_,h,_=>h.elim
 |_::_,[],h,_=>h.elim
def D.vd:D->Bool
 | .w8 _ cs=>cs.all λd=>!d.own
 | .w9 cs _=>cs.all λd=>!d.own
 |_=>true
theorem QhW (hr:ia g H w) (n:Nat) (h:l6 g d v) (hp:d.vd=true):l3 (Gu w) (d.sc H n) v:=by
 cases d
 case agg cs=>
  obtain⟨vs,h1,h2,C⟩:=h
  grind [D.sc,l3,Qa1]
 case w8 f cs=>
  have h1:=l3.mono (Qab hr.kr) _ _ (h.mc hp);cases n<;>exact h1
 case w9 cs x=>
  have h1:=l3.mono (Qab hr.kr) _ _ (h.mc hp);cases n<;>exact h1
 all_goals exact BM hr n h
theorem Pc (hr:ia g H w) (n:Nat):∀{ds:List D} {vs:List Value},o8 g ds vs->(ds.all D.vd)=true->j5 (Gu w) (ds.map (D.sc H n)) vs
 |[],[],_,_=>by trivial
 |d::ds,v::vs,h,hp=>by
  simp only[QAK,QzR]at hp;simp only[QAr,j5];exact⟨QhW hr n h.1 hp.1,Pc hr n h.2 hp.2⟩
 |[],_::_,h,_=>h.elim
 |_::_,[],h,_=>h.elim
theorem QeE {K':Kn} (h:d.flat=true) (C:l3 K d v):l3 K' d v:=by
 have one:∀{d:D} {v:Value},d.l9=true->l3 K d v->l3 K' d v:=λ{d v} h C=>by
  cases d<;>simp only[D.l9,QzV]at h<;>simp only[l3]at C ⊢<;>exact C
 cases d
 case l7 ds=>
  simp only[D.flat]at h;simp only[l3]at C ⊢;obtain⟨vs,h1,h2⟩:=C;refine⟨vs,h1, ?_⟩
  have:∀{ds:List D} {vs:List Value},(ds.all D.l9)=true->j5 K ds vs->j5 K' ds vs:=by
   intro ds
   induction ds with
   |nil=>grind [j5]
   |cons d ds ih=>
    intro vs G h;cases vs with
    |nil=>trivial
    |cons v vs=>
     (repeat clear hK K);simp_all [j5]
  grind
 all_goals trivial
end
theorem n6.zh {P:Program} {f:Nat} {ds ds':List D} {H:QzK} (n:Nat) (h:Ok P f ds' d) (Y:ds.map (D.sc H n)=ds') (hp:ds.all D.vd=true) (hd:d.flat=true) (hi:d.ids=[]):n6 P f ds H d H:=by
 refine⟨h.1,λg w vs C G hids=>?_⟩;subst Y;refine(h.2 (Gu w) w vs (PG w) (Pc C n G hp)).mono λe w' ⟨v,K',he,hv,hr',T,M,hKK,V⟩=>?_;refine⟨v,g,he,l6.of (QeE hd hv),⟨C.u9,λk b hb=>?_,C.inj,λb o x hx=>?_⟩,T,λb hb _=>⟨M b hb,rfl⟩,V,λk _ U=>⟨U,rfl,rfl⟩,λk B e hk U O=>.inr ⟨k,e,hk,U,O⟩⟩;refine(C.bx k b hb).move ⟨rfl,rfl⟩ (λ_ _ _ _ _ _=>⟨rfl,rfl⟩) (Kn.le_refl _) λB e O=>⟨M B ((C.bx k b hb).gb O).1,λ_ h=>h,λ_=>.inl (QzZ _)⟩;obtain⟨c,e,f,h1,h2⟩:=C.kr b o x hx
 grind
variable {K K':St->Prop} {Q:AExit->St->Prop} {l ol:List z1} {o:z1}
section
variable {P:Program} {nt:Nat} {E:Env}
theorem Qp8 (h:opZ P o K s):QmF P o K s:=by
 obtain⟨h1,h2⟩:=h;exact⟨by rw[h1];rfl,h2⟩
theorem QfL (C:∀s,K s->K' s) (h:QmF P o K s):QmF P o K' s:=by
 obtain⟨h1,t,f,args,G,Hr,d,h2,T,O,M⟩:=h;exact⟨h1,t,f,args,G,Hr,d,h2,T,O,C _ M⟩
def Yx (P:Program):List z1->(St->Prop)->St->Prop
 |[],K,s=>K s
 |o::r,K,s=>Qg8 P o (Yx P r K) s\/QbY P o (Yx P r K) s
theorem FH {ops:Array Oper} {K:St->Prop} {Q:Exit->Act->World->Prop} (M:E.nt=nt) (C:∀(j:Nat) (o':Oper),ops[j]?=some o'->∀t,o'.dst=some t->t<E.nt):∀(l:List Oper) (k:Nat) (l':List z1) (s:St) (g:Gh) (a:Act) (w:World),(∀j,l[j]?=ops[k+j]?)->
  Ql P nt ops l=some l'->Rel E g s a w->Yx P l' K s->(∀s' g' a' w',Rel E g' s' a' w'->K s'->Q .normal a' w')->wpOps P ops Q (List.range' k l.length) a w
 |[],k,l',s,g,a,w,_,hp,r,h,hK=>by
  simp only[Ql,QzQ]at hp;subst hp;exact hK s g a w r h
 |o::l,k,l',s,g,a,w,hl,hp,r,h,hK=>by
  simp only[Ql]at hp;split at hp;rename_i o' T e1 e2;cases hp
  have h0:ops[k]?=some o:=by simpa using(hl 0).symm
  rw[QAt,List.range'_succ,wpOps_cons];unfold wpOp;rw[h0];simp only;rcases h with h |⟨s1,hle,U,t,f,args,G,Hr,d,V,O,hc,hk⟩
  have:=Pz (Q:=Q) M r e1 C h (K':=wpOps P ops Q (List.range' (k+1) l.length)) λs' g' a' w' r2 h2=>
   FH M C l (k+1) T s' g' a' w' (λj=>by have:=hl (j+1);grind) e2 r2 h2 hK
  grind
  obtain⟨g1,Y⟩:=hle E g a w r;obtain⟨p1,p2,p3,p4⟩:=Qq e1;have hw:Region.wanted o (yielded ops a.tmps)=true:=Yf Y p2 C true U;rw[if_pos hw];refine .inl (Ra Y p1 O hc (λt ht=>by grind) λg' a' w' T=>?_);have e:St.apply ⟨s1.fr,Hr⟩ o.dst d none=⟨(t,d)::s1.fr,Hr⟩:=by rw[<- p3,V];rfl
  rw[e]at T;exact FH M C l (k+1) _ _ g' a' w' (λj=>by have:=hl (j+1);grind) e2 T hk hK
  grind
theorem Fk (h:Yx P l (Q .normal) s):AW P nt (.region false l) Q s:=λcode E g a w hm hp C O r=>by
 obtain⟨id,ops,rfl,_,h1⟩:=Jf hp;refine wpIn_region (Hj (λ⟨_,_,h⟩=>h) (Ye h1) _ _ _ ?_);rw[List.range_eq_range',<- QAv];exact FH C (λj o' ho t M=>by rw[C];exact ZQ h1 j o' ho t M) ops.toList 0 l s g a w Wc h1 r h λs' g' a' w' G T=>⟨s',g',T,G⟩
theorem SX (C:∀s,K s->K' s) (h:Qg8 P o K s):Qg8 P o K' s:=by
 unfold Qg8 at h ⊢;split at h;omega
 grind
 grind
theorem GA {r:List z1} {K:St->Prop}:∀{l:List z1} {s:St},HL P l (Yx P r K) s->Yx P (l++r) K s
 |[],_,h=>h
 |_::_,_,h=>.inl (SX (λ_ h=>GA h) h)
theorem Xc {lr:List z1} (h:run P .fixed l (QbY P o (Yx P lr K)) s) (C:ol=l++o::lr:=by rfl):Yx P ol K s:=by
 subst C;exact GA (Yh (λ_ h=>.inr h) (Zq h))
theorem Xw (h:run P .fixed l K s):Yx P l K s:=by
 have:=GA (P:=P) (r:=[]) (K:=K) (Zq h)
 grind
theorem J5 {live:List Nat} {b:y5} (h:∀K:St->Prop,(∀fr H,TW P nt b Q ⟨Qz live fr,H⟩->K ⟨fr,H⟩)->Yx P ol K s):TW P nt (.seq (.region false ol) live b) Q s:=by
 refine PM (Fk ?_);exact h (λs'=>AW P nt b.erase Q s') λfr H hb=>DD (KY live fr H) hb
theorem QfK {s':St} (hle:s.le s') (h:QmF P o K s'):QbY P o K s:=⟨s',hle,h⟩
theorem Ql9:s.le s:=λ_ g _ _ r=>⟨g,r⟩
end
variable {P:Program} {ds:List D} {f:Nat}
theorem n6.yh {H H1 H' H1':QzK} (e:∀k,lk H1 k=lk H k) (e':∀k,lk H1' k=lk H' k) (h:n6 P f ds H d H'):n6 P f ds H1 d H1':=by
 have eq:lk H1=lk H:=funext e;have O:lk H1'=lk H':=funext e';refine⟨h.1,λg w vs C M hids=>?_⟩;have hr:ia g H w:=⟨λk b hk=>by rw[<- eq]at hk ⊢;exact C.u9 k b hk,λk b hk=>by rw[<- eq]at hk;exact C.bx k b hk,λk k' b b' B e e' h1 h2=>by rw[<- eq]at h1 h2;exact C.inj k k' b b' B e e' h1 h2,C.kr⟩
 refine(h.2 g w vs hr M Wb).mono λe w' ⟨v,g',he,hv,G,T,Y,V,U,hnew⟩=>?_;refine⟨v,g',he,hv,⟨λk b hk=>by rw[O]at hk ⊢;exact G.u9 k b hk,λk b hk=>by rw[O]at hk;exact G.bx k b hk,λk k' b b' B e e' h1 h2=>by rw[O]at h1 h2;exact G.inj k k' b b' B e e' h1 h2,G.kr⟩,T,λb hb hn=>Y b hb λ⟨k,e,h1,h2⟩=>hn ⟨k,e,by grind,h2⟩,V, ?_, ?_⟩
 grind
 grind
theorem QhK {args:List n5} {s:St} {ds':List D} {HF:QzK} (n:Nat) (M:Ok P f ds' d) (ha:QD s args=some ds) (hF:∀p∈HF,lk s.H p.1=some p.2) (G:∀p∈HF,∀j∈p.2.ids,(lk HF j).isSome=true) (T:(ds.all λx=>x.ids.all λj=>(lk HF j).isSome)=true)
 (hu:(ds.map Qod).map (D.sc (upH HF) n)=ds') (U:(ds.map Qod).all D.vd=true) (O:d.flat=true) (hd:d.ids=[]):FA P f args s HF [] [] d:=by
 refine⟨ds,ha,λj x C=>hF (j,x) (QV C),λj x C=>G (j,x) (QV C),λx hx j C=>?_,(λj x C=>by cases C),(λj x C=>by cases C),(λj C=>by grind),.inl ?_⟩
 grind
 grind [n6.zh]
variable {b:y5} {live:List Nat}
section
variable {P:Program} {nt:Nat}
def ZZ (P:Program):List z1->(St->Prop)->St->Prop
 |[],K,s=>K s
 |o::r,K,s=>run P .fixed [o] (ZZ P r K) s\/QbY P o (ZZ P r K) s
theorem QmW {r:List z1} (h:run P .fixed (o::r) K s):run P .fixed [o] (run P .fixed r K) s:=by
 obtain⟨dst,op,gd⟩:=o;cases gd with
 |none=>exact h
 |some p=>exact h
theorem YC {K':St->Prop} (C:∀s,K s->K' s) {dr:Dr} (h:run P dr l K s):run P dr l K' s:=by
 grind [JC]
theorem QdN {r:List z1} {K:St->Prop}:∀{l:List z1} {s:St},run P .fixed l (ZZ P r K) s->ZZ P (l++r) K s
 |[],_,h=>h
 |_::_,_,h=>.inl (YC (λ_ h=>QdN h) (QmW h))
theorem QmG (h:QmF P o K s):∃s',K s'/\∀k2:St->Prop,k2 s'->QmF P o k2 s:=by
 obtain⟨h1,t,f,args,G,Hr,d,h2,O,M,C⟩:=h;exact⟨_,C,λk2 hk=>⟨h1,t,f,args,G,Hr,d,h2,O,M,hk⟩⟩
theorem QkX {K:St->Prop}:∀{l:List z1} {s:St},ZZ P l K s->∃s',K s'/\∀k2:St->Prop,k2 s'->ZZ P l k2 s
 |[],s,h=>⟨s,h,λ_ hk=>hk⟩
 |o::r,s,h=>by
  rcases h with h |⟨s1,hle,h⟩;obtain⟨s2,h1,h2⟩:=JC h
  obtain⟨s3,G,C⟩:=QkX h1;exact⟨s3,G,λk2 hk=>.inl (h2 _ (C _ hk))⟩;obtain⟨s2,h1,h2⟩:=QmG h;obtain⟨s3,G,C⟩:=QkX h1;exact⟨s3,G,λk2 hk=>.inr ⟨s1,hle,h2 _ (C _ hk)⟩⟩
theorem QkW {K:St->Prop}:∀{l:List z1} {s:St},ZZ P l K s->Yx P l K s
 |[],_,h=>h
 |_::_,_,h=>by
  rcases h with h |⟨s1,hle,h⟩;exact .inl (SX (λ_ h=>QkW h) (Zq h));exact .inr ⟨s1,hle,QfL (λ_ h=>QkW h) h⟩
theorem BB {lr:List z1} (h:run P .fixed l (QbY P o (ZZ P lr K)) s) (C:ol=l++o::lr:=by rfl):ZZ P ol K s:=by
 subst C;exact QdN (YC (λ_ h=>.inr h) h)
theorem QdO (h:run P .fixed l K s):ZZ P l K s:=by
 have:=QdN (P:=P) (r:=[]) (K:=K) h
 grind
theorem Bw (h:∀K:St->Prop,(∀fr H,TX P nt b Q ⟨Qz live fr,H⟩->K ⟨fr,H⟩)->ZZ P ol K s):TX P nt (.seq (.region false ol) live b) Q s:=by
 obtain⟨s1,⟨e,s2,h1,h2⟩,G⟩:=QkX (h (λst=>TX P nt b Q ⟨Qz live st.fr,st.H⟩) λfr H h=>h);exact⟨e,s2,h1,J5 λK C=>QkW (G K (C s1.fr s1.H h2))⟩
theorem Qht {l1 l2:List z1} (h:∀K:St->Prop,(∀fr H,TX P nt b Q ⟨Qz live fr,H⟩->K ⟨fr,H⟩)->run P (.drawn s.H [] []) l1 (QbY P o (λs'=>run P (.drawn s'.H [] []) l2 K s')) s) (Y:ol=l1++o::l2:=by rfl) (hb:QhD l1 o l2=true:=by rfl) (hc:Qoi l1 (o::l2)=true:=by rfl):TX P nt (.seq (.region true ol) live b) Q s:=by
 obtain⟨s1,V,h3⟩:=JC (h (λst=>TX P nt b Q ⟨Qz live st.fr,st.H⟩) λfr H h=>h);obtain⟨M,hle,hg,t,f,args,G,Hr,d,U,T,O,hk⟩:=V;obtain⟨s2,⟨e,C,h1,h2⟩,h5⟩:=JC hk;exact⟨e,C,h1,QkN (λK hK=>h3 _ ⟨M,hle,hg,t,f,args,G,Hr,d,U,T,O,h5 K (hK s2.fr s2.H h2)⟩) Y hb hc⟩
end
end Go.Abs
