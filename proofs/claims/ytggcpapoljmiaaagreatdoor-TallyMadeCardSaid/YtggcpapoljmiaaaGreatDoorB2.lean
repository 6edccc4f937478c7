/- Part 2 of the means of the proof: a verified abstract evaluator and contracts of functions. It states nothing of the claim by itself. -/
import Derived.Test.YtggcpapoljmiaaaGreatDoorB1
import Derived.OrdersIn
import Derived.RangeFuncWrites
import Derived.RangeFuncCalls
import Derived.RangeFuncLeaves
import Derived.TacticsIn
import Derived.Scope
import Derived.ProofKit
import Derived.Below
import Derived.Carry
import Derived.LaidLaws
import Derived.MakeChecks
set_option maxRecDepth 4000
set_option maxHeartbeats 1000000
set_option linter.unusedSimpArgs false
set_option linter.unusedVariables false
set_option linter.unusedSectionVars false
namespace Go.Abs
open Go
variable {K':Act->World->Prop} {Q:Exit->Act->World->Prop} {R W:List (Nat × Nat)} {a:Act} {b:x4} {c i j k nt off sz:Nat} {d e:D} {dst:Option Nat} {ef eg:QEf} {g:Gh} {listed:Array Bool} {o o' oi' oj':u3} {oi oj:Oper} {p pi pj q qi qj:List Nat} {row:List D} {s s' s1 s2:St} {w:World}
section
variable {P:Program} {E:Env} {ops:Array Oper} {l':List u3}
def Qri (E:Env) (s:St):Prop:=∃g a w,Rel E g s a w
def RC (P:Program) (nt:Nat) (ops:Array Oper) (l':List u3):Prop:=∀(i:Nat) (o:Oper),ops[i]?=some o->∃o',l'[i]?=some o'/\ZP P nt ops o=some o'
theorem ZC {nt:Nat}:∀{l:List Oper} {l':List u3},QV P nt ops l=some l'->∀(i:Nat) (o:Oper),l[i]?=some o->∃o',l'[i]?=some o'/\ZP P nt ops o=some o'
 |[],l',_,i,o,h=>by grind
 |x::xs,l',hp,i,o,h=>by
  simp[QV]at hp;split at hp;rename_i o' C e1 e2;cases hp
  cases i with
  |zero=>grind
  |succ i=>simpa using ZC e2 i o Wc
  grind
theorem Qk8 {o:Oper} (hnt:E.nt=nt) (r:Rel E g s a w) (hp:ZP P nt ops o=some o') (hy:stD o'.op s k b)
 (T:∀g' a' w',Rel E g' (s.s8 o.dst .undef [(k,b)]) a' w'->K' a' w'):o.wp P a w K' Q:=by
 obtain⟨h1,h2,h3,h4⟩:=Q6 hp;have M:∀t,o.dst=some t->t<E.nt:=λt M=>by grind
 obtain⟨n,w',g',q1,O,Y,V⟩:=Si r h1 (D4 hy);unfold Oper.wp;rw[q1];have G:Rel E g' ({s with H:=(k,b)::s.H}.j7 o.dst none) a w':=by cases o.dst<;>exact O
 have C:Has ({s with H:=(k,b)::s.H}.j7 o.dst none) .undef:=by cases o.dst<;>exact Y
 have e:{s with H:=(k,b)::s.H}.apply o.dst .undef none=s.s8 o.dst .undef [(k,b)]:=by cases o.dst<;>rfl
 rcases V with⟨rfl,_⟩ |⟨u,rfl,U⟩;exact T g' _ w' (e ▸ O.skip M);exact T g' _ w' (e ▸ G.apply U C M)
def YT (P:Program) (o:u3) (s:St) (d:D) (ef:QEf):Prop:=
 ((∃bx,Jy P o s d bx/\ef=alL o.dst bx)\/∃k b,stD o.op s k b/\d=.undef/\ef=[(k,b)])\/∃B p q,EF P B o.op o.dst s p q d ef
theorem Quw {B:Nat->Prop} (h:YD P B o s p q d ef):(gw s o.guard=some true/\YT P o s d ef)\/(gw s o.guard=some false/\d=.undef/\ef=[]):=by
 rcases h with⟨G,⟨C,_⟩ |C⟩ |⟨G,C,M,_⟩;exact .inl ⟨G,.inl C⟩;exact .inl ⟨G,.inr ⟨B,p,q,C⟩⟩
 grind
theorem QdN {o:Oper} (G:E.nt=nt) (r:Rel E g s a w) (hp:ZP P nt ops o=some o') (C:YT P o' s d ef)
 (M:∀g' a' w',Rel E g' (s.s8 o'.dst d ef) a' w'->K' a' w'):o.wp P a w K' Q:=by
 obtain⟨V,U,T,O⟩:=Q6 hp;rcases C with(⟨bx,C,rfl⟩ |⟨k,b,C,rfl,rfl⟩) |⟨B,p,q,he⟩
 grind [NK,GO]
 grind [Qk8]
 grind [Qco]
theorem LB {B:Nat->Prop} {o:Oper} (T:E.nt=nt) (h:Qri E s) (hp:ZP P nt ops o=some o') (O:YD P B o' s p q d ef):Qri E (s.s8 o'.dst d ef):=by
 obtain⟨g,a,w,r⟩:=h;obtain⟨h1,h2,V,Y⟩:=Q6 hp;have U:∀t,o.dst=some t->t<E.nt:=λt U=>by grind
 rcases Quw O with⟨_,O⟩ |⟨_,rfl,rfl⟩
 ·have hw:=QdN (K':=λa' w'=>∃g',Rel E g' (s.s8 o'.dst d ef) a' w') (Q:=λ_ _ _=>False) T r hp O λg' a' w' C=>⟨g',C⟩;unfold Oper.wp at hw;generalize (execOp a.eval o).run P w=res at hw;cases res with
  |ok n w'=>
   cases n<;>simp[Oper.upon]at hw
   case value v=>obtain⟨g',C⟩:=hw;exact⟨g',_,_,C⟩
   case skip=>obtain⟨g',C⟩:=hw;exact⟨g',_,_,C⟩
   case defer d=>obtain⟨g',C⟩:=hw;exact⟨g',_,_,C⟩
   case enter f args=>
    obtain⟨e,M,fr,G,_⟩:=hw [];cases e with
    |returned v=>obtain⟨g',C⟩:=G;exact⟨g',_,_,C⟩
    |panicked c=>grind
    |outgrown=>obtain⟨_,_,G⟩:=G;grind
   case row row args=>
    obtain⟨v,M,G,_⟩:=hw default [];obtain⟨g',C⟩:=G;exact⟨g',_,_,C⟩
  |halt x w'=>cases x<;>simp[Oper.upon]at hw
 have:=r.skip U;rw[V,<- (show s.apply o.dst .undef none=s.s8 o.dst .undef [] by cases o.dst<;>rfl)]
 exact⟨g,_,w,this⟩
def Dep (ops:Array Oper) (j i:Nat):Prop:=∃oj,ops[j]?=some oj/\∃e∈oj.after,Region.binds .any e=true/\e.on=i
inductive u9 (ops:Array Oper):Nat->Nat->Prop
 |one {j i:Nat}:Dep ops j i->u9 ops j i
 |more {j m i:Nat}:Dep ops j m->u9 ops m i->u9 ops j i
def Qjh (ops:Array Oper) (listed:Array Bool):Prop:=∀j i,listed.getD j false=true->Dep ops j i->listed.getD i false=true
theorem Qcm {listed:Array Bool} (hd:Qjh ops listed):∀{j i:Nat},u9 ops j i->listed.getD j false=true->listed.getD i false=true
 |_,_,.one h,hj=>hd _ _ hj h
 |_,_,.more h h2,hj=>Qcm hd h2 (hd _ _ hj h)
theorem Mx (hd:Qjh ops listed) (hr:j∈Region.ready .any ops listed) (ha:u9 ops j i):listed.getD i false=true:=by
 obtain⟨_,oj,M,C⟩:=mem_ready.1 hr
 have one:∀m,Dep ops j m->listed.getD m false=true:=λm ⟨o,ho,e,he,hb,G⟩=>by
  grind
 cases ha with
 |one h=>grind
 |more h h2=>grind [Qcm]
theorem N6 (h:listed.getD j false=true):(listed.setIfInBounds i true).getD j false=true:=by
 (repeat clear hK K);simp_all [Array.getElem_setIfInBounds]
 grind
theorem P6 (hd:Qjh ops listed) (hr:j∈Region.ready .any ops listed):Qjh ops (listed.setIfInBounds j true):=λm i hm h=>by
 by_cases hmj:m=j
 subst hmj;exact N6 (Mx hd hr (.one h));refine N6 (hd m i ?_ h);rcases QEF m listed.size with C |C
 (repeat clear hK K);simp_all [Ne.symm]
 grind
theorem Qln (h:listed.getD i true=false):¬listed.getD i false=true:=λC=>by
 grind
def Np (w:Bool) (P:Program) (B:Nat->Prop) (ops:Array Oper) (l':List u3) (KK:St->Prop):Nat->Array Bool->List (Nat × Nat)->List (Nat × Nat)->St->Prop
 |0,listed,_,_,s=>Region.ready .any ops listed=[]/\KK s
 |fuel+1,listed,R,W,s=>
  (Region.ready .any ops listed=[]->KK s)/\
  ∀i∈Region.ready .any ops listed,∃o' p q d ef,l'[i]?=some o'/\YD P B o' s p q d ef/\cf (u9 ops i) (tkR w o'.op s p) (tkW w o'.op s q) R W/\Np w P B ops l' KK fuel (listed.setIfInBounds i true) (tag i (tkR w o'.op s p)++R) (tag i (tkW w o'.op s q)++W) (s.s8 o'.dst d ef)
variable {KK:St->Prop} {B:Nat->Prop} {ww:Bool}
theorem cf.less {C:Nat->Prop} {R' W':List (Nat × Nat)} (h:cf C p q R W) (M:∀k∈R',k∈R) (G:∀k∈W',k∈W):cf C p q R' W':=
 ⟨λk hk i hw=>h.1 k hk i (G _ hw),λk hk=>⟨λi hr=>(h.2 k hk).1 i (M _ hr),λi hw=>(h.2 k hk).2 i (G _ hw)⟩⟩
theorem RI (C:∀s s',s.same s'->KK s->KK s'):∀(fuel:Nat) (listed:Array Bool) (R W R' W':List (Nat × Nat)) (s s':St),s.same s'->(∀k∈R',k∈R)->(∀k∈W',k∈W)->Np ww P B ops l' KK fuel listed R W s->Np ww P B ops l' KK fuel listed R' W' s'
 |0,listed,_,_,_,_,s,s',h,_,_,ha=>⟨ha.1,C s s' h ha.2⟩
 |fuel+1,listed,R,W,R',W',s,s',h,hR,hW,ha=>⟨λhr=>C s s' h (ha.1 hr),λi hi=>by
   obtain⟨o',p,q,d,ef,U,T,O,M⟩:=ha.2 i hi;have G:∀x∈o'.op.l7,s'.ev x=s.ev x:=λx _=>Qh7 h x;rw[<- QiB G,<- QiC G]at O M;refine⟨o',p,q,d,ef,U,Qrf h T,O.less hR hW, ?_⟩;refine RI C fuel _ _ _ _ _ _ _ (QjZ h _ _ _) ?_ ?_ M
   grind
   grind⟩
theorem QdM (C:YD P B o s p q d ef) (hk:lk ef k=some b):(o.dst=some k/\lk s.H k=none)\/(k∈q/\(lk s.H k).isSome=true):=by
 rcases C with⟨hg,⟨⟨bx,C,he⟩ |⟨k',b',h1,_,he⟩,hp,Y⟩ |he⟩ |⟨_,_,h,_⟩
 ·left;subst he;cases hd:o.dst with
  |none=>rw[hd]at hk;cases hk
  |some t=>
   cases bx with
   |none=>rw[hd]at hk;cases hk
   |some b1=>
    rw[hd]at hk;simp[alL,Qz]at hk;split at hk
    rotate_left
    cases hk
    rename_i e;subst e;unfold Jy at C;split at C
    grind
    grind
    ·generalize o.op=ao at C;cases ao<;>simp only[TK]at C
     case alloc e cs=>grind
     case box e x=>grind
     case buildSlice l0 et ps=>
      grind
     case append l0 et bytes x y=>grind
     case makeSlice l0 et bytes z x y=>grind
     grind
     grind
     grind
     grind
     grind
     grind
     grind
     grind
     grind
     case ba=>grind
     grind
     case sc=>grind
     case de l0 et bytes z x y=>grind
     grind
     grind
     grind
     grind
     grind
     grind
     grind
     grind
     grind
     grind
     grind
     grind
     grind
     grind
     grind
 ·right;subst he;rw[Qz]at hk;split at hk
  rotate_left
  trivial
  grind [Qt8]
 ·generalize o.op=op at he;cases op<;>simp only[EF]at he
  case call f args=>
   rcases he with⟨HF,k',b',G,_,_,rfl,rfl⟩ |⟨HF,k',t,b1,b',T,hd,G,_,_,rfl,_,rfl⟩ |⟨HF,t,b1,n,hd,G,hn,_,_,rfl,_,rfl⟩
   ·right;rw[Qz]at hk;split at hk
    rotate_left
    cases hk
    rename_i e;subst e;obtain⟨ds,_,c1,_,_,O,_⟩:=G;obtain⟨b2,M⟩:=QEo.1 (O k' b' (by rw[Qz,if_pos rfl])).1
    grind
   obtain⟨ds,_,V,_,_,U,_⟩:=G;rw[Qz]at hk;split at hk
   grind
   rw[Qz]at hk;split at hk
   grind
   trivial;rw[Qz]at hk;split at hk
   grind
   trivial
  case append l0 et bytes x y=>
   obtain⟨t,k',n,b1,e,ys,pr,h0,_,_,h3,_,h5,_,_,_,_,_,_,_,_,_,rfl,_,rfl⟩:=he;rw[Qz]at hk;split at hk
   grind
   rw[Qz]at hk;split at hk
   grind
   trivial
 subst h;cases hk
theorem Qk9 (C:YD P B o s p q d ef) (G:o.op.za=true) (hb:lk s.H k=some b):∃b',lk (s.s8 o.dst d ef).H k=some b'/\b'.rows.length=b.rows.length/\b'.l0=b.l0:=by
 obtain⟨dst,op,gd⟩:=o;cases op<;>simp[s6.za]at G;rcases C with⟨_,⟨⟨bx,h,_⟩ |⟨k',b',h,_,rfl⟩,_⟩ |h⟩ |⟨_,_,rfl,_⟩
 trivial;obtain⟨i,off,b0,row,q',cells,_,M,_,_,_,_,_,rfl⟩:=h
 by_cases hk:k'=k
 subst hk;rw[M]at hb;cases hb;exact⟨_,Gi (if_pos rfl),by simp,rfl⟩;exact⟨b,by rw[Kf (by rw[Qz,if_neg hk];rfl)];omega,rfl,rfl⟩
 trivial;exact⟨b,by trivial,rfl,rfl⟩
theorem RJ (hl:Qri E s) (hi:ZP P nt ops oi=some oi') (hj:ZP P nt ops oj=some oj') (hap:∀t,oi.dst=some t->t∉oj.looksAt ops)
 (hne:∀t,oi.dst=some t->oj.dst≠some t) (hy:YD P B oi' s pi qi d ef):
  (∀x∈oj'.op.l7,(s.s8 oi'.dst d ef).ev x=s.ev x)/\gw (s.s8 oi'.dst d ef) oj'.guard=gw s oj'.guard/\(∀k∈pk oj'.op s,(lk s.H k).isSome=true)/\(∀x∈oj'.op.l7,∀C,s.ev x=some C->∀k∈C.ids,(lk s.H k).isSome=true)/\
   ((oj'.op.pd=true/\oi'.op.za=true)\/(∀k∈pj,k∉qi)->(∀k∈pj,(lk s.H k).isSome=true)->Cz oj'.op oj'.dst pj s (s.s8 oi'.dst d ef)/\Cz oj'.op oj'.dst pj (s.s8 oi'.dst d ef) s):=by
 obtain⟨i1,i2,i3,i4⟩:=Q6 hi;obtain⟨j1,j2,j3,j4⟩:=Q6 hj
 have Y:∀x∈oj'.op.l7,(s.s8 oi'.dst d ef).ev x=s.ev x:=by
  intro x hx
  have gcase:∀i,x=.s (900000+i)->(s.s8 oi'.dst d ef).ev x=s.ev x:=λi e=>by
   subst e;simp only[St.ev,HQ,i3];rw[if_neg];intro h;have:=Mt hi h;omega
  rcases Pn j1 x hx with⟨y,hy,U⟩ |⟨i,e⟩
  case inr=>grind
  rcases Ms U with⟨t,rfl,rfl⟩ |⟨C,rfl,_⟩ |⟨i,e⟩
  case inr.inr=>grind
  simp only[St.ev,HQ,i3];rw[if_neg];intro h;exact hap t h (QFo _ (List.mem_filterMap.2 ⟨.tmp t,by grind,rfl⟩));rfl
 have V:∀x∈oj'.op.l7,∀C,s.ev x=some C->∀k∈C.ids,(lk s.H k).isSome=true:=by
  intro x hx C hd' k hk;obtain⟨g,a,w,r⟩:=hl;rcases Pn j1 x hx with⟨y,hy,U⟩ |⟨i,rfl⟩
  exact(Zy r U hd').2 k hk;exact r.da _ C hd' k hk
 have hpid:∀k∈pk oj'.op s,(lk s.H k).isSome=true:=by
  intro k hk;obtain⟨x,hx,hk⟩:=QEp.1 hk
  have hsub:x∈oj'.op.l7:=by
   generalize oj'.op=op at hx ⊢;cases op<;>simp[s6.ca,s6.l7]at hx ⊢<;>first |exact hx |grind |(grind)
  cases he:s.ev x with
  |none=>rw[he]at hk;cases hk
  |some C=>rw[he]at hk;exact V x hsub C he k hk
 have hgw:gw (s.s8 oi'.dst d ef) oj'.guard=gw s oj'.guard:=by
  cases hg:oj'.guard with
  |none=>rfl
  |some p=>
   obtain⟨t,b⟩:=p;simp[gw,HQ];rw[if_neg];intro h
   grind [Oper.looksAt,Yi]
 refine⟨Y,hgw,hpid,V,λhpk hin=>?_⟩
 have hkeep:(∀k∈pj,k∉qi)->∀k∈pj,lk (s.s8 oi'.dst d ef).H k=lk s.H k:=by
  intro hpk k hk;cases he:lk ef k with
  |none=>exact Kf he
  |some b=>
   rcases QdM hy he with⟨_,h2⟩ |⟨h1,_⟩
   grind
   grind
 have M:oj'.op.pd=false->∀k∈pj,lk (s.s8 oi'.dst d ef).H k=lk s.H k:=λhix=>by
  grind
 have O:∀k∈pj,∀b,lk s.H k=some b->∃b',lk (s.s8 oi'.dst d ef).H k=some b'/\b'.rows.length=b.rows.length/\b'.l0=b.l0:=by
  intro k hk b hb;rcases hpk with⟨_,h⟩ |h
  grind [Qk9]
  grind
 have G:∀k∈pj,∀b,lk (s.s8 oi'.dst d ef).H k=some b->∃b',lk s.H k=some b'/\b'.rows.length=b.rows.length/\b'.l0=b.l0:=by
  grind [Option.isSome_iff_exists]
 have T:∀k,(lk s.H k).isSome=true->(lk (s.s8 oi'.dst d ef).H k).isSome=true:=by
  intro k hk;cases he:lk ef k with
  |none=>grind [Kf]
  |some b=>grind [Gi]
 refine⟨⟨Y,M,λ_=>O,λ_ _ _ _ k _ hk=>T k hk,λt ht hn=>?_⟩,⟨λx hx=>(Y x hx).symm,λhix k hk=>(M hix k hk).symm,λ_=>G,λx hx C hd' k hk _=>V x hx C Wc k hk,λt ht hn=>?_⟩⟩;cases he:lk ef t with
 |none=>grind [Kf]
 |some b=>
  rcases QdM hy he with⟨h1,_⟩ |⟨_,h2⟩
  grind
  grind
 cases he:lk ef t with
 |none=>grind [Kf]
 |some b=>grind [Gi]
theorem QwW {op:s6} (he:EF P B op dst s p q d ef) (M:∀x∈op.l7,∀G,s.ev x=some G->∀k∈G.ids,(lk s.H k).isSome=true) (V:∀k,B k->(lk s.H k).isSome=true):∀k∈p,(lk s.H k).isSome=true:=by
 cases op<;>simp only[EF]at he
 case call f args=>
  rcases he with⟨HF,k,b,_,h,rfl,_⟩ |⟨HF,k,t,b,b',T,_,O,h,rfl,_⟩ |⟨HF,t,b,n,_,_,_,h,rfl,_⟩
  grind
  intro j C;rcases QEk.1 C with rfl |C
  obtain⟨_,_,U,_⟩:=O;grind
  grind
  grind
 case append l0 et bytes x y=>
  obtain⟨t,k,n,b,e,ys,pr,_,_,_,_,_,h5,_,_,_,Y,_,_,_,_,rfl,_⟩:=he;intro j C;rcases QEk.1 C with rfl |C
  grind
  grind [s6.l7]
theorem Qcp (hk:(lk s.H k).isSome=true):(lk (s.s8 dst d ef).H k).isSome=true:=by
 cases he:lk ef k with
 |none=>grind [Kf]
 |some b=>grind [Gi]
theorem Qzf (M:YD P B o s' p q d ef) (C:∀x∈o.op.l7,s'.ev x=s.ev x) (Y:∀k∈pk o.op s,(lk s.H k).isSome=true) (G:∀x∈o.op.l7,∀V,s.ev x=some V->∀k∈V.ids,(lk s.H k).isSome=true) (hB:∀k,B k->(lk s.H k).isSome=true):∀k∈p,(lk s.H k).isSome=true:=by
 rcases M with⟨_,⟨_,rfl,_⟩ |he⟩ |⟨_,_,_,rfl,_⟩
 grind [Qo4]
 ·generalize o.op=op at he C G;cases op<;>simp only[EF]at he
  case call f args=>
   rcases he with⟨HF,k,b,_,h,rfl,_⟩ |⟨HF,k,t,b,b',n',_,hc,h,rfl,_⟩ |⟨HF,t,b,n,_,_,_,h,rfl,_⟩
   grind
   rotate_left
   grind
   intro j T;rcases QEk.1 T with rfl |T
   by_cases hBj:B j
   grind
   obtain⟨ds,U,m1,_,_,_,_,_,_,_,⟨x,hx,O⟩,_⟩:=hc;obtain⟨y,M,he⟩:=FA U x hx;rw[C y M]at he;exact G y M x he _ O
   grind
  case append l0 et bytes x y=>
   obtain⟨t,k,n,b,e,ys,pr,_,U,_,_,_,h5,_,_,_,h9,_,_,_,_,rfl,_⟩:=he;intro j T;rw[C x Wj]at U
   (repeat clear hK K);simp_all [s6.l7,D.ids,D.y4]
   grind [s6.l7]
 simp
theorem Qze (G:YD P B o s p q d ef) (M:∀k∈pk o.op s,(lk s.H k).isSome=true) (O:∀x∈o.op.l7,∀C,s.ev x=some C->∀k∈C.ids,(lk s.H k).isSome=true) (T:∀k,B k->(lk s.H k).isSome=true):∀k∈p,(lk s.H k).isSome=true:=by
 rcases G with⟨_,⟨_,rfl,_⟩ |he⟩ |⟨_,_,_,rfl,_⟩;omega
 grind [QwW]
 simp
def Qux (oj oi:s6) (s s':St):Prop:=∃agg sz x sz' x' v k i i' off off',oj=.load agg sz x/\oi=.store sz' x' v/\s.ev x=some (.ref k i off)/\s'.ev x'=some (.ref k i' off')/\∀c,off<=c->c<off+(if agg=true then sz else 1)->off'<=c->c<off'+sz'->False
theorem BE (G:off<=c) (C:c<off+sz):QnH k c∈R5 k off sz:=
 QEw.2 ⟨c - off,QEE.2 Wa,by grind⟩
theorem QdF {ww:Bool} {oj oi:u3} (hj:YD P B oj s pj qj e eg) (hi:YD P B oi s' pi qi d ef) (h:∀t∈tkR ww oj.op s pj,t∉tkW ww oi.op s' qi):
  ((oj.op.pd=true/\oi.op.za=true)\/∀k∈pj,k∉qi)\/Qux oj.op oi.op s s':=by
 have G:tkR ww oj.op s pj=GK oj.op pj->((oj.op.pd=true/\oi.op.za=true)\/∀k∈pj,k∉qi)\/Qux oj.op oi.op s s':=λe=>.inl (QiE λt V O=>h t Wc (Ch O));cases ww
 exact G rfl
 ·obtain⟨dj,T,gj⟩:=oj;cases T<;>try exact G rfl
  case load agg sz x=>
   cases pj with
   |nil=>simp
   |cons k0 p0=>
    by_cases hr:∃k i off,s.ev x=some (.ref k i off)
    rotate_left
    refine G ?_;show cR (.load agg sz x) s (k0::p0)=GK (.load agg sz x) (k0::p0)
    grind [cR]
    obtain⟨k,i,off,hx⟩:=hr
    by_cases hk:Nat.ble 1000000 k=true
    have hp:k0::p0=[k]:=by
     rcases hj with⟨_,⟨_,hp,_⟩ |he⟩ |⟨_,_,_,hp,_⟩
     grind [pk,s6.ca,QeV,D.ids,D.y4]
     trivial
     grind
    rw[hp]at h ⊢;have V:tkR true (.load agg sz x) s [k]=(2*k+1)::R5 k off (if agg=true then sz else 1):=by simp_all [tkR,cR]
    rw[V]at h
    by_cases O:k∈qi
    ·right;cases hs:oi.op.za with
     |false=>
      exfalso;refine h (2*k+1) Wd (Ch ?_);unfold Hy
      grind
     |true=>
      obtain⟨di,U,gi⟩:=oi;cases U<;>simp[s6.za]at hs
      case store sz' x' v=>
       rcases hi with⟨_,⟨⟨bx,hy,_⟩ |⟨k',b',h2,_,_⟩,_,M⟩ |he⟩ |⟨_,_,_,_,M⟩;trivial;obtain⟨i',C,b0,row,q',cells,Y,_⟩:=h2
       simp[wk,Y,QeV,D.ids,D.y4]at M;subst M;simp at O;subst O;refine⟨agg,sz,x,sz',x',v,k,i,i',off,C,rfl,rfl,hx,Y,λc c1 c2 c3 c4=>?_⟩;have ht2:tkW true (.store sz' x' v) s' [k]=Hy (.store sz' x' v) [k]++R5 k C sz':=by simp_all [tkW,cW]
       exact h (QnH k c) (QFr _ (BE c1 c2)) (by grind [BE]);trivial
       grind
    grind
    (repeat clear hK K);simp_all [tkR,cR]
theorem QeC {cells:List D} (h:off+cells.length<=row.length) (C:c<off\/off+cells.length<=c):(setRow row off cells)[c]?=row[c]?:=by
 unfold setRow;rcases C with C |C
 grind
 rw[QFb Wc,List.getElem?_drop,QEY,QEO,show off+cells.length+(c - (min off row.length+cells.length))=c by omega]
theorem QeD {cells:List D} (h:off+cells.length<=row.length):(setRow row off cells).length=row.length:=by
 unfold setRow
 grind
theorem Qks {agg:Bool} {x:y5} {T:s6} {b':x4} {bx:Option x4} (st:stD T s1 k b') (ev:s2.ev x=s1.ev x) (h2:lk s2.H k=some b') (cel:Qux (.load agg sz x) T s1 s1):TK (.load agg sz x) dst s1 d bx↔TK (.load agg sz x) dst s2 d bx:=by
 obtain⟨agg0,sz0,x0,M,x',v,k0,i,i',off,C,e1,rfl,hx,hx',hcel⟩:=cel;cases e1
 obtain⟨i2,off2,b,row,q,cells,g1,g2,g3,g4,g5,g6,g7,rfl⟩:=st;rw[hx']at g1;cases g1
 have key:∀r,b.rows[i]?=some r->∃G,(b.rows.set i' (setRow row C cells))[i]?=some G/\G.length=r.length/\∀c,(c<C\/C+M<=c\/i≠i')->G[c]?=r[c]?:=λr hr=>by
  by_cases hi:i'=i
  subst hi;rw[g3]at hr;cases hr;refine⟨_,by rw[QFd (QEQ.1 g3).1],QeD Wa,λc hc=>QeC Wa ?_⟩;omega
  grind
 have out:∀c,off<=c->c<off+(if agg=true then sz else 1)->c<C\/C+M<=c\/i≠i':=λc O h2=>by
  grind
 have conv:∀r G:List D,G.length=r.length->(∀c,(c<C\/C+M<=c\/i≠i')->G[c]?=r[c]?)->
   ((if agg=true then sz<=(r.drop off).length/\d=.agg ((r.drop off).take sz)else(r.drop off).head?=some d)↔(if agg=true then sz<=(G.drop off).length/\d=.agg ((G.drop off).take sz)else(G.drop off).head?=some d)):=λr G hl hc=>by
  cases agg
  (repeat clear hK K);simp_all
  have:(G.drop off).take sz=(r.drop off).take sz:=by
   refine List.ext_getElem? λn=>?_
   grind
  grind
 constructor
 ·rintro⟨p,cs,O,h3,h4,h5⟩;rw[hx]at O;cases O;obtain⟨b1,r1,V,k2,rfl⟩:=h3;rw[g2]at V;cases V;obtain⟨G,q1,q2,q3⟩:=key r1 k2;exact⟨.ref k i off,G.drop off,by grind,⟨_,G,h2,q1,rfl⟩,(conv r1 G q2 q3).1 h4,h5⟩
 ·rintro⟨p,cs,O,h3,h4,h5⟩;rw[ev,hx]at O;cases O;obtain⟨b1,r1,V,k2,rfl⟩:=h3;rw[h2]at V;cases V;have hlt:i<b.rows.length:=by grind
  obtain⟨r0,Y⟩:∃r0,b.rows[i]?=some r0:=⟨_,QE8 hlt⟩;obtain⟨G,q1,q2,q3⟩:=key r0 Y;have U:=k2;rw[q1]at U;cases U;exact⟨.ref k i off,r0.drop off,hx,⟨b,r0,g2,Y,rfl⟩,(conv r0 _ q2 q3).2 h4,h5⟩
theorem QmP {o2:u3} {p2 q2:List Nat} {d2:D} {O:QEf} (U:YD P B o2 s1 p2 q2 d2 O) (he:s2=s1.s8 o2.dst d2 O) (hq:∃k∈p,k∈q2) (G:∀x∈o.op.l7,s2.ev x=s1.ev x) (hg:gw s2 o.guard=gw s1 o.guard) (Y:Qux o.op o2.op s1 s1):YD P B o s1 p q d ef↔YD P B o s2 p q d ef:=by
 obtain⟨agg,sz,x,T,x',v,k,i,i',off,C,e1,e2,hx,V,M⟩:=Y;obtain⟨dst,op,gd⟩:=o;obtain⟨dst2,op2,gd2⟩:=o2;subst e1 e2;rcases U with⟨_,⟨⟨bx,hy,_⟩ |⟨k',b',st,_,h5⟩,_,_⟩ |he2⟩ |⟨_,_,_,_,h5⟩
 trivial;have hb:lk s2.H k'=some b':=by rw[he,h5];exact Gi (if_pos rfl)
 have main:∀{e:D} {bx:Option x4},TK (.load agg sz x) dst s1 e bx↔TK (.load agg sz x) dst s2 e bx:=Qks st (G x Wj) hb ⟨agg,sz,x,T,x',v,k,i,i',off,C,rfl,rfl,hx,V,M⟩;have hpk:=Qo4 G
 (repeat clear hK K);simp_all [YD,Jy,stD,EF]
 trivial
 grind
theorem QlB (hl:Qri E s) (hB:∀k,B k->(lk s.H k).isSome=true) (hi:ZP P nt ops oi=some oi') (hj:ZP P nt ops oj=some oj') (hap:oi.apart ops oj=true)
 (U:¬u9 ops j i)
 (G:YD P B oi' s pi qi d ef) (V:cf (u9 ops i) (tkR ww oi'.op s pi) (tkW ww oi'.op s qi) R W) (T:YD P B oj' (s.s8 oi'.dst d ef) pj qj e eg) (O:cf (u9 ops j) (tkR ww oj'.op (s.s8 oi'.dst d ef) pj) (tkW ww oj'.op (s.s8 oi'.dst d ef) qj) (tag i (tkR ww oi'.op s pi)++R) (tag i (tkW ww oi'.op s qi)++W)):
  YD P B oj' s pj qj e eg/\cf (u9 ops j) (tkR ww oj'.op s pj) (tkW ww oj'.op s qj) R W/\YD P B oi' (s.s8 oj'.dst e eg) pi qi d ef/\cf (u9 ops i) (tkR ww oi'.op (s.s8 oj'.dst e eg) pi) (tkW ww oi'.op (s.s8 oj'.dst e eg) qi) (tag j (tkR ww oj'.op s pj)++R) (tag j (tkW ww oj'.op s qj)++W)/\(∀k b,lk ef k=some b->lk eg k=none)/\
   (tkR ww oj'.op (s.s8 oi'.dst d ef) pj=tkR ww oj'.op s pj/\tkW ww oj'.op (s.s8 oi'.dst d ef) qj=tkW ww oj'.op s qj)/\tkR ww oi'.op (s.s8 oj'.dst e eg) pi=tkR ww oi'.op s pi/\tkW ww oi'.op (s.s8 oj'.dst e eg) qi=tkW ww oi'.op s qi:=by
 obtain⟨a1,a2,a3⟩:=Oper.apart_spec hap;obtain⟨_,_,i3,_⟩:=Q6 hi;obtain⟨_,_,j3,_⟩:=Q6 hj;obtain⟨c1,c2,c3,c3',c4⟩:=RJ (pj:=pj) hl hi hj a1 a2 G;have ej1:tkR ww oj'.op (s.s8 oi'.dst d ef) pj=tkR ww oj'.op s pj:=QiB c1;have ej2:tkW ww oj'.op (s.s8 oi'.dst d ef) qj=tkW ww oj'.op s qj:=QiC c1;have x1':=λk hk M=>U (O.1 k hk i (QFo _ (NA.2 ⟨M,rfl⟩)));rw[ej1,ej2]at O;have x2:=λk hk M=>U ((O.2 k hk).1 i (QFo _ (NA.2 ⟨M,rfl⟩)));have x3':=λk hk M=>U ((O.2 k hk).2 i (QFo _ (NA.2 ⟨M,rfl⟩)));have x3:=QeK λk hk M=>x3' k (Ch hk) (Ch M);have hinj:=Qzf T c1 c3 c3' hB
 have C:YD P B oj' s pj qj e eg:=by
  rcases QdF T G x1' with hc |hc
  grind [MN]
  by_cases M:∃k∈pj,k∈qi
  obtain⟨agg,sz,x,sz',x',v,k,u,u',off,Y,e1,e2,hx,hx',hcel⟩:=hc;exact(QmP G rfl M c1 c2 ⟨agg,sz,x,sz',x',v,k,u,u',off,Y,e1,e2,by grind [s6.l7],hx',hcel⟩).2 T
  grind [MN]
 obtain⟨d1,d2,d3,d3',d4⟩:=RJ (pj:=pi) hl hj hi a3 (λt ht h=>a2 t h ht) C;have ei1:tkR ww oi'.op (s.s8 oj'.dst e eg) pi=tkR ww oi'.op s pi:=QiB d1;have ei2:tkW ww oi'.op (s.s8 oj'.dst e eg) qi=tkW ww oi'.op s qi:=QiC d1;have hini:=Qze G d3 d3' hB
 have hyi':YD P B oi' (s.s8 oj'.dst e eg) pi qi d ef:=by
  rcases QdF G C (λk hk M=>x2 k M hk)with hc |hc
  grind [MN]
  by_cases M:∃k∈pi,k∈qj
  exact(QmP C rfl M d1 d2 hc).1 G
  grind [MN]
 refine⟨C,O.less (λk hk=>QEx _ hk) (λk hk=>QEx _ hk),hyi', ?_, ?_,⟨ej1,ej2⟩,ei1,ei2⟩;rw[ei1,ei2];refine⟨λk hk m hw=>?_,λk hk=>⟨λm hr=>?_,λm hw=>?_⟩⟩;rcases QEt.1 hw with hw |hw
 grind [NA]
 exact V.1 k hk m hw;rcases QEt.1 hr with hr |hr
 grind [NA]
 exact(V.2 k hk).1 m hr;rcases QEt.1 hw with hw |hw
 grind [NA]
 exact(V.2 k hk).2 m hw;intro k b hk;cases hkj:lk eg k with
 |none=>rfl
 |some b'=>
 exfalso;rcases QdM G hk with⟨h1,h2⟩ |⟨h1,h2⟩<;>rcases QdM C hkj with⟨h3,h4⟩ |⟨h3,h4⟩
 grind
 grind
 grind
 grind
theorem CD (hnt:E.nt=nt) (hKK:∀s s',s.same s'->KK s->KK s') (M:RC P nt ops l') (hi:ops[i]?=some oi) (hi':l'[i]?=some oi'):
  ∀(fuel:Nat) (listed:Array Bool) (R W:List (Nat × Nat)) (s:St) (p q:List Nat) (d:D) (ef:QEf),Qri E s->(∀k,B k->(lk s.H k).isSome=true)->Qjh ops listed->
   (∀j oj,ops[j]?=some oj->j≠i->listed.getD j true=false->(∀e∈oj.after,Region.binds .any e=true->e.on≠i)->oi.apart ops oj=true)->
   i∈Region.ready .any ops listed->YD P B oi' s p q d ef->cf (u9 ops i) (tkR ww oi'.op s p) (tkW ww oi'.op s q) R W->Np ww P B ops l' KK fuel (listed.setIfInBounds i true) (tag i (tkR ww oi'.op s p)++R) (tag i (tkW ww oi'.op s q)++W) (s.s8 oi'.dst d ef)->Np ww P B ops l' KK (fuel+1) listed R W s:=by
 have V:ZP P nt ops oi=some oi':=by
  obtain⟨o',h1,h2⟩:=M i oi hi
  grind
 intro fuel
 induction fuel with
 |zero=>
  intro listed R W s p q d ef _ _ _ _ hr hy ha H;refine⟨λh=>Wc,λj U=>?_⟩
  by_cases hji:j=i
  grind
  have:=ready_mono U hji;rw[H.1]at this
  grind
 |succ fuel ih=>
  intro listed R W s p q d ef hl hB hdn C hr hy ha H;refine⟨λh=>Wc,λj U=>?_⟩
  by_cases hji:j=i
  grind
  obtain⟨oj',pj,qj,e,eg,hj',hyj,haj,O⟩:=H.2 j (ready_mono U hji);obtain⟨hjun,oj,Y,hall⟩:=mem_ready.1 U
  have T:ZP P nt ops oj=some oj':=by
   obtain⟨o',h1,h2⟩:=M j oj Y
   grind
  have hnot:∀e∈oj.after,Region.binds .any e=true->e.on≠i:=λe he hb heq=>by
   grind [mem_ready]
  have hap:=C j oj Y hji hjun hnot;have n1:=λh=>Qln (mem_ready.1 hr).1 (Mx hdn U h);obtain⟨k1,k2,k3,k4,k5,⟨t1,t2⟩,t3,t4⟩:=QlB hl hB V T hap n1 hy ha hyj haj;rw[t1,t2]at O
  have G:∀k ok,ops[k]?=some ok->k≠i->(listed.setIfInBounds j true).getD k true=false->
    (∀e∈ok.after,Region.binds .any e=true->e.on≠i)->oi.apart ops ok=true:=λk ok hk hki hun hno=>by
   refine C k ok hk hki ?_ hno
   by_cases hjk:j=k
   grind
   (repeat clear hK K);simp_all
  refine⟨oj',pj,qj,e,eg,hj',k1,k2,ih (listed.setIfInBounds j true) _ _ (s.s8 oj'.dst e eg) p q d ef (LB hnt hl T k1) (λk hk=>Qcp (hB k hk)) (P6 hdn U) G (ready_mono hr (Ne.symm hji)) k3 k4 ?_⟩;rw[Array.setIfInBounds_comm _ _ hji,t3,t4]
  have hne:∀t,oi'.dst=some t->oj'.dst≠some t:=λt h=>by
   obtain⟨_,a2,_⟩:=Oper.apart_spec hap;rw[(Q6 V).2.2.1]at h;rw[(Q6 T).2.2.1]
   grind
  grind [RI,QjY]
theorem MU {nt:Nat} (M:E.nt=nt) (O:∀s s',s.same s'->KK s->KK s') (C:RC P nt ops l'):∀(l:List u3) (k:Nat) (listed:Array Bool) (R W:List (Nat × Nat)) (s:St),(∀j,l[j]?=l'[k+j]?)->Qri E s->(∀k,B k->(lk s.H k).isSome=true)->Qjh ops listed->
  Region.lexFrom .any ops l.length k listed=true->Gy ww P B (u9 ops) l k R W KK s->Np ww P B ops l' KK l.length listed R W s
 |[],_,_,_,_,_,_,_,_,_,hB,h=>⟨by grind [Region.lexFrom],h⟩
 |o'::l,k,listed,R,W,s,hl,hlive,hBs,hdn,hB,h=>by
  have h0:=by simpa using(hl 0).symm
  simp[Region.lexFrom]at hB;obtain⟨⟨hr,Y⟩,U⟩:=hB;have G:k∈Region.ready .any ops listed:=by grind
  obtain⟨_,o,ho,_⟩:=mem_ready.1 G;obtain⟨p,q,d,ef,V,ha,hK⟩:=h
  have T:ZP P nt ops o=some o':=by
   obtain⟨o2,h1,h2⟩:=C k o ho
   grind
  exact CD M O C ho h0 l.length listed R W s p q d ef hlive hBs hdn (Region.free_spec ho Y) G V ha
   (MU M O C l (k+1) _ _ _ _ (λj=>by have:=hl (j+1);grind) (LB M hlive T V) (λk hk=>Qcp (hBs k hk)) (P6 hdn G) U hK)
theorem KR {nt:Nat} {Q:Exit->Act->World->Prop} (M:E.nt=nt) (G:RC P nt ops l') (C:∀(j:Nat) (o':Oper),ops[j]?=some o'->∀t,o'.dst=some t->t<E.nt) (T:∀s g a w,KK s->Rel E g s a w->Q .normal a w):
  ∀(fuel:Nat) (listed:Array Bool) (R W:List (Nat × Nat)) (s:St) (g:Gh) (a:Act) (w:World),Rel E g s a w->Np ww P B ops l' KK fuel listed R W s->wpAny P .any ops Q fuel listed a w
 |0,_,_,_,s,g,a,w,r,h=>⟨h.1,T s g a w h.2 r⟩
 |fuel+1,listed,R,W,s,g,a,w,r,h=>⟨λhr=>T s g a w (h.1 hr) r,λi hi=>by
   obtain⟨o',p,q,d,ef,h1,h2,_,Y⟩:=h.2 i hi;obtain⟨_,o,ho,_⟩:=mem_ready.1 hi
   have O:ZP P nt ops o=some o':=by
    obtain⟨o2,q1,q2⟩:=G i o ho
    grind
   obtain⟨p1,p2,p3,p4⟩:=Q6 O;have V:∀t,o.dst=some t->t<E.nt:=λt V=>by grind
   unfold wpOp;rw[ho];simp only;rcases Quw h2 with⟨U,hy⟩ |⟨U,rfl,rfl⟩
   rw[Xm r p2 C true U];exact .inl (QdN M r O hy λg' a' w' r'=>KR M G C T fuel _ _ _ _ g' a' w' r' Y);rw[Xm r p2 C false U];refine KR M G C T fuel _ _ _ _ g _ w ?_ Y;have:=r.skip V;rw[p3,<- (show s.apply o.dst .undef none=s.s8 o.dst .undef [] by cases o.dst<;>rfl)]
   omega⟩
theorem Gp {K:St->Prop} (hB:Region.lexB .any ops=true) (T:E.nt=nt) (hp:QV P nt ops ops.toList=some l')
 (U:∀(j:Nat) (o':Oper),ops[j]?=some o'->∀t,o'.dst=some t->t<E.nt) (r:Rel E g s a w) (hBs:∀k,B k->(lk s.H k).isSome=true) (h:Gy ww P B (u9 ops) l' 0 [] [] K s) (hK:∀s' g' a' w',Rel E g' s' a' w'->K s'->Q .normal a' w'):wpAny P .any ops Q ops.size (Array.replicate ops.size false) a {w with drawn:=w.drawn+1}:=by
 have hlen:∀{l:List Oper} {l':List u3},QV P nt ops l=some l'->l'.length=l.length:=by
  intro l
  induction l with
  |nil=>grind [QV]
  |cons x xs ih=>
   grind [QV]
 have C:RC P nt ops l':=λi o ho=>ZC hp i o Wc;simp[Region.lexB]at hB
 have M:Gy ww P B (u9 ops) l' 0 [] [] (λs=>∃s',s.same s'/\K s') s:=by
  have:∀(l:List u3) (j:Nat) (R W:List (Nat × Nat)) (s:St),Gy ww P B (u9 ops) l j R W K s->Gy ww P B (u9 ops) l j R W (λs=>∃s',s.same s'/\K s') s:=by
   intro l
   induction l with
   |nil=>intro j R W s h;exact⟨s,⟨λ_=>rfl,λ_=>rfl⟩,h⟩
   |cons o l ih=>intro j R W s ⟨p,q,d,bx,O,V,h3⟩;exact⟨p,q,d,bx,O,V,ih _ _ _ _ h3⟩
  grind
 have G:l'.length=ops.size:=by grind
 have Y:Qjh ops (Array.replicate ops.size false):=λj i hj _=>by
  (repeat clear hK K);simp_all
  grind
 have:=MU T (λs s' hs ⟨s2,O,V⟩=>⟨s2,⟨λt=>(hs.1 t).symm.trans (O.1 t),λk=>(hs.2 k).symm.trans (O.2 k)⟩,V⟩) C l' 0 (Array.replicate ops.size false) [] [] s Wd ⟨g,a,w,r⟩ hBs Y
  Wc M
 rw[G]at this;exact KR T C U (λs g a w ⟨s',O,V⟩ r=>hK s' g a w (r.same O) V) ops.size _ _ _ s g a _ (r.heap rfl) this
end
variable {args:Array Value}
def fen:Option Nat->Fence
 |none=>Fence.wide
 |some l=>Fence.wide.inRound l
theorem Qf2 (rd:Option Nat) (f:FuncId):(fen rd).fn f:=by cases rd<;>trivial
theorem Ba (rd:Option Nat):(fen rd).depth=none:=by cases rd<;>rfl
theorem Qf3 (rd:Option Nat):(fen rd).round=rd:=by cases rd<;>rfl
section
variable {P:Program} {n:Nat} {rd:Option Nat} {a:Act} {w:World} {K:Act->World->Prop} {Q:Exit->Act->World->Prop}
theorem Qf1 {f:FuncId} {R:Ending->World->Prop} (h:Calls P f args w R):CallsIn (fen rd) n P f args w R:=by
 cases rd
 exact callsIn_wide.2 h;exact CallsIn.inRound _ (callsIn_wide.2 h)
theorem Qj2 {row:String} {R:Value->World->Prop} (h:Rows P row args w R):RowsIn (fen rd) n P row args w R:=λc cs _=>by
 obtain⟨v,w',r,s⟩:=h c cs;refine⟨v,w',r, ?_⟩;cases rd
 exact stepsIn_wide.2 s;exact stepsIn_wide.2 s
theorem Qht {o:Oper} (hd:∀c,o.op≠.defer c) (h:o.wp P a w K Q):o.wpIn (fen rd) n P a w K Q:=by
 refine⟨λf _=>Qf2 rd f, ?_⟩
 have e:o.semAt (fen rd).round a.eval=execOp a.eval o:=by
  rw[Qf3];cases rd
  rfl
  grind [Oper.semAt_some]
 rw[e];unfold Oper.wp at h;generalize (execOp a.eval o).run P w=res at h ⊢;cases res with
 |ok x w'=>
  cases x<;>simp only[Oper.upon,Oper.uponIn]at h ⊢<;>first
   |exact h
   |exact h.elim
   |exact⟨(λC=>by grind [Ba]),Qf1 h⟩
   |grind [Ba,Qj2]
 |halt x w'=>cases x<;>simp only[Oper.upon,Oper.uponIn]at h ⊢<;>first |exact h |exact h.elim
theorem BX {op:Op} {ao:s6} (hp:Yr P op=some ao):∀c,op≠.defer c:=λc e=>by
 subst e;trivial
variable {ops:Array Oper}
theorem Hc (C:¬LetsOut Q) (hd:∀(j:Nat) (o:Oper),ops[j]?=some o->∀c,o.op≠.defer c):∀(l:List Nat) (a:Act) (w:World),wpOps P ops Q l a w->wpOpsIn (fen rd) n P ops Q l a w
 |[],_,_,h=>h
 |i::rest,a,w,h=>by
  simp only[wpOps,wpOpsIn]at h ⊢;cases ho:ops[i]? with
  |none=>rw[ho]at h;exact Hc C hd rest a w h
  |some o=>
   rw[ho]at h;simp only at h ⊢;split;rename_i hw;rw[if_pos hw]at h;rcases h with h |⟨_,h⟩
   exact Qht (hd i o ho) (Oper.wp_mono (λa w h=>Hc C hd rest a w h) h)
   grind
   rename_i hw;rw[if_neg hw]at h;exact⟨λf _=>Qf2 rd f,Hc C hd rest _ w h⟩
theorem FR (C:¬LetsOut Q) (hd:∀(j:Nat) (o:Oper),ops[j]?=some o->∀c,o.op≠.defer c):∀(fuel:Nat) (listed:Array Bool) (a:Act) (w:World),wpAny P .any ops Q fuel listed a w->wpAnyIn (fen rd) n P .any ops Q fuel listed a w
 |0,_,_,_,h=>h
 |fuel+1,listed,a,w,h=>by
  refine⟨h.1,λi hi=>?_⟩;have:=h.2 i hi;unfold wpOp at this;unfold wpOpIn;cases ho:ops[i]? with
  |none=>rw[ho]at this;exact FR C hd fuel _ a w this
  |some o=>
   rw[ho]at this;simp only at this ⊢;split;rename_i hw;rw[if_pos hw]at this;rcases this with h |⟨_,h⟩
   exact Qht (hd i o ho) (Oper.wp_mono (λa w h=>FR C hd fuel _ a w h) h)
   grind
   rename_i hw;rw[if_neg hw]at this;exact⟨λf _=>Qf2 rd f,FR C hd fuel _ _ w this⟩
theorem QeM {F:Fence} {c:Code} (h:c.wpIn F n P (Exit.noGoto Q) a w):(Code.scope c).wpIn F n P Q a w:=by
 intro b k cs U hb hr;have h0:(lone (b.atR a (.code (.scope c)::k)) cs w).fenced P F:=fenced_calm hb hr rfl;have O:step P (lone (b.atR a (.code (.scope c)::k)) cs w)=.next (lone (b.atR a (.code c::.inScope c::k)) cs w):=step_lone_go Wg
 obtain⟨e,M,G,T,C⟩:=h b (.inScope c::k) cs U hb hr;cases e with
 |normal=>
  have s1:step P (lone (b.atR M (.inScope c::k)) cs G)=.next (lone (b.atR M k) cs G):=step_lone_go Wg
  exact⟨.normal,M,G,T,.head h0 O (StepsIn.trans C (.one (fenced_calm hb hr rfl) s1))⟩
 |exit id=>
  have hx:exitTo id (.inScope c::k)=exitTo id k:=by rfl
  exact⟨.exit id,M,G,T,λk' hk=>.head h0 O (C.1 k' Wc),
   λV hk=>let⟨k₁,h1,h2⟩:=C.2 V Wc;⟨k₁,h1,.head h0 O h2⟩⟩
 |goto l=>trivial
 |ret=>exact⟨_,M,G,T,.of_steps (.one h0 O) C⟩
 |panic ch=>exact⟨_,M,G,T,.of_steps (.one h0 O) C⟩
 |outgrown=>exact⟨_,M,G,T,.of_steps (.one h0 O) C⟩
end
variable {code:Code} {id:Nat} {l l':List u3} {ops:Array Oper} {ι:Type}
inductive l8 where
 |skip
 |region (draw:Bool) (ops:List u3)
 |na (ops:List u3)
 |seq (a b:l8)
 |cond (c:y5) (a b:l8)
 |block (id:Nat) (a:l8)
 |loop (a:l8)
 |scope (a:l8)
 |exit (id:Nat)
 |ret
 |z8 (x:y5) (p q:Nat) (a:l8)
variable {x y:l8}
def l8.flat:l8->Bool
 | .seq a b=>a.flat&&b.flat
 | .cond _ a b=>a.flat&&b.flat
 | .block _ a=>a.flat
 | .loop a=>a.flat
 | .scope a=>a.flat
 | .z8 _ _ _ _=>false
 |_=>true
inductive AExit where
 |normal
 |exit (id:Nat)
 |ret
def QcN:Op->Bool
 | .load .. =>true
 |_=>false
def Y5:Op->Bool
 | .store .. =>true
 |_=>false
def La (ops:Array Oper) (oj:Oper) (m:Nat):Bool:=oj.after.any λe=>Region.binds .any e&&e.on==m
def lsB (ops:Array Oper):Bool:=
 Nat.ble (ops.toList.countP λo=>Y5 o.op) 0||(List.range ops.size).all λj=>(List.range j).all λm=>match ops[j]?,ops[m]? with
  |some oj,some om=>!(Y5 oj.op&&(QcN om.op||Y5 om.op))||La ops oj m
  |_,_=>true
def ssB (ops:Array Oper):Bool:=
 Nat.ble (ops.toList.countP λo=>Y5 o.op) 1||(List.range ops.size).all λj=>(List.range j).all λm=>match ops[j]?,ops[m]? with
  |some oj,some om=>!(Y5 oj.op&&Y5 om.op)||La ops oj m
  |_,_=>true
def KG:Op->Bool
 | .call c=>match c.callee with
  | .value _=>true
  |_=>false
 |_=>false
def N5 (ops:Array Oper) (m:Nat):Bool:=(ops.toList.drop m).all λo=>o.guard.isNone
def BM (ops:Array Oper) (m j:Nat):Bool:=((ops.toList.drop (m+1)).take (j - m - 1)).all λo=>!KG o.op
def lcB (ops:Array Oper):Bool:=
 (List.range ops.size).all λj=>(List.range j).all λm=>match ops[j]?,ops[m]? with
  |some oj,some om=>!(KG oj.op&&(KG om.op&&(N5 ops m&&BM ops m j)))||La ops oj m
  |_,_=>true
def C9 (ops:Array Oper) (k:Nat):Bool:=match ops[k]? with
 |none=>false
 |some oi=>(oi.after.all λe=>!Region.binds .any e||decide (e.on<k))&&(List.range ops.size).all λj=>decide (j<=k)||match ops[j]? with
  |some oj=>oj.after.any (λe=>Region.binds .any e&&e.on==k)||oi.apart ops oj
  |none=>true
def PS (ops:Array Oper):Bool:=Region.noSelect ops&&(List.range ops.size).all (C9 ops)
theorem Fa {ops:Array Oper} (h:∀k,k<ops.size->C9 ops k=true):∀(fuel k:Nat) (listed:Array Bool),fuel+k=ops.size->listed.size=ops.size->(∀i d,i<ops.size->listed.getD i d=decide (i<k))->Region.lexFrom .any ops fuel k listed=true
 |0,k,listed,hk,hs,M=>by
  rw[Region.lexFrom,QFs,List.eq_nil_iff_forall_not_mem];intro j T;obtain⟨V,o,ho,_⟩:=mem_ready.1 T;have Y:=(QEG.1 ho).1
  (repeat clear hK K);simp_all
 |fuel+1,k,listed,hk,hs,M=>by
  have G:k<ops.size:=Wa;have O:=h k G;rw[C9]at O;obtain⟨oi,C⟩:∃oi,ops[k]?=some oi:=⟨ops[k],QFt G⟩;rw[C]at O;simp only[QEm,Array.all_eq_true_iff_forall_mem,QFu,QFv,decide_eq_true_eq,QEs,QEE]at O;obtain⟨V,h2⟩:=O;rw[Region.lexFrom,QEm,QEm];refine⟨⟨?_, ?_⟩, ?_⟩;rw[List.contains_iff_mem];refine mem_ready.2 ⟨by simp_all,oi,C,λe he hb=>?_⟩;rcases V e he with U |U
  grind
  rw[M e.on false Wa,decide_eq_true U];rw[Region.free,C];simp only[QEs,QEE];intro j T;rw[M j true T]
  grind
  refine Fa h fuel (k+1) _ Wa Wc λi d hi=>?_
  by_cases e:k=i
  (repeat clear hK K);simp_all
  rw[getD_set_ne d e,M i d hi]
  grind
theorem HP (h:PS ops=true):Region.lexB .any ops=true:=by
 (repeat clear hK K);simp_all [PS,Region.lexB,Fa]
def gdB (ops:Array Oper):Bool:=(List.range ops.size).all λk=>match ops[k]? with
 |some o=>match o.guard with
  |some (j,_)=>decide (j<k)
  |none=>true
 |none=>true
def Sb (ops:Array Oper):Bool:=(PS ops&&lsB ops)&&(lcB ops&&gdB ops)
def Qwv (p:Nat) (ops:List Oper):Option Nat:=
 match ops with
 |[o]=>match o.op,o.dst,o.guard with
  | .assign (.tmp p'),some q,none=>if p'=p then some q else none
  | .move (.tmp p'),some q,none=>if p'=p then some q else none
  |_,_,_=>none
 |_=>none
def Qmv (nt:Nat) (g:Operand) (ps:List Nat) (az:Code) (b:Option l8):Option (y5 × Nat × Nat × l8):=
 match QP g,ps,az,b with
 |some x,[p],.region _ ops false,some b'=>match Qwv p ops.toList with
  |some q=>if p<nt/\q<nt/\b'.flat=true then some (x,p,q,b')else none
  |none=>none
 |_,_,_,_=>none
def KO (P:Program) (nt:Nat):Code->Option l8
 | .skip=>some .skip
 | .label _=>some .skip
 | .region _ ops draw=>
  if draw&&!Sb ops then(if PS ops&&ssB ops then(QV P nt ops ops.toList).map .na else none)else(QV P nt ops ops.toList).map (.region draw)
 | .seq a b=>match KO P nt a,KO P nt b with
  |some a',some b'=>some (.seq a' b')
  |_,_=>none
 | .cond c a b=>match QP c,KO P nt a,KO P nt b with
  |some c',some a',some b'=>some (.cond c' a' b')
  |_,_,_=>none
 | .block id a=>(KO P nt a).map (.block id)
 | .loop a=>(KO P nt a).map .loop
 | .scope a=>(KO P nt a).map .scope
 | .exit id=>some (.exit id)
 | .ret=>some .ret
 | .rangeFunc g ps az b=>(Qmv nt g ps.toList az (KO P nt b)).map λt=>.z8 t.1 t.2.1 t.2.2.1 t.2.2.2
 |_=>none
def Fl (E:Env) (c:l8):Prop:=(E.rd=none/\∃n,E.bd=some n/\n<=E.B0)\/c.flat=true
theorem Fl.imp {E:Env} {c c':l8} (h:Fl E c) (f:c.flat=true->c'.flat=true):Fl E c':=Or.imp id f h
def AQ (E:Env) (Q:AExit->St->Prop):Exit->Act->World->Prop
 | .normal,a,w=>∃s g,Q .normal s/\Rel E g s a w
 | .exit id,a,w=>∃s g,Q (.exit id) s/\Rel E g s a w
 | .ret,a,w=>∃s g,Q .ret s/\Rel E g s a w
 |_,_,_=>False
def AW (P:Program) (nt:Nat) (c:l8) (Q:AExit->St->Prop) (s:St):Prop:=
 ∀code E g a w,P.follows .mixedOrders=true->KO P nt code=some c->E.nt=nt->Fl E c->Rel E g s a w->code.wpIn (fen E.rd) 0 P (AQ E Q) a w
section
variable {P:Program} {nt:Nat} {Q:AExit->St->Prop} {s:St}
theorem Cx {c:l8} {s':St} (h:s.le s') (hw:AW P nt c Q s'):AW P nt c Q s:=λcode E g a w hm hp G C r=>
 let⟨g',r'⟩:=h E g a w r
 hw code E g' a w hm hp G C r'
theorem QmT (h:Q .normal s):AW P nt .skip Q s:=λcode E g a w hm hp G C r=>by
 cases code<;>simp only[KO,QEl,reduceCtorEq]at hp
 case skip=>exact wpIn_skip ⟨s,g,h,r⟩
 case label=>exact wpIn_label ⟨s,g,h,r⟩
 grind [Option.map_eq_some_iff]
 grind
 grind
 all_goals (simp_all)
theorem QmQ (h:Q (.exit id) s):AW P nt (.exit id) Q s:=λcode E g a w hm hp G C r=>by
 cases code<;>simp only[KO,QEl,reduceCtorEq]at hp
 case exit i=>cases hp;exact wpIn_exit ⟨s,g,h,r⟩
 grind [Option.map_eq_some_iff]
 grind
 grind
 all_goals (simp_all)
theorem QrH (h:Q .ret s):AW P nt .ret Q s:=λcode E g a w hm hp G C r=>by
 cases code<;>simp only[KO,QEl,reduceCtorEq]at hp
 case ret=>exact wpIn_ret ⟨s,g,h,r⟩
 grind [Option.map_eq_some_iff]
 grind
 grind
 all_goals (simp_all)
theorem YA (h:QV P nt ops ops.toList=some l'):∀(j:Nat) (o':Oper),ops[j]?=some o'->∀t,o'.dst=some t->t<nt:=λj o' ho t C=>by
 obtain⟨o2,_,G⟩:=ZC h j o' Wc;exact(Q6 G).2.2.2 t C
theorem YP (h:QV P nt ops ops.toList=some l'):∀(j:Nat) (o:Oper),ops[j]?=some o->∀c,o.op≠.defer c:=λj o ho=>by
 obtain⟨o2,_,C⟩:=ZC h j o Wc;exact BX (Q6 C).1
theorem Jp {draw:Bool} (hp:KO P nt code=some (.region draw l)):∃id ops,code=.region id ops draw/\(draw=true->Sb ops=true)/\QV P nt ops ops.toList=some l:=by
 cases code<;>simp only[KO,QEl,reduceCtorEq]at hp
 case region id ops d=>
  split at hp
  (repeat clear hK K);simp_all
  rename_i hd;obtain⟨l',G,C⟩:=QEh.1 hp;cases C
  grind
 grind
 grind
 all_goals (simp_all)
theorem QkS (hp:KO P nt code=some (.na l)):∃id ops,code=.region id ops true/\(PS ops=true/\ssB ops=true)/\QV P nt ops ops.toList=some l:=by
 cases code<;>simp only[KO,QEl,reduceCtorEq]at hp
 case region id ops d=>
  split at hp;rename_i hd;split at hp;rename_i C;obtain⟨l',M,G⟩:=QEh.1 hp;cases G
  simp only[QEm]at hd C;obtain⟨rfl,_⟩:=hd
  grind
  grind
  (repeat clear hK K);simp_all
 grind
 grind
 all_goals (simp_all)
theorem Cy (h:GF P l (Q .normal) s):AW P nt (.region false l) Q s:=λcode E g a w hm hp G T r=>by
 obtain⟨id,ops,rfl,_,C⟩:=Jp hp;refine wpIn_region (Hc (λ⟨_,_,h⟩=>h) (YP C) _ _ _ ?_);rw[QFw,<- QE1];exact S0 G (λj o' ho t O=>by rw[G];exact YA C j o' ho t O) ops.toList 0 l s g a w Wd C r h λs' g' a' w' M U=>⟨s',g',U,M⟩
def AwD (P:Program) (nt:Nat) (l:List u3) (K:St->Prop) (s:St):Prop:=
 ∀ops:Array Oper,QV P nt ops ops.toList=some l->Sb ops=true->Qb1 P (λk=>(lk s.H k).isSome=true) (u9 ops) l 0 [] [] K s
theorem TL (h:AwD P nt l (Q .normal) s):AW P nt (.region true l) Q s:=λcode E g a w hm hp G U r=>by
 obtain⟨id,ops,rfl,M,C⟩:=Jp hp;refine wpIn_region_any hm (FR (λ⟨_,_,h⟩=>h) (YP C) _ _ _ _ ?_);exact Gp (by have:=M rfl;simp_all [Sb,HP]) G C (λj o' ho t T=>by rw[G];exact YA C j o' ho t T) r (λ_ h=>h) (h ops C (M rfl)) λs' g' a' w' O V=>⟨s',g',V,O⟩
def AwW (P:Program) (nt:Nat) (l:List u3) (K:St->Prop) (s:St):Prop:=
 ∀ops:Array Oper,QV P nt ops ops.toList=some l->PS ops=true/\ssB ops=true->Gy true P (λk=>(lk s.H k).isSome=true) (u9 ops) l 0 [] [] K s
theorem QmS (h:AwW P nt l (Q .normal) s):AW P nt (.na l) Q s:=λcode E g a w hm hp G U r=>by
 obtain⟨id,ops,rfl,M,C⟩:=QkS hp;refine wpIn_region_any hm (FR (λ⟨_,_,h⟩=>h) (YP C) _ _ _ _ ?_);exact Gp (HP M.1) G C (λj o' ho t T=>by rw[G];exact YA C j o' ho t T) r (λ_ h=>h) (h ops C M) λs' g' a' w' O V=>⟨s',g',V,O⟩
def QBW (P:Program) (nt:Nat) (b:l8) (Q:AExit->St->Prop):AExit->St->Prop
 | .normal,s=>AW P nt b Q s
 |e,s=>Q e s
theorem RB (h:AW P nt x (QBW P nt y Q) s):AW P nt (.seq x y) Q s:=λcode E g a w hm hp T M r=>by
 cases code<;>simp only[KO,QEl,reduceCtorEq]at hp
 case seq c d=>
  split at hp;rename_i c' d' Y V;cases hp
  have G:Fl E x:=M.imp λh=>by simp_all [l8.flat]
  have C:Fl E y:=M.imp λh=>by simp_all [l8.flat]
  refine wpIn_seq (wpIn_mono (h c E g a w hm Y T G r) λe a' w' O=>?_);cases e<;>simp only[AQ]at O;obtain⟨s',g',O,U⟩:=O;exact O d E g' a' w' hm V T C U;trivial;trivial
  grind
 grind [Option.map_eq_some_iff]
 grind
 all_goals (simp_all)
theorem Qax {c:y5} {t:Bool} (U:s.ev c=some (.bool t)) (Y:t=true->AW P nt x Q s) (V:t=false->AW P nt y Q s):AW P nt (.cond c x y) Q s:=λcode E g a w hm hp T M r=>by
 cases code<;>simp only[KO,QEl,reduceCtorEq]at hp
 case cond c0 x0 y0=>
  split at hp;rename_i c' x' y' e1 e2 e3;cases hp
  have O:=P3 r e1 U;have G:Fl E x:=M.imp λh=>by simp_all [l8.flat]
  have C:Fl E y:=M.imp λh=>by simp_all [l8.flat]
  cases t
  exact wpIn_cond O (by simpa using V rfl y0 E g a w hm e3 T C r);exact wpIn_cond O (by simpa using Y rfl x0 E g a w hm e2 T G r)
  grind
 case seq=>grind
 grind [Option.map_eq_some_iff]
 all_goals (simp_all)
def XY (id:Nat) (Q:AExit->St->Prop):AExit->St->Prop
 | .exit i,s=>if i=id then Q .normal s else Q (.exit i) s
 |e,s=>Q e s
theorem Qjf (h:AW P nt x (XY id Q) s):AW P nt (.block id x) Q s:=λcode E g a w hm hp T M r=>by
 cases code<;>simp only[KO,QEl,reduceCtorEq]at hp
 case block i c=>
  obtain⟨c',V,U⟩:=QEh.1 hp;cases U
  refine wpIn_block (wpIn_mono (h c E g a w hm V T (M.imp λh=>h) r) λe a' w' C=>?_);cases e<;>simp only[AQ]at C;trivial;rename_i j;obtain⟨s',g',C,O⟩:=C;simp only[XY]at C;simp only[Exit.inBlock];split;rename_i G;rw[if_pos G]at C;exact⟨s',g',C,O⟩;rename_i G;rw[if_neg G]at C;exact⟨s',g',C,O⟩;trivial
 case seq=>grind
 case cond=>grind
 grind [Option.map_eq_some_iff]
 (repeat clear hK K);simp_all
 case scope=>simp_all
 (repeat clear hK K);simp_all
theorem Qjg (h:AW P nt x Q s):AW P nt (.scope x) Q s:=λcode E g a w hm hp M C r=>by
 cases code<;>simp only[KO,QEl,reduceCtorEq]at hp
 case scope c=>
  obtain⟨c',T,O⟩:=QEh.1 hp;cases O
  refine QeM (wpIn_mono (h c E g a w hm T M (C.imp λh=>h) r) λe a' w' G=>?_);cases e<;>first |exact G |exact G.elim
 grind [Option.map_eq_some_iff]
 all_goals ((repeat' split at hp)<;>first |(cases hp;done) |(obtain⟨_,_,h⟩:=QEh.1 hp;cases h;done))
def Lq (st:ι->St) (I:ι->Prop) (μ:ι->Nat) (i:ι) (Q:AExit->St->Prop):AExit->St->Prop
 | .normal,s=>∃j,s.le (st j)/\I j/\μ j<μ i
 |e,s=>Q e s
theorem QmR (st:ι->St) (I:ι->Prop) (μ:ι->Nat) (i0:ι) (h0:s.le (st i0)) (hI:I i0) (round:∀i,I i->AW P nt x (Lq st I μ i Q) (st i)):AW P nt (.loop x) Q s:=λcode E g a w hm hp hn hfl r=>by
 classical
 cases code<;>simp only[KO,QEl,reduceCtorEq]at hp
 case loop c=>
  obtain⟨c',h1,h2⟩:=QEh.1 hp;cases h2
  obtain⟨g0,r0⟩:=h0 E g a w r;intro b k cs U hb hr
  have key:∀n i g a w,μ i=n->I i->Rel E g (st i) a w->
    ∃e a' w',AQ E Q e a' w'/\ArrivesIn (Machine.fenced P (fen E.rd)) P (lone (b.atR a (.code c::.inLoop c::k)) cs w) b k cs e a' w':=by
   intro n
   induction n using Nat.strongRecOn with
   |_ n ih=>
    intro i g a w Y hi r;obtain⟨e,O,M,T,C⟩:=round i hi c E g a w hm h1 hn (hfl.imp λh=>h) r b (.inLoop c::k) cs U hb hr;cases e with
    |normal=>
     obtain⟨s',g',⟨j,hle,hj,hlt⟩,r'⟩:=T;obtain⟨g2,r2⟩:=hle E g' O M r';obtain⟨e₂,a₂,w₂,V,G⟩:=ih (μ j) (Y ▸ hlt) j g2 O M rfl hj r2;exact⟨e₂,a₂,w₂,V,.of_steps (StepsIn.trans C (.one (fenced_calm hb hr rfl) stepR_inLoop)) G⟩
    |exit id=>exact⟨.exit id,O,M,(show AQ E Q (.exit id) O M from T),.pass (x:=.inLoop c) rfl (λ_ _=>.inl Wd) C⟩
    |ret=>exact⟨.ret,O,M,(show AQ E Q .ret O M from T),.pass (x:=.inLoop c) rfl (λ_ _=>.inl Wd) C⟩
    |goto l=>trivial
    |panic ch=>trivial
    |outgrown=>trivial
  obtain⟨e,a',w',T,C⟩:=key _ i0 g0 a w rfl hI r0;exact⟨e,a',w',T,.of_steps (.one (fenced_calm hb hr rfl) stepR_loop) C⟩
 case seq=>grind
 case cond=>grind
 grind [Option.map_eq_some_iff]
 (repeat clear hK K);simp_all
 case scope=>simp_all
 (repeat clear hK K);simp_all
end
section
variable {P:Program} {E:Env} {g:Gh} {s:St} {a a':Act} {w w':World}
theorem Rel.aside (r:Rel E g s a w) (T:Nat->Prop) (O:∀b,b<w.heap.size->¬T b->w'.heap[b]?=w.heap[b]?) (V:w.heap.size<=w'.heap.size)
 (hT:∀b,T b->E.B0<=b/\(∀k bx e,lk s.H k=some bx->g.β k≠some (b,e))/\∀o,g.K b o=none) (ha:a'.tmps=a.tmps) (G:nc E.bd a' w') (C:m8 w w':=by exact⟨rfl,rfl,rfl⟩):Rel E g s a' w':=by
 refine⟨by rw[ha];exact r.nt,G,λt d h=>by rw[ha];exact r.fr t d h,r.da,r.x9,λk b h=>?_,r.inj,λb o x hx=>?_,
  ⟨QEB r.ext.1 V,λb hb Y=>(O b (QEH hb r.ext.1) (λh=>by grind)).trans (r.ext.2.1 b hb Y),r.ext.2.2.trans C⟩,r.kx,r.kp⟩
 refine(r.bx k b h).move ⟨rfl,rfl⟩ (λ_ _ _ _ _ _=>⟨rfl,rfl⟩) (Kn.le_refl _) λB e M=>⟨O B ((r.bx k b h).nb M).1 (λU=>(hT B U).2.1 k b e h M),λ_ h=>h,λh=>h⟩;obtain⟨c,e,f,h1,h2⟩:=r.kr b o x hx
 grind
theorem ka.cells {K:Kn} {w:World} (h:ka K w) {b o:Nat} {ob:Obj} (hb:w.heap[b]?=some ob) (G:ob.isCells=false):K b o=none:=by
 cases hk:K b o with
 |none=>rfl
 |some x=>
  obtain⟨c,e,f,C,_⟩:=h b o x hk;rw[hb]at C;cases C;cases G
theorem Rel.shut {D:Nat} {ds:List Deferred} (r:Rel E g s a w) (G:JN w D) (M:E.B0<=D) (ha:a'.tmps=a.tmps) (C:nc E.bd a' (w.putObj D (.deferred none))):Rel E g s a' (w.putObj D (.deferred none)):=by
 refine r.aside (λb=>b=D) (λb _ hb=>World.putObj_heap_other hb) Wd (λb hb=>?_) ha C;subst hb;exact⟨M,λk bx e T O=>(r.bx k bx T).ve O G,λo=>r.kr.cells G rfl⟩
theorem Qnm {B0 D:Nat} {bd:Option Nat} (h:∀n,bd=some n->B0<=n) (C:Quz bd D):B0<=D:=by
 cases bd with
 |none=>trivial
 |some n=>exact QEB (h n rfl) C
theorem SE (G:∀n,E.bd=some n->E.B0<=n) {F:Fence} {n:Nat} {fn:Func} {R:Ending->World->Prop}:∀(dd:List Nat) {a:Act} {w:World},a.defers=dd.map (λD=>({target:=.collected D,args:=#[]}:Deferred))->dd.Nodup->(∀D∈dd,JN w D/\Quz E.bd D)->Rel E g s a w->
  (∀a' w',a'.tmps=a.tmps->Rel E g s a' w'->∃v,(results fn a'.tmps).run P w'=.ok v w'/\R (.returned v) w')->LeavesInM F n P fn a.tmps R a.defers .returning w
 |[],a,w,hd,_,_,r,fin=>by
  rw[hd];exact fin a w rfl r
 |D::dd,a,w,hd,hn,hE,r,fin=>by
  rw[hd];obtain⟨T,h2⟩:=hE D Wd;obtain⟨O,C⟩:=List.nodup_cons.1 hn
  have M:∀D'∈dd,JN (w.putObj D (.deferred none)) D'/\Quz E.bd D':=λD' hD'=>by
   obtain⟨Y,V⟩:=hE D' Wc;exact⟨(World.putObj_heap_other (λe=>O Wc)).trans Y,V⟩
  have r2:Rel E g s {a with defers:=dd.map (λD=>({target:=.collected D,args:=#[]}:Deferred))} (w.putObj D (.deferred none)):=
   r.shut (ds:=[]) T (Qnm G h2) rfl ⟨dd,rfl,C,M⟩
  have:=SE G (F:=F) (n:=n) (fn:=fn) (R:=R) dd (a:={a with defers:=dd.map (λD=>({target:=.collected D,args:=#[]}:Deferred))}) rfl C M r2 (λa' w' ha U=>fin a' w' ha U);refine⟨by simp,.inl ⟨D,_,rfl,run_takeDeferred T,this⟩⟩
theorem Re (C:∀n,E.bd=some n->E.B0<=n) {F:Fence} {n:Nat} {fn:Func} {R:Ending->World->Prop} (r:Rel E g s a w)
 (fin:∀a' w',a'.tmps=a.tmps->Rel E g s a' w'->∃v,(results fn a'.tmps).run P w'=.ok v w'/\R (.returned v) w'):LeavesInM F n P fn a.tmps R a.defers .returning w:=by
 obtain⟨dd,O,M,G⟩:=r.df.ex
 grind [SE]
end
variable {K:Kn} {ds:List D} {f t:Nat} {fn:Func}
inductive Jx where
 |tmp (t:Nat)
 |cell (t:Nat) (agg:Bool) (sz:Nat)
def Hs (P:Program):ResultVar->Option Jx
 | .tmp t=>if t<900000 then some (.tmp t)else none
 | .cell a t=>if a<900000 then(match Qai P t,XV P t with
  |some b,some sz=>some (.cell a b sz)
  |_,_=>none)else none
theorem S5 {P:Program} {x:Jx} (h:Hs P (.tmp t)=some x):t<900000/\x=.tmp t:=by
 simp only[Hs]at h
 grind
theorem Rel.mh {E:Env} {g:Gh} {s:St} {a:Act} {w:World} (r:Rel E g s a w) (C:t<900000) (h:lk s.fr t=some d):a7 g d (a.tmps.getD t Go.undef):=by
 have:=r.fr t d h
 (repeat clear hK K);simp_all [F6]
def Yh (P:Program):List ResultVar->Option (List Jx)
 |[]=>some []
 |x::r=>match Hs P x,Yh P r with
  |some x',some r'=>some (x'::r')
  |_,_=>none
def TQ (S:Nat->Bool) (s:St) (d:D):D:=(d.fz s.H S).can
def JT (S:Nat->Bool) (s:St):Jx->D->Prop
 | .tmp t,d=>∃p,lk s.fr t=some p/\d=TQ S s p
 | .cell t agg sz,d=>∃p cells,lk s.fr t=some p/\s.at p cells/\(if agg=true then sz<=cells.length/\d=TQ S s (.agg (cells.take sz))else∃q,cells.head?=some q/\d=TQ S s q)
def Ta (S:Nat->Bool) (s:St):List Jx->List D->Prop
 |[],ds=>ds=[]
 |r::rs,ds=>∃d ds',ds=d::ds'/\JT S s r d/\Ta S s rs ds'
abbrev QxB (s:St):Jx->D->Prop:=JT Jt s
abbrev Ln (s:St):List Jx->List D->Prop:=Ta Jt s
def QkW (s:St) (rs:List Jx) (d:D):Prop:=
 match rs with
 |[r]=>QxB s r d
 |rs=>∃ds,d=.g8 ds/\Ln s rs ds
def ua (rs:List Jx) (d:D):AExit->St->Prop
 | .normal,s=>QkW s rs d
 | .ret,s=>QkW s rs d
 | .exit _,_=>False
def MQ {α:Type}:Nat->List α->List (Nat × α)
 |_,[]=>[]
 |k,x::r=>(k,x)::MQ (k+1) r
structure AFn where
 nt:Nat
 rs:List Jx
 body:l8
variable {af:AFn}
def QT (P:Program) (fn:Func):Option AFn:=
 match fn.body,Yh P fn.results.toList with
 |some c,some rs=>match KO P fn.ntmps c with
  |some ac=>if(fn.name== "runtime.NumGoroutine")=false/\fn.ntmps<=900000 then some ⟨fn.ntmps,rs,ac⟩else none
  |none=>none
 |_,_=>none
section
variable {P:Program} {E:Env} {g:Gh} {s:St} {a:Act} {w:World}
theorem LM (C:∀d v,z4 g d v->(∀k∈d.y4,(lk s.H k).isSome=true)->z4 {g with K:=K} (d.x7 s.H Jt) v) {v:Value} (h:a7 g d v) (O:Has s d):s4 K (XX s d) v:=by
 have hp:=(a7.fz C h O).oc Ss
 have x6:∀{d:D} {v:Value},s4 K d v->s4 K d.x6 v:=by
  intro d v h;cases d<;>simp only[D.x6]<;>try exact h
  simp only[s4]at h ⊢;obtain⟨U,G,M⟩:=h;exact⟨U,_,G,QEI _,M⟩
 unfold XX;generalize d.fz s.H Jt=T at hp;cases T<;>simp only[D.can]<;>try grind
 case agg cs=>
  simp only[s4]at hp ⊢;obtain⟨vs,G,M⟩:=hp;refine⟨vs,G, ?_⟩
  have:∀{cs:List D} {vs:List Value},l6 K cs vs->l6 K (cs.map D.x6) vs:=by
   intro cs
   induction cs with
   |nil=>simp
   |cons c cs ih=>
    intro vs h;cases vs with
    |nil=>trivial
    |cons v vs=>
     simp only[QEW,l6]at h ⊢;refine⟨⟨?_,x6 h.1.2⟩,ih h.2⟩;have:=h.1.1;cases c<;>first |trivial |rfl
  grind
def Ha (tmps:Array Value):ResultVar->Sem Value
 | .tmp t=>pure (tmps.getD t Go.undef)
 | .cell a t=>do loadVar t (<- asAddr (tmps.getD a Go.undef))
theorem QhS (r:Rel E g s a w) (C:∀d v,z4 g d v->(∀k∈d.y4,(lk s.H k).isSome=true)->z4 {g with K:=K} (d.x7 s.H Jt) v) {x:ResultVar} {x':Jx} (hp:Hs P x=some x') (h:QxB s x' d):
  ∃v,(Ha a.tmps x).run P w=.ok v w/\s4 K d v:=by
 cases x with
 |tmp t=>
  obtain⟨G,rfl⟩:=S5 hp;obtain⟨p,V,rfl⟩:=h;exact⟨_,by rfl,LM C (r.mh G V) (r.da t p V)⟩
 |cell t ty=>
  simp only[Hs]at hp;split at hp
  case isFalse=>grind
  rename_i G;split at hp;rename_i b sz e1 e2;cases hp
  obtain⟨p,cells,V,h2,U⟩:=h;obtain⟨B,off,hv,hc,hid⟩:=P1 r (r.mh G V) h2;cases b with
  |true=>
   simp only[if_true]at U;obtain⟨hl,rfl⟩:=U;obtain⟨cs,q1,T,O,Y⟩:=Qdv (P:=P) (hc.take sz);rw[QEO,Nat.min_eq_left hl]at Y;refine⟨.agg cs.toArray, ?_,LM C ⟨cs,rfl,T,O⟩ λk hk=>?_⟩
   (repeat clear hK K);simp_all [Ha,asAddr,loadVar,YB,ZH]
   obtain⟨y,hy,hk⟩:=QEp.1 hk
   grind
  |false=>
   simp only[QEq,if_false]at U;obtain⟨q,hq,rfl⟩:=U;cases cells with
   |nil=>grind
   |cons y ys=>
    simp at hq;subst hq;obtain⟨cs,q1,T,O,Y⟩:=hc;cases cs with
    |nil=>grind
    |cons c cs=>
     have M:=Y 0 c Wd;simp only[QE9]at M;refine⟨c, ?_,LM C (T.1.ae (O _ Wd)) (Ma T.1 (O _ Wd) λk hk=>hid _ Wd k hk)⟩
     (repeat clear hK K);simp_all [Ha,asAddr,loadVar,YB]
  grind
theorem DN (r:Rel E g s a w) {K:Kn} (G:∀d v,z4 g d v->(∀k∈d.y4,(lk s.H k).isSome=true)->z4 {g with K:=K} (d.x7 s.H Jt) v):∀{xs:List ResultVar} {C:List Jx} {ds:List D},Yh P xs=some C->Ln s C ds->
  ∃vs,(xs.mapM (Ha a.tmps)).run P w=.ok vs w/\x5 K ds vs/\vs.length=xs.length
 |[],C,ds,M,h2=>by
  simp only[Yh,QEl]at M;subst M;simp only[Ln]at h2;subst h2;exact⟨[],by simp,by trivial,rfl⟩
 |x::xs,C,ds,M,h2=>by
  simp only[Yh]at M;split at M;rename_i x' U e1 e2;cases M
  obtain⟨d,ds',rfl,T,O⟩:=h2;obtain⟨v,q1,q2⟩:=QhS r G e1 T;obtain⟨vs,q3,Y,V⟩:=DN r G e2 O
  (repeat clear hK K);simp_all [x5]
  grind
theorem Qbv (r:Rel E g s a w) (C:∀d v,z4 g d v->(∀k∈d.y4,(lk s.H k).isSome=true)->z4 {g with K:=K} (d.x7 s.H Jt) v) {rs:List Jx} (hp:Yh P fn.results.toList=some rs) (h:QkW s rs d):
  ∃v,(results fn a.tmps).run P w=.ok v w/\s4 K d v:=by
 have U:results fn a.tmps=(fn.results.mapM (Ha a.tmps)>>=λvs=>pure (if h:vs.size=1 then vs[0]else .tuple vs)):=by
  rfl
 have key:∀vs,(fn.results.toList.mapM (Ha a.tmps)).run P w=.ok vs w->(results fn a.tmps).run P w=.ok (if h:vs.toArray.size=1 then vs.toArray[0]else .tuple vs.toArray) w:=λvs hv=>by
  (repeat clear hK K);simp_all [Array.mapM_eq_mapM_toList]
 match rs,hp,h with
 |[x'],hp,h=>
  cases hx:fn.results.toList with
  |nil=>grind [Yh]
  |cons x xs=>
   rw[hx]at hp;simp only[Yh]at hp;split at hp;rename_i x2 r2 e1 e2;cases hp
   have O:xs=[]:=by
    cases xs with
    |nil=>rfl
    |cons y ys=>grind [Yh]
   subst O;obtain⟨v,M,T⟩:=QhS r C e1 h
   (repeat clear hK K);simp_all
   grind
 |[],hp,h=>
  obtain⟨ds,rfl,G⟩:=h;obtain⟨vs,M,T,V⟩:=DN r C hp G;simp only[Ln]at G;subst G;cases vs with
  |nil=>exact⟨_,key [] M,by simp only[s4];grind⟩
  |cons=>trivial
 |x::y::rs,hp,h=>
  obtain⟨ds,rfl,G⟩:=h;obtain⟨vs,M,T,V⟩:=DN r C hp G;refine⟨_,key vs M, ?_⟩
  have hl:vs.length≠1:=by
   obtain⟨d1,ds1,e1,_,Y⟩:=G;obtain⟨d2,ds2,e2,_,_⟩:=Y;subst e2;subst e1;cases vs with
   |nil=>simp
   |cons v vs=>grind [x5]
  rw[dif_neg Wa];simp only[s4]
  grind
theorem SG:∀(l:List D) (k t:Nat),lk (MQ k l) t=if k<=t then l[t - k]? else none
 |[],k,t=>by simp[MQ,lk]
 |x::r,k,t=>by
  simp only[MQ,Qz,SG r (k+1) t]
  grind
theorem MA {K:Kn}:∀{ds:List D} {vs:List Value},x5 K ds vs->vs.length=ds.length/\∀(i:Nat) d,ds[i]?=some d->∃v,vs[i]?=some v/\s4 K d v
 |[],[],_=>⟨rfl,λi d h=>by grind⟩
 |d::ds,v::vs,h=>by
  simp only[x5]at h;obtain⟨G,C⟩:=MA h.2
  grind
 |[],_::_,h=>by trivial
 |_::_,[],h=>by trivial
theorem Ok.vg {V:QEg} (hm:P.follows .mixedOrders=true) (hf:P.funcs[f]?=some fn) (hp:QT P fn=some af) (hn:ds.length<=af.nt+(Gz f).length)
 (O:∀K vs,x5 K ds (vs++gVs f)->∀t Y,lk V t=some Y->(∃v,vs[t]?=some v/\s4 K Y v)\/∃i,t=900000+i/\s4 K Y (.pointer (some ⟨i,0,none⟩)))
 (h:AW P af.nt af.body (ua af.rs d) ⟨V,[]⟩):Ok P f ds d:=by
 unfold QT at hp;split at hp;rename_i c rs U hrs;split at hp;rename_i ac hac;split at hp;rename_i C;cases hp
 refine⟨⟨fn,hf,C.1,by grind⟩,λK w vs hkr hvs=>?_⟩;have hlen:=(MA hvs).1;rw[QEY,gVs,QFf]at hlen;have O:=O K vs hvs;simp only at hn h;let E:Env:=⟨fn.ntmps,w.heap.size,w,K,λ_=>False,λ_=>False,λ_=>none,λ_=>(0,0),none,some w.heap.size⟩;let g:Gh:=⟨K,λ_=>none,λ_=>(0,0)⟩;have hsz:(vs.toArray++Array.replicate (fn.ntmps - vs.toArray.size) Go.undef).size=fn.ntmps:=by grind
 have r0:Rel E g ⟨V,[]⟩ {tmps:=vs.toArray++Array.replicate (fn.ntmps - vs.toArray.size) Go.undef,defers:=[]} w:=by
  refine⟨⟨hsz,C.2⟩,nc.nil rfl,λt Y hd=>?_,λt Y hd k hk=>?_,(λk b hb=>by cases hb),(λk b hb=>by cases hb),(λk k' b b' B e e' h1=>by simp),hkr,⟨QEI _,λb hb _=>rfl,m8.refl w⟩,λb hb _=>rfl,λk hk=>hk.elim⟩;rcases O t Y hd with⟨v,h1,h2⟩ |⟨i,rfl,h2⟩
  have:(vs.toArray++Array.replicate (fn.ntmps - vs.toArray.size) Go.undef).getD t (F6 t)=v:=by
   have hlt:=(QEQ.1 h1).1
   (repeat clear hK K);simp_all [Array.getElem?_append_left]
  grind [a7.of]
  have:(vs.toArray++Array.replicate (fn.ntmps - vs.toArray.size) Go.undef).getD (900000+i) (F6 (900000+i))=.pointer (some ⟨i,0,none⟩):=by
   have h9:=C.2;rw[QEJ,Array.getElem?_eq_none Wa,Option.getD_none,F6,if_neg Wa,Nat.add_sub_cancel_left]
  grind [a7.of]
  rcases O t Y hd with⟨v,h1,h2⟩ |⟨i,rfl,h2⟩<;>(grind [Jq])
 refine(callsIn_wide (n:=0)).1 (callsIn_of_wp_marks hf U trivial (wpIn_mono (h c E g _ w hm hac rfl (.inl ⟨rfl,_,rfl,QEI _⟩) r0) λe a' w' M=>?_))
 have T:∀s' g' a' w',QkW s' rs d->Rel E g' s' a' w'->∃v,(results fn a'.tmps).run P w'=.ok v w'/\∃v_1 K',Ending.returned v=.returned v_1/\s4 K' d v_1/\ka K' w'/\w.heap.size<=w'.heap.size/\(∀b,b<w.heap.size->w'.heap[b]?=w.heap[b]?)/\(∀b,b<w.heap.size->K' b=K b)/\m8 w w':=by
  intro s' g' a' w' hret G;obtain⟨K2,hle,hkr2,hoth,hrep⟩:=P8 G Jt;obtain⟨v,h1,h2⟩:=Qbv G hrep hrs hret;refine⟨v,h1,v,K2,rfl,h2,hkr2,G.ext.1,λb hb=>G.ext.2.1 b hb (λh=>h),λb hb=>?_,G.ext.2.2⟩;rw[hoth b λk bx e q1 q2 q3=>?_];exact G.kx b hb (λh=>h);obtain⟨_,_,q4⟩:=G.bx k bx q1;rcases q4 with⟨_,⟨q4,_⟩ |⟨_,_,_,_,_,B,_,q5,_,_,q10⟩⟩ |⟨_,B,c,q5,_,_,_,_,q10⟩
  grind
  grind
  grind
 cases e<;>simp only[AQ]at M
 obtain⟨s',g',M,G⟩:=M;exact Re (λn h=>by grind) G λa2 w2 _ r2=>T s' g' a2 w2 M r2;obtain⟨s',g',M,G⟩:=M;trivial;obtain⟨s',g',M,G⟩:=M;exact Re (λn h=>by grind) G λa2 w2 _ r2=>T s' g' a2 w2 M r2
 all_goals grind
theorem Ok.of (hm:P.follows .mixedOrders=true) (M:P.funcs[f]?=some fn) (hp:QT P fn=some af) (T:ds.length<=af.nt) (G:Gz f=[])
 (h:AW P af.nt af.body (ua af.rs d) ⟨MQ 0 ds,[]⟩):Ok P f ds d:=Ok.vg hm M hp Wa (λK vs C t O hd=>.inl (by
 rw[gVs,G,QFx,QEN]at C;rw[SG,if_pos (QEu _),Nat.sub_zero]at hd;exact(MA C).2 t O hd)) h
theorem Ok.mi {dg:D} (hm:P.follows .mixedOrders=true) (T:P.funcs[f]?=some fn) (hp:QT P fn=some af) (hn:ds.length<=af.nt) (O:Gz f=[0])
 (h:AW P af.nt af.body (ua af.rs d) ⟨MQ 0 ds++[(900000,dg)],[]⟩):Ok P f (ds++[dg]) d:=Ok.vg hm T hp Wc (λK vs C t d' hd=>by
 rw[gVs,O]at C;obtain⟨Y,M⟩:=MA C;simp only[QEW,QFx,QEY,List.length_singleton,Nat.add_right_cancel_iff]at Y;rw[Xh]at hd;split at hd;rename_i x hx;cases hd
 rw[SG,if_pos (QEu _),Nat.sub_zero]at hx;have G:=(QEQ.1 hx).1;obtain⟨v,V,U⟩:=M t _ (by rw[QFg G];exact hx)
 grind
 rw[Qz]at hd;split at hd;rename_i e;cases hd;subst e;obtain⟨v,V,U⟩:=M ds.length dg Wd
 grind
 trivial) h
theorem le_refl (s:St):s.le s:=λ_ g _ _ r=>⟨g,r⟩
theorem le_trans {s1 s2 C:St} (h:s1.le s2) (G:s2.le C):s1.le C:=λE g a w r=>
 let⟨g',r'⟩:=h E g a w r
 G E g' a w r'
theorem G8 (k:Nat) (s:St) (hk:k<1000000):s.le (s.freeze k):=λ_ _ _ _ r=>let⟨g',_,r'⟩:=r.freeze k hk;⟨g',r'⟩
def wa (H:QEf) (fr:QEg):Bool:=
 (fr.all λp=>p.2.ids.all λk=>(lk H k).isSome)&&H.all λp=>p.2.ids.all λk=>(lk H k).isSome
def QeR (H H':QEf):Bool:=H.all λp=>decide (p.1<1000000)||(lk H' p.1).isSome
theorem ZJ {α:Type}:∀{l:List (Nat × α)} {t:Nat} {v:α},lk l t=some v->(t,v)∈l
 |[],_,_,h=>by cases h
 |(k,x)::r,t,v,h=>by
  rw[Qz]at h;split at h
  grind
  exact QFr _ (ZJ h)
theorem Ns {H H':QEf} (h:QeR H H'=true):∀k,1000000<=k->(lk H k).isSome=true->(lk H' k).isSome=true:=by
 intro k hk C;obtain⟨b,hb⟩:=QEo.1 C;simp only[QeR,QEs]at h;have:=h (k,b) (ZJ hb)
 grind
end
variable {A:Prop} {c:y5} {l:List Nat} {ops:List u3} {α:Type}
inductive z5 where
 |skip
 |region (draw:Bool) (ops:List u3)
 |na (ops:List u3)
 |seq (a:z5) (live:List Nat) (b:z5)
 |cond (c:y5) (a b:z5)
 |block (id:Nat) (a:z5)
 |loop (a:z5)
 |scope (a:z5)
 |exit (id:Nat)
 |ret
 |z8 (x:y5) (p q:Nat) (a:z5)
variable {a b x y:z5}
def z5.erase:z5->l8
 | .skip=>.skip
 | .region d ops=>.region d ops
 | .na ops=>.na ops
 | .seq a _ b=>.seq a.erase b.erase
 | .cond c a b=>.cond c a.erase b.erase
 | .block id a=>.block id a.erase
 | .loop a=>.loop a.erase
 | .scope a=>.scope a.erase
 | .exit id=>.exit id
 | .ret=>.ret
 | .z8 x p q a=>.z8 x p q a.erase
structure o6 where
 nt:Nat
 rs:List Jx
 body:z5
variable {tf:o6}
def o6.erase (t:o6):AFn:=⟨t.nt,t.rs,t.body.erase⟩
def Zf:List Nat->QEg->QEg
 |[],_=>[]
 |t::ts,fr=>match lk fr t with
  |some d=>(t,d)::Zf ts fr
  |none=>Zf ts fr
theorem Xi:∀(l:List Nat) (fr:QEg) (t:Nat) (d:D),lk (Zf l fr) t=some d->lk fr t=some d
 |[],fr,t,d,h=>by cases h
 |u::us,fr,t,d,h=>by
  simp only[Zf]at h;split at h;rename_i C hd;rw[Qz]at h;split at h
  grind
  exact Xi us fr t d h;exact Xi us fr t d h
theorem Gg (l:List Nat) (fr:QEg) (H:QEf):St.le ⟨fr,H⟩ ⟨Zf l fr,H⟩:=λ_ g _ _ r=>
 ⟨g,r.less (λt d h=>Xi l fr t d h) (λ_ _ h=>h) (λt d h=>r.da t d (Xi l fr t d h)) r.x9 (λ_ _ h=>h)⟩
section
variable {P:Program} {nt:Nat} {Q:AExit->St->Prop} {s:St}
abbrev TW (P:Program) (nt:Nat) (c:z5) (Q:AExit->St->Prop) (s:St):Prop:=AW P nt c.erase Q s
theorem Y0 {K K':St->Prop} (h:∀s,K s->K' s):∀{l:List u3} {s:St},GF P l K s->GF P l K' s
 |[],s,M=>h s M
 |o::l,s,M=>by
  simp only[GF,Qfh]at M ⊢;split
  grind
  rename_i O;rw[O]at M;exact Y0 h M;rename_i O;rw[O]at M;rcases M with⟨d,bx,G,C⟩ |⟨s',d,G,C⟩ |⟨p,q,d,ef,G,C⟩ |⟨f,args,HF,Hn,Hu,d,G,C,T⟩ |⟨s',d,bx,G,C,T⟩
  exact .inl ⟨d,bx,G,Y0 h C⟩;exact .inr (.inl ⟨s',d,G,Y0 h C⟩);exact .inr (.inr (.inl ⟨p,q,d,ef,G,Y0 h C⟩));exact .inr (.inr (.inr (.inl ⟨f,args,HF,Hn,Hu,d,G,C,Y0 h T⟩)));exact .inr (.inr (.inr (.inr ⟨s',d,bx,G,C,Y0 h T⟩)))
theorem RQ {ww:Bool} {B:Nat->Prop} {C:Nat->Nat->Prop} {K K':St->Prop} (h:∀s,K s->K' s):∀{l:List u3} {j:Nat} {R W:List (Nat × Nat)} {s:St},Gy ww P B C l j R W K s->Gy ww P B C l j R W K' s
 |[],_,_,_,s,hh=>h s hh
 |o::l,_,_,_,s,hh=>by
  obtain⟨p,q,d,bx,O,M,G⟩:=hh;exact⟨p,q,d,bx,O,M,RQ h G⟩
theorem Qwp (h:∀K:St->Prop,(∀fr H,TW P nt b Q ⟨Zf l fr,H⟩->K ⟨fr,H⟩)->GF P ops K s):TW P nt (.seq (.region false ops) l b) Q s:=
 RB (Cy (h _ λfr H hb=>Cx (Gg l fr H) hb))
theorem QrW (h:∀K:St->Prop,(∀fr H,TW P nt b Q ⟨Zf l fr,H⟩->K ⟨fr,H⟩)->AwD P nt ops K s):TW P nt (.seq (.region true ops) l b) Q s:=
 RB (TL (h _ λfr H hb=>Cx (Gg l fr H) hb))
theorem QrV (h:∀K:St->Prop,(∀s',Q .normal s'->K s')->GF P ops K s):TW P nt (.region false ops) Q s:=
 Cy (h _ λ_ h=>h)
theorem Qm2 (h:∀K:St->Prop,(∀s',Q .normal s'->K s')->AwD P nt ops K s):TW P nt (.region true ops) Q s:=
 TL (h _ λ_ h=>h)
def Qdz (P:Program) (nt:Nat) (l:List Nat) (b:z5) (Q:AExit->St->Prop):AExit->St->Prop
 | .normal,s=>TW P nt b Q ⟨Zf l s.fr,s.H⟩
 |e,s=>Q e s
theorem Qw (h:TW P nt a (Qdz P nt l b Q) s):TW P nt (.seq a l b) Q s:=
 RB (λcode E g a w hm hp O G r=>wpIn_mono (h code E g a w hm hp O G r) λe a' w' C=>by
  cases e<;>simp only[AQ]at C ⊢
  obtain⟨s',g',C,M⟩:=C;exact⟨s',g',Cx (Gg l s'.fr s'.H) C,M⟩;trivial;trivial)
theorem Qs {t:Bool} (C:s.ev c=some (.bool t)) (M:t=true->TW P nt x Q s) (G:t=false->TW P nt y Q s):TW P nt (.cond c x y) Q s:=Qax C M G
theorem Zb (C:s.ev c=some (.bool true)) (G:TW P nt x Q s):TW P nt (.cond c x y) Q s:=Qax C (λ_=>G) (λh=>by cases h)
theorem Zq (C:s.ev c=some (.bool false)) (G:TW P nt y Q s):TW P nt (.cond c x y) Q s:=Qax C (λh=>by cases h) (λ_=>G)
theorem Qu (h:TW P nt a (XY id Q) s):TW P nt (.block id a) Q s:=Qjf h
theorem Q8 {ι:Type} (st:ι->St) (I:ι->Prop) (μ:ι->Nat) (i0:ι) (h0:s.le (st i0)) (C:I i0) (round:∀i,I i->TW P nt a (Lq st I μ i Q) (st i)):TW P nt (.loop a) Q s:=QmR st I μ i0 h0 C round
theorem LG (h:TW P nt a Q s):TW P nt (.scope a) Q s:=Qjg h
theorem Q3 (h:Q (.exit id) s):TW P nt (.exit id) Q s:=QmQ h
theorem Qv (h:Q .ret s):TW P nt .ret Q s:=QrH h
theorem Qp (h:Q .normal s):TW P nt .skip Q s:=QmT h
theorem MO {c:z5} {s':St} (h:s.le s') (hw:TW P nt c Q s'):TW P nt c Q s:=Cx h hw
theorem Ok.n7 (hm:P.follows .mixedOrders=true) (M:P.funcs[f]?=some fn) (hp:QT P fn=some tf.erase) (C:ds.length<=tf.nt)
 (h:TW P tf.nt tf.body (ua tf.rs d) ⟨MQ 0 ds,[]⟩) (G:Gz f=[]:=by rfl):Ok P f ds d:=Ok.of (af:=tf.erase) hm M hp C G h
theorem Ok.b9 {dg:D} (hm:P.follows .mixedOrders=true) (M:P.funcs[f]?=some fn) (hp:QT P fn=some tf.erase) (C:ds.length<=tf.nt)
 (h:TW P tf.nt tf.body (ua tf.rs d) ⟨MQ 0 ds++[(900000,dg)],[]⟩) (G:Gz f=[0]:=by rfl):Ok P f (ds++[dg]) d:=Ok.mi (af:=tf.erase) hm M hp C G h
end
def Zs (o:Option α) (k:α->Prop):Prop:=∃a,o=some a/\k a
@[congr] theorem obind_congr {o o':Option α} {k:α->Prop} (h:o=o'):Zs o k=Zs o' k:=by rw[h]
def QuJ (c b:Bool) (A B:Prop):Prop:=(c=b->A)/\(c=(!b)->B)
@[congr] theorem gsel_congr {c c' b:Bool} {B:Prop} (h:c=c'):QuJ c b A B=QuJ c' b A B:=by rw[h]
def Sy (d:D) (b:Bool) (A B:Prop):Prop:=
 match d with
 | .bool c=>QuJ c b A B
 | .undef=>B
 |_=>False
@[congr] theorem guardK_congr {d':D} {b:Bool} {B:Prop} (h:d=d'):Sy d b A B=Sy d' b A B:=by rw[h]
def QwC (d:D) (k:Bool->Prop):Prop:=∃t,d=.bool t/\k t
def St.md (s:St):D->Option (List D)
 | .ptr cs=>some cs
 | .ref k i off=>match lk s.H k with
  |some b=>match b.rows[i]? with
   |some row=>some (row.drop off)
   |none=>none
  |none=>none
 |_=>none
theorem Nb {s:St} {cells:List D}:s.at d cells↔s.md d=some cells:=by
 cases d<;>simp only[St.at,St.md,reduceCtorEq,QEl]
 grind
 grind
variable {K:St->Prop} {N m n:Nat} {R:List (Nat × List Nat)} {R':List (Nat × Nat)} {ao op:s6} {b w:Bool} {kk:D->Prop} {om:Oper} {r:List u3}
def QdW (op:BinOp) (k:IntKind) (x y:Int) (kk:D->Prop):Prop:=
 match op with
 | .add=>kk (.int k (k.wrap (x+y)))
 | .sub=>kk (.int k (k.wrap (x - y)))
 | .mul=>kk (.int k (k.wrap (x*y)))
 | .quo=>y≠0/\kk (.int k (k.wrap (x.tdiv y)))
 | .rem=>y≠0/\kk (.int k (x.tmod y))
 | .and=>kk (.int k (Kd .and k x y))
 | .or=>kk (.int k (Kd .or k x y))
 | .xor=>kk (.int k (Kd .xor k x y))
 | .andNot=>kk (.int k (Kd .andNot k x y))
 | .shl=>0<=y/\kk (.int k (k.wrap (x*2 ^ min y.toNat k.bits)))
 | .shr=>0<=y/\kk (.int k (x.fdiv (2 ^ min y.toNat k.bits)))
 | .eql=>kk (.bool (decide (x=y)))
 | .neq=>kk (.bool (!decide (x=y)))
 | .lss=>kk (.bool (decide (x<y)))
 | .leq=>kk (.bool (decide (x<=y)))
 | .gtr=>kk (.bool (decide (y<x)))
 | .geq=>kk (.bool (decide (y<=x)))
def Qnq (op:BinOp) (x y:Bool) (kk:D->Prop):Prop:=
 match op with
 | .eql=>kk (.bool (decide (x=y)))
 | .neq=>kk (.bool (!decide (x=y)))
 |_=>False
def Qjx (op:BinOp) (x y:List UInt8) (kk:D->Prop):Prop:=
 match op with
 | .add=>x.length+y.length<=9223372036854775807/\kk (.str (x++y))
 | .eql=>kk (.bool (decide (x=y)))
 | .neq=>kk (.bool (!decide (x=y)))
 | .lss=>kk (.bool (Op.bytesLess x y))
 | .leq=>kk (.bool (Op.bytesLess x y||decide (x=y)))
 | .gtr=>kk (.bool (!(Op.bytesLess x y||decide (x=y))))
 | .geq=>kk (.bool (!Op.bytesLess x y))
 |_=>False
def Qfo (op:BinOp) (bt:Bool) (p q:D) (kk:D->Prop):Prop:=
 match p,q with
 | .int k m,.int j n=>(Pe op=true\/k=j)/\QdW op k m n kk
 | .bool m,.bool n=>bt=true/\Qnq op m n kk
 | .str m,.str n=>Qjx op m n kk
 | .k9 _ _,.val v=>v=.nilFunc/\op=.xor/\bt=true/\kk (.bool false)
 |_,_=>False
def unK (op:UnOp) (p:D) (kk:D->Prop):Prop:=
 match op,p with
 | .not,.bool b=>kk (.bool (!b))
 | .neg,.int k n=>kk (.int k (k.wrap (0 - n)))
 | .plus,.sl rows=>rows≠[]/\kk (.bool false)
 |_,_=>False
def St.kb (s:St) (x:Option y5) (dflt:Nat):Option Int:=
 match x with
 |none=>some dflt
 |some y=>match s.ev y with
  |some (.int _ m)=>some m
  |_=>none
def PE (s:St) (off:Nat) (p:D) (kk:D->Prop):Prop:=
 match p with
 | .ptr cells=>off<=cells.length/\kk (.ptr (cells.drop off))
 | .ref k i j=>(lk s.H k).isSome=true/\kk (.ref k i (j+off))
 |_=>False
def S4 (rows:List (List D)) (n:Int) (l0:Nat) (kk:List D->Prop):Prop:=∃row,0<=n/\rows[n.toNat]?=some row/\row.length=l0/\kk row
def QkK (l:List UInt8) (n:Int) (kk:UInt8->Prop):Prop:=∃c,0<=n/\l[n.toNat]?=some c/\kk c
def QcM (s:St) (l0:Nat) (i p:D) (kk:D->Prop):Prop:=
 match i,p with
 | .int _ n,.sl rows=>S4 rows n l0 λrow=>kk (.ptr row)
 | .int _ n,.u7 rows=>S4 rows n l0 λrow=>kk (.ptr row)
 | .int _ n,.u4 j m=>Zs (lk s.H j) λb=>m=b.rows.length/\0<=n/\n<m/\b.l0=l0/\kk (.ref j n.toNat 0)
 |_,_=>False
def Mc (i p:D) (kk:D->Prop):Prop:=
 match i,p with
 | .int _ n,.str l=>QkK l n λc=>kk (.int .u8 c.toNat)
 |_,_=>False
def QeP:D->Option (List D)
 | .agg cs=>some cs
 |_=>none
def QeH:D->Option (List UInt8)
 | .str l=>some l
 |_=>none
def QnO (k:IntKind):D->Option D
 | .int _ n=>some (.int k (k.wrap n))
 |_=>none
def Qxi (p q:D) (kk:D->Prop):Prop:=
 match p,q with
 | .int k m,.int _ n=>kk (.int k (min m n))
 |_,_=>False
def Qxh (p q:D) (kk:D->Prop):Prop:=
 match p,q with
 | .int k m,.int _ n=>kk (.int k (max m n))
 |_,_=>False
def D3 (s:St) (l0:Nat) (q:D) (kk:List (List D)->Bool->Prop):Prop:=
 match q with
 | .sl rs=>(∀r∈rs,r.length=l0)/\kk rs true
 | .u7 rs=>(∀r∈rs,r.length=l0)/\kk rs true
 | .u4 j n=>Zs (lk s.H j) λb=>n=b.rows.length/\b.l0=l0/\kk b.rows b.pr
 |_=>False
def QxA (s:St) (p:D) (kk:Nat->Nat->Nat->x4->List D->Prop):Prop:=
 match p with
 | .ref k i off=>Zs (lk s.H k) λb=>Zs b.rows[i]? λrow=>kk k i off b row
 |_=>False
def QlK (dr:Bool) (l0 et bytes:Nat) (dst:Option Nat) (s:St) (p:D) (ys:List (List D)) (pr:Bool) (kk:St->Prop):Prop:=
 match p with
 | .u7 rows=>Zs dst λt=>lk s.H t=none/\(rows=[]\/ys≠[])/\(∀r∈rows,r.length=l0)/\(rows.length+ys.length)*bytes<=140737488355328/\rows.length+ys.length<=4611686018427387904/\
   kk (s.apply dst (.u4 t (rows.length+ys.length)) (some ⟨rows++ys,l0,et,pr⟩))
 | .u4 k n=>dr=false/\k<1000000/\Zs (lk s.H k) λb=>n=b.rows.length/\b.l0=l0/\b.et=et/\((b.pr&&pr)=true\/∀r0∈b.rows++ys,∀d∈r0,k∉d.y4)/\(n+ys.length)*bytes<=140737488355328/\n+ys.length<=4611686018427387904/\
   kk (St.apply {fr:=(s.n4 k).fr,H:=(k,⟨b.rows++ys,l0,et,b.pr&&pr⟩)::(s.n4 k).H} dst (.u4 k (n+ys.length)) none)
 |_=>False
def Qoz (l0 et bytes:Nat) (zero:List D) (dst:Option Nat) (s:St) (p q:D) (kk:St->Prop):Prop:=
 match p,q with
 | .int _ m,.int _ n=>Zs dst λt=>lk s.H t=none/\m=n/\0<=n/\n.toNat*bytes<=281474976710656/\n.toNat<=4611686018427387904/\kk (s.apply dst (.u4 t n.toNat) (some ⟨List.replicate n.toNat zero,l0,et,true⟩))
 |_,_=>False
def QnB (P:Program) (f:Nat) (ds:List D) (pu:Bool) (kk:D->Prop):Prop:=∃d,Ok P f ds d/\(pu=true\/d.flat=true)/\kk d
def QtS (l0:Nat) (rows:List (List D)) (l h:Int) (mx:Option (Option Int)) (hs:Bool) (kk:D->Prop):Prop:=
 0<=l/\l<=h/\h<=rows.length/\(∀r∈rows,r.length=l0)/\
 match mx with
 |none=>kk (.sl ((rows.take h.toNat).drop l.toNat))
 |some m=>m=some h/\hs=true/\kk (.u7 ((rows.take h.toNat).drop l.toNat))
def Qzh (s:St) (len l0:Nat) (i p:D) (kk:D->Prop):Prop:=
 match i with
 | .int _ n=>0<=n/\n<len/\PE s (n.toNat*l0) p kk
 |_=>False
def QgF:D->Option Int
 | .int _ n=>some n
 |_=>none
def Qoh (s:St) (p:D) (kk:Nat->List UInt8->Nat->Prop):Prop:=
 match p with
 | .ref k 0 0=>∃l q,lk s.H k=some ⟨[],0,ZM l q,false⟩/\kk k l q
 |_=>False
def QwR (p:D) (kk:Nat->List D->Prop):Prop:=
 match p with
 | .k9 f caps=>kk f caps
 |_=>False
def QwB (p:D) (kk:Nat->List D->Prop):Prop:=
 match p with
 | .pe f rs=>kk f rs
 |_=>False
def Qrx (p:D) (kk:List (List D)->Prop):Prop:=
 match p with
 | .u7 rows=>kk rows
 |_=>False
def QiX (s:St) (hi:Option y5) (p:D) (kk:D->Prop):Prop:=
 match p with
 | .u7 rows=>s.kb hi rows.length=some (rows.length:Int)/\kk (.u7 rows)
 | .u4 j n=>Zs (s.kb hi n) λm=>0<=m/\m<=n/\kk (.u4 j m.toNat)
 |_=>False
def Qra (s:St) (l0:Nat) (hi:Option y5) (l:Int) (p:D) (kk:D->Prop):Prop:=
 match p with
 | .u4 j n=>0<=l/\l<=n/\s.kb hi n=some (n:Int)/\kk (.la j l.toNat (l.toNat*l0) (n - l.toNat))
 |_=>False
def QnT (s:St) (l0:Nat) (hi:Option y5) (l:Int) (p:D) (kk:St->D->Prop):Prop:=
 match p with
 | .u4 j n=>Zs (lk s.H j) λb=>j<1000000/\n=b.rows.length/\b.l0=l0/\l0≠0/\(∀r0∈b.rows,∀d∈r0,j∉d.y4)/\0<=l/\l<=n/\s.kb hi n=some (n:Int)/\kk {fr:=(s.n4 j).fr,H:=(j,⟨b.rows.drop l.toNat,l0,b.et,b.pr⟩)::(s.n4 j).H} (.u4 j (n - l.toNat))
 |_=>False
def step (P:Program) (dr:Bool) (op:s6) (dst:Option Nat) (s:St) (k:St->Prop):Prop:=
 match op with
 | .wb x=>Zs (s.ev x) λd=>k (s.apply dst d none)
 | .pick c x y=>Zs (s.ev c) λcd=>QwC cd λt=>Zs (s.ev (if t=true then x else y)) λd=>k (s.apply dst d none)
 | .alloc et cells=>Zs dst λt=>lk s.H t=none/\k (s.apply dst (.ref t 0 0) (some (QeT et cells)))
 | .box et x=>Zs dst λt=>Zs (s.ev x) λv=>Zs v.cells λcells=>lk s.H t=none/\k (s.apply dst (.ref t 0 0) (some (QeT et cells)))
 | .build zero parts=>Zs (X1 s parts) λqs=>Zs (Sj zero qs) λds=>k (s.apply dst (.agg ds) none)
 | .buildSlice l0 et parts=>(Zs dst λt=>Zs (XB s l0 parts) λrows=>lk s.H t=none/\k (s.apply dst (.u4 t parts.length) (some ⟨rows,l0,et,rows.all λr=>r.all λd=>d.y4.isEmpty⟩)))\/
   Zs (XB s l0 parts) λrows=>(rows.all λr=>r.all λd=>d.y4.isEmpty)=true/\k (s.apply dst (.u7 rows) none)
 | .load agg sz x=>Zs (s.ev x) λp=>Zs (s.md p) λcells=>match agg with
  |true=>sz<=cells.length/\k (s.apply dst (.agg (cells.take sz)) none)
  |false=>Zs cells.head? λd=>k (s.apply dst d none)
 | .store sz x v=>Zs (s.ev x) λp=>QxA s p λkk i off b row=>Zs (s.ev v) λq=>Zs q.cells λcells=>cells.length=sz/\off+sz<=row.length/\
   k (St.apply {s with H:=(kk,{b with rows:=b.rows.set i (setRow row off cells),pr:=b.pr&&cells.all λd=>d.y4.isEmpty})::s.H} dst .undef none)
 | .nilCheck x=>Zs (s.ev x) λp=>p.xd=true/\k (s.apply dst p none)
 | .bin op bt x y=>Zs (s.ev x) λp=>Zs (s.ev y) λq=>Qfo op bt p q λd=>k (s.apply dst d none)
 | .eqs neg ks x y=>Zs (s.ev x) λp=>Zs (s.ev y) λq=>Zs (QeP p) λxs=>Zs (QeP q) λys=>Zs (Fz ks xs ys) λb=>k (s.apply dst (.bool (if neg=true then !b else b)) none)
 | .un op x=>Zs (s.ev x) λp=>unK op p λd=>k (s.apply dst d none)
 | .conv kk x=>Zs (s.ev x) λp=>Zs (QnO kk p) λd=>k (s.apply dst d none)
 | .ba sb x=>Zs (s.ev x) λp=>match sb with
  |true=>Zs (QeH p) λl=>k (s.apply dst (.sl (l.map QaI)) none)
  |false=>D3 s 1 p λys _=>Zs (HE ys) λl=>k (s.apply dst (.str l) none)
 | .slice l0 x lo hi mx=>(Zs (s.ev x) λp=>Zs p.rows? λrows=>Zs (s.kb lo 0) λl=>Zs (s.kb hi rows.length) λh=>QtS l0 rows l h (mx.map λm=>s.kb (some m) 0) hi.isSome λd=>k (s.apply dst d none))\/
   (mx=none/\s.kb lo 0=some 0/\Zs (s.ev x) λp=>QiX s hi p λd=>k (s.apply dst d none))\/
   (mx=none/\Zs (s.kb lo 0) λl=>Zs (s.ev x) λp=>Qra s l0 hi l p λd=>k (s.apply dst d none))\/
   (dr=false/\mx=none/\Zs (s.kb lo 0) λl=>Zs (s.ev x) λp=>QnT s l0 hi l p λs' d=>k (s'.apply dst d none))
 | .sc x=>Zs (s.ev x) λp=>Qrx p λrows=>k (s.apply dst (.int .i64 rows.length) none)
 | .de l0 et bytes zero x y=>Zs dst λt=>Zs (s.ev x) λp=>Qrx p λrows=>rows=[]/\Zs (s.ev y) λq=>Zs (QgF q) λn=>lk s.H t=none/\0<n/\n.toNat*bytes<=140737488355328/\n.toNat<=4611686018427387904/\
   k (s.apply dst (.u4 t n.toNat) (some ⟨List.replicate n.toNat zero,l0,et,true⟩))
 | .o8 x lo hi=>Zs (s.ev x) λp=>Zs (QeH p) λc=>Zs (s.kb lo 0) λl=>Zs (s.kb hi c.length) λh=>0<=l/\l<=h/\h<=c.length/\k (s.apply dst (.str ((c.take h.toNat).drop l.toNat)) none)
 | .fieldAddr off x=>Zs (s.ev x) λp=>PE s off p λd=>k (s.apply dst d none)
 | .field agg off sz x=>Zs (s.ev x) λp=>Zs (QeP p) λcells=>match agg with
  |true=>off+sz<=cells.length/\k (s.apply dst (.agg ((cells.drop off).take sz)) none)
  |false=>Zs cells[off]? λd=>k (s.apply dst d none)
 | .indexAddr l0 x i=>Zs (s.ev i) λn=>Zs (s.ev x) λp=>QcM s l0 n p λd=>k (s.apply dst d none)
 | .y8 x i=>Zs (s.ev i) λn=>Zs (s.ev x) λp=>Mc n p λd=>k (s.apply dst d none)
 | .extract i x=>Zs (s.ev x) λp=>Zs (Quh p) λds=>Zs ds[i]? λd=>k (s.apply dst d none)
 | .len x=>Zs (s.ev x) λp=>Zs (QgQ p) λn=>k (s.apply dst (.int .i64 n) none)
 | .z9 x=>Zs (s.ev x) λp=>Zs (QeH p) λl=>k (s.apply dst (.int .i64 l.length) none)
 | .min x y=>Zs (s.ev x) λp=>Zs (s.ev y) λq=>Qxi p q λd=>k (s.apply dst d none)
 | .max x y=>Zs (s.ev x) λp=>Zs (s.ev y) λq=>Qxh p q λd=>k (s.apply dst d none)
 | .append l0 et bytes x y=>Zs (s.ev x) λp=>Zs (s.ev y) λq=>D3 s l0 q λys pr=>QlK dr l0 et bytes dst s p ys pr k
 | .makeSlice l0 et bytes zero x y=>Zs (s.ev x) λp=>Zs (s.ev y) λq=>Qoz l0 et bytes zero dst s p q k
 | .range x=>Zs dst λt=>Zs (s.ev x) λp=>Zs (QeH p) λl=>lk s.H t=none/\k (s.apply dst (.ref t 0 0) (some ⟨[],0,ZM l 0,false⟩))
 | .next x=>dr=false/\Zs (s.ev x) λp=>Qoh s p λkk l q=>
   (q<l.length/\k (St.apply {s with H:=(kk,⟨[],0,ZM l (q+(Utf8.decode ⟨l.toArray⟩ q).2),false⟩)::s.H} dst (.g8 [.bool true,.int .i64 q,.int .i32 (Utf8.decode ⟨l.toArray⟩ q).1]) none))\/
   (¬q<l.length/\k (s.apply dst (.g8 [.bool false]) none))
 | .r8 len l0 x i=>Zs (s.ev i) λn=>Zs (s.ev x) λp=>Qzh s len l0 n p λd=>k (s.apply dst d none)
 | .x8 agg len l0 x i=>Zs (s.ev i) λnd=>Zs (QgF nd) λn=>Zs (s.ev x) λp=>Zs (QeP p) λcells=>0<=n/\n<len/\match agg with
  |true=>n.toNat*l0+l0<=cells.length/\k (s.apply dst (.agg ((cells.drop (n.toNat*l0)).take l0)) none)
  |false=>Zs cells[n.toNat*l0]? λd=>k (s.apply dst d none)
 | .call f args=>Zs (Zh s args) λds=>QnB P f (ds.map (XX s)) (ds.all D.pure) λd=>k (s.apply dst d none)
 | .vd f xs=>Zs (Zh s xs) λds=>ds.all D.w9=true/\(k (s.apply dst (.k9 f ds) none)\/∃kk ps,Gz f=[]/\ds=.ref kk 0 0::ps/\(ps.all λd=>!d.own)=true/\k (s.apply dst (.w8 f kk ps) none))
 | .oe f xs=>Zs (Zh s xs) λds=>ds.all D.pure=true/\k (s.apply dst (.pe f ds) none)
 | .ja x az=>Zs (s.ev x) λp=>(QwR p λf caps=>caps.all D.w9=true/\Zs (Zh s az) λds=>QnB P f ((ds++caps).map (XX s)) ((ds++caps).all D.pure) λd=>k (s.apply dst d none))\/(az=[]/\QwB p λf rs=>rs.all D.pure=true/\QnB P f (rs.map (XX s)) (rs.all D.pure) λd=>k (s.apply dst d none))
 | .stop=>False
inductive Dr where
 |fixed
 |drawn (H0:QEf) (R W:List (Nat × List Nat))
def Dr.dr:Dr->Bool
 | .fixed=>false
 | .drawn _ _ _=>true
def CZ (n:Nat) (p:List Nat) (R:List (Nat × List Nat)):Bool:=p.all λk=>R.all λe=>e.1 != k||e.2.contains n
def Dr.ok:Dr->Nat->List Nat->List Nat->Bool
 | .fixed,_,_,_=>true
 | .drawn _ R W,n,p,q=>CZ n p W&&CZ n q R&&CZ n q W
def Dr.nx:Dr->List Nat->List Nat->List Nat->Dr
 | .fixed,_,_,_=>.fixed
 | .drawn H0 R W,ds,p,q=>.drawn H0 (p.map (·,ds)++R) (q.map (·,ds)++W)
def Dr.of (H0:QEf):Bool->Dr
 |false=>.fixed
 |true=>.drawn H0 [] []
def Dr.B:Dr->Nat->Prop
 | .fixed=>λ_=>True
 | .drawn H0 _ _=>λk=>(lk H0 k).isSome=true
def y5.slot:y5->Option Nat
 | .s t=>some t
 | .c _=>none
def u3.looks (o:u3):List Nat:=o.op.l7.filterMap y5.slot++(o.guard.map Prod.fst).toList
def YV:List Nat->List u3->List Nat
 |_,[]=>[]
 |S,o::r=>if o.looks.any (λt=>S.contains t)=true then r.length::YV (o.dst.toList++S) r else YV S r
def Js:List u3->List Nat
 |[]=>[]
 |o::r=>if o.op.za=true then r.length::Js r else Js r
def st2 (l:List Nat):List Nat:=l
def M7 (op:s6) (dst:Option Nat) (r:List u3):List Nat:=
 match op with
 | .load _ _ _=>YV dst.toList r++st2 (Js r)
 | .store _ _ _=>YV dst.toList r++Js r
 |_=>YV dst.toList r
def s6.yf:s6->Bool
 | .call .. | .ja .. =>true
 |_=>false
def CQ:List u3->List Nat
 |[]=>[]
 |o::r=>if o.op.yf=true then r.length::CQ r else CQ r
def Qb9 (r:List u3):List Nat:=if(r.all λo=>o.guard.isNone)=true then CQ r else[]
def N0 (op:s6) (dst:Option Nat) (r:List u3):List Nat:=
 match op with
 | .call _ _=>YV dst.toList r++Qb9 r
 |_=>YV dst.toList r
def run (P:Program):Dr->List u3->(St->Prop)->St->Prop
 |_,[],K,s=>K s
 |dr,⟨dst,op,none⟩::r,K,s=>
  (dr.ok r.length (GK op (pk op s)) (Hy op (wk op s))=true/\step P dr.dr op dst s λs'=>run P (dr.nx (M7 op dst r) (GK op (pk op s)) (Hy op (wk op s))) r K s')\/
  (∃p q d ef,EF P dr.B op dst s p q d ef/\dr.ok r.length (GK op p) (Hy op q)=true/\run P (dr.nx (N0 op dst r) (GK op p) (Hy op q)) r K (s.s8 dst d ef))\/
  (∃f args HF Hn Hu d,dr=.fixed/\Kp s op f args/\Kx P f args s HF Hn Hu d/\run P dr r K (St.apply {s with H:=Hn++(Hu++s.H)} dst d none))\/
  ∃s' d bx,dr=.fixed/\s.le s'/\Jy P ⟨dst,op,none⟩ s' d bx/\run P dr r K (s'.apply dst d bx)
 |dr,⟨dst,op,some (t,b)⟩::r,K,s=>Zs (lk s.fr t) λd=>Sy d b
  ((dr.ok r.length (GK op (pk op s)) (Hy op (wk op s))=true/\step P dr.dr op dst s λs'=>run P (dr.nx (M7 op dst r) (GK op (pk op s)) (Hy op (wk op s))) r K s')\/
   (∃p q d ef,EF P dr.B op dst s p q d ef/\dr.ok r.length (GK op p) (Hy op q)=true/\run P (dr.nx (YV dst.toList r) (GK op p) (Hy op q)) r K (s.s8 dst d ef))\/
   (∃f args HF Hn Hu d,dr=.fixed/\Kp s op f args/\Kx P f args s HF Hn Hu d/\run P dr r K (St.apply {s with H:=Hn++(Hu++s.H)} dst d none))\/
   ∃s' d bx,dr=.fixed/\s.le s'/\Jy P ⟨dst,op,none⟩ s' d bx/\run P dr r K (s'.apply dst d bx))
  (run P dr r K (s.apply dst .undef none))
def Sa (w:Bool) (op:s6) (dst:Option Nat) (r:List u3):List Nat:=
 match w with
 |true=>(match op with
  | .store _ _ _=>YV dst.toList r++Js r
  |_=>YV dst.toList r)
 |false=>M7 op dst r
def TJ (P:Program) (w:Bool):Dr->List u3->(St->Prop)->St->Prop
 |_,[],K,s=>K s
 |dr,⟨dst,op,none⟩::r,K,s=>
  (dr.ok r.length (tkR w op s (pk op s)) (tkW w op s (wk op s))=true/\step P dr.dr op dst s λs'=>TJ P w (dr.nx (Sa w op dst r) (tkR w op s (pk op s)) (tkW w op s (wk op s))) r K s')\/
  (∃p q d ef,EF P dr.B op dst s p q d ef/\dr.ok r.length (tkR w op s p) (tkW w op s q)=true/\N0 op dst r=YV dst.toList r/\TJ P w (dr.nx (YV dst.toList r) (tkR w op s p) (tkW w op s q)) r K (s.s8 dst d ef))
 |dr,⟨dst,op,some (t,b)⟩::r,K,s=>Zs (lk s.fr t) λd=>Sy d b
  ((dr.ok r.length (tkR w op s (pk op s)) (tkW w op s (wk op s))=true/\step P dr.dr op dst s λs'=>TJ P w (dr.nx (Sa w op dst r) (tkR w op s (pk op s)) (tkW w op s (wk op s))) r K s')\/
   (∃p q d ef,EF P dr.B op dst s p q d ef/\dr.ok r.length (tkR w op s p) (tkW w op s q)=true/\N0 op dst r=YV dst.toList r/\TJ P w (dr.nx (YV dst.toList r) (tkR w op s p) (tkW w op s q)) r K (s.s8 dst d ef)))
  (TJ P w dr r K (s.apply dst .undef none))
section
variable {P:Program} {s:St} {k:St->Prop}
theorem Qnr {op:BinOp} {C:IntKind} {x y:Int} (h:QdW op C x y kk):∃d,QuA op C x y d/\kk d:=by
 cases op<;>simp[QdW]at h<;>simp[QuA]
 all_goals grind
theorem Qr8 {op:BinOp} {bt:Bool} {p q:D} (h:Qfo op bt p q kk):∃d,Qr6 op bt p q d/\kk d:=by
 cases p<;>cases q<;>simp[Qfo]at h<;>simp[Qr6]
 grind [Qnr]
 obtain⟨G,C⟩:=h;cases op<;>simp[Qnq]at C
 grind
 grind
 ·cases op<;>simp[Qjx]at h<;>simp[QuB]
  all_goals grind
 grind
theorem Nr {x:Option y5} {m:Int} (h:s.kb x n=some m) (h0:0<=m):s.bd x n m.toNat:=by
 cases x with
 |none=>grind [St.kb,St.bd]
 |some y=>
  simp[St.kb]at h;split at h;rename_i k' C he;cases h;exact⟨k',m,he,h0,rfl⟩
  grind
theorem Se {s:St} {C:List D}:∀{xs:List y5} {ds:List D},Zh s xs=some ds->Zh s (xs++C.map .c)=some (ds++C)
 |[],ds,h=>by grind [Zh,Gf]
 |x::xs,ds,h=>by
  simp[Zh]at h;split at h;rename_i d ds' e1 e2;cases h
  simp[Zh,e1,Se e2]
  grind
theorem D5 {dr:Bool} {gd:Option (Nat × Bool)} (h:step P dr op dst s k):
  (∃d bx,Jy P ⟨dst,op,gd⟩ s d bx/\k (s.apply dst d bx))\/((∃kk b,stD op s kk b/\k (s.s8 dst .undef [(kk,b)]))\/(dr=false/\∃s' d,Qal op s s' d/\k (s'.apply dst d none))):=by
 cases op<;>simp only[step]at h
 case wb x=>obtain⟨d,M,C⟩:=h;exact .inl ⟨d,none,⟨M,rfl⟩,C⟩
 case pick c x y=>obtain⟨cd,M,t,rfl,d,C,G⟩:=h;exact .inl ⟨d,none,⟨t,M,C,rfl⟩,G⟩
 case alloc et cells=>obtain⟨t,M,C,G⟩:=h;exact .inl ⟨_,_,⟨t,M,C,rfl,rfl⟩,G⟩
 case box et x=>obtain⟨t,M,v,C,cells,G,O,T⟩:=h;exact .inl ⟨_,_,⟨t,v,cells,M,C,G,O,rfl,rfl⟩,T⟩
 case build zero parts=>obtain⟨qs,M,ds,C,G⟩:=h;exact .inl ⟨_,_,⟨qs,ds,M,C,rfl,rfl⟩,G⟩
 case buildSlice l0 et parts=>
  rcases h with⟨t,M,rows,C,G,O⟩ |⟨rows,C,G,O⟩;exact .inl ⟨_,_,.inl ⟨t,rows,M,C,G,rfl,rfl⟩,O⟩;exact .inl ⟨_,_,.inr ⟨rows,C,G,rfl,rfl⟩,O⟩
 case load agg sz x=>
  obtain⟨p,M,cells,C,G⟩:=h;cases agg with
  |true=>exact .inl ⟨_,none,⟨p,cells,M,Nb.2 C,by grind,rfl⟩,G.2⟩
  |false=>
   obtain⟨d,O,T⟩:=G;exact .inl ⟨d,none,⟨p,cells,M,Nb.2 C,by grind,rfl⟩,T⟩
 case store sz x v=>
  obtain⟨p,M,C⟩:=h;cases p<;>simp only[QxA]at C;obtain⟨b,G,row,O,q,T,cells,U,V,Y,h9⟩:=C;refine .inr (.inl ⟨_,_,⟨_,_,b,row,q,cells,M,G,O,T,U,V,Y,rfl⟩, ?_⟩);cases dst<;>exact h9
 case nilCheck x=>obtain⟨p,M,C,G⟩:=h;exact .inl ⟨p,none,⟨p,M,C,rfl,rfl⟩,G⟩
 case bin op bt x y=>
  obtain⟨p,M,q,C,G⟩:=h;obtain⟨d,O,T⟩:=Qr8 G;exact .inl ⟨d,none,⟨p,q,M,C,O,rfl⟩,T⟩
 case eqs neg ks x y=>
  obtain⟨p,M,q,C,xs,G,ys,O,b,T,U⟩:=h;cases p<;>simp only[QeP,QEl,reduceCtorEq]at G;cases q<;>simp only[QeP,QEl,reduceCtorEq]at O;subst G;subst O;exact .inl ⟨_,none,⟨_,_,b,M,C,T,rfl,rfl⟩,U⟩
 case un op x=>
  obtain⟨p,M,C⟩:=h
  cases op<;>cases p<;>simp only[unK]at C<;>first
   |exact .inl ⟨_,none,⟨_,M,⟨rfl,rfl⟩,rfl⟩,C⟩
   |exact .inl ⟨_,none,⟨_,M,⟨rfl,C.1,rfl⟩,rfl⟩,C.2⟩
 case conv kk x=>
  obtain⟨p,M,d,C,G⟩:=h;cases p<;>simp only[QnO,QEl,reduceCtorEq]at C;subst C;exact .inl ⟨_,none,⟨_,_,M,rfl,rfl⟩,G⟩
 case ba sb x=>
  obtain⟨p,M,C⟩:=h;cases sb
  have hsrc:∃ys pr l,s.src 1 p ys pr/\HE ys=some l/\k (s.apply dst (.str l) none):=by
   cases p<;>simp only[D3]at C
   obtain⟨G,l,O,T⟩:=C;exact⟨_,true,l,⟨rfl,G,rfl⟩,O,T⟩;obtain⟨G,l,O,T⟩:=C;exact⟨_,true,l,⟨rfl,G,rfl⟩,O,T⟩;obtain⟨b,O,T,U,l,V,Y⟩:=C;exact⟨_,_,l,⟨b,O,T,U,rfl,rfl⟩,V,Y⟩
  obtain⟨ys,pr,l,G,O,T⟩:=hsrc;exact .inl ⟨_,none,⟨p,M,rfl,by grind⟩,T⟩;obtain⟨l,G,O⟩:=C;cases p<;>simp only[QeH,QEl,reduceCtorEq]at G;subst G;exact .inl ⟨_,none,⟨_,M,rfl,by simp⟩,O⟩
 case sc x=>
  obtain⟨p,M,C⟩:=h;cases p<;>simp only[Qrx]at C;exact .inl ⟨_,none,⟨_,M,rfl,rfl⟩,C⟩
 case de l0 et bytes zero x y=>
  obtain⟨t,M,p,C,G⟩:=h;cases p<;>simp only[Qrx]at G;obtain⟨rfl,q,O,n,T,U,V,Y,h9,h10⟩:=G;cases q<;>simp only[QgF,QEl,reduceCtorEq]at T;subst T;exact .inl ⟨_,_,⟨t,_,_,M,C,O,U,V,Y,h9,rfl,rfl⟩,h10⟩
 case slice l0 x lo hi mx=>
  rcases h with h |⟨rfl,hlo,p,M,C⟩ |⟨rfl,l,hlo,p,M,C⟩ |⟨hdr,h0,l,hlo,p,M,C⟩
  rotate_left
  rotate_left
  rotate_left
  cases p<;>simp only[QnT]at C
  obtain⟨b,hb,q1,q2,q3,q4,q5,q6,q7,q8,q9⟩:=C;exact .inr (.inr ⟨hdr,_,_,⟨_,_,l.toNat,b,h0,M,q1,hb,q2,q3,q4,q5,Nr hlo q6,by have:=Nr q8 Wa;grind,Wa,rfl,rfl⟩,q9⟩)
  rotate_left
  rotate_left
  cases p<;>simp only[Qra]at C
  obtain⟨G,O,T,U⟩:=C;exact .inl ⟨_,none,.inr (.inr ⟨rfl,rfl,_,_,_,M,Nr hlo G,by have:=Nr T Wa;grind,Wa,rfl⟩),U⟩
  rotate_left
  cases p<;>simp only[QiX]at C
  exact .inl ⟨_,none,.inr (.inl ⟨rfl,rfl,Nr hlo (Int.le_refl 0),.inl ⟨_,M,by have:=Nr C.1 Wa;grind,rfl⟩⟩),C.2⟩
  obtain⟨m,G,O,T,U⟩:=C;exact .inl ⟨_,none,.inr (.inl ⟨rfl,rfl,Nr hlo (Int.le_refl 0),.inr ⟨_,_,_,M,Nr G O,Wa,rfl⟩⟩),U⟩;obtain⟨p,M,rows,C,l,G,hh,O,T,U,V,Y,h9⟩:=h;cases mx with
  |none=>
   simp only[Option.map_none]at h9;exact .inl ⟨_,none,.inl ⟨p,rows,l.toNat,hh.toNat,M,C,Nr G T,Nr O Wa,Wa,Wa,Y,rfl,rfl⟩,h9⟩
  |some m=>
   simp only[QE6]at h9;obtain⟨h10,h11,h12⟩:=h9;exact .inl ⟨_,none,.inl ⟨p,rows,l.toNat,hh.toNat,M,C,Nr G T,Nr O Wa,Wa,Wa,Y,⟨Nr h10 Wa,h11,rfl⟩,rfl⟩,h12⟩
 case o8 x lo hi=>
  obtain⟨p,M,c,C,l,G,hh,O,T,U,V,Y⟩:=h;cases p<;>simp only[QeH,QEl,reduceCtorEq]at C;subst C;exact .inl ⟨_,none,⟨_,l.toNat,hh.toNat,M,Nr G T,Nr O Wa,Wa,Wa,rfl,rfl⟩,Y⟩
 case fieldAddr off x=>
  obtain⟨p,M,C⟩:=h;cases p<;>simp only[PE]at C;exact .inl ⟨_,none,⟨_,M,⟨C.1,rfl⟩,rfl⟩,C.2⟩;exact .inl ⟨_,none,⟨_,M,⟨C.1,rfl⟩,rfl⟩,C.2⟩
 case field agg off sz x=>
  obtain⟨p,M,cells,C,G⟩:=h;cases p<;>simp only[QeP,QEl,reduceCtorEq]at C;subst C;cases agg with
  |true=>exact .inl ⟨_,none,⟨_,M,by grind,rfl⟩,G.2⟩
  |false=>
   obtain⟨d,O,T⟩:=G;exact .inl ⟨d,none,⟨_,M,by grind,rfl⟩,T⟩
 case indexAddr l0 x i=>
  obtain⟨n,M,p,C,G⟩:=h;cases n<;>try trivial
  cases p<;>simp only[QcM]at G
  obtain⟨row,O,T,U,V⟩:=G;exact .inl ⟨_,none,⟨_,_,_,M,C,O,⟨row,T,U,rfl⟩,rfl⟩,V⟩;obtain⟨row,O,T,U,V⟩:=G;exact .inl ⟨_,none,⟨_,_,_,M,C,O,⟨row,T,U,rfl⟩,rfl⟩,V⟩;obtain⟨b,O,T,U,V,Y,h9⟩:=G;exact .inl ⟨_,none,⟨_,_,_,M,C,U,⟨b,O,T,V,Y,rfl⟩,rfl⟩,h9⟩
 case y8 x i=>
  obtain⟨n,M,p,C,G⟩:=h;cases n<;>try trivial
  cases p<;>simp only[Mc]at G
  obtain⟨c,O,T,U⟩:=G;exact .inl ⟨_,none,⟨_,_,_,c,M,C,O,T,rfl,rfl⟩,U⟩
 case extract i x=>
  obtain⟨p,M,ds,C,d,G,O⟩:=h;exact .inl ⟨d,none,⟨p,ds,M,C,G,rfl⟩,O⟩
 case len x=>obtain⟨p,M,n,C,G⟩:=h;exact .inl ⟨_,none,⟨p,n,M,C,rfl,rfl⟩,G⟩
 case z9 x=>
  obtain⟨p,M,l,C,G⟩:=h;cases p<;>simp only[QeH,QEl,reduceCtorEq]at C;subst C;exact .inl ⟨_,none,⟨_,M,rfl,rfl⟩,G⟩
 case min x y=>
  obtain⟨p,M,q,C,G⟩:=h;cases p<;>try trivial
  cases q<;>simp only[Qxi]at G
  exact .inl ⟨_,none,⟨_,_,_,_,M,C,rfl,rfl⟩,G⟩
 case max x y=>
  obtain⟨p,M,q,C,G⟩:=h;cases p<;>try trivial
  cases q<;>simp only[Qxh]at G
  exact .inl ⟨_,none,⟨_,_,_,_,M,C,rfl,rfl⟩,G⟩
 case append l0 et bytes x y=>
  obtain⟨p,M,q,C,G⟩:=h
  have hsrc:∃ys pr,s.src l0 q ys pr/\QlK dr l0 et bytes dst s p ys pr k:=by
   cases q<;>simp only[D3]at G
   exact⟨_,true,⟨rfl,G.1,rfl⟩,G.2⟩;exact⟨_,true,⟨rfl,G.1,rfl⟩,G.2⟩;obtain⟨b,O,T,U,V⟩:=G;exact⟨_,_,⟨b,O,T,U,rfl,rfl⟩,V⟩
  obtain⟨ys,pr,O,T⟩:=hsrc;cases p<;>simp only[QlK]at T;obtain⟨t,U,V,Y,h9,h10,h11,h12⟩:=T;exact .inl ⟨_,_,⟨t,_,q,ys,pr,U,M,C,O,V,Y,h9,h10,h11,rfl,rfl⟩,h12⟩;obtain⟨hd,hk0,b,U,V,Y,h9,h10,h12,h13,h14⟩:=T;exact .inr <| .inr ⟨hd,_,_,⟨_,_,b,q,ys,pr,M,hk0,U,V,Y,h9,h10,C,O,h12,h13,rfl,rfl⟩,h14⟩
 case makeSlice l0 et bytes zero x y=>
  obtain⟨p,M,q,C,G⟩:=h;cases p<;>try trivial
  cases q<;>simp only[Qoz]at G
  obtain⟨t,O,T,rfl,U,V,Y,h9⟩:=G;exact .inl ⟨_,_,⟨t,_,_,_,O,M,C,T,U,V,Y,rfl,rfl⟩,h9⟩
 case range x=>
  obtain⟨t,M,p,C,l,G,O,T⟩:=h;cases p<;>simp only[QeH,QEl,reduceCtorEq]at G;subst G;exact .inl ⟨_,_,⟨t,_,M,C,O,rfl,rfl⟩,T⟩
 case next x=>
  obtain⟨hd,p,M,C⟩:=h;unfold Qoh at C;split at C;obtain⟨l,q,G,O⟩:=C;rcases O with⟨O,T⟩ |⟨O,T⟩
  exact .inr <| .inr ⟨hd,_,_,⟨_,l,q,M,G,.inl ⟨O,rfl,rfl⟩⟩,T⟩
  exact .inr <| .inr ⟨hd,_,_,⟨_,l,q,M,G,.inr ⟨O,rfl,rfl⟩⟩,T⟩
  grind
 case r8 len l0 x i=>
  obtain⟨nd,M,p,C,G⟩:=h;cases nd<;>try trivial
  obtain⟨O,T,U⟩:=G;cases p<;>simp only[PE]at U;exact .inl ⟨_,none,⟨_,_,_,M,C,O,T,⟨U.1,rfl⟩,rfl⟩,U.2⟩;exact .inl ⟨_,none,⟨_,_,_,M,C,O,T,⟨U.1,rfl⟩,rfl⟩,U.2⟩
 case x8 agg len l0 x i=>
  obtain⟨nd,M,n,C,p,G,cells,O,T,U,V⟩:=h;cases nd<;>simp only[QgF,QEl,reduceCtorEq]at C;subst C;cases p<;>simp only[QeP,QEl,reduceCtorEq]at O;subst O;cases agg with
  |true=>exact .inl ⟨_,none,⟨_,_,_,M,G,T,U,by grind,rfl⟩,V.2⟩
  |false=>
   obtain⟨d,Y,h9⟩:=V;exact .inl ⟨d,none,⟨_,_,_,M,G,T,U,by grind,rfl⟩,h9⟩
 case call f args=>
  obtain⟨ds,M,d,C,G,O⟩:=h;exact .inl ⟨d,none,⟨rfl,ds,M,C,G⟩,O⟩
 case vd f xs=>
  obtain⟨ds,M,C,G |⟨kk,ps,q1,q2,q3,G⟩⟩:=h;exact .inl ⟨_,none,⟨ds,M,C,.inl rfl,rfl⟩,G⟩;exact .inl ⟨_,none,⟨ds,M,C,.inr ⟨kk,ps,q1,q2,q3,rfl⟩,rfl⟩,G⟩
 case oe f xs=>
  obtain⟨ds,M,C,G⟩:=h;exact .inl ⟨_,none,⟨ds,M,C,rfl,rfl⟩,G⟩
 case ja x az=>
  obtain⟨p,M,C⟩:=h;rcases C with C |⟨rfl,C⟩
  cases p<;>simp only[QwR]at C
  obtain⟨G,ds,O,d,T,U,V⟩:=C;exact .inl ⟨d,none,⟨rfl,.inl ⟨_,_,M,G,_,Se O,T,U⟩⟩,V⟩;cases p<;>simp only[QwB]at C;obtain⟨G,d,T,U,V⟩:=C;exact .inl ⟨d,none,⟨rfl,.inr ⟨rfl,_,_,M,G,_,Gf _,T,U⟩⟩,V⟩
theorem Qh4 {A B:Prop} (h:Zs (lk s.fr t) λd=>Sy d b A B):(gw s (some (t,b))=some true/\A)\/(gw s (some (t,b))=some false/\B):=by
 obtain⟨d,G,C⟩:=h;simp[gw];cases d<;>simp[Sy]at C
 grind
 rename_i c;simp[QuJ]at C;cases c<;>cases b
 all_goals grind
theorem Ye:∀{l:List u3} {s:St},run P .fixed l k s->GF P l k s
 |[],s,h=>h
 |⟨dst,op,none⟩::r,s,h=>by
  rcases h with h |⟨p,q,d,ef,G,_,C⟩ |⟨f,args,HF,Hn,Hu,d,_,G,C,M⟩ |⟨s',d,bx,_,G,C,M⟩;rcases D5 h.2 with⟨d,bx,G,C⟩ |⟨kk,b,G,C⟩ |⟨_,s',d,G,C⟩;exact .inl ⟨d,bx,G,Ye C⟩;refine .inr (.inl ⟨_,_,D4 G,Ye ?_⟩);cases dst<;>exact C;exact .inr (.inl ⟨s',d,G,Ye C⟩);exact .inr (.inr (.inl ⟨p,q,d,ef,G,Ye C⟩));exact .inr (.inr (.inr (.inl ⟨f,args,HF,Hn,Hu,d,G,C,Ye M⟩)));exact .inr (.inr (.inr (.inr ⟨s',d,bx,G,C,Ye M⟩)))
 |⟨dst,op,some (t,b)⟩::r,s,h=>by
  simp only[GF,Qfh];rcases Qh4 h with⟨O,h⟩ |⟨O,h⟩
  rw[O];rcases h with h |⟨p,q,d,ef,G,_,C⟩ |⟨f,args,HF,Hn,Hu,d,_,G,C,M⟩ |⟨s',d,bx,_,G,C,M⟩
  rcases D5 h.2 with⟨d,bx,G,C⟩ |⟨kk,b,G,C⟩ |⟨_,s',d,G,C⟩;exact .inl ⟨d,bx,G,Ye C⟩;refine .inr (.inl ⟨_,_,D4 G,Ye ?_⟩);cases dst<;>exact C;exact .inr (.inl ⟨s',d,G,Ye C⟩);exact .inr (.inr (.inl ⟨p,q,d,ef,G,Ye C⟩));exact .inr (.inr (.inr (.inl ⟨f,args,HF,Hn,Hu,d,G,C,Ye M⟩)));exact .inr (.inr (.inr (.inr ⟨s',d,bx,G,C,Ye M⟩)));rw[O];exact Ye h
section
variable {nt:Nat} {ops:Array Oper} {l':List u3}
def TN (ops:Array Oper):Prop:=∀m j om oj,m<j->ops[m]?=some om->ops[j]?=some oj->Dep ops j m\/om.apart ops oj=true
theorem SF:∀(fuel k:Nat) (listed:Array Bool),Region.lexFrom .any ops fuel k listed=true->(∀j,k<=j->j<ops.size->listed.getD j true=false)->
  ∀m j om oj,k<=m->m<k+fuel->m<j->ops[m]?=some om->ops[j]?=some oj->Dep ops j m\/om.apart ops oj=true
 |0,k,listed,_,_,m,j,om,oj,h1,h2,_,_,_=>Wa
 |fuel+1,k,listed,h,hun,m,j,om,oj,h1,h2,h3,h4,h5=>by
  simp[Region.lexFrom]at h;obtain⟨⟨hr,O⟩,C⟩:=h
  by_cases hm:m=k
  grind [Dep,Region.free_spec]
  refine SF fuel (k+1) _ C (λi M G=>?_) m j om oj Wa Wa h3 h4 h5;rw[getD_set_ne true Wa]
  grind
theorem Dm (h:Region.lexB .any ops=true):TN ops:=λm j om oj M C G=>by
 simp[Region.lexB]at h;have hm:=(QEG.1 C).1;exact SF ops.size 0 _ h.2 (λi _ hi=>by simp[hi]) m j om oj (QEu _) Wa M C G
theorem Qbg {o:Oper} {o':u3} (hp:ZP P nt ops o=some o') (T:t<900000) (C:t∈o'.looks):t∈o.looksAt ops:=by
 obtain⟨O,j2,Y,V⟩:=Q6 hp;unfold Oper.looksAt;rcases QEt.1 C with C |C
 ·obtain⟨x,hx,hs⟩:=List.mem_filterMap.1 C
  have M:∀i,x≠.s (900000+i):=λi e=>by
   grind [y5.slot]
  rcases Pn O x hx with⟨y,hy,G⟩ |⟨i,e⟩
  case inr=>grind
  refine QFo _ (List.mem_filterMap.2 ⟨y,by grind, ?_⟩);rcases Ms G with⟨U,rfl,rfl⟩ |⟨d',rfl,_⟩ |⟨i,e⟩
  case inr.inr=>grind
  trivial;trivial
 grind [Yi]
theorem Kz (C:TN ops) (hp:QV P nt ops ops.toList=some l') {i:Nat}:∀(r:List u3) (j:Nat) (S:List Nat),r=l'.drop j->j+r.length=l'.length->(∀t∈S,∃m om,m<j/\ops[m]?=some om/\om.dst=some t/\(m=i\/u9 ops m i))->
  ∀n∈YV S r,u9 ops (l'.length - 1 - n) i
 |[],_,_,_,_,_,n,M=>by cases M
 |o'::r,j,S,hr,hl,hS,n,M=>by
  have T:=by
   have:=congrArg List.tail hr
   simpa using this
  have V:j+1+r.length=l'.length:=by grind
  have hoj:l'[j]?=some o':=by
   have:=congrArg (·[0]?) hr
   grind
  have hsz:l'.length=ops.size:=by
   have hlen:∀{l:List Oper} {l':List u3},QV P nt ops l=some l'->l'.length=l.length:=by
    intro l
    induction l with
    |nil=>grind [QV]
    |cons x xs ih=>
     grind [QV]
   grind
  have hjs:j<ops.size:=Wa;have O:=QFt hjs
  have U:ZP P nt ops ops[j]=some o':=by
   obtain⟨o2,q1,q2⟩:=ZC hp j _ (by rw[QFc];exact O)
   grind
  simp only[YV]at M;split at M;rename_i Y
  have hanc:u9 ops j i:=by
   obtain⟨t,G,hts⟩:=QFy.1 Y;obtain⟨m,om,h1,h2,h3,h4⟩:=hS t Wc
   have ht9:t<900000:=by
    obtain⟨o2,_,q2⟩:=ZC hp m om Wc;exact Mt q2 h3
   have hd:=(C m j om _ h1 h2 O).resolve_right λha=>(Oper.apart_spec ha).1 t h3 (Qbg U ht9 G);rcases h4 with rfl |h4
   exact .one hd;exact .more hd h4
  rcases QEk.1 M with rfl |M
  grind
  refine Kz C hp r (j+1) _ T V (λt G=>?_) n M;rcases QEt.1 G with G |G
  refine⟨j,_,QFz j,O, ?_,.inr hanc⟩;rw[<- (Q6 U).2.2.1]
  grind
  obtain⟨m,om,h1,h2⟩:=hS t G;exact⟨m,om,Wa,h2⟩;refine Kz C hp r (j+1) _ T V (λt G=>?_) n M;obtain⟨m,om,h1,h2⟩:=hS t G;exact⟨m,om,Wa,h2⟩
theorem Qkt (h:lsB ops=true) (V:1<=ops.toList.countP λo=>Y5 o.op) (C:m<j) (hm:ops[m]?=some om) (M:ops[j]?=some oj) (T:Y5 oj.op=true) (U:(QcN om.op||Y5 om.op)=true):Dep ops j m:=by
 simp only[lsB,QFu]at h;rcases h with h |h
 have:=QEi h;omega;have G:=(QEG.1 M).1;have O:=QEs.1 (QEs.1 h j (QEE.2 G)) m (QEE.2 C);simp only[M,hm,T,U,La]at O;obtain⟨e,he,hb⟩:=Array.any_eq_true'.1 O;simp at hb;exact⟨oj,M,e,he,hb.1,hb.2⟩
theorem Qk7 (h:ssB ops=true) (C:m<j) (hm:ops[m]?=some om) (M:ops[j]?=some oj) (O:Y5 oj.op=true) (T:Y5 om.op=true):Dep ops j m:=by
 simp only[ssB,QFu]at h;rcases h with h |h
 have h:=QEi h;have e:=(QES j ops.toList).symm;rw[e,List.countP_append]at h;have Y:0<(ops.toList.take j).countP λo=>Y5 o.op:=List.countP_pos_iff.2 ⟨om,QEK (i:=m) Wc,T⟩;have V:0<(ops.toList.drop j).countP λo=>Y5 o.op:=List.countP_pos_iff.2 ⟨oj,QEK (i:=0) Wc,O⟩;omega;have G:=(QEG.1 M).1;have U:=QEs.1 (QEs.1 h j (QEE.2 G)) m (QEE.2 C);simp only[M,hm,O,T,La]at U;obtain⟨e,he,hb⟩:=Array.any_eq_true'.1 U;simp at hb;exact⟨oj,M,e,he,hb.1,hb.2⟩
theorem Mv {op:Op} (hp:Yr P op=some ao) (h:ao.za=true):Y5 op=true:=by
 cases ao<;>simp[s6.za]at h
 cases op<;>simp[Yr]at hp<;>first
  |rfl
  |(done)
  |(
   simp[JP,YX,ZV,YW,ZO,XI,XH,JS,Yw,XG,JQ,Z3,Xp,GD]at hp
   (repeat' split at hp)<;>first |(cases hp) |(obtain⟨_,_,h⟩:=QEh.1 hp;cases h))
  |((repeat' split at hp)<;>first |(cases hp) |(obtain⟨_,_,h⟩:=QEh.1 hp;cases h;done))
theorem QhE {op:Op} {agg:Bool} {sz:Nat} {x:y5} (hp:Yr P op=some (.load agg sz x)):QcN op=true:=by
 cases op<;>simp[Yr]at hp<;>first
  |rfl
  |(done)
  |(
   simp[JP,YX,ZV,YW,ZO,XI,XH,JS,Yw,XG,JQ,Z3,Xp,GD]at hp
   (repeat' split at hp)<;>first |(cases hp) |(obtain⟨_,_,h⟩:=QEh.1 hp;cases h))
  |((repeat' split at hp)<;>first |(cases hp) |(obtain⟨_,_,h⟩:=QEh.1 hp;cases h))
theorem Gs:∀r:List u3,(Js r).length=r.countP λo=>o.op.za
 |[]=>rfl
 |o::r=>by
  simp[Js,List.countP_cons];split;simp[Gs r];simp[Gs r]
theorem Pq {ops:Array Oper}:∀{l:List Oper} {l':List u3},QV P nt ops l=some l'->(l'.countP λo=>o.op.za)<=l.countP λo=>Y5 o.op
 |[],l',h=>by simp[QV]at h;grind
 |o::l,l',h=>by
  simp[QV]at h;split at h;rename_i o' C e1 e2;have M:=Pq e2;have G:=λh=>Mv (Q6 e1).1 h
  grind
  grind
theorem Gr (hp:QV P nt ops ops.toList=some l') {i:Nat} (H:∀j oj,i<j->ops[j]?=some oj->Y5 oj.op=true->Dep ops j i):∀(r:List u3) (j:Nat),r=l'.drop j->j+r.length=l'.length->i<j->∀n∈Js r,u9 ops (l'.length - 1 - n) i
 |[],_,_,_,_,n,C=>by cases C
 |o'::r,j,hr,hl,hij,n,C=>by
  have G:=by
   have:=congrArg List.tail hr
   simpa using this
  have O:j+1+r.length=l'.length:=by grind
  have hoj:l'[j]?=some o':=by
   have:=congrArg (·[0]?) hr
   grind
  have Y:l'.length=ops.size:=by
   have hlen:∀{l:List Oper} {l':List u3},QV P nt ops l=some l'->l'.length=l.length:=by
    intro l
    induction l with
    |nil=>grind [QV]
    |cons x xs ih=>
     grind [QV]
   grind
  have V:j<ops.size:=Wa;have M:=QFt V
  have U:ZP P nt ops ops[j]=some o':=by
   obtain⟨o2,q1,q2⟩:=ZC hp j _ (by rw[QFc];exact M)
   grind
  simp[Js]at C;split at C;rename_i T;rcases QEk.1 C with rfl |C
  have:l'.length - 1 - r.length=j:=Wa;rw[this];exact .one (H j _ hij M (Mv (Q6 U).1 T));exact Gr hp H r (j+1) G O Wa n C;exact Gr hp H r (j+1) G O Wa n C
theorem MJ (C:lsB ops=true) (hp:QV P nt ops ops.toList=some l') {oi:Oper} (hi:ops[i]?=some oi) (G:(QcN oi.op||Y5 oi.op)=true) (U:1<=ops.toList.countP λo=>Y5 o.op):∀(r:List u3) (j:Nat),r=l'.drop j->j+r.length=l'.length->i<j->∀n∈Js r,u9 ops (l'.length - 1 - n) i:=
 Gr hp λj oj M T O=>Qkt C U M hi T O G
def Rec (ops:Array Oper) (N:Nat) (R:List (Nat × List Nat)) (R':List (Nat × Nat)):Prop:=∀k i,(k,i)∈R'->∃ds,(k,ds)∈R/\∀n∈ds,u9 ops (N - 1 - n) i
theorem Kk (hr:Rec ops N R R') (h:CZ n p R=true):∀k∈p,∀i,(k,i)∈R'->u9 ops (N - 1 - n) i:=by
 intro k hk i hi;obtain⟨ds,G,C⟩:=hr k i hi
 grind [CZ]
theorem Rec.more (hr:Rec ops N R R') {ds:List Nat} (hd:∀n∈ds,u9 ops (N - 1 - n) i):Rec ops N (p.map (·,ds)++R) (tag i p++R'):=λk j C=>by
 rcases QEt.1 C with C |C;obtain⟨G,rfl⟩:=NA.1 C
 exact⟨ds,QFo _ (QEw.2 ⟨k,G,rfl⟩),hd⟩;obtain⟨ds',G,M⟩:=hr k j C
 grind
theorem Qkp (h:lcB ops=true) (M:m<j) (hm:ops[m]?=some om) (T:ops[j]?=some oj) (V:KG oj.op=true) (U:KG om.op=true) (hf:∀k o,m<=k->ops[k]?=some o->o.guard=none) (hn:∀k o,m<k->k<j->ops[k]?=some o->KG o.op=false):Dep ops j m:=by
 have O:=(QEG.1 T).1;have Y:=QEs.1 (QEs.1 h j (QEE.2 O)) m (QEE.2 M)
 have C:N5 ops m=true:=QEs.2 λo ho=>by
  obtain⟨i,hi⟩:=List.getElem?_of_mem ho
  grind
 have G:BM ops m j=true:=QEs.2 λo ho=>by
  obtain⟨i,hi⟩:=List.getElem?_of_mem ho
  grind
 simp only[T,hm,V,U,C,G,La]at Y;obtain⟨e,he,hb⟩:=Array.any_eq_true'.1 Y;simp at hb;exact⟨oj,T,e,he,hb.1,hb.2⟩
theorem BW {op:Op} (hp:Yr P op=some ao):KG op=ao.yf:=by
 cases op<;>simp only[Yr]at hp
 case call c=>
  unfold XH at hp;unfold KG;split at hp
  ·rename_i C _;simp[C];unfold JS at hp;(repeat' split at hp)<;>first |(cases hp;done) |(cases hp;rfl)
  ·rename_i C _;simp[C]
   (repeat' split at hp)<;>first |(cases hp;done) |(cases hp;rfl)
  ·rename_i C _;simp[C]
   (repeat' split at hp)<;>first |(cases hp;done) |(cases hp;rfl)
  ·rename_i C _;simp[C];unfold Yw XG at hp;(repeat' split at hp)<;>first |(cases hp;done) |(cases hp;rfl)
  ·rename_i C _;simp[C];unfold JQ at hp;(repeat' split at hp)<;>first |(cases hp;done) |(cases hp;rfl)
  rename_i C;simp[C];obtain⟨_,_,h⟩:=QEh.1 hp;subst h;rfl;rename_i C;simp[C];split at hp;obtain⟨_,_,h⟩:=QEh.1 hp;subst h;rfl
  grind
  grind
 all_goals first
  |(cases hp;rfl)
  |(obtain⟨_,_,h⟩:=QEh.1 hp;subst h;rfl)
  |(
   simp[JP,YX,ZV,YW,ZO,XI,Z3,Xp,GD]at hp
   (repeat' split at hp)<;>first |(cases hp;done) |(cases hp;rfl) |(obtain⟨_,_,h⟩:=QEh.1 hp;subst h;rfl))
  |((repeat' split at hp)<;>first |(cases hp;done) |(cases hp;rfl) |(obtain⟨_,_,h⟩:=QEh.1 hp;subst h;rfl))
theorem GY (M:lcB ops=true) (hp:QV P nt ops ops.toList=some l') {i:Nat} (hf:∀k o,i<=k->ops[k]?=some o->o.guard=none):∀(r:List u3) (j m:Nat) (om:Oper),r=l'.drop j->j+r.length=l'.length->i<=m->m<j->ops[m]?=some om->KG om.op=true->(m=i\/u9 ops m i)->
  (∀k o,m<k->k<j->ops[k]?=some o->KG o.op=false)->∀n∈CQ r,u9 ops (l'.length - 1 - n) i
 |[],_,_,_,_,_,_,_,_,_,_,_,n,C=>by cases C
 |o'::r,j,m,om,hr,hl,him,hmj,hm,hcm,T,hno,n,C=>by
  have O:=by
   have:=congrArg List.tail hr
   simpa using this
  have U:j+1+r.length=l'.length:=by grind
  have hoj:l'[j]?=some o':=by
   have:=congrArg (·[0]?) hr
   grind
  have hsz:l'.length=ops.size:=by
   have hlen:∀{l:List Oper} {l':List u3},QV P nt ops l=some l'->l'.length=l.length:=by
    intro l
    induction l with
    |nil=>grind [QV]
    |cons x xs ih=>
     grind [QV]
   grind
  have hjs:j<ops.size:=Wa;have G:=QFt hjs
  have Y:ZP P nt ops ops[j]=some o':=by
   obtain⟨o2,q1,q2⟩:=ZC hp j _ (by rw[QFc];exact G)
   grind
  have hcl:=BW (Q6 Y).1;simp[CQ]at C;split at C;have hd:=Qkp M hmj hm G Wc hcm (λk o hk ho=>hf k o Wa ho) hno
  have V:u9 ops j i:=by
   rcases T with rfl |h;exact .one hd;exact .more hd h
  rcases QEk.1 C with rfl |C
  grind
  exact GY M hp hf r (j+1) j _ O U Wa Wa G Wc (.inr V) (λk o h1 h2 _=>Wa) n C;refine GY M hp hf r (j+1) m om O U him Wa hm hcm T (λk o h1 h2 ho=>?_) n C
  grind
theorem FK {H0:QEf} (T:TN ops) (U:lsB ops=true) (V:lcB ops=true) (hp:QV P nt ops ops.toList=some l'):∀(l:List u3) (j:Nat) (R W:List (Nat × List Nat)) (R' W':List (Nat × Nat)) (s:St),l=l'.drop j->j+l.length=l'.length->Rec ops l'.length R R'->Rec ops l'.length W W'->
  run P (.drawn H0 R W) l k s->Qb1 P (λk=>(lk H0 k).isSome=true) (u9 ops) l j R' W' k s
 |[],_,_,_,_,_,s,_,_,_,_,h=>h
 |o::r,j,R,W,R',W',s,hl,hlen,hR,hW,h=>by
  have M:=by
   have:=congrArg List.tail hl
   simpa using this
  have C:j+1+r.length=l'.length:=by grind
  have hj:l'.length - 1 - r.length=j:=Wa
  have hoj:l'[j]?=some o:=by
   have:=congrArg (·[0]?) hl
   grind
  have hpo:∃oo,ops[j]?=some oo/\oo.dst=o.dst/\Yr P oo.op=some o.op:=by
   have hsz:l'.length=ops.size:=by
    have hlen:∀{l:List Oper} {l':List u3},QV P nt ops l=some l'->l'.length=l.length:=by
     intro l
     induction l with
     |nil=>grind [QV]
     |cons x xs ih=>
      grind [QV]
    grind
   have hjs:j<ops.size:=Wa;refine⟨ops[j],QFt hjs, ?_⟩;obtain⟨o2,q1,q2⟩:=ZC hp j _ (by rw[QFc];exact QFt hjs)
   rw[hoj]at q1;cases q1;exact⟨(Q6 q2).2.2.1.symm,(Q6 q2).1⟩
  obtain⟨oo,Y,hdst,O⟩:=hpo
  have hds:∀n∈YV o.dst.toList r,u9 ops (l'.length - 1 - n) j:=Kz T hp r (j+1) _ M C λt ht=>by
   refine⟨j,oo,QFz j,Y, ?_,.inl rfl⟩
   grind
  have hdO:∀n∈M7 o.op o.dst r,u9 ops (l'.length - 1 - n) j:=λn G=>by
   unfold M7 at G;split at G;rename_i agg sz x hop;rcases QEt.1 G with G |G
   grind
   rw[hop]at O;have hm:n∈Js r/\1<=(Js r).length:=⟨G,List.length_pos_of_mem G⟩;refine MJ U hp Y (by rw[QhE O,Bool.true_or]) ?_ r (j+1) M C (QFz j) n hm.1;have h1:=Pq hp
   grind [List.drop_sublist,Gs]
   rename_i sz x v hop;rcases QEt.1 G with G |G
   grind
   rw[hop]at O;refine MJ U hp Y (by rw[Mv O rfl,QFA]) ?_ r (j+1) M C (QFz j) n G;have h1:=Pq hp;have h3:((o::r).countP λo=>o.op.za)<=l'.countP λo=>o.op.za:=by rw[hl];grind [List.drop_sublist]
   have h5:0<(Js r).length:=List.length_pos_of_mem G;rw[Gs]at h5
   grind
   grind
  have ok:∀{p q:List Nat},(Dr.drawn H0 R W).ok r.length p q=true->cf (u9 ops j) p q R' W':=λ{p q} h=>by
   simp only[Dr.ok,QEm]at h;refine⟨λk hk i hi=>?_,λk hk=>⟨λi hi=>?_,λi hi=>?_⟩⟩
   grind [Kk]
   grind [Kk]
   grind [Kk]
  have go:∀(DE:List Nat) (hDE:∀n∈DE,u9 ops (l'.length - 1 - n) j) (hg:gw s o.guard=some true),((Dr.drawn H0 R W).ok r.length (GK o.op (pk o.op s)) (Hy o.op (wk o.op s))=true/\step P true o.op o.dst s λs'=>run P ((Dr.drawn H0 R W).nx (M7 o.op o.dst r) (GK o.op (pk o.op s)) (Hy o.op (wk o.op s))) r k s')\/
    (∃p q d ef,EF P (Dr.drawn H0 R W).B o.op o.dst s p q d ef/\(Dr.drawn H0 R W).ok r.length (GK o.op p) (Hy o.op q)=true/\run P ((Dr.drawn H0 R W).nx DE (GK o.op p) (Hy o.op q)) r k (s.s8 o.dst d ef))\/
    (∃f args HF Hn Hu d,(Dr.drawn H0 R W)=.fixed/\Kp s o.op f args/\Kx P f args s HF Hn Hu d/\run P (Dr.drawn H0 R W) r k (St.apply {s with H:=Hn++(Hu++s.H)} o.dst d none))\/
    (∃s' d bx,(Dr.drawn H0 R W)=.fixed/\s.le s'/\Jy P ⟨o.dst,o.op,none⟩ s' d bx/\run P (Dr.drawn H0 R W) r k (s'.apply o.dst d bx))->Qb1 P (λk=>(lk H0 k).isSome=true) (u9 ops) (o::r) j R' W' k s:=λDE hDE hg h=>by
   rcases h with⟨h1,h2⟩ |⟨p,q,d,ef,h1,h2,h3⟩ |⟨_,_,_,_,_,_,h,_⟩ |⟨_,_,_,h,_⟩;rcases D5 h2 with⟨d,bx,q1,q2⟩ |⟨kk,b,q1,q2⟩ |⟨h,_⟩;refine⟨_,_,d,_,.inl ⟨hg,.inl ⟨.inl ⟨bx,q1,rfl⟩,rfl,rfl⟩⟩,ok h1, ?_⟩;rw[<- GO];exact FK T U V hp r (j+1) _ _ _ _ _ M C (hR.more hdO) (hW.more hdO) q2;refine⟨_,_,_,_,.inl ⟨hg,.inl ⟨.inr ⟨kk,b,q1,rfl,rfl⟩,rfl,rfl⟩⟩,ok h1, ?_⟩;exact FK T U V hp r (j+1) _ _ _ _ _ M C (hR.more hdO) (hW.more hdO) q2
   grind
   exact⟨p,q,d,ef,.inl ⟨hg,.inr h1⟩,ok h2,FK T U V hp r (j+1) _ _ _ _ _ M C (hR.more hDE) (hW.more hDE) h3⟩
   grind
   grind
  obtain⟨dst,op,gd⟩:=o;cases gd with
  |none=>
   simp only[run]at h;refine go _ (λn G=>?_) rfl h
   have hdF:n∈YV dst.toList r\/((∃f az,op=.call f az)/\n∈Qb9 r):=by
    revert G
    cases op<;>simp only[N0]<;>intro G<;>first
     |grind
     |(grind)
   rcases hdF with G |⟨⟨f,az,rfl⟩,hn2⟩
   grind
   clear G;have G:=hn2;unfold Qb9 at G;split at G;rename_i hall;have hcj:KG oo.op=true:=BW O
   have hszo:l'.length=ops.size:=by
    have hlen:∀{l:List Oper} {l':List u3},QV P nt ops l=some l'->l'.length=l.length:=by
     intro l
     induction l with
     |nil=>grind [QV]
     |cons x xs ih=>
      grind [QV]
    grind
   refine GY V hp (λk o hk ho=>?_) r (j+1) j oo M C (QEI _) (QFz _) Y hcj (.inl rfl) (λk o h1 h2 _=>Wa) n G;have hks:k<ops.size:=(QEG.1 ho).1;obtain⟨o2,q1,q2⟩:=ZC hp k _ (by rw[QFc];exact ho)
   have hg2:o2.guard=none:=by
    by_cases hkj:k=j
    grind
    have hmem:o2∈r:=by
     rw[M];refine QEK (i:=k - (j+1)) ?_
     grind
    (repeat clear hK K);simp_all
   have h3:=(Q6 q2).2.1;cases hgo:o.guard with
   |none=>rfl
   |some x=>
    grind [Yi]
   grind
  |some tb=>
   obtain⟨t,b⟩:=tb;simp only[run]at h;rcases Qh4 h with⟨hg,h⟩ |⟨hg,h⟩
   exact go _ hds hg h;refine⟨[],[],_,_,.inr ⟨hg,rfl,rfl,rfl,rfl⟩,⟨by grind [Ce],by grind [Cg]⟩, ?_⟩;rw[Ce,Cg];rw[<- (show s.apply dst .undef none=s.s8 dst .undef [] by rw[GO];cases dst<;>rfl)]
   exact FK T U V hp r (j+1) _ _ _ _ _ M C hR hW h
theorem MF {H0:QEf} (G:TN ops) (O:ssB ops=true) (hp:QV P nt ops ops.toList=some l'):∀(l:List u3) (j:Nat) (R W:List (Nat × List Nat)) (R' W':List (Nat × Nat)) (s:St),l=l'.drop j->j+l.length=l'.length->Rec ops l'.length R R'->Rec ops l'.length W W'->
  TJ P true (.drawn H0 R W) l k s->Gy true P (λk=>(lk H0 k).isSome=true) (u9 ops) l j R' W' k s
 |[],_,_,_,_,_,s,_,_,_,_,h=>h
 |o::r,j,R,W,R',W',s,hl,hlen,hR,hW,h=>by
  have M:=by
   have:=congrArg List.tail hl
   simpa using this
  have C:j+1+r.length=l'.length:=by grind
  have hj:l'.length - 1 - r.length=j:=Wa
  have hoj:l'[j]?=some o:=by
   have:=congrArg (·[0]?) hl
   grind
  have hpo:∃oo,ops[j]?=some oo/\oo.dst=o.dst/\Yr P oo.op=some o.op:=by
   have hsz:l'.length=ops.size:=by
    have hlen:∀{l:List Oper} {l':List u3},QV P nt ops l=some l'->l'.length=l.length:=by
     intro l
     induction l with
     |nil=>grind [QV]
     |cons x xs ih=>
      grind [QV]
    grind
   have hjs:j<ops.size:=Wa;refine⟨ops[j],QFt hjs, ?_⟩;obtain⟨o2,q1,Y⟩:=ZC hp j _ (by rw[QFc];exact QFt hjs)
   rw[hoj]at q1;cases q1;exact⟨(Q6 Y).2.2.1.symm,(Q6 Y).1⟩
  obtain⟨oo,hoo,hdst,U⟩:=hpo
  have hds:∀n∈YV o.dst.toList r,u9 ops (l'.length - 1 - n) j:=Kz G hp r (j+1) _ M C λt ht=>by
   refine⟨j,oo,QFz j,hoo, ?_,.inl rfl⟩
   grind
  have T:∀n∈Sa true o.op o.dst r,u9 ops (l'.length - 1 - n) j:=λn hn=>by
   simp[Sa]at hn;split at hn;rename_i sz x v hop;rcases QEt.1 hn with hn |hn
   grind
   rw[hop]at U;exact Gr hp (λj2 oj2 h1 h2 h3=>Qk7 O h1 hoo h2 h3 (Mv U rfl)) r (j+1) M C (QFz j) n hn
   grind
  have ok:∀{p q:List Nat},(Dr.drawn H0 R W).ok r.length p q=true->cf (u9 ops j) p q R' W':=λ{p q} h=>by
   simp[Dr.ok]at h;refine⟨λk hk i hi=>?_,λk hk=>⟨λi hi=>?_,λi hi=>?_⟩⟩
   grind [Kk]
   grind [Kk]
   grind [Kk]
  have go:∀(V:gw s o.guard=some true),((Dr.drawn H0 R W).ok r.length (tkR true o.op s (pk o.op s)) (tkW true o.op s (wk o.op s))=true/\step P true o.op o.dst s λs'=>TJ P true ((Dr.drawn H0 R W).nx (Sa true o.op o.dst r) (tkR true o.op s (pk o.op s)) (tkW true o.op s (wk o.op s))) r k s')\/
    (∃p q d ef,EF P (Dr.drawn H0 R W).B o.op o.dst s p q d ef/\(Dr.drawn H0 R W).ok r.length (tkR true o.op s p) (tkW true o.op s q)=true/\N0 o.op o.dst r=YV o.dst.toList r/\TJ P true ((Dr.drawn H0 R W).nx (YV o.dst.toList r) (tkR true o.op s p) (tkW true o.op s q)) r k (s.s8 o.dst d ef))->Gy true P (λk=>(lk H0 k).isSome=true) (u9 ops) (o::r) j R' W' k s:=λV h=>by
   rcases h with⟨h1,h2⟩ |⟨p,q,d,ef,h1,h2,_,h3⟩;rcases D5 h2 with⟨d,bx,q1,Y⟩ |⟨kk,b,q1,Y⟩ |⟨h,_⟩;refine⟨_,_,d,_,.inl ⟨V,.inl ⟨.inl ⟨bx,q1,rfl⟩,rfl,rfl⟩⟩,ok h1, ?_⟩;rw[<- GO];exact MF G O hp r (j+1) _ _ _ _ _ M C (hR.more T) (hW.more T) Y;refine⟨_,_,_,_,.inl ⟨V,.inl ⟨.inr ⟨kk,b,q1,rfl,rfl⟩,rfl,rfl⟩⟩,ok h1, ?_⟩;exact MF G O hp r (j+1) _ _ _ _ _ M C (hR.more T) (hW.more T) Y
   grind
   exact⟨p,q,d,ef,.inl ⟨V,.inr h1⟩,ok h2,MF G O hp r (j+1) _ _ _ _ _ M C (hR.more hds) (hW.more hds) h3⟩
  obtain⟨dst,op,gd⟩:=o;cases gd with
  |none=>
   simp[TJ]at h;exact go rfl h
  |some tb=>
   obtain⟨t,b⟩:=tb;simp[TJ]at h;rcases Qh4 h with⟨V,h⟩ |⟨V,h⟩
   exact go V h;refine⟨[],[],_,_,.inr ⟨V,rfl,rfl,rfl,rfl⟩,⟨by grind [Ce],by grind [Cg]⟩, ?_⟩;rw[Ce,Cg];rw[<- (show s.apply dst .undef none=s.s8 dst .undef [] by rw[GO];cases dst<;>rfl)]
   exact MF G O hp r (j+1) _ _ _ _ _ M C hR hW h
end
end
section
variable {P:Program} {nt:Nat} {Q:AExit->St->Prop} {s:St}
theorem Qbx (h:run P (.drawn s.H [] []) ops K s):AwD P nt ops K s:=λC hp G=>
 FK (Dm (by simp_all [Sb,HP])) (by simp_all [Sb]) (by simp_all [Sb]) hp ops 0 [] [] [] [] s Wd Wd (λ_ _ h=>by cases h) (λ_ _ h=>by cases h) h
theorem Qpp (h:TJ P true (.drawn s.H [] []) ops K s):AwW P nt ops K s:=λG hp C=>
 MF (Dm (HP C.1)) C.2 hp ops 0 [] [] [] [] s Wd Wd (λ_ _ h=>by cases h) (λ_ _ h=>by cases h) h
def Qey (P:Program) (w:Bool) (dr:Dr) (l:List u3) (K:St->Prop) (s:St):Prop:=
 match w with
 |true=>TJ P true dr l K s
 |false=>run P dr l K s
abbrev QuP (P:Program) (w:Bool) (dr:Dr) (op:s6) (dst:Option Nat) (r:List u3) (s:St) (F:Dr->St->Prop):Prop:=
 (dr.ok r.length (tkR w op s (pk op s)) (tkW w op s (wk op s))=true/\step P dr.dr op dst s λs'=>F (dr.nx (Sa w op dst r) (tkR w op s (pk op s)) (tkW w op s (wk op s))) s')\/
  (∃p q d ef,EF P dr.B op dst s p q d ef/\dr.ok r.length (tkR w op s p) (tkW w op s q)=true/\N0 op dst r=YV dst.toList r/\F (dr.nx (YV dst.toList r) (tkR w op s p) (tkW w op s q)) (s.s8 dst d ef))
theorem DS {dr:Dr} (h:QuP P w dr op dst r s λdr s=>Qey P w dr r K s):Qey P w dr (⟨dst,op,none⟩::r) K s:=by
 cases w
 rcases h with h |⟨p,q,d,ef,O,M,G,C⟩;exact .inl h;exact .inr (.inl ⟨p,q,d,ef,O,M,by rw[G];exact C⟩)
 trivial
theorem DR {dr:Dr} (hx:lk s.fr t=some (.bool b)) (h:QuP P w dr op dst r s λdr s=>Qey P w dr r K s):Qey P w dr (⟨dst,op,some (t,b)⟩::r) K s:=by
 cases w
 refine⟨_,hx,λ_=>?_,λC=>absurd C Wd⟩;rcases h with h |⟨p,q,d,ef,O,M,T,G⟩
 exact .inl h;exact .inr (.inl ⟨p,q,d,ef,O,M,G⟩);exact⟨_,hx,λ_=>h,λC=>absurd C Wd⟩
theorem Qbw {dr:Dr} {c:Bool} (hx:lk s.fr t=some (.bool c)) (G:¬c=b) (h:Qey P w dr r K (s.apply dst .undef none)):Qey P w dr (⟨dst,op,some (t,b)⟩::r) K s:=by
 cases w
 exact⟨_,hx,λC=>absurd C G,λ_=>h⟩;exact⟨_,hx,λC=>absurd C G,λ_=>h⟩
theorem Qh0 {dr:Dr} (hx:lk s.fr t=some .undef) (h:Qey P w dr r K (s.apply dst .undef none)):Qey P w dr (⟨dst,op,some (t,b)⟩::r) K s:=by
 cases w
 exact⟨_,hx,h⟩;exact⟨_,hx,h⟩
theorem RE (h:∀K:St->Prop,(∀s',Q .normal s'->K s')->TJ P true (Dr.of s.H true) ops K s):TW P nt (.na ops) Q s:=
 QmS (Qpp (h _ λ_ h=>h))
theorem Qd {dr:Bool} {l:List Nat} {b:z5} (h:∀K:St->Prop,(∀fr H,TW P nt b Q ⟨Zf l fr,H⟩->K ⟨fr,H⟩)->run P (Dr.of s.H dr) ops K s):TW P nt (.seq (.region dr ops) l b) Q s:=by
 cases dr
 exact Qwp λK C=>Ye (h K C);exact QrW λK C=>Qbx (h K C)
theorem QJ {dr:Bool} (h:∀K:St->Prop,(∀s',Q .normal s'->K s')->run P (Dr.of s.H dr) ops K s):TW P nt (.region dr ops) Q s:=by
 cases dr
 exact QrV λK C=>Ye (h K C);exact Qm2 λK C=>Qbx (h K C)
end
variable {H H' HF:QEf} {args:List y5} {pr:Bool} {bytes l0 et g:Nat} {cs ds' row' xs:List D} {p q:D} {e:AExit} {fr fr':QEg} {h n:Int} {hi lo:Option y5} {ki kj:IntKind} {kk:List (List D)->Bool->Prop} {ks ts:List Nat} {l:List UInt8} {rows rs ys:List (List D)} {v x y:y5} {β:Type}
theorem Qn {e:Int} (G: -9223372036854775808<=e) (C:e<=9223372036854775807):IntKind.i64.wrap e=e:=by
 unfold IntKind.wrap;simp[IntKind.bits,IntKind.signed]
 grind
theorem Qly {e:Int} (G: -2147483648<=e) (C:e<=2147483647):IntKind.i32.wrap e=e:=by
 unfold IntKind.wrap;simp[IntKind.bits,IntKind.signed]
 grind
theorem Qre {e:Int} (G:0<=e) (C:e<=255):IntKind.u8.wrap e=e:=by
 unfold IntKind.wrap;simp[IntKind.bits,IntKind.signed,if_false];omega
section
variable {P:Program} {dr:Dr} {r:List u3} {K:St->Prop} {s:St} {dst:Option Nat} {op:s6}
theorem Tg {p q ds:List Nat} (hp:pk op s=p) (hw:wk op s=q) (C:M7 op dst r=ds) (ho:dr.ok r.length (GK op p) (Hy op q)=true) (h:step P dr.dr op dst s λs'=>run P (dr.nx ds (GK op p) (Hy op q)) r K s'):run P dr (⟨dst,op,none⟩::r) K s:=by
 subst hp hw C;exact .inl ⟨ho,h⟩
theorem Zd (hp:pk op s=[]) (hw:wk op s=[]) (h:step P dr.dr op dst s λs'=>run P dr r K s'):run P dr (⟨dst,op,none⟩::r) K s:=by
 refine Tg hp hw rfl (by rw[Rw,Rx];cases dr<;>rfl) ?_
 rw[Rw,Rx];have:dr.nx (M7 op dst r) [] []=dr:=by cases dr<;>rfl
 grind
theorem X8 (h:step P false op dst s λs'=>run P .fixed r K s'):run P .fixed (⟨dst,op,none⟩::r) K s:=.inl ⟨rfl,h⟩
theorem pk1 (C:op.ca=[x]) (hx:s.ev x=some p):pk op s=p.ids:=by
 grind [pk,QeV]
theorem Qhz:∀{args:List y5} {ds:List D},Zh s args=some ds->(args.flatMap λx=>QeV (s.ev x))=ds.flatMap D.ids
 |[],ds,h=>by grind [Zh]
 |x::xs,ds,h=>by
  simp[Zh]at h;split at h;rename_i d ds' e1 e2;cases h
  simp[e1];exact congrArg _ (Qhz e2)
  grind
end
section
variable {P:Program} {dr:Dr} {r:List u3} {K:St->Prop} {fr:QEg} {H:QEf} {t:Nat}
theorem Qaz (h:K ⟨fr,H⟩):run P dr [] K ⟨fr,H⟩:=h
theorem Qb (hx:St.ev ⟨fr,H⟩ x=some d) (k:run P dr r K ⟨(t,d)::fr,H⟩):run P dr (⟨some t,.wb x,none⟩::r) K ⟨fr,H⟩:=Zd rfl rfl ⟨d,hx,k⟩
theorem Qh {c:y5} (C:St.ev ⟨fr,H⟩ c=some (.bool b)) (hx:St.ev ⟨fr,H⟩ (if b=true then x else y)=some d) (k:run P dr r K ⟨(t,d)::fr,H⟩):run P dr (⟨some t,.pick c x y,none⟩::r) K ⟨fr,H⟩:=Zd rfl rfl ⟨_,C,b,rfl,d,hx,k⟩
theorem Zk {cells:List D} (C:lk H t=none) (k:run P dr r K ⟨(t,.ref t 0 0)::fr,(t,QeT et cells)::H⟩):run P dr (⟨some t,.alloc et cells,none⟩::r) K ⟨fr,H⟩:=Zd rfl rfl ⟨t,rfl,C,k⟩
theorem Zu {v:D} {cells:List D} (hx:St.ev ⟨fr,H⟩ x=some v) (G:v.cells=some cells) (C:lk H t=none) (k:run P dr r K ⟨(t,.ref t 0 0)::fr,(t,QeT et cells)::H⟩):run P dr (⟨some t,.box et x,none⟩::r) K ⟨fr,H⟩:=Zd rfl rfl ⟨t,rfl,v,hx,cells,G,C,k⟩
theorem Zz {zero:List D} {parts:List (Nat × Nat × y5)} {C:List (Nat × Nat × D)} (G:X1 ⟨fr,H⟩ parts=some C) (M:Sj zero C=some ds) (k:run P dr r K ⟨(t,.agg ds)::fr,H⟩):run P dr (⟨some t,.build zero parts,none⟩::r) K ⟨fr,H⟩:=Zd rfl rfl ⟨C,G,ds,M,k⟩
theorem QZ {parts:List y5} (C:XB ⟨fr,H⟩ l0 parts=some rows) (G:lk H t=none) (k:run P dr r K ⟨(t,.u4 t parts.length)::fr,(t,⟨rows,l0,et,rows.all λr=>r.all λd=>d.y4.isEmpty⟩)::H⟩):run P dr (⟨some t,.buildSlice l0 et parts,none⟩::r) K ⟨fr,H⟩:=Zd rfl rfl (.inl ⟨t,rfl,rows,C,G,k⟩)
theorem Zo {parts:List y5} (C:XB ⟨fr,H⟩ l0 parts=some rows) (hp:(rows.all λr=>r.all λd=>d.y4.isEmpty)=true) (k:run P dr r K ⟨(t,.u7 rows)::fr,H⟩):run P dr (⟨some t,.buildSlice l0 et parts,none⟩::r) K ⟨fr,H⟩:=Zd rfl rfl (.inr ⟨rows,C,hp,k⟩)
theorem Qr {cells:List D} (hx:St.ev ⟨fr,H⟩ x=some p) (ha:St.md ⟨fr,H⟩ p=some cells) (hd:cells.head?=some d) (k:run P .fixed r K ⟨(t,d)::fr,H⟩):run P .fixed (⟨some t,.load false sz x,none⟩::r) K ⟨fr,H⟩:=X8 ⟨p,hx,cells,ha,d,hd,k⟩
theorem QB {cells:List D} (hx:St.ev ⟨fr,H⟩ x=some p) (ha:St.md ⟨fr,H⟩ p=some cells) (C:Nat.ble sz cells.length=true) (G:cells.take sz=cs) (k:run P .fixed r K ⟨(t,.agg cs)::fr,H⟩):run P .fixed (⟨some t,.load true sz x,none⟩::r) K ⟨fr,H⟩:=X8 ⟨p,hx,cells,ha,QEi C,G ▸ k⟩
theorem Za {kk:Nat} {b:x4} {cells:List D} (hx:St.ev ⟨fr,H⟩ x=some (.ref kk i off)) (hb:lk H kk=some b) (hr:b.rows[i]?=some row) (G:St.ev ⟨fr,H⟩ v=some q) (O:q.cells=some cells)
 (M:cells.length=sz) (ho:Nat.ble (off+sz) row.length=true) (C:setRow row off cells=row')
 (k:run P .fixed r K ⟨fr,(kk,{b with rows:=b.rows.set i row',pr:=b.pr&&cells.all λd=>d.y4.isEmpty})::H⟩):run P .fixed (⟨none,.store sz x v,none⟩::r) K ⟨fr,H⟩:=X8 ⟨_,hx,b,hb,row,hr,q,G,cells,O,M,QEi ho,C ▸ k⟩
section
variable {H0:QEf} {R W:List (Nat × List Nat)} {ds0:List Nat}
theorem QG {cells:List D} (hx:St.ev ⟨fr,H⟩ x=some p) (ha:St.md ⟨fr,H⟩ p=some cells) (hd:cells.head?=some d) (ho:(Dr.drawn H0 R W).ok r.length (p.ids.map (2*·)) []=true) (C:M7 (.load false sz x) (some t) r=ds0) (k:run P (.drawn H0 ((p.ids.map (2*·)).map (·,ds0)++R) W) r K ⟨(t,d)::fr,H⟩):run P (.drawn H0 R W) (⟨some t,.load false sz x,none⟩::r) K ⟨fr,H⟩:=
 Tg (pk1 rfl hx) rfl C ho ⟨p,hx,cells,ha,d,hd,k⟩
theorem QY {cells:List D} (hx:St.ev ⟨fr,H⟩ x=some p) (ha:St.md ⟨fr,H⟩ p=some cells) (G:Nat.ble sz cells.length=true) (M:cells.take sz=cs) (ho:(Dr.drawn H0 R W).ok r.length (p.ids.map (2*·)) []=true) (C:M7 (.load true sz x) (some t) r=ds0) (k:run P (.drawn H0 ((p.ids.map (2*·)).map (·,ds0)++R) W) r K ⟨(t,.agg cs)::fr,H⟩):run P (.drawn H0 R W) (⟨some t,.load true sz x,none⟩::r) K ⟨fr,H⟩:=
 Tg (pk1 rfl hx) rfl C ho ⟨p,hx,cells,ha,QEi G,M ▸ k⟩
theorem YR {kk:Nat} {b:x4} {cells:List D} (hx:St.ev ⟨fr,H⟩ x=some (.ref kk i off)) (hb:lk H kk=some b) (hr:b.rows[i]?=some row) (O:St.ev ⟨fr,H⟩ v=some q) (U:q.cells=some cells)
 (T:cells.length=sz) (ho:Nat.ble (off+sz) row.length=true) (C:setRow row off cells=row') (G:(Dr.drawn H0 R W).ok r.length [2*kk] [2*kk]=true) (M:M7 (.store sz x v) none r=ds0)
 (k:run P (.drawn H0 ((2*kk,ds0)::R) ((2*kk,ds0)::W)) r K ⟨fr,(kk,{b with rows:=b.rows.set i row',pr:=b.pr&&cells.all λd=>d.y4.isEmpty})::H⟩):run P (.drawn H0 R W) (⟨none,.store sz x v,none⟩::r) K ⟨fr,H⟩:=
 Tg (q:=[kk]) (pk1 rfl hx) (by simp[wk,hx];rfl) M G ⟨_,hx,b,hb,row,hr,q,O,cells,U,T,QEi ho,C ▸ k⟩
theorem XW {i:y5} {b:x4} (hi:St.ev ⟨fr,H⟩ i=some (.int ki n)) (hx:St.ev ⟨fr,H⟩ x=some (.u4 j m)) (hb:lk H j=some b) (hm:m=b.rows.length) (h0:0<=n) (O:n<m) (M:b.l0=l0) (C:(Dr.drawn H0 R W).ok r.length [2*j+1] []=true) (G:YV [t] r=ds0) (k:run P (.drawn H0 ((2*j+1,ds0)::R) W) r K ⟨(t,.ref j n.toNat 0)::fr,H⟩):run P (.drawn H0 R W) (⟨some t,.indexAddr l0 x i,none⟩::r) K ⟨fr,H⟩:=
 Tg (pk1 rfl hx) rfl G C ⟨_,hi,_,hx,b,hb,hm,h0,O,M,k⟩
theorem Zi (C:Ok P f ds' d) (ha:Zh ⟨fr,H⟩ args=some ds) (hd:ds.map (XX ⟨fr,H⟩)=ds') (hp:ds.all D.pure=true\/d.flat=true) (ho:(Dr.drawn H0 R W).ok r.length ((ds.flatMap D.ids).map (2*·)) []=true) (G:YV [t] r=ds0) (k:run P (.drawn H0 (((ds.flatMap D.ids).map (2*·)).map (·,ds0)++R) W) r K ⟨(t,d)::fr,H⟩):run P (.drawn H0 R W) (⟨some t,.call f args,none⟩::r) K ⟨fr,H⟩:=
 Tg (Qhz ha) rfl G ho ⟨ds,ha,d,hd ▸ C,hp,k⟩
theorem QeY (hx:St.ev ⟨fr,H⟩ x=some (.u7 rows)) (M:St.ev ⟨fr,H⟩ y=some q) (O:∀kk:List (List D)->Bool->Prop,kk ys pr->D3 ⟨fr,H⟩ l0 q kk) (T:lk H t=none) (C:rows=[]\/ys≠[]) (he:∀r∈rows,r.length=l0) (hb:(rows.length+ys.length)*bytes<=140737488355328) (U:rows.length+ys.length<=4611686018427387904) (ho:(Dr.drawn H0 R W).ok r.length (q.ids.map (2*·)) []=true) (G:YV [t] r=ds0)
 (k:run P (.drawn H0 ((q.ids.map (2*·)).map (·,ds0)++R) W) r K ⟨(t,.u4 t (rows.length+ys.length))::fr,(t,⟨rows++ys,l0,et,pr⟩)::H⟩):run P (.drawn H0 R W) (⟨some t,.append l0 et bytes x y,none⟩::r) K ⟨fr,H⟩:=
 Tg (by unfold pk;simp[s6.ca,hx,M,QEN];rfl) rfl G ho ⟨_,hx,q,M,O (λys pr=>QlK true l0 et bytes (some t) ⟨fr,H⟩ (.u7 rows) ys pr λs'=>run P (.drawn H0 ((q.ids.map (2*·)).map (·,ds0)++R) W) r K s') ⟨t,rfl,T,C,he,hb,U,k⟩⟩
theorem Qjj {p q:List Nat} {ef:QEf} (he:EF P (λk=>(lk H0 k).isSome=true) op dst ⟨fr,H⟩ p q d ef) (ho:(Dr.drawn H0 R W).ok r.length (GK op p) (Hy op q)=true) (C:N0 op dst r=ds0)
 (k:run P (.drawn H0 ((GK op p).map (·,ds0)++R) ((Hy op q).map (·,ds0)++W)) r K (St.s8 ⟨fr,H⟩ dst d ef)):run P (.drawn H0 R W) (⟨dst,op,none⟩::r) K ⟨fr,H⟩:=by
 subst C;exact .inr (.inl ⟨p,q,d,ef,he,ho,k⟩)
theorem LF {kk C:Nat} {b b':x4} (M:QdZ P f args ⟨fr,H⟩ HF kk t b b' C) (O:∀j∈HF.map Prod.fst,(lk H0 j).isSome=true) (ho:(Dr.drawn H0 R W).ok r.length ((kk::HF.map Prod.fst).map (2*·)) [2*kk,2*kk+1]=true) (G:N0 (.call f args) (some t) r=ds0)
 (k:run P (.drawn H0 (((kk::HF.map Prod.fst).map (2*·)).map (·,ds0)++R) ((2*kk,ds0)::(2*kk+1,ds0)::W)) r K ⟨(t,.u4 t C)::fr,(t,b')::(kk,Yn)::H⟩):run P (.drawn H0 R W) (⟨some t,.call f args,none⟩::r) K ⟨fr,H⟩:=
 Qjj (.inr (.inl ⟨HF,kk,t,b,b',C,rfl,M,O,rfl,rfl,rfl,rfl⟩)) ho G k
theorem Jg {kk n:Nat} {b:x4} (hx:St.ev ⟨fr,H⟩ x=some (.u4 kk n)) (T:St.ev ⟨fr,H⟩ y=some q) (V:kk∉q.ids) (U:St.src ⟨fr,H⟩ l0 q ys pr) (Y:lk H t=none)
 (hb:lk H kk=some b) (hl:n=b.rows.length) (he:b.l0=l0) (het:b.et=et) (O:(n+ys.length)*bytes<=140737488355328) (hc:n+ys.length<=4611686018427387904) (ho:(Dr.drawn H0 R W).ok r.length ((kk::q.ids).map (2*·)) [2*kk,2*kk+1]=true) (M:YV [t] r=ds0)
 (k:run P (.drawn H0 (((kk::q.ids).map (2*·)).map (·,ds0)++R) ((2*kk,ds0)::(2*kk+1,ds0)::W)) r K ⟨(t,.u4 t (n+ys.length))::fr,(t,⟨b.rows++ys,l0,et,b.pr&&pr⟩)::(kk,Yn)::H⟩) (G:kk<1000000:=by decide) (C:t<1000000:=by decide):run P (.drawn H0 R W) (⟨some t,.append l0 et bytes x y,none⟩::r) K ⟨fr,H⟩:=
 Qjj ⟨t,kk,n,b,q,ys,pr,rfl,hx,G,Y,C,hb,hl,he,het,T,V,U,O,hc,rfl,rfl,rfl,rfl⟩ ho M k
end
theorem RD {Hn Hu:QEf} (C:Kx P f args ⟨fr,H⟩ HF Hn Hu d) (k:run P .fixed r K ⟨(t,d)::fr,Hn++(Hu++H)⟩):run P .fixed (⟨some t,.call f args,none⟩::r) K ⟨fr,H⟩:=
 .inr (.inr (.inl ⟨f,args,HF,Hn,Hu,d,rfl,.inl rfl,C,k⟩))
theorem QeZ (ks:List Nat) (G:∀k∈ks,k<1000000) (M:St.m9 ks ⟨fr,H⟩=⟨fr',H'⟩) (C:Ok P f ds' d) (ha:Zh ⟨fr',H'⟩ args=some ds) (hd:ds.map (XX ⟨fr',H'⟩)=ds') (hp:ds.all D.pure=true\/d.flat=true)
 (k:run P .fixed r K ⟨(t,d)::fr',H'⟩):run P .fixed (⟨some t,.call f args,none⟩::r) K ⟨fr,H⟩:=
 .inr (.inr (.inr ⟨⟨fr',H'⟩,d,none,rfl,λ_ _ _ _ r=>M ▸ Rel.m9 ks r G,⟨rfl,ds,ha,hd ▸ C,hp⟩,k⟩))
theorem Zm (hx:St.ev ⟨fr,H⟩ x=some p) (hp:p.xd=true) (k:run P dr r K ⟨(t,p)::fr,H⟩):run P dr (⟨some t,.nilCheck x,none⟩::r) K ⟨fr,H⟩:=Zd rfl rfl ⟨p,hx,hp,k⟩
section
variable {bt:Bool} {x y:y5} {ki:IntKind} {m n z:Int}
theorem Q2 (hx:St.ev ⟨fr,H⟩ x=some (.int ki m)) (G:St.ev ⟨fr,H⟩ y=some (.int ki n)) (C:ki.wrap (m+n)=z) (k:run P dr r K ⟨(t,.int ki z)::fr,H⟩):run P dr (⟨some t,.bin .add bt x y,none⟩::r) K ⟨fr,H⟩:=by subst C;exact Zd rfl rfl ⟨_,hx,_,G,.inr rfl,k⟩
theorem J7 (hx:St.ev ⟨fr,H⟩ x=some (.int ki m)) (G:St.ev ⟨fr,H⟩ y=some (.int ki n)) (C:ki.wrap (m - n)=z) (k:run P dr r K ⟨(t,.int ki z)::fr,H⟩):run P dr (⟨some t,.bin .sub bt x y,none⟩::r) K ⟨fr,H⟩:=by subst C;exact Zd rfl rfl ⟨_,hx,_,G,.inr rfl,k⟩
theorem Qe3 (hx:St.ev ⟨fr,H⟩ x=some (.int ki m)) (G:St.ev ⟨fr,H⟩ y=some (.int ki n)) (C:ki.wrap (m*n)=z) (k:run P dr r K ⟨(t,.int ki z)::fr,H⟩):run P dr (⟨some t,.bin .mul bt x y,none⟩::r) K ⟨fr,H⟩:=by subst C;exact Zd rfl rfl ⟨_,hx,_,G,.inr rfl,k⟩
theorem QrT (hx:St.ev ⟨fr,H⟩ x=some (.int ki m)) (G:St.ev ⟨fr,H⟩ y=some (.int ki n)) (h0:n≠0) (C:ki.wrap (m.tdiv n)=z) (k:run P dr r K ⟨(t,.int ki z)::fr,H⟩):run P dr (⟨some t,.bin .quo bt x y,none⟩::r) K ⟨fr,H⟩:=by subst C;exact Zd rfl rfl ⟨_,hx,_,G,.inr rfl,h0,k⟩
theorem Qwl (hx:St.ev ⟨fr,H⟩ x=some (.int ki m)) (C:St.ev ⟨fr,H⟩ y=some (.int ki n)) (h0:n≠0) (k:run P dr r K ⟨(t,.int ki (m.tmod n))::fr,H⟩):run P dr (⟨some t,.bin .rem bt x y,none⟩::r) K ⟨fr,H⟩:=Zd rfl rfl ⟨_,hx,_,C,.inr rfl,h0,k⟩
theorem Yp (hx:St.ev ⟨fr,H⟩ x=some (.int ki m)) (C:St.ev ⟨fr,H⟩ y=some (.int ki n)) (k:run P dr r K ⟨(t,.bool (decide (m=n)))::fr,H⟩):run P dr (⟨some t,.bin .eql bt x y,none⟩::r) K ⟨fr,H⟩:=Zd rfl rfl ⟨_,hx,_,C,.inr rfl,k⟩
theorem Ys (hx:St.ev ⟨fr,H⟩ x=some (.int ki m)) (C:St.ev ⟨fr,H⟩ y=some (.int ki n)) (k:run P dr r K ⟨(t,.bool (!decide (m=n)))::fr,H⟩):run P dr (⟨some t,.bin .neq bt x y,none⟩::r) K ⟨fr,H⟩:=Zd rfl rfl ⟨_,hx,_,C,.inr rfl,k⟩
theorem ZK (hx:St.ev ⟨fr,H⟩ x=some (.int ki m)) (C:St.ev ⟨fr,H⟩ y=some (.int ki n)) (k:run P dr r K ⟨(t,.bool (decide (m<n)))::fr,H⟩):run P dr (⟨some t,.bin .lss bt x y,none⟩::r) K ⟨fr,H⟩:=Zd rfl rfl ⟨_,hx,_,C,.inr rfl,k⟩
theorem Cr (hx:St.ev ⟨fr,H⟩ x=some (.int ki m)) (C:St.ev ⟨fr,H⟩ y=some (.int ki n)) (k:run P dr r K ⟨(t,.bool (decide (m<=n)))::fr,H⟩):run P dr (⟨some t,.bin .leq bt x y,none⟩::r) K ⟨fr,H⟩:=Zd rfl rfl ⟨_,hx,_,C,.inr rfl,k⟩
theorem Jh (hx:St.ev ⟨fr,H⟩ x=some (.int ki m)) (C:St.ev ⟨fr,H⟩ y=some (.int ki n)) (k:run P dr r K ⟨(t,.bool (decide (n<m)))::fr,H⟩):run P dr (⟨some t,.bin .gtr bt x y,none⟩::r) K ⟨fr,H⟩:=Zd rfl rfl ⟨_,hx,_,C,.inr rfl,k⟩
theorem Gw (hx:St.ev ⟨fr,H⟩ x=some (.int ki m)) (C:St.ev ⟨fr,H⟩ y=some (.int ki n)) (k:run P dr r K ⟨(t,.bool (decide (n<=m)))::fr,H⟩):run P dr (⟨some t,.bin .geq bt x y,none⟩::r) K ⟨fr,H⟩:=Zd rfl rfl ⟨_,hx,_,C,.inr rfl,k⟩
end
section
variable {x y:y5} {m n:Bool}
theorem Qay (hx:St.ev ⟨fr,H⟩ x=some (.bool m)) (C:St.ev ⟨fr,H⟩ y=some (.bool n)) (k:run P dr r K ⟨(t,.bool (decide (m=n)))::fr,H⟩):run P dr (⟨some t,.bin .eql true x y,none⟩::r) K ⟨fr,H⟩:=Zd rfl rfl ⟨_,hx,_,C,rfl,k⟩
theorem QrS (hx:St.ev ⟨fr,H⟩ x=some (.bool m)) (C:St.ev ⟨fr,H⟩ y=some (.bool n)) (k:run P dr r K ⟨(t,.bool (!decide (m=n)))::fr,H⟩):run P dr (⟨some t,.bin .neq true x y,none⟩::r) K ⟨fr,H⟩:=Zd rfl rfl ⟨_,hx,_,C,rfl,k⟩
end
section
variable {bt:Bool} {x y:y5} {m n:List UInt8}
theorem HB (hx:St.ev ⟨fr,H⟩ x=some (.str m)) (C:St.ev ⟨fr,H⟩ y=some (.str n)) (k:run P dr r K ⟨(t,.bool (decide (m=n)))::fr,H⟩):run P dr (⟨some t,.bin .eql bt x y,none⟩::r) K ⟨fr,H⟩:=Zd rfl rfl ⟨_,hx,_,C,k⟩
theorem QdQ (hx:St.ev ⟨fr,H⟩ x=some (.str m)) (C:St.ev ⟨fr,H⟩ y=some (.str n)) (k:run P dr r K ⟨(t,.bool (!decide (m=n)))::fr,H⟩):run P dr (⟨some t,.bin .neq bt x y,none⟩::r) K ⟨fr,H⟩:=Zd rfl rfl ⟨_,hx,_,C,k⟩
theorem Qjl (hx:St.ev ⟨fr,H⟩ x=some (.str m)) (C:St.ev ⟨fr,H⟩ y=some (.str n)) (k:run P dr r K ⟨(t,.bool (Op.bytesLess m n))::fr,H⟩):run P dr (⟨some t,.bin .lss bt x y,none⟩::r) K ⟨fr,H⟩:=Zd rfl rfl ⟨_,hx,_,C,k⟩
theorem QrR (hx:St.ev ⟨fr,H⟩ x=some (.str m)) (C:St.ev ⟨fr,H⟩ y=some (.str n)) (k:run P dr r K ⟨(t,.bool (!(Op.bytesLess m n||decide (m=n))))::fr,H⟩):run P dr (⟨some t,.bin .gtr bt x y,none⟩::r) K ⟨fr,H⟩:=Zd rfl rfl ⟨_,hx,_,C,k⟩
end
theorem QrP {neg:Bool} {ys:List D} (hx:St.ev ⟨fr,H⟩ x=some (.agg xs)) (C:St.ev ⟨fr,H⟩ y=some (.agg ys)) (he:Fz ks xs ys=some b) (k:run P dr r K ⟨(t,.bool (if neg=true then !b else b))::fr,H⟩):run P dr (⟨some t,.eqs neg ks x y,none⟩::r) K ⟨fr,H⟩:=Zd rfl rfl ⟨_,hx,_,C,xs,rfl,ys,rfl,b,he,k⟩
theorem TO {ys:List D} (hx:St.ev ⟨fr,H⟩ x=some (.agg xs)) (C:St.ev ⟨fr,H⟩ y=some (.agg ys)) (he:Fz ks xs ys=some b) (k:run P dr r K ⟨(t,.bool b)::fr,H⟩):run P dr (⟨some t,.eqs false ks x y,none⟩::r) K ⟨fr,H⟩:=QrP hx C he k
theorem QrQ {ys:List D} (hx:St.ev ⟨fr,H⟩ x=some (.agg xs)) (C:St.ev ⟨fr,H⟩ y=some (.agg ys)) (he:Fz ks xs ys=some b) (k:run P dr r K ⟨(t,.bool (!b))::fr,H⟩):run P dr (⟨some t,.eqs true ks x y,none⟩::r) K ⟨fr,H⟩:=QrP hx C he k
theorem Zp (hx:St.ev ⟨fr,H⟩ x=some (.bool b)) (k:run P dr r K ⟨(t,.bool (!b))::fr,H⟩):run P dr (⟨some t,.un .not x,none⟩::r) K ⟨fr,H⟩:=Zd rfl rfl ⟨_,hx,k⟩
theorem Qe1 {m z:Int} (hx:St.ev ⟨fr,H⟩ x=some (.int ki m)) (C:kj.wrap m=z) (k:run P dr r K ⟨(t,.int kj z)::fr,H⟩):run P dr (⟨some t,.conv kj x,none⟩::r) K ⟨fr,H⟩:=Zd rfl rfl ⟨_,hx,_,rfl,C ▸ k⟩
theorem MT {C:List (List D)} {l:Int} (hx:St.ev ⟨fr,H⟩ x=some p) (hr:p.rows?=some rows) (M:St.kb ⟨fr,H⟩ lo 0=some l) (O:St.kb ⟨fr,H⟩ hi rows.length=some h)
 (h0:0<=l) (U:l<=h) (T:h<=rows.length) (he:∀r∈rows,r.length=l0) (G:(rows.take h.toNat).drop l.toNat=C) (k:run P dr r K ⟨(t,.sl C)::fr,H⟩):run P dr (⟨some t,.slice l0 x lo hi none,none⟩::r) K ⟨fr,H⟩:=Zd rfl rfl (.inl ⟨p,hx,rows,hr,l,M,h,O,h0,U,T,he,G ▸ k⟩)
theorem Ft {c c':List UInt8} {l:Int} (hx:St.ev ⟨fr,H⟩ x=some (.str c)) (G:St.kb ⟨fr,H⟩ lo 0=some l) (M:St.kb ⟨fr,H⟩ hi c.length=some h)
 (h0:0<=l) (T:l<=h) (O:h<=c.length) (C:(c.take h.toNat).drop l.toNat=c') (k:run P dr r K ⟨(t,.str c')::fr,H⟩):run P dr (⟨some t,.o8 x lo hi,none⟩::r) K ⟨fr,H⟩:=Zd rfl rfl ⟨_,hx,c,rfl,l,G,h,M,h0,T,O,C ▸ k⟩
theorem Q7 {cells:List D} (hx:St.ev ⟨fr,H⟩ x=some (.ptr cells)) (ho:Nat.ble off cells.length=true) (k:run P dr r K ⟨(t,.ptr (cells.drop off))::fr,H⟩):run P dr (⟨some t,.fieldAddr off x,none⟩::r) K ⟨fr,H⟩:=Zd rfl rfl ⟨_,hx,QEi ho,k⟩
theorem Qe {kk:Nat} (hx:St.ev ⟨fr,H⟩ x=some (.ref kk i j)) (hk:(lk H kk).isSome=true) (k:run P dr r K ⟨(t,.ref kk i (j+off))::fr,H⟩):run P dr (⟨some t,.fieldAddr off x,none⟩::r) K ⟨fr,H⟩:=Zd rfl rfl ⟨_,hx,hk,k⟩
theorem Qt {i:y5} (hi:St.ev ⟨fr,H⟩ i=some (.int ki n)) (hx:St.ev ⟨fr,H⟩ x=some p) (hp:p.rows?=some rows) (h0:0<=n) (hr:rows[n.toNat]?=some row) (C:row.length=l0) (k:run P dr r K ⟨(t,.ptr row)::fr,H⟩):run P dr (⟨some t,.indexAddr l0 x i,none⟩::r) K ⟨fr,H⟩:=by
 refine Zd (by rw[pk1 rfl hx];cases p<;>first |rfl |trivial) rfl ?_
 refine⟨_,hi,_,hx, ?_⟩;cases p<;>simp[D.rows?,reduceCtorEq]at hp;subst hp;exact⟨row,h0,hr,C,k⟩;subst hp;exact⟨row,h0,hr,C,k⟩
theorem ZE {i:y5} {b:x4} (hi:St.ev ⟨fr,H⟩ i=some (.int ki n)) (hx:St.ev ⟨fr,H⟩ x=some (.u4 j m)) (hb:lk H j=some b) (hm:m=b.rows.length) (h0:0<=n) (G:n<m) (C:b.l0=l0) (k:run P .fixed r K ⟨(t,.ref j n.toNat 0)::fr,H⟩):run P .fixed (⟨some t,.indexAddr l0 x i,none⟩::r) K ⟨fr,H⟩:=X8 ⟨_,hi,_,hx,b,hb,hm,h0,G,C,k⟩
theorem YK {i:y5} {c:UInt8} (hi:St.ev ⟨fr,H⟩ i=some (.int ki n)) (hx:St.ev ⟨fr,H⟩ x=some (.str l)) (h0:0<=n) (C:l[n.toNat]?=some c) (k:run P dr r K ⟨(t,.int .u8 c.toNat)::fr,H⟩):run P dr (⟨some t,.y8 x i,none⟩::r) K ⟨fr,H⟩:=Zd rfl rfl ⟨_,hi,_,hx,c,h0,C,k⟩
theorem QN (hx:St.ev ⟨fr,H⟩ x=some (.g8 ds)) (hd:ds[i]?=some d) (k:run P dr r K ⟨(t,d)::fr,H⟩):run P dr (⟨some t,.extract i x,none⟩::r) K ⟨fr,H⟩:=Zd rfl rfl ⟨_,hx,ds,rfl,d,hd,k⟩
theorem QW (hx:St.ev ⟨fr,H⟩ x=some p) (C:QgQ p=some n) (k:run P dr r K ⟨(t,.int .i64 n)::fr,H⟩):run P dr (⟨some t,.len x,none⟩::r) K ⟨fr,H⟩:=Zd rfl rfl ⟨p,hx,n,C,k⟩
theorem YQ (hx:St.ev ⟨fr,H⟩ x=some (.str l)) (k:run P dr r K ⟨(t,.int .i64 l.length)::fr,H⟩):run P dr (⟨some t,.z9 x,none⟩::r) K ⟨fr,H⟩:=Zd rfl rfl ⟨_,hx,l,rfl,k⟩
theorem Qjn {m:Int} (hx:St.ev ⟨fr,H⟩ x=some (.int ki m)) (C:St.ev ⟨fr,H⟩ y=some (.int kj n)) (k:run P dr r K ⟨(t,.int ki (min m n))::fr,H⟩):run P dr (⟨some t,.min x y,none⟩::r) K ⟨fr,H⟩:=Zd rfl rfl ⟨_,hx,_,C,k⟩
theorem GL (hx:St.ev ⟨fr,H⟩ x=some (.u7 rows)) (G:St.ev ⟨fr,H⟩ y=some q) (M:∀kk:List (List D)->Bool->Prop,kk ys pr->D3 ⟨fr,H⟩ l0 q kk) (O:lk H t=none) (C:rows=[]\/ys≠[]) (he:∀r∈rows,r.length=l0) (hb:(rows.length+ys.length)*bytes<=140737488355328) (T:rows.length+ys.length<=4611686018427387904)
 (k:run P .fixed r K ⟨(t,.u4 t (rows.length+ys.length))::fr,(t,⟨rows++ys,l0,et,pr⟩)::H⟩):run P .fixed (⟨some t,.append l0 et bytes x y,none⟩::r) K ⟨fr,H⟩:=X8 ⟨_,hx,q,G,M _ ⟨t,rfl,O,C,he,hb,T,k⟩⟩
theorem Qaf (he:∀r∈rs,r.length=l0) (h:kk rs true):D3 s l0 (.u7 rs) kk:=⟨he,h⟩
theorem GE (he:∀r∈rs,r.length=l0) (h:kk rs true):D3 s l0 (.sl rs) kk:=⟨he,h⟩
theorem YZ {n:Nat} {b:x4} (hb:lk s.H j=some b) (C:n=b.rows.length) (he:b.l0=l0) (h:kk b.rows b.pr):D3 s l0 (.u4 j n) kk:=⟨b,hb,C,he,h⟩
theorem QA (C:Ok P f ds' d) (ha:Zh ⟨fr,H⟩ args=some ds) (hd:ds.map (XX ⟨fr,H⟩)=ds') (hp:ds.all D.pure=true\/d.flat=true) (k:run P .fixed r K ⟨(t,d)::fr,H⟩):run P .fixed (⟨some t,.call f args,none⟩::r) K ⟨fr,H⟩:=X8 ⟨ds,ha,d,hd ▸ C,hp,k⟩
theorem Qe4 (hx:St.ev ⟨fr,H⟩ x=some (.str l)) (C:lk H t=none) (k:run P dr r K ⟨(t,.ref t 0 0)::fr,(t,⟨[],0,ZM l 0,false⟩)::H⟩):run P dr (⟨some t,.range x,none⟩::r) K ⟨fr,H⟩:=Zd rfl rfl ⟨t,rfl,_,hx,l,rfl,C,k⟩
theorem QbS {p c n:Nat} (hx:St.ev ⟨fr,H⟩ x=some (.ref j 0 0)) (hb:lk H j=some ⟨[],0,ZM l p,false⟩) (hp:p<l.length) (hd:Utf8.decode ⟨l.toArray⟩ p=(c,n))
 (k:run P .fixed r K ⟨(t,.g8 [.bool true,.int .i64 p,.int .i32 c])::fr,(j,⟨[],0,ZM l (p+n),false⟩)::H⟩):run P .fixed (⟨some t,.next x,none⟩::r) K ⟨fr,H⟩:=
 X8 ⟨rfl,_,hx,l,p,hb,.inl ⟨hp,by rw[hd];exact k⟩⟩
theorem CA {p:Nat} (hx:St.ev ⟨fr,H⟩ x=some (.ref j 0 0)) (hb:lk H j=some ⟨[],0,ZM l p,false⟩) (hp:¬p<l.length)
 (k:run P .fixed r K ⟨(t,.g8 [.bool false])::fr,H⟩):run P .fixed (⟨some t,.next x,none⟩::r) K ⟨fr,H⟩:=
 X8 ⟨rfl,_,hx,l,p,hb,.inr ⟨hp,k⟩⟩
theorem Qc (h:lk fr g=some (.bool b)) (k:run P dr (⟨dst,op,none⟩::r) K ⟨fr,H⟩) (C:(op.yf&&(dr.dr&&!(Qb9 r).isEmpty))=false:=by rfl):run P dr (⟨dst,op,some (g,b)⟩::r) K ⟨fr,H⟩:=by
 have e:∀p q,dr.nx (N0 op dst r) p q=dr.nx (YV dst.toList r) p q:=λp q=>by
  cases op<;>try rfl
  cases dr
  rfl
  (repeat clear hK K);simp_all [s6.yf,Dr.dr,N0]
 simp only[run]at k;simp only[e]at k;exact⟨_,h,(λ_=>k),λh=>by grind⟩
theorem YN (h:lk fr g=some (.bool (!b))) (k:run P dr r K ⟨(t,.undef)::fr,H⟩):run P dr (⟨some t,op,some (g,b)⟩::r) K ⟨fr,H⟩:=
 ⟨_,h,(λh=>by grind),λ_=>k⟩
theorem Qy (h:lk fr g=some .undef) (k:run P dr r K ⟨(t,.undef)::fr,H⟩):run P dr (⟨some t,op,some (g,b)⟩::r) K ⟨fr,H⟩:=⟨_,h,k⟩
theorem Qq {l:List u3} {c:Bool} (M:lk fr g=some (.bool c)) (G:c=true->run P dr l K ⟨fr,H⟩) (C:c=false->run P dr l K ⟨fr,H⟩):run P dr l K ⟨fr,H⟩:=by
 grind
end
theorem Qo {q:QEg} (h:lk fr t=some d) (C:Zf ts fr=q):Zf (t::ts) fr=(t,d)::q:=by grind [Zf]
theorem QL:Zf [] fr=[]:=rfl
section
variable {P:Program} {nt:Nat} {Q:AExit->St->Prop} {l:List Nat} {b:z5} {fr fr':QEg} {H:QEf}
theorem Zt (h:Zf l fr=fr') (k:TW P nt b Q ⟨fr',H⟩):TW P nt b Q ⟨Zf l fr,H⟩:=h ▸ k
theorem QK (h:Zf l fr=fr') (k:TW P nt b Q ⟨fr',H⟩):Qdz P nt l b Q .normal ⟨fr,H⟩:=by
 grind [Qdz]
end
section
variable {fr:QEg} {H:QEf} {t:Nat} {d p:D}
end
section
variable {fr:QEg} {H:QEf} {t:Nat}
theorem Qg {b':Bool} (h:lk fr t=some (.bool b)) (hb:b=b') (he:e=.ret\/e=.normal:=by first |exact .inl rfl |exact .inr rfl):ua [.tmp t] (.bool b') e ⟨fr,H⟩:=by
 subst hb;rcases he with rfl |rfl<;>exact⟨_,h,rfl⟩
theorem QR {k:IntKind} {b b':Int} (h:lk fr t=some (.int k b)) (hb:b=b') (he:e=.ret\/e=.normal:=by first |exact .inl rfl |exact .inr rfl):ua [.tmp t] (.int k b') e ⟨fr,H⟩:=by
 subst hb;rcases he with rfl |rfl<;>exact⟨_,h,rfl⟩
theorem ZU (h:lk fr t=some p) (hd:XX ⟨fr,H⟩ p=d) (he:e=.ret\/e=.normal:=by first |exact .inl rfl |exact .inr rfl):ua [.tmp t] d e ⟨fr,H⟩:=by
 subst hd;rcases he with rfl |rfl<;>exact⟨_,h,rfl⟩
end
section
variable {fr:QEg} {H:QEf} {t u:Nat}
theorem ZD {C:D} (h:lk fr t=some p) (G:lk fr u=some q) (hd:XX ⟨fr,H⟩ p=d/\XX ⟨fr,H⟩ q=C) (he:e=.ret\/e=.normal:=by first |exact .inl rfl |exact .inr rfl):ua [.tmp t,.tmp u] (.g8 [d,C]) e ⟨fr,H⟩:=by
 obtain⟨rfl,rfl⟩:=hd;rcases he with rfl |rfl<;>exact⟨_,rfl,_,_,rfl,⟨p,h,rfl⟩,_,_,rfl,⟨q,G,rfl⟩,rfl⟩
theorem H4 {cells:List D} (h:lk fr t=some p) (ha:St.md ⟨fr,H⟩ p=some cells) (C:Nat.ble sz cells.length=true) (G:cells.take sz=cs) (hd:XX ⟨fr,H⟩ (.agg cs)=.agg ds) (he:e=.ret\/e=.normal:=by first |exact .inl rfl |exact .inr rfl):ua [.cell t true sz] (.agg ds) e ⟨fr,H⟩:=by
 subst G;rcases he with rfl |rfl<;>exact⟨p,cells,h,Nb.2 ha,by exact⟨QEi C,hd.symm⟩⟩
end
section
variable {P:Program} {nt:Nat} {Q:AExit->St->Prop} {l:List Nat} {b:z5} {s:St} {id i:Nat}
def QgM (st:ι->St) (I:ι->Prop) (Q:AExit->St->Prop):AExit->St->Prop
 | .normal,s=>∃j,s.le (st j)/\I j
 |e,s=>Q e s
theorem HD (st:ι->St) (I:ι->Prop) {a:z5} (h:TW P nt a (QgM st I Q) s) (k:∀j,I j->TW P nt b Q (st j)):TW P nt (.seq a l b) Q s:=
 RB (λcode E g a w hm hp O C r=>wpIn_mono (h code E g a w hm hp O C r) λe a' w' G=>by
  cases e<;>simp only[AQ]at G ⊢
  obtain⟨s',g',⟨j,hle,T⟩,M⟩:=G;exact⟨s',g',Cx hle (k j T),M⟩;trivial;trivial)
theorem Zl {st:ι->St} {I:ι->Prop} (j:ι) (h:s.le (st j)) (C:I j):QgM st I Q .normal s:=⟨j,h,C⟩
theorem YI {st:ι->St} {I:ι->Prop} (h:Q .ret s):QgM st I Q .ret s:=h
theorem QF (h:Q (.exit id) s):Qdz P nt l b Q (.exit id) s:=h
theorem Qi (h:Q .ret s):Qdz P nt l b Q .ret s:=h
theorem Qk (h:Q .normal s):XY id Q .normal s:=h
theorem QD (h:Q .normal s):XY id Q (.exit id) s:=by simp_all [XY]
theorem Yf (C:i≠id) (h:Q (.exit i) s):XY id Q (.exit i) s:=by simp_all [XY]
theorem Qm (h:Q .ret s):XY id Q .ret s:=h
section
variable {ι:Type} {st:ι->St} {I:ι->Prop} {μ:ι->Nat} {j:ι}
theorem Qj (C:ι) (h:s.le (st C)) (G:I C) (hm:μ C<μ j):Lq st I μ j Q .normal s:=⟨C,h,G,hm⟩
theorem Qx (h:Q (.exit id) s):Lq st I μ j Q (.exit id) s:=h
theorem QQ (h:Q .ret s):Lq st I μ j Q .ret s:=h
end
end
def Yj:List Nat->QEf->QEf
 |[],_=>[]
 |t::ts,H=>match lk H t with
  |some d=>(t,d)::Yj ts H
  |none=>Yj ts H
theorem Qa {d:x4} {q:QEf} (h:lk H t=some d) (C:Yj ts H=q):Yj (t::ts) H=(t,d)::q:=by grind [Yj]
theorem Qf:Yj [] H=[]:=rfl
theorem Jv:∀(l:List Nat) (fr:QEf) (t:Nat) (d:x4),lk (Yj l fr) t=some d->lk fr t=some d
 |[],fr,t,d,h=>by cases h
 |u::us,fr,t,d,h=>by
  simp[Yj]at h;split at h;rw[Qz]at h;split at h
  grind
  exact Jv us fr t d h;exact Jv us fr t d h
theorem QM {l lH:List Nat} {fr1:QEg} {H1:QEf} (M:Zf l fr=fr1) (O:Yj lH H=H1) (ef:fr1=fr') (T:H1=H') (hw:wa H' fr'=true) (C:QeR H H'=true:=by rfl):St.le ⟨fr,H⟩ ⟨fr',H'⟩:=by
 subst ef T M O;intro E g a w r;simp only[wa,QEm,QEs]at hw;exact⟨g,r.less (λt d h=>Xi l fr t d h) (λk b h=>Jv lH H k b h) (λt d h k hk=>hw.1 (t,d) (ZJ h) k hk) (λk b h j G=>hw.2 (k,b) (ZJ h) j G) (Ns C)⟩
theorem Z1 (t k l0 et:Nat) (G:lk fr t=some (.u7 [])) (hk:lk H k=none):St.le ⟨fr,H⟩ ⟨(t,.u4 k 0)::fr,(k,⟨[],l0,et,true⟩)::H⟩:=by
 intro E g a w r;obtain⟨g',U,T,C⟩:=r.fb hk;refine⟨g',{C with fr:=λu d h=>?_,da:=λu d h j M=>?_}⟩;rw[Qz]at h;split at h;rename_i e;have O:=C.fr t (.u7 []) G;simp[a7,z4,s4]at O ⊢
 grind
 exact C.fr u d h;rw[Qz]at h;split at h
 grind [D.ids,D.y4,Qz]
 exact C.da u d h j M
section
variable {P:Program} {r:List u3} {K:St->Prop} {fr:QEg} {H:QEf} {t:Nat}
theorem QmW {n:Nat} {b:x4} (hx:St.ev ⟨fr,H⟩ x=some (.u4 k n)) (M:St.ev ⟨fr,H⟩ y=some q) (T:∀kk:List (List D)->Bool->Prop,kk ys pr->D3 ⟨fr,H⟩ l0 q kk)
 (hb:lk H k=some b) (U:n=b.rows.length) (he:b.l0=l0) (O:b.et=et) (hp:(b.pr&&pr)=true\/∀r0∈b.rows++ys,∀d∈r0,k∉d.y4) (G:(n+ys.length)*bytes<=140737488355328) (V:n+ys.length<=4611686018427387904)
 (kk:run P .fixed r K ⟨(t,.u4 k (n+ys.length))::fr.map λp=>(p.1,p.2.n4 k),(k,⟨b.rows++ys,l0,et,b.pr&&pr⟩)::H.map λp=>(p.1,p.2.n4 k)⟩) (C:k<1000000:=by decide):run P .fixed (⟨some t,.append l0 et bytes x y,none⟩::r) K ⟨fr,H⟩:=X8 ⟨_,hx,q,M,T (λys pr=>QlK false l0 et bytes (some t) ⟨fr,H⟩ (.u4 k n) ys pr λs'=>run P .fixed r K s') ⟨rfl,C,b,hb,U,he,O,hp,G,V,kk⟩⟩
theorem Yl {n:Nat} {b:x4} (hx:St.ev ⟨fr,H⟩ x=some (.u4 k n)) (M:St.ev ⟨fr,H⟩ y=some q) (T:∀kk:List (List D)->Bool->Prop,kk ys true->D3 ⟨fr,H⟩ l0 q kk)
 (hb:lk H k=some b) (U:n=b.rows.length) (he:b.l0=l0) (O:b.et=et) (hp:b.pr=true) (G:(n+ys.length)*bytes<=140737488355328) (V:n+ys.length<=4611686018427387904)
 (kk:run P .fixed r K ⟨(t,.u4 k (n+ys.length))::fr.map λp=>(p.1,p.2.n4 k),(k,⟨b.rows++ys,l0,et,true⟩)::H.map λp=>(p.1,p.2.n4 k)⟩) (C:k<1000000:=by decide):run P .fixed (⟨some t,.append l0 et bytes x y,none⟩::r) K ⟨fr,H⟩:=
 QmW hx M T hb U he O (.inl Wc) G V Wc C
end
theorem G4 {l:List α} (h:i<l.length):l[((i:Nat):Int).toNat]?=some l[i]:=by simp
theorem QH {l:List α} {f:α->β} (h:i<l.length):(l.map f)[((i:Nat):Int).toNat]?=some (f l[i]):=by grind
theorem Q5 {l:List α} {f:α->β} {k:Int} (h0:0<=k) (h:k<l.length):(l.map f)[k.toNat]?=some (f (l[k.toNat]'Wa)):=by
 grind
theorem ZW {l:List α} {p:α->Bool} (h:i<l.length) (ha:(l.take i).all p=true) (hp:p l[i]=true):(l.take (i+1)).all p=true:=by
 grind [List.take_succ_eq_append_getElem]
theorem Zn {l:List Nat} (h:Zf l fr=fr'):St.le ⟨fr,H⟩ ⟨fr',H⟩:=h ▸ Gg l fr H
theorem C1 {p:Nat} (h:p<l.length) (ha:(l[p]).toNat<128):Utf8.decode ⟨l.toArray⟩ p=((l[p]).toNat,1):=by
 have C:p<(ByteArray.mk l.toArray).size:=by trivial
 exact decode_ascii ⟨l.toArray⟩ p C ha
theorem Qcj {p:Nat} (h:p<l.length) (ha:128<=(l[p]).toNat):∃c n,128<=c/\Utf8.decode ⟨l.toArray⟩ p=(c,n):=by
 suffices hh:128<=(Utf8.decode ⟨l.toArray⟩ p).1 from⟨_,_,hh,rfl⟩
 have e:((ByteArray.mk l.toArray).get! (p+0)).toNat=(l[p]).toNat:=by
  show((l.toArray)[p]!).toNat=_;rw[getElem!_pos _ _ (by simpa using h)];simp
 unfold Utf8.decode;simp only[e]
 repeat' split
 all_goals first |(simp only[Utf8.runeError];omega) |(simp_all;omega)
variable {K:Kn} {S:Nat->Bool} {v:Value} {x:ResultVar}
def small (k:Nat):Bool:=decide (k<500000)
def FS (rs:List Jx) (d:D) (H':QEf):AExit->St->Prop
  | .exit _,_=>False
  |_,s=>((rs=[]/\d=.g8 [])\/(∃r,rs=[r]/\JT small s r d)\/(∃r1 r2 d1 d2,rs=[r1,r2]/\d=.g8 [d1,d2]/\d1.pure=true/\d2.pure=true/\JT small s r1 d1/\JT small s r2 d2)\/∃r1 r2 cs d2,rs=[r1,r2]/\d=.ia cs d2/\d2.pure=true/\JT small s r1 (.agg cs)/\JT small s r2 d2)/\∀k b,lk H' k=some b->lk s.H k=some b
section
variable {P:Program} {E:Env} {g:Gh} {s:St} {a:Act} {w:World}
theorem LN (C:∀d v,z4 g d v->(∀k∈d.y4,(lk s.H k).isSome=true)->z4 {g with K:=K} (d.x7 s.H S) v) (h:a7 g d v) (G:Has s d):a7 {g with K:=K} (TQ S s d) v:=
  (a7.fz C h G).xg
theorem MB (r:Rel E g s a w) (C:∀d v,z4 g d v->(∀k∈d.y4,(lk s.H k).isSome=true)->z4 {g with K:=K} (d.x7 s.H S) v) {x':Jx} (hp:Hs P x=some x') (h:JT S s x' d):
    ∃v,(Ha a.tmps x).run P w=.ok v w/\a7 {g with K:=K} d v:=by
  cases x with
  |tmp t=>
    obtain⟨G,rfl⟩:=S5 hp;obtain⟨p,V,rfl⟩:=h;exact⟨_,by rfl,LN C (r.mh G V) (r.da t p V)⟩
  |cell t ty=>
    simp only[Hs]at hp;split at hp
    case isFalse=>grind
    rename_i G;split at hp;rename_i b sz e1 e2;cases hp
    obtain⟨p,cells,V,h2,U⟩:=h;obtain⟨B,off,hv,hc,hid⟩:=P1 r (r.mh G V) h2;cases b with
    |true=>
      simp only[if_true]at U;obtain⟨hl,rfl⟩:=U;obtain⟨cs,q1,T,O,Y⟩:=Qdv (P:=P) (hc.take sz);rw[QEO,Nat.min_eq_left hl]at Y;refine⟨.agg cs.toArray, ?_,LN C ⟨cs,rfl,T,O⟩ λk hk=>?_⟩
      (repeat clear hK K);simp_all [Ha,asAddr,loadVar,YB,ZH]
      obtain⟨y,hy,hk⟩:=QEp.1 hk
      grind
    |false=>
      simp only[QEq,if_false]at U;obtain⟨q,hq,rfl⟩:=U;cases cells with
      |nil=>grind
      |cons y ys=>
        simp at hq;subst hq;obtain⟨cs,q1,T,O,Y⟩:=hc;cases cs with
        |nil=>grind
        |cons c cs=>
          have M:=Y 0 c Wd;simp only[QE9]at M;refine⟨c, ?_,LN C (T.1.ae (O _ Wd)) (Ma T.1 (O _ Wd) λk hk=>hid _ Wd k hk)⟩
          (repeat clear hK K);simp_all [Ha,asAddr,loadVar,YB]
    grind
theorem Qbu (hx:fn.results.toList=[x]) (h:(Ha a.tmps x).run P w=.ok v w):(results fn a.tmps).run P w=.ok v w:=by
  have C:results fn a.tmps=(fn.results.mapM (Ha a.tmps)>>=λvs=>pure (if h:vs.size=1 then vs[0]else .tuple vs)):=by
    rfl
  (repeat clear hK K);simp_all [Array.mapM_eq_mapM_toList]
theorem Tc {y:ResultVar} (hx:fn.results.toList=[x,y]) {u:Value} (h:(Ha a.tmps x).run P w=.ok v w) (G:(Ha a.tmps y).run P w=.ok u w):(results fn a.tmps).run P w=.ok (.tuple #[v,u]) w:=by
  have C:results fn a.tmps=(fn.results.mapM (Ha a.tmps)>>=λvs=>pure (if h:vs.size=1 then vs[0]else .tuple vs)):=by
    rfl
  (repeat clear hK K);simp_all [Array.mapM_eq_mapM_toList]
theorem PN {xs:List ResultVar} {r1 r2:Jx} (h:Yh P xs=some [r1,r2]):∃G C,xs=[G,C]/\Hs P G=some r1/\Hs P C=some r2:=by
  cases xs with
  |nil=>grind [Yh]
  |cons x xs=>
    simp only[Yh]at h;split at h;rename_i x' M e1 e2;cases h
    cases xs with
    |nil=>grind [Yh]
    |cons y ys=>
      simp only[Yh]at e2;split at e2;rename_i y' s' T O;cases e2
      have:ys=[]:=by
        cases ys with
        |nil=>rfl
        |cons z zs=>grind [Yh]
      grind
      grind
    grind
theorem Rs {g:Gh}:∀{ds:List D} {vs:List Value},g9 g ds vs->vs.length=ds.length/\∀(i:Nat) x,ds[i]?=some x->∃v,vs[i]?=some v/\a7 g x v
  |[],[],_=>⟨rfl,λi x h=>by grind⟩
  |y::ys,v::vs,h=>by
    obtain⟨G,C⟩:=Rs h.2;refine⟨by grind,λi x hx=>?_⟩;cases i with
    |zero=>simp at hx;subst hx;exact⟨v,by simp,h.1⟩
    |succ i=>grind
  |[],_::_,h=>h.elim
  |_::_,[],h=>h.elim
theorem o7.vg {fr0:QEg} (hm:P.follows .mixedOrders=true) (hf:P.funcs[f]?=some fn) (hp:QT P fn=some af) (hn:ds.length<=af.nt+(Gz f).length)
 (hfr:∀g vs,g9 g ds (vs++gVs f)->∀t x,lk fr0 t=some x->x∈ds/\((∃v,vs[t]?=some v/\a7 g x v)\/∃i,t=900000+i/\a7 g x (.pointer (some ⟨i,0,none⟩))))
 (hin:∀k,1000000<=k->(lk H k).isSome=true->(lk H' k).isSome=true) (hcl:∀k b,lk H' k=some b->500000<=k/\∀j∈b.ids,(lk H' j).isSome=true)
 (h:AW P af.nt af.body (FS af.rs d H') ⟨fr0,H⟩):o7 P f ds H d H':=by
  unfold QT at hp;split at hp;rename_i c rs hbody hrs;split at hp;rename_i ac hac;split at hp
  ·rename_i V;cases hp
   refine⟨⟨fn,hf,V.1,by grind⟩,λg w vs Y hvs hids=>?_⟩;have hfr:=hfr g vs hvs;have hlen:=(Rs hvs).1;rw[QEY,gVs,QFf]at hlen;simp only at hn h;let E:Env:=⟨fn.ntmps,w.heap.size,w,g.K,λb=>MR g H b,λk=>1000000<=k/\(lk H k).isSome=true,g.β,g.σ,none,some w.heap.size⟩;have hsz:(vs.toArray++Array.replicate (fn.ntmps - vs.toArray.size) Go.undef).size=fn.ntmps:=by grind
   have r0:Rel E g ⟨fr0,H⟩ {tmps:=vs.toArray++Array.replicate (fn.ntmps - vs.toArray.size) Go.undef,defers:=[]} w:=by
     refine⟨⟨hsz,V.2⟩,nc.nil rfl,λt x hx=>?_,λt x hx k hk=>?_,Y.x9,λk b hb=>(Y.bx k b hb).move ⟨rfl,rfl⟩ (λ_ _ _ _ _ _=>⟨rfl,rfl⟩) (Kn.le_refl _) λB e hβ=>⟨rfl,λ_ h=>h,λ_=>.inr ⟨k,e,by grind,hβ⟩⟩,Y.inj,Y.kr,⟨QEI _,λb hb _=>rfl,m8.refl w⟩,λb hb _=>rfl,λk hk=>⟨hk.1,rfl,rfl,hk.2⟩⟩;rcases(hfr t x hx).2 with⟨v,h1,h2⟩ |⟨i,rfl,h2⟩
     have:(vs.toArray++Array.replicate (fn.ntmps - vs.toArray.size) Go.undef).getD t (F6 t)=v:=by
       have hlt:=(QEQ.1 h1).1
       (repeat clear hK K);simp_all [Array.getElem?_append_left]
     grind
     have:(vs.toArray++Array.replicate (fn.ntmps - vs.toArray.size) Go.undef).getD (900000+i) (F6 (900000+i))=.pointer (some ⟨i,0,none⟩):=by
       have h9:=V.2;rw[QEJ,Array.getElem?_eq_none Wa,Option.getD_none,F6,if_neg Wa,Nat.add_sub_cancel_left]
     grind
     grind
   refine(callsIn_wide (n:=0)).1 (callsIn_of_wp_marks hf hbody trivial (wpIn_mono (h c E g _ w hm hac rfl (.inl ⟨rfl,_,rfl,QEI _⟩) r0) λe a' w' hq=>?_))
   have fin0:∀s' g' a' w',FS rs d H' .normal s'->Rel E g' s' a' w'->∃v,(results fn a'.tmps).run P w'=.ok v w'/\∃v_1 g'',Ending.returned v=.returned v_1/\a7 g'' d v_1/\xa g'' H' w'/\w.heap.size<=w'.heap.size/\(∀b,b<w.heap.size->¬MR g H b->w'.heap[b]?=w.heap[b]?/\g''.K b=g.K b)/\m8 w w'/\
       (∀k,1000000<=k->(lk H k).isSome=true->(lk H' k).isSome=true/\g''.β k=g.β k/\g''.σ k=g.σ k)/\∀k B e,k<1000000->(lk H' k).isSome=true->g''.β k=some (B,e)->w.heap.size<=B\/∃k2 e2,k2<1000000/\(lk H k2).isSome=true/\g.β k2=some (B,e2):=by
     intro s' g' a' w' ⟨hres0,M⟩ C;obtain⟨K2,hle,hkr2,hoth,T⟩:=P8 C small
     have G:∃v,(results fn a'.tmps).run P w'=.ok v w'/\a7 {g' with K:=K2} d v:=by
      rcases hres0 with⟨hrs0,rfl⟩ |⟨x',O,hres⟩ |⟨r1,r2,d1,d2,O,rfl,hp1,hp2,G,U⟩ |⟨r1,r2,cs,d2,O,rfl,hp2,G,U⟩
      rotate_right
      subst O;obtain⟨x1,x2,hx,hpx1,hpx2⟩:=PN hrs;obtain⟨v1,q1,q2⟩:=MB C T hpx1 G;obtain⟨v2,q3,q4⟩:=MB C T hpx2 U;obtain⟨vs,rfl,q5,q6⟩:=q2;exact⟨.tuple #[_,v2],Tc hx q1 q3,vs,v2,rfl,q5,q6,q4.oc hp2⟩
      rotate_right
      subst O;obtain⟨x1,x2,hx,hpx1,hpx2⟩:=PN hrs;obtain⟨v1,q1,q2⟩:=MB C T hpx1 G;obtain⟨v2,q3,q4⟩:=MB C T hpx2 U;refine⟨.tuple #[v1,v2],Tc hx q1 q3, ?_⟩;simp only[a7,z4,s4];exact⟨[v1,v2],rfl,by simp only[x5];exact⟨q2.oc hp1,q4.oc hp2,trivial⟩⟩
      subst hrs0
      have hx:fn.results.toList=[]:=by
        cases hx:fn.results.toList with
        |nil=>rfl
        |cons y ys=>grind [Yh]
      refine⟨.tuple #[], ?_, ?_⟩
      simp_all [results]
      simp only[a7,z4,s4];exact⟨[],rfl,by trivial⟩;subst O
      obtain⟨x,hx,hpx⟩:∃x,fn.results.toList=[x]/\Hs P x=some x':=by
       cases hx:fn.results.toList with
       |nil=>grind [Yh]
       |cons x xs=>
         rw[hx]at hrs;simp only[Yh]at hrs;split at hrs;rename_i x2 r2 e1 e2;cases hrs
         have hxs:xs=[]:=by
           cases xs with
           |nil=>rfl
           |cons y ys=>grind [Yh]
         grind
         grind
      obtain⟨v,q1,q2⟩:=MB C T hpx hres
      grind [Qbu]
     obtain⟨v,q1,q2⟩:=G;have hblk:∀k b B e,lk s'.H k=some b->g'.β k=some (B,e)->w.heap.size<=B\/MR g H B:=λk b B e hk hβ=>((C.bx k b hk).nb hβ).2.2;refine⟨v,q1,v,{g' with K:=K2},rfl,q2,⟨λk b hk=>(hcl k b hk).2,λk b hk=>?_,λk k' b b' B e e' h1 h2 h3 h4=>C.inj k k' b b' B e e' (M k b h1) (M k' b' h2) h3 h4,hkr2⟩,C.ext.1,λb hb hno=>⟨C.ext.2.1 b hb hno, ?_⟩,C.ext.2.2,λk h6 hk=>⟨hin k h6 hk,(C.kp k ⟨h6,hk⟩).2.1,(C.kp k ⟨h6,hk⟩).2.2.1⟩,λk B e hk hk' hβ=>?_⟩;refine(C.bx k b (M k b hk)).move ⟨rfl,rfl⟩ (λ_ _ _ _ _ _=>⟨rfl,rfl⟩) hle λB e hβ=>⟨rfl,λo ho=>?_,λ_=>.inl (QEu _)⟩;show K2 B o=none;rw[hoth B λk2 b2 e2 p1 p2 p3=>?_];omega;have:=C.inj k k2 b b2 B e e2 (M k b hk) p1 hβ p3;subst this;have h5:=(hcl k b hk).1;simp only[small,decide_eq_true_eq]at p2;omega;show K2 b=g.K b;rw[hoth b λk2 b2 e2 p1 p2 p3=>?_];exact C.kx b hb hno
     grind
     obtain⟨b,hb⟩:=QEo.1 hk';rcases hblk k b B e (M k b hb) hβ with h |⟨k2,e2,h1,h2⟩
     omega
     by_cases h6:1000000<=k2
     obtain⟨_,p1,_,p2⟩:=C.kp k2 ⟨h6,h1⟩;obtain⟨b2,hb2⟩:=QEo.1 p2;have:=C.inj k k2 b b2 B e e2 (M k b hb) hb2 hβ (p1.trans h2);omega
     grind
   cases e<;>simp only[AQ]at hq
   obtain⟨s',g',hq,C⟩:=hq;exact Re (λn h=>by grind) C λa2 w2 _ r2=>fin0 s' g' a2 w2 hq r2;obtain⟨s',g',hq,C⟩:=hq;trivial;obtain⟨s',g',hq,C⟩:=hq;exact Re (λn h=>by grind) C λa2 w2 _ r2=>fin0 s' g' a2 w2 hq r2
  grind
  grind
  grind
theorem o7.of (hm:P.follows .mixedOrders=true) (T:P.funcs[f]?=some fn) (hp:QT P fn=some af) (U:ds.length<=af.nt)
 (G:∀k,1000000<=k->(lk H k).isSome=true->(lk H' k).isSome=true) (M:∀k b,lk H' k=some b->500000<=k/\∀j∈b.ids,(lk H' j).isSome=true)
 (h:AW P af.nt af.body (FS af.rs d H') ⟨MQ 0 ds,H⟩) (O:Gz f=[]:=by rfl):o7 P f ds H d H':=o7.vg hm T hp Wa (λg vs C t x hx=>by
  rw[gVs,O,QFx,QEN]at C;rw[SG,if_pos (QEu _),Nat.sub_zero]at hx;obtain⟨v,Y,V⟩:=(Rs C).2 t x hx
  grind) G M h
theorem o7.n7 {tf:o6} (hm:P.follows .mixedOrders=true) (T:P.funcs[f]?=some fn) (hp:QT P fn=some tf.erase) (M:ds.length<=tf.nt)
 (C:∀k,1000000<=k->(lk H k).isSome=true->(lk H' k).isSome=true) (G:∀k b,lk H' k=some b->500000<=k/\∀j∈b.ids,(lk H' j).isSome=true)
 (h:TW P tf.nt tf.body (FS tf.rs d H') ⟨MQ 0 ds,H⟩) (O:Gz f=[]:=by rfl):o7 P f ds H d H':=o7.of (af:=tf.erase) hm T hp M C G h O
end
def YG (t m k:Nat):Nat:=if k=t then m else if k=m then t else k
theorem Xl (t m k:Nat):YG t m (YG t m k)=k:=by
  grind [YG]
def B3 (ρ:Nat->Nat) (H:QEf):QEf:=H.map λp=>(ρ p.1,p.2.u5 ρ)
def St.u5 (ρ:Nat->Nat) (s:St):St:=⟨s.fr.map λp=>(p.1,p.2.u5 ρ),B3 ρ s.H⟩
theorem Fb {ρ:Nat->Nat} (hρ:∀k,ρ (ρ k)=k):∀(H:QEf) (k:Nat),lk (B3 ρ H) k=(lk H (ρ k)).map (x4.u5 ρ)
  |[],_=>rfl
  |(j,b)::H,k=>by
    have:=Fb hρ H k;simp only[B3,QEW,Qz]at this ⊢
    grind
theorem Hm (t m:Nat) (ht:t<1000000) (hm:m<1000000) (s:St):s.le (s.u5 (YG t m)):=λE g a w r=>by
  have hρ:=Xl t m;have V:∀k,1000000<=k->YG t m k=k:=λk hk=>by unfold YG;grind
  have U:(g.pull (YG t m)).pull (YG t m)=g:=by
    show(⟨g.K,λk=>g.β (YG t m (YG t m k)),λk=>g.σ (YG t m (YG t m k))⟩:Gh)=g
    (repeat clear hK K);simp_all
  have M:=Fb hρ s.H;have G:∀k,(lk (B3 (YG t m) s.H) (YG t m k)).isSome=(lk s.H k).isSome:=λk=>by grind
  refine⟨g.pull (YG t m),r.nt,r.df,λu d h=>?_,λu d h k hk=>?_,λk b h j O=>?_,λk b h=>?_,λk k' b b' B e e' C T h3 Y=>?_,r.kr,r.ext,r.kx,λk hk=>?_⟩;simp only[St.u5,Yq]at h;obtain⟨d0,C,rfl⟩:=QEh.1 h;rw[a7.u5,U];exact r.fr u d0 C;simp only[St.u5,Yq]at h;obtain⟨d0,C,rfl⟩:=QEh.1 h;rw[a8]at hk;obtain⟨j,O,rfl⟩:=QEw.1 hk;show(lk (B3 _ s.H) _).isSome=true;rw[G];exact r.da u d0 C j O;change lk (B3 _ s.H) k=some b at h;rw[M]at h;obtain⟨b0,C,rfl⟩:=QEh.1 h;rw[x4.a8]at O;obtain⟨i,hi,rfl⟩:=QEw.1 O;show(lk (B3 _ s.H) _).isSome=true;rw[G];exact r.x9 _ b0 C i hi;change lk (B3 _ s.H) k=some b at h;rw[M]at h;obtain⟨b0,C,rfl⟩:=QEh.1 h;have:=r.bx _ b0 C
  grind [u6.u5]
  change lk (B3 _ s.H) k=some b at C;change lk (B3 _ s.H) k'=some b' at T;rw[M]at C T;obtain⟨b0,q1,rfl⟩:=QEh.1 C;obtain⟨b1,q2,rfl⟩:=QEh.1 T;have:=r.inj _ _ b0 b1 B e e' q1 q2 h3 Y
  grind
  obtain⟨C,T,h3,Y⟩:=r.kp k hk;refine⟨C, ?_, ?_, ?_⟩;show g.β (YG t m k)=_;grind;show g.σ (YG t m k)=_;grind;show(lk (B3 _ s.H) k).isSome=true
  grind
variable {P:Program} {c x y:z5} {b b' b0:x4} {n:Nat}
def TX (P:Program) (nt:Nat) (c:z5) (Q:AExit->St->Prop) (s:St):Prop:=∃e s',Q e s'/\TW P nt c (λe2 s2=>e2=e/\s2=s') s
section
variable {P:Program} {nt:Nat} {Q Q':AExit->St->Prop} {s:St}
theorem Z8 (h:∀e s,Q e s->Q' e s) (k:TW P nt c Q s):TW P nt c Q' s:=λcode E g a w hm hp M C r=>
 wpIn_mono (k code E g a w hm hp M C r) λe a' w' G=>by
  cases e<;>simp[AQ]at G ⊢<;>try exact G
  all_goals
   grind
theorem Y1 (h:∀e s,Q e s->Q' e s):TX P nt c Q s->TX P nt c Q' s:=λ⟨e,s',G,C⟩=>⟨e,s',h e s' G,C⟩
theorem Qns {op:BinOp} {bt:Bool} {q:D} {kk:D->Prop} (h:Qfo op bt p q kk):∃d,kk d/\∀G:D->Prop,G d->Qfo op bt p q G:=by
 cases p<;>cases q<;>simp[Qfo]at h ⊢<;>try exact h.elim
 ·obtain⟨M,C⟩:=h;cases op<;>simp[QdW]at C ⊢
  all_goals grind
 ·obtain⟨M,C⟩:=h;cases op<;>simp[Qnq]at C ⊢<;>try exact C.elim
  all_goals grind
 ·cases op<;>simp[Qjx]at h ⊢<;>try exact h.elim
  all_goals grind
 grind
theorem Qie {dr:Bool} {op:s6} {dst:Option Nat} {k:St->Prop} (h:step P dr op dst s k):∃s',k s'/\∀O:St->Prop,O s'->step P dr op dst s O:=by
 cases op<;>simp only[step]at h ⊢
 case wb x=>obtain⟨d,M,C⟩:=h;exact⟨_,C,λO hk=>⟨d,M,hk⟩⟩
 case pick c x y=>obtain⟨cd,M,t,C,d,G,T⟩:=h;exact⟨_,T,λO hk=>⟨cd,M,t,C,d,G,hk⟩⟩
 case alloc et cells=>obtain⟨t,M,C,G⟩:=h;exact⟨_,G,λO hk=>⟨t,M,C,hk⟩⟩
 case box et x=>obtain⟨t,M,v,C,cells,G,T,U⟩:=h;exact⟨_,U,λO hk=>⟨t,M,v,C,cells,G,T,hk⟩⟩
 case build zero parts=>obtain⟨qs,M,ds,C,G⟩:=h;exact⟨_,G,λO hk=>⟨qs,M,ds,C,hk⟩⟩
 case buildSlice l0 et parts=>
  rcases h with⟨t,M,rows,C,G,T⟩ |⟨rows,C,G,T⟩;exact⟨_,T,λO hk=>.inl ⟨t,M,rows,C,G,hk⟩⟩;exact⟨_,T,λO hk=>.inr ⟨rows,C,G,hk⟩⟩
 case load agg sz x=>
  obtain⟨p,M,cells,C,G⟩:=h;cases agg with
  |true=>exact⟨_,G.2,λO hk=>⟨p,M,cells,C,G.1,hk⟩⟩
  |false=>obtain⟨d,T,U⟩:=G;exact⟨_,U,λO hk=>⟨p,M,cells,C,d,T,hk⟩⟩
 case store sz x v=>
  obtain⟨p,M,C⟩:=h;cases p<;>simp only[QxA]at C<;>try exact C.elim
  obtain⟨b,G,row,T,q,U,cells,V,Y,h8,h9⟩:=C;exact⟨_,h9,λO hk=>⟨_,M,b,G,row,T,q,U,cells,V,Y,h8,hk⟩⟩
 case nilCheck x=>obtain⟨p,M,C,G⟩:=h;exact⟨_,G,λO hk=>⟨p,M,C,hk⟩⟩
 case bin op bt x y=>
  obtain⟨p,M,q,C,G⟩:=h;obtain⟨d,T,U⟩:=Qns G;exact⟨_,T,λO hk=>⟨p,M,q,C,U _ hk⟩⟩
 case eqs neg ks x y=>obtain⟨p,M,q,C,xs,G,ys,T,b,U,V⟩:=h;exact⟨_,V,λO hk=>⟨p,M,q,C,xs,G,ys,T,b,U,hk⟩⟩
 case un op x=>
  obtain⟨p,M,C⟩:=h;cases op<;>cases p<;>simp only[unK]at C<;>try exact C.elim
  all_goals first
   |exact⟨_,C,λO hk=>⟨_,M,hk⟩⟩
   |exact⟨_,C.2,λO hk=>⟨_,M,C.1,hk⟩⟩
 case conv kk x=>obtain⟨p,M,d,C,G⟩:=h;exact⟨_,G,λO hk=>⟨p,M,d,C,hk⟩⟩
 case ba sb x=>
  obtain⟨p,M,C⟩:=h;cases sb
  cases p<;>simp only[D3]at C
  obtain⟨G,l,T,U⟩:=C;exact⟨_,U,λO hk=>⟨_,M,G,l,T,hk⟩⟩;obtain⟨G,l,T,U⟩:=C;exact⟨_,U,λO hk=>⟨_,M,G,l,T,hk⟩⟩;obtain⟨b,T,U,V,l,Y,h8⟩:=C;exact⟨_,h8,λO hk=>⟨_,M,b,T,U,V,l,Y,hk⟩⟩;obtain⟨l,G,T⟩:=C;exact⟨_,T,λO hk=>⟨p,M,l,G,hk⟩⟩
 case sc x=>
  obtain⟨p,M,C⟩:=h;cases p<;>simp only[Qrx]at C<;>try exact C.elim
  exact⟨_,C,λO hk=>⟨_,M,hk⟩⟩
 case de l0 et bytes zero x y=>
  obtain⟨t,M,p,C,G⟩:=h;cases p<;>simp only[Qrx]at G<;>try exact G.elim
  obtain⟨T,q,U,n,V,Y,h8,h9,h10,h11⟩:=G;exact⟨_,h11,λO hk=>⟨t,M,_,C,T,q,U,n,V,Y,h8,h9,h10,hk⟩⟩
 case slice l0 x lo hi mx=>
  rcases h with h |⟨h0,hlo,p,M,C⟩ |⟨h0,l,hlo,p,M,C⟩ |⟨h00,h0,l,hlo,p,M,C⟩
  rotate_left
  rotate_left
  rotate_left
  cases p<;>simp only[QnT]at C<;>try exact C.elim
  obtain⟨b,hb,q1,q2,q3,q4,q5,q6,q7,q8,q9⟩:=C;exact⟨_,q9,λO hk=>.inr (.inr (.inr ⟨h00,h0,l,hlo,_,M,b,hb,q1,q2,q3,q4,q5,q6,q7,q8,hk⟩))⟩
  rotate_left
  rotate_left
  cases p<;>simp only[Qra]at C<;>try exact C.elim
  obtain⟨G,T,U,V⟩:=C;exact⟨_,V,λO hk=>.inr (.inr (.inl ⟨h0,l,hlo,_,M,G,T,U,hk⟩))⟩
  rotate_left
  cases p<;>simp only[QiX]at C<;>try exact C.elim
  exact⟨_,C.2,λO hk=>.inr (.inl ⟨h0,hlo,_,M,C.1,hk⟩)⟩;obtain⟨m,G,T,U,V⟩:=C;exact⟨_,V,λO hk=>.inr (.inl ⟨h0,hlo,_,M,m,G,T,U,hk⟩)⟩;obtain⟨p,M,rows,C,l,G,hh,T,U,V,Y,h8,h9⟩:=h;cases mx with
  |none=>exact⟨_,h9,λO hk=>.inl ⟨p,M,rows,C,l,G,hh,T,U,V,Y,h8,hk⟩⟩
  |some m=>
   obtain⟨h10,h11,h12⟩:=h9;exact⟨_,h12,λO hk=>.inl ⟨p,M,rows,C,l,G,hh,T,U,V,Y,h8,h10,h11,hk⟩⟩
 case o8 x lo hi=>obtain⟨p,M,c,C,l,G,hh,T,U,V,Y,h8⟩:=h;exact⟨_,h8,λO hk=>⟨p,M,c,C,l,G,hh,T,U,V,Y,hk⟩⟩
 case fieldAddr off x=>
  obtain⟨p,M,C⟩:=h;cases p<;>simp only[PE]at C<;>try exact C.elim
  all_goals exact⟨_,C.2,λO hk=>⟨_,M,C.1,hk⟩⟩
 case field agg off sz x=>
  obtain⟨p,M,cells,C,G⟩:=h;cases agg with
  |true=>exact⟨_,G.2,λO hk=>⟨p,M,cells,C,G.1,hk⟩⟩
  |false=>obtain⟨d,T,U⟩:=G;exact⟨_,U,λO hk=>⟨p,M,cells,C,d,T,hk⟩⟩
 case indexAddr l0 x i=>
  obtain⟨n,M,p,C,G⟩:=h;cases n<;>try trivial
  cases p<;>simp only[QcM]at G<;>try exact G.elim
  obtain⟨row,T,U,V,Y⟩:=G;exact⟨_,Y,λO hk=>⟨_,M,_,C,row,T,U,V,hk⟩⟩;obtain⟨row,T,U,V,Y⟩:=G;exact⟨_,Y,λO hk=>⟨_,M,_,C,row,T,U,V,hk⟩⟩;obtain⟨b,T,U,V,Y,h8,h9⟩:=G;exact⟨_,h9,λO hk=>⟨_,M,_,C,b,T,U,V,Y,h8,hk⟩⟩
 case y8 x i=>
  obtain⟨n,M,p,C,G⟩:=h;cases n<;>try trivial
  cases p<;>simp only[Mc]at G<;>try exact G.elim
  obtain⟨c,T,U,V⟩:=G;exact⟨_,V,λO hk=>⟨_,M,_,C,c,T,U,hk⟩⟩
 case extract i x=>obtain⟨p,M,ds,C,d,G,T⟩:=h;exact⟨_,T,λO hk=>⟨p,M,ds,C,d,G,hk⟩⟩
 case len x=>obtain⟨p,M,n,C,G⟩:=h;exact⟨_,G,λO hk=>⟨p,M,n,C,hk⟩⟩
 case z9 x=>obtain⟨p,M,l,C,G⟩:=h;exact⟨_,G,λO hk=>⟨p,M,l,C,hk⟩⟩
 case min x y=>
  obtain⟨p,M,q,C,G⟩:=h;cases p<;>try trivial
  cases q<;>simp only[Qxi]at G<;>try exact G.elim
  exact⟨_,G,λO hk=>⟨_,M,_,C,hk⟩⟩
 case max x y=>
  obtain⟨p,M,q,C,G⟩:=h;cases p<;>try trivial
  cases q<;>simp only[Qxh]at G<;>try exact G.elim
  exact⟨_,G,λO hk=>⟨_,M,_,C,hk⟩⟩
 case append l0 et bytes x y=>
  obtain⟨p,M,q,C,G⟩:=h
  have happ:∀(ys:List (List D)) (pr:Bool),QlK dr l0 et bytes dst s p ys pr k->∃s',k s'/\∀O,O s'->QlK dr l0 et bytes dst s p ys pr O:=by
   intro ys pr U;cases p<;>simp only[QlK]at U<;>try exact U.elim
   obtain⟨t,V,Y,h8,h9,h10,h11,h12⟩:=U;exact⟨_,h12,λO hk=>⟨t,V,Y,h8,h9,h10,h11,hk⟩⟩;obtain⟨hd,hk0,b,V,Y,h8,h9,h10,h12,h13,h14⟩:=U;exact⟨_,h14,λO hk=>⟨hd,hk0,b,V,Y,h8,h9,h10,h12,h13,hk⟩⟩
  cases q<;>simp only[D3]at G<;>try exact G.elim
  obtain⟨s',q1,q2⟩:=happ _ _ G.2;exact⟨s',q1,λO hk=>⟨p,M,_,C,G.1,q2 O hk⟩⟩;obtain⟨s',q1,q2⟩:=happ _ _ G.2;exact⟨s',q1,λO hk=>⟨p,M,_,C,G.1,q2 O hk⟩⟩;obtain⟨b,T,U,V,Y⟩:=G;obtain⟨s',q1,q2⟩:=happ _ _ Y;exact⟨s',q1,λO hk=>⟨p,M,_,C,b,T,U,V,q2 O hk⟩⟩
 case makeSlice l0 et bytes zero x y=>
  obtain⟨p,M,q,C,G⟩:=h;cases p<;>try trivial
  cases q<;>simp only[Qoz]at G<;>try exact G.elim
  obtain⟨t,T,U,V,Y,h8,h9,h10⟩:=G;exact⟨_,h10,λO hk=>⟨_,M,_,C,t,T,U,V,Y,h8,h9,hk⟩⟩
 case range x=>obtain⟨t,M,p,C,l,G,T,U⟩:=h;exact⟨_,U,λO hk=>⟨t,M,p,C,l,G,T,hk⟩⟩
 case next x=>
  obtain⟨hd,p,M,C⟩:=h;unfold Qoh at C;split at C;obtain⟨l,q,G,T⟩:=C;rcases T with⟨T,U⟩ |⟨T,U⟩
  exact⟨_,U,λO hk=>⟨hd,_,M,l,q,G,.inl ⟨T,hk⟩⟩⟩;exact⟨_,U,λO hk=>⟨hd,_,M,l,q,G,.inr ⟨T,hk⟩⟩⟩
  grind
 case r8 len l0 x i=>
  obtain⟨nd,M,p,C,G⟩:=h;cases nd<;>try trivial
  obtain⟨T,U,V⟩:=G;cases p<;>simp only[PE]at V<;>try exact V.elim
  all_goals exact⟨_,V.2,λO hk=>⟨_,M,_,C,T,U,V.1,hk⟩⟩
 case x8 agg len l0 x i=>
  obtain⟨nd,M,n,C,p,G,cells,T,U,V,Y⟩:=h;cases agg with
  |true=>exact⟨_,Y.2,λO hk=>⟨nd,M,n,C,p,G,cells,T,U,V,Y.1,hk⟩⟩
  |false=>obtain⟨d,h8,h9⟩:=Y;exact⟨_,h9,λO hk=>⟨nd,M,n,C,p,G,cells,T,U,V,d,h8,hk⟩⟩
 case call f args=>obtain⟨ds,M,d,C,G,T⟩:=h;exact⟨_,T,λO hk=>⟨ds,M,d,C,G,hk⟩⟩
 case vd f xs=>
  obtain⟨ds,M,C,G |⟨kk,ps,q1,q2,q3,G⟩⟩:=h;exact⟨_,G,λO hk=>⟨ds,M,C,.inl hk⟩⟩;exact⟨_,G,λO hk=>⟨ds,M,C,.inr ⟨kk,ps,q1,q2,q3,hk⟩⟩⟩
 case oe f xs=>obtain⟨ds,M,C,G⟩:=h;exact⟨_,G,λO hk=>⟨ds,M,C,hk⟩⟩
 case ja x az=>
  obtain⟨p,M,C⟩:=h;rcases C with C |⟨rfl,C⟩
  cases p<;>simp only[QwR]at C<;>try exact C.elim
  obtain⟨G,ds,T,d,U,V,Y⟩:=C;exact⟨_,Y,λO hk=>⟨_,M,.inl ⟨G,ds,T,d,U,V,hk⟩⟩⟩;cases p<;>simp only[QwB]at C<;>try exact C.elim
  obtain⟨G,d,U,V,Y⟩:=C;exact⟨_,Y,λO hk=>⟨_,M,.inr ⟨rfl,G,d,U,V,hk⟩⟩⟩
theorem H7 {K:St->Prop}:∀{l:List u3} {dr:Dr} {s:St},run P dr l K s->∃s',K s'/\∀C:St->Prop,C s'->run P dr l C s
 |[],_,s,h=>⟨s,h,λ_ hk=>hk⟩
 |⟨dst,op,none⟩::r,dr,s,h=>by
  simp[run]at h ⊢;rcases h with⟨M,G⟩ |⟨p,q,d,ef,M,G,O⟩ |⟨f,args,HF,Y,V,d,M,G,O,T⟩ |⟨s',d,bx,M,G,O,T⟩
  obtain⟨s1,O,h4⟩:=Qie G;obtain⟨s2,T,U⟩:=H7 O
  grind
  obtain⟨s2,U,h7⟩:=H7 O
  grind
  obtain⟨s2,U,h7⟩:=H7 T
  grind
  obtain⟨s2,U,h7⟩:=H7 T
  grind
 |⟨dst,op,some (t,b)⟩::r,dr,s,h=>by
  obtain⟨d,h0,h⟩:=h
  have hA:((dr.ok r.length (GK op (pk op s)) (Hy op (wk op s))=true/\step P dr.dr op dst s λs'=>run P (dr.nx (M7 op dst r) (GK op (pk op s)) (Hy op (wk op s))) r K s')\/
    (∃p q d ef,EF P dr.B op dst s p q d ef/\dr.ok r.length (GK op p) (Hy op q)=true/\run P (dr.nx (YV dst.toList r) (GK op p) (Hy op q)) r K (s.s8 dst d ef))\/
    (∃f args HF Y V d,dr=.fixed/\Kp s op f args/\Kx P f args s HF Y V d/\run P dr r K (St.apply {s with H:=Y++(V++s.H)} dst d none))\/
    ∃s' d bx,dr=.fixed/\s.le s'/\Jy P ⟨dst,op,none⟩ s' d bx/\run P dr r K (s'.apply dst d bx))->
    ∃s',K s'/\∀C,C s'->((dr.ok r.length (GK op (pk op s)) (Hy op (wk op s))=true/\step P dr.dr op dst s λs'=>run P (dr.nx (M7 op dst r) (GK op (pk op s)) (Hy op (wk op s))) r C s')\/
    (∃p q d ef,EF P dr.B op dst s p q d ef/\dr.ok r.length (GK op p) (Hy op q)=true/\run P (dr.nx (YV dst.toList r) (GK op p) (Hy op q)) r C (s.s8 dst d ef))\/
    (∃f args HF Y V d,dr=.fixed/\Kp s op f args/\Kx P f args s HF Y V d/\run P dr r C (St.apply {s with H:=Y++(V++s.H)} dst d none))\/
    ∃s' d bx,dr=.fixed/\s.le s'/\Jy P ⟨dst,op,none⟩ s' d bx/\run P dr r C (s'.apply dst d bx)):=λh=>by
   rcases h with⟨M,G⟩ |⟨p,q,d,ef,M,G,O⟩ |⟨f,args,HF,Y,V,d,M,G,O,T⟩ |⟨s',d,bx,M,G,O,T⟩;obtain⟨s1,O,h4⟩:=Qie G
   obtain⟨s2,T,U⟩:=H7 O
   grind
   obtain⟨s2,U,h7⟩:=H7 O
   grind
   obtain⟨s2,U,h7⟩:=H7 T
   grind
   obtain⟨s2,U,h7⟩:=H7 T
   grind
  have hB:run P dr r K (s.apply dst .undef none)->∃s',K s'/\∀C,C s'->run P dr r C (s.apply dst .undef none):=H7;cases d<;>simp only[Sy]at h<;>try exact h.elim
  obtain⟨s2,M,G⟩:=hB h;exact⟨s2,M,λC hk=>⟨_,h0,G C hk⟩⟩;rename_i c;cases c<;>cases b;obtain⟨s2,M,G⟩:=hA (h.1 rfl);exact⟨s2,M,λC hk=>⟨_,h0,⟨λ_=>G C hk,λh=>by cases h⟩⟩⟩;obtain⟨s2,M,G⟩:=hB (h.2 rfl);exact⟨s2,M,λC hk=>⟨_,h0,⟨(λh=>by cases h),λ_=>G C hk⟩⟩⟩;obtain⟨s2,M,G⟩:=hB (h.2 rfl);exact⟨s2,M,λC hk=>⟨_,h0,⟨(λh=>by cases h),λ_=>G C hk⟩⟩⟩;obtain⟨s2,M,G⟩:=hA (h.1 rfl);exact⟨s2,M,λC hk=>⟨_,h0,⟨λ_=>G C hk,λh=>by cases h⟩⟩⟩
variable {l:List Nat} {b:z5} {id i:Nat}
theorem HC {dr:Bool} {ops:List u3} (h:∀K:St->Prop,(∀fr H,TX P nt b Q ⟨Zf l fr,H⟩->K ⟨fr,H⟩)->run P (Dr.of s.H dr) ops K s):TX P nt (.seq (.region dr ops) l b) Q s:=by
 obtain⟨s1,⟨e,s2,O,M⟩,G⟩:=H7 (h (λst=>TX P nt b Q ⟨Zf l st.fr,st.H⟩) λfr H h=>h);exact⟨e,s2,O,Qd λK C=>G K (C s1.fr s1.H M)⟩
def QtQ (P:Program) (nt:Nat) (l:List Nat) (b:z5) (Q:AExit->St->Prop):AExit->St->Prop
 | .normal,s=>TX P nt b Q ⟨Zf l s.fr,s.H⟩
 |e,s=>Q e s
theorem QaD (h:TX P nt a (QtQ P nt l b Q) s):TX P nt (.seq a l b) Q s:=by
 obtain⟨e,s1,G,C⟩:=h;cases e with
 |normal=>
  obtain⟨e2,s2,O,M⟩:=G;exact⟨e2,s2,O,Qw (Z8 (λ_ _ ⟨p,q⟩=>by subst p q;exact M) C)⟩
 |exit n=>exact⟨.exit n,s1,G,Qw (Z8 (λ_ _ ⟨p,q⟩=>by subst p q;trivial) C)⟩
 |ret=>exact⟨.ret,s1,G,Qw (Z8 (λ_ _ ⟨p,q⟩=>by subst p q;trivial) C)⟩
theorem Py {c:y5} {t:Bool} (M:s.ev c=some (.bool t)) (T:t=true->TX P nt x Q s) (O:t=false->TX P nt y Q s):TX P nt (.cond c x y) Q s:=by
 cases t
 obtain⟨e,s1,G,C⟩:=O rfl;exact⟨e,s1,G,Zq M C⟩;obtain⟨e,s1,G,C⟩:=T rfl;exact⟨e,s1,G,Zb M C⟩
theorem LH {c:y5} (C:s.ev c=some (.bool true)) (G:TX P nt x Q s):TX P nt (.cond c x y) Q s:=Py C (λ_=>G) (λh=>by cases h)
theorem QaC {c:y5} (C:s.ev c=some (.bool false)) (G:TX P nt y Q s):TX P nt (.cond c x y) Q s:=Py C (λh=>by cases h) (λ_=>G)
theorem QaB (h:TX P nt a (XY id Q) s):TX P nt (.block id a) Q s:=by
 obtain⟨e,s1,C,G⟩:=h;cases e with
 |normal=>exact⟨.normal,s1,C,Qu (Z8 (λ_ _ ⟨p,q⟩=>by subst p q;trivial) G)⟩
 |ret=>exact⟨.ret,s1,C,Qu (Z8 (λ_ _ ⟨p,q⟩=>by subst p q;trivial) G)⟩
 |exit n=>
  by_cases hn:n=id
  subst hn;simp[XY]at C;exact⟨.normal,s1,C,Qu (Z8 (λ_ _ ⟨p,q⟩=>by simp_all [XY]) G)⟩;simp[XY,if_neg hn]at C;exact⟨.exit n,s1,C,Qu (Z8 (λ_ _ ⟨p,q⟩=>by simp_all [XY]) G)⟩
theorem Qm8 (h:TX P nt a Q s):TX P nt (.scope a) Q s:=let⟨e,s1,h1,h2⟩:=h;⟨e,s1,h1,LG h2⟩
theorem TP (h:Q (.exit id) s):TX P nt (.exit id) Q s:=⟨_,s,h,Q3 ⟨rfl,rfl⟩⟩
theorem Qm7 (h:Q .ret s):TX P nt .ret Q s:=⟨_,s,h,Qv ⟨rfl,rfl⟩⟩
theorem NM (h:Q .normal s):TX P nt .skip Q s:=⟨_,s,h,Qp ⟨rfl,rfl⟩⟩
theorem Qrl (h:s.le s') (hw:TX P nt c Q s'):TX P nt c Q s:=let⟨e,s1,h1,h2⟩:=hw;⟨e,s1,h1,MO h h2⟩
inductive l9 (P:Program) (nt:Nat) (a:z5) (e:AExit) (s':St):Nat->St->Prop
 |stop {s:St}:TW P nt a (λe2 s2=>e2=e/\s2=s') s->e≠.normal->l9 P nt a e s' 0 s
 |next {s t s2:St} {n:Nat}:TW P nt a (λe2 s3=>e2=.normal/\s3=t) s->t.le s2->l9 P nt a e s' n s2->l9 P nt a e s' (n+1) s
theorem l9.tw (h:l9 P nt a e s' n s):TW P nt (.loop a) (λe2 s2=>e2=e/\s2=s') s:=by
 refine Q8 (λj=>j.2) (λj=>l9 P nt a e s' j.1 j.2) (λj=>j.1) (n,s) (le_refl _) h λj C=>?_;obtain⟨m,st⟩:=j;cases C with
 |stop h1 h2=>
  refine Z8 (λe2 s2 ⟨p,q⟩=>?_) h1;cases e2 with
  |normal=>grind
  |exit n=>trivial
  |ret=>trivial
 |next h1 h2 h3=>
  refine Z8 (λe2 s2 ⟨p,q⟩=>?_) h1;subst p q;exact⟨(_,_),h2,h3,QFz _⟩
theorem QbT (st:ι->St) (I:ι->Prop) (μ:ι->Nat) (i0:ι) (h0:s.le (st i0)) (U:I i0) (round:∀i,I i->TX P nt a (Lq st I μ i Q) (st i)):TX P nt (.loop a) Q s:=by
 refine Qrl h0 ?_
 have key:∀n i,μ i=n->I i->∃e s',Q e s'/\∃m,l9 P nt a e s' m (st i):=by
  intro n
  induction n using Nat.strongRecOn with
  |_ n ih=>
   intro i O hi;obtain⟨e,s1,G,C⟩:=round i hi;cases e with
   |normal=>
    obtain⟨j,hle,T,M⟩:=G;obtain⟨e,s',Y,m,V⟩:=ih (μ j) (O ▸ M) j rfl T;exact⟨e,s',Y,m+1,.next C hle V⟩
   |exit k=>exact⟨_,_,G,0,.stop C Wd⟩
   |ret=>exact⟨_,_,G,0,.stop C Wd⟩
 obtain⟨e,s',G,m,C⟩:=key _ i0 rfl U;exact⟨e,s',G,C.tw⟩
theorem Qe7 (st:ι->St) (I:ι->Prop) (h:TX P nt a (QgM st I Q) s) (k:∀j,I j->TX P nt b Q (st j)):TX P nt (.seq a l b) Q s:=by
 obtain⟨e,s1,G,C⟩:=h;cases e with
 |normal=>
  obtain⟨j,hle,M⟩:=G;obtain⟨e2,s2,T,O⟩:=k j M;refine⟨e2,s2,T,HD (λ_=>st j) (λ_=>True) (Z8 (λ_ _ ⟨p,q⟩=>by subst p q;exact⟨(),hle,trivial⟩) C) λ_ _=>O⟩
 |exit n=>exact⟨.exit n,s1,G,Qw (Z8 (λ_ _ ⟨p,q⟩=>by subst p q;trivial) C)⟩
 |ret=>exact⟨.ret,s1,G,Qw (Z8 (λ_ _ ⟨p,q⟩=>by subst p q;trivial) C)⟩
end
section
variable {P:Program}
theorem Ok.uh {R:D->Prop} (hm:P.follows .mixedOrders=true) (M:P.funcs[f]?=some fn) (hp:QT P fn=some tf.erase) (C:ds.length<=tf.nt)
 (h:TX P tf.nt tf.body (λe s=>∃d,R d/\ua tf.rs d e s) ⟨MQ 0 ds,[]⟩) (G:Gz f=[]:=by rfl):∃d,R d/\Ok P f ds d:=by
 obtain⟨e,s,⟨d,U,T⟩,O⟩:=h
 grind [Ok.n7,Z8]
end
section
variable {fr:QEg} {H H':QEf} {t:Nat}
theorem Yz (h:lk fr t=some p) (hd:TQ small ⟨fr,H⟩ p=d) (C:∀k b,lk H' k=some b->lk H k=some b) (he:e=.ret\/e=.normal:=by first |exact .inl rfl |exact .inr rfl):FS [.tmp t] d H' e ⟨fr,H⟩:=by
 subst hd;rcases he with rfl |rfl<;>exact⟨.inr (.inl ⟨_,rfl,_,h,rfl⟩),C⟩
end
theorem QfC {args:List y5} {ds':List D} {U:Nat} (ha:Zh s args=some ds) (hb:lk s.H k=some b) (hp:b.pr=true) (hk:k<1000000) (Y:lk s.H t=none) (V:t<1000000) (T:∀x∈ds,∀j∈x.ids,j=k) (O:∃x∈ds,k∈x.ids) (G:b'.pr=true)
 (hu:ds.map (Qwt k)=ds') (M:o7 P f ds' [(500000,b)] (.u4 500000 U) [(500000,b')]):QdZ P f args s [] k t b b' U:=by
 subst hu;exact⟨ds,ha,hb,hp,hk,Y,V,(λj x C=>by cases C),(λj x C=>by cases C),(λx hx j C=>.inl (T x hx j C)),O,G,M⟩
section
variable {fr:QEg} {H:QEf} {t u:Nat}
theorem ua.eq {rs:List Jx} {C:D} (h:ua rs d e s) (hd:d=C):ua rs C e s:=hd ▸ h
end
theorem K5 (h:lk [(m,b0)] k=some b):k=m/\b=b0:=by
 rw[Qz]at h;split at h
 grind
 trivial
theorem o7.mv (hm:P.follows .mixedOrders=true) (O:P.funcs[f]?=some fn) (hp:QT P fn=some tf.erase) (G:ds.length<=tf.nt) (hb:b'.pr=true)
 (h:TW P tf.nt tf.body (FS tf.rs d [(500000,b')]) ⟨MQ 0 ds,[(500000,b)]⟩) (M:Gz f=[]:=by rfl):o7 P f ds [(500000,b)] d [(500000,b')]:=by
 refine o7.n7 hm O hp G (λk hk T=>?_) (λk x hk=>?_) h M;obtain⟨y,C⟩:=QEo.1 T;obtain⟨rfl,_⟩:=K5 C;omega;obtain⟨rfl,rfl⟩:=K5 hk
 (repeat clear hK K);simp_all [x4.ids]
theorem Tk (h:lk H m=some b0):∀k b,lk [(m,b0)] k=some b->lk H k=some b:=λk b hk=>by
 obtain⟨rfl,rfl⟩:=K5 hk;exact h
theorem Xd {i off:Nat} {row:List D} (hb:lk s.H k=some b) (hr:b.rows[i]?=some row):s.md (.ref k i off)=some (row.drop off):=by
 grind [St.md]
theorem Qbc {l:List Nat} {fr fr1:QEg} {u:Nat} (m:Nat) (hk:Zf l fr=fr1) (hp:(fr1.all λp=>p.2.ids.isEmpty)=true) (hu:lk fr u=some (.u4 t n)) (hb:lk H t=some b) (G:b.pr=true)
 (hB:QeR H []=true:=by rfl) (Y:t<1000000:=by decide) (hm:m<1000000:=by decide):St.le ⟨fr,H⟩ ⟨(u,.u4 m n)::fr1,[(m,b)]⟩:=λE g a w r=>by
 obtain⟨g',V⟩:=Hm t m Y hm ⟨fr,H⟩ E g a w r;have hsw:YG t m t=m:=by unfold YG;simp
 have O:b.u5 (YG t m)=b:=x4.ya ((r.bx t b hb).2.1 G)
 have U:∀v d,lk fr1 v=some d->d.ids=[]:=λv d h=>by
  simp only[QEs]at hp;have:=hp (v,d) (ZJ h)
  grind
 refine⟨g',V.less (λv d h=>?_) (λj x h=>?_) (λv d h j T=>?_) (λj x h i hi=>?_) λj T hs=>?_⟩;simp only[St.u5,Yq];rw[Qz]at h;split at h
 grind [D.u5,D.y6]
 ·have h2:lk fr v=some d:=by grind [Xi]
  have one:∀d:D,d.y4=[]->d.y6 (YG t m)=d:=λd hd=>by cases d<;>first |rfl |(trivial)
  cases d<;>first |rfl |trivial |skip
  all_goals
   grind [D.u5,D.ids,List.flatMap_eq_nil_iff,YL]
 obtain⟨rfl,rfl⟩:=K5 h;show lk (B3 (YG t j) H) j=some x
 grind [Fb,Xl]
 grind [Qz,D.ids,D.y4]
 obtain⟨rfl,rfl⟩:=K5 h
 grind [x4.ids]
 have C:(lk (B3 (YG t m) H) j).isSome=true:=hs;rw[Fb (Xl t m),QEA]at C;have M:YG t m j=j:=by unfold YG;grind
 rw[M]at C;have:=Ns hB j T C;trivial
section
variable {P:Program} {dr:Dr} {r:List u3} {K:St->Prop} {fr:QEg} {H:QEf} {t:Nat} {bt:Bool} {x y:y5} {ki kj:IntKind} {m n z:Int}
end
variable {H1:QEf} {fr1:QEg} {l lH:List Nat} {ρ:Nat->Nat}
theorem KE (h:∀k∈d.y4,S k=false):d.x7 H S=d:=by
 cases d<;>try rfl
 (repeat clear hK K);simp_all [D.x7,D.y4]
 (repeat clear hK K);simp_all [D.x7,D.y4]
 (repeat clear hK K);simp_all [D.x7,D.y4]
 (repeat clear hK K);simp_all [D.x7,D.y4]
theorem Bf (h:∀k∈d.ids,S k=false):d.fz H S=d:=by
 cases d
 case agg cs=>
  simp only[D.fz];rw[YL λx hx=>KE λk hk=>h k (QEp.2 ⟨x,hx,hk⟩)]
 case k9 f cs=>
  simp only[D.fz];rw[YL λx hx=>KE λk hk=>h k (QEp.2 ⟨x,hx,hk⟩)]
 case ia cs z=>
  simp only[D.fz];rw[YL λx hx=>KE λk hk=>h k (QEp.2 ⟨x,hx,hk⟩)]
 case u4 k n=>exact KE (d:=.u4 k n) h
 case la k lo c n=>exact KE (H:=H) (d:=.la k lo c n) h
 case ref k i o=>exact KE (d:=.ref k i o) h
 case w8 f k ps=>exact KE (H:=H) (d:=.w8 f k ps) h
 all_goals rfl
theorem RW (h:b.pr=true\/∀k∈b.ids,S k=false):b.fz H S=b:=by
 unfold x4.fz;split;rfl;rename_i hp;have G:=h.resolve_left hp;have C:b.ids=b.rows.flatMap λr=>r.flatMap D.y4:=by unfold x4.ids;grind
 rw[C]at G
 have key:∀rows:List (List D),(∀k∈rows.flatMap (λr=>r.flatMap D.y4),S k=false)->(rows.map λr=>r.map (D.x7 H S))=rows:=by
  intro rows
  induction rows with
  |nil=>simp
  |cons r rs ih=>
   intro G
   rw[QEW,ih (λk hk=>G k Wc),
    YL λx hx=>KE λk hk=>G k Wc]
 have this:=key b.rows G;rw[this]
theorem Mf (k t:Nat) (Y:Zf l fr=fr1) (hH:Yj lH H=H1) (ht:lk fr t=some (.u4 k n)) (hb:lk H k=some b) (hp:b.pr=true) (hn:n=b.rows.length)
 (U:(fr1.all λp=>!p.2.ids.contains k)=true) (T:(H1.all λp=>p.1 != k&&(p.2.pr||!p.2.ids.contains k))=true) (hw:wa H1 fr1=true) (hbk:QeR H H1=true) (hk:k<1000000:=by decide):St.le ⟨fr,H⟩ ⟨(t,.sl b.rows)::fr1,H1⟩:=by
 intro E g a w r;obtain⟨g',_,V⟩:=r.freeze k hk;subst Y hH;simp only[wa,QEm,QEs]at hw;simp only[QEs,QFv,QFC,decide_eq_false_iff_not]at U;simp only[QEs,QEm,QFu,QFv,QFC,decide_eq_false_iff_not,bne_iff_ne,ne_eq]at T
 have hS:∀(x:D),k∉x.ids->x.fz H (·==k)=x:=λx hx=>Bf λj C=>by
  grind
 refine⟨g',V.less (λu d h=>?_) (λj x h=>?_) (λu d h j C=>?_) (λj x h i hi=>hw.2 (j,x) (ZJ h) i hi) λj C M=>?_⟩;simp only[St.freeze,Yq];rw[Qz]at h;split at h;rename_i e;cases h;subst e
 (repeat clear hK K);simp_all [D.fz,D.x7]
 have G:=Xi l fr u d h;rw[G,QE6,hS d (U (u,d) (ZJ h))];have G:=Jv lH H j x h;have O:=T (j,x) (ZJ h);simp only[St.freeze,GA];rw[if_neg O.1,Yq (x4.fz H (·==k)),G,QE6]
 congr 1
 refine RW (O.2.imp id λh3 i hi=>?_)
 grind
 rw[Qz]at h;split at h;cases h;trivial;exact hw.1 (u,d) (ZJ h) j C
 have:(lk H j).isSome=true:=by
  simp only[St.freeze,GA]at M;rw[if_neg Wa,Yq (x4.fz H (·==k)),QEA]at M;omega
 grind [Ns]
theorem o7.new {P:Program} {f:Nat} {fn:Func} {tf:o6} {ds:List D} {b':x4} (hm:P.follows .mixedOrders=true) (M:P.funcs[f]?=some fn) (hp:QT P fn=some tf.erase) (C:ds.length<=tf.nt) (hb:b'.pr=true)
 (h:TW P tf.nt tf.body (FS tf.rs d [(500000,b')]) ⟨MQ 0 ds,[]⟩) (G:Gz f=[]:=by rfl):o7 P f ds [] d [(500000,b')]:=by
 refine o7.n7 hm M hp C (λk hk O=>by cases O) (λk x hk=>?_) h G;obtain⟨rfl,rfl⟩:=K5 hk
 (repeat clear hK K);simp_all [x4.ids]
theorem QE {α:Type} {f:α->List D} {l:List α}:QgQ (.sl (l.map f))=some (l.length:Int):=by simp[QgQ]
theorem K9 (h:∀k∈d.y4,ρ k=k):d.y6 ρ=d:=by
 cases d<;>try rfl
 grind [D.y6,D.y4]
 grind [D.y6,D.y4]
 grind [D.y6,D.y4]
 grind [D.y6,D.y4]
theorem QhO (h:∀k∈d.ids,ρ k=k):d.u5 ρ=d:=by
 cases d
 case agg cs=>
  simp only[D.u5];rw[YL λx hx=>K9 λk hk=>h k (QEp.2 ⟨x,hx,hk⟩)]
 case k9 f cs=>
  simp only[D.u5];rw[YL λx hx=>K9 λk hk=>h k (QEp.2 ⟨x,hx,hk⟩)]
 case ia cs z=>
  simp only[D.u5];rw[YL λx hx=>K9 λk hk=>h k (QEp.2 ⟨x,hx,hk⟩)]
 case u4 k n=>exact K9 (d:=.u4 k n) h
 case la k lo c n=>exact K9 (d:=.la k lo c n) h
 case ref k i o=>exact K9 (d:=.ref k i o) h
 case w8 f k ps=>exact K9 (d:=.w8 f k ps) h
 all_goals rfl
theorem TR (hp:b.pr=false) (h:∀k∈b.ids,ρ k=k):b.u5 ρ=b:=by
 have C:b.ids=b.rows.flatMap λr=>r.flatMap D.y4:=by unfold x4.ids;grind
 rw[C]at h
 have key:∀rows:List (List D),(∀k∈rows.flatMap (λr=>r.flatMap D.y4),ρ k=k)->(rows.map λr=>r.map (D.y6 ρ))=rows:=by
  intro rows
  induction rows with
  |nil=>simp
  |cons r rs ih=>
   intro G
   rw[QEW,ih (λk hk=>G k Wc),
    YL λx hx=>K9 λk hk=>G k Wc]
 unfold x4.u5;rw[key b.rows h]
theorem G9 (t m u:Nat) (hf:Zf l fr=fr1) (hH:Yj lH H=H1) (hu:lk fr u=some (.u4 t n)) (hb:lk H t=some b) (O:b.pr=true)
 (Y:(fr1.all λp=>!p.2.ids.contains t&&!p.2.ids.contains m)=true) (V:(H1.all λp=>p.1 != t&&p.1 != m&&(p.2.pr||(!p.2.ids.contains t&&!p.2.ids.contains m)))=true) (hw:wa H1 fr1=true) (hbk:QeR H H1=true) (ht:t<1000000:=by decide) (hm:m<1000000:=by decide):
  St.le ⟨fr,H⟩ ⟨(u,.u4 m n)::fr1,(m,b)::H1⟩:=λE g a w r=>by
 subst hf hH;obtain⟨g',r'⟩:=Hm t m ht hm ⟨fr,H⟩ E g a w r;have hsw:YG t m t=m:=by unfold YG;simp
 have hsm:YG t m m=t:=by grind [Xl]
 have C:∀k,k≠t->k≠m->YG t m k=k:=λk h1 G=>by unfold YG;grind
 have U:b.u5 (YG t m)=b:=x4.ya ((r.bx t b hb).2.1 O);simp only[wa,QEm,QEs]at hw;simp only[QEs,QEm,QFv,QFC,decide_eq_false_iff_not]at Y;simp only[QEs,QEm,QFu,QFv,QFC,decide_eq_false_iff_not,bne_iff_ne,ne_eq]at V
 have up:∀j,(lk (Yj lH H) j).isSome=true->(lk ((m,b)::Yj lH H) j).isSome=true:=λj T=>by
  grind [Qz]
 refine⟨g',r'.less (λv d h=>?_) (λj x h=>?_) (λv d h j T=>?_) (λj x h i hi=>?_) λj T hs=>?_⟩;simp only[St.u5,Yq];rw[Qz]at h;split at h
 grind [D.u5,D.y6]
 have G:=Xi l fr v d h;rw[G,QE6]
 congr 1
 have M:=Y (v,d) (ZJ h);exact QhO λk hk=>C k Wc Wc;show lk (B3 (YG t m) H) j=some x;rw[Fb (Xl t m)];rw[Qz]at h;split at h
 grind
 have G:=Jv lH H j x h;have M:=V (j,x) (ZJ h);rw[C j M.1.1 M.1.2,G,QE6]
 congr 1
 cases hp:x.pr with
 |true=>exact x4.ya ((r.bx j x G).2.1 hp)
 |false=>
  have h4:=M.2.resolve_left Wc;exact TR hp λk hk=>C k Wc Wc
 rw[Qz]at h;split at h
 grind [D.ids,D.y4,Qz]
 exact up j (hw.1 (v,d) (ZJ h) j T);rw[Qz]at h;split at h
 grind [x4.ids]
 exact up i (hw.2 (j,x) (ZJ h) i hi);have hs':(lk (B3 (YG t m) H) j).isSome=true:=hs
 grind [Fb,Ns]
section
variable {P:Program} {dr:Dr} {r:List u3} {K:St->Prop} {fr:QEg} {H:QEf} {t:Nat}
theorem RF {l0 et bytes:Nat} {zero:List D} {x y:y5} {ki kj:IntKind} {n:Int} (hx:St.ev ⟨fr,H⟩ x=some (.int ki n)) (C:St.ev ⟨fr,H⟩ y=some (.int kj n)) (G:lk H t=none) (h0:0<=n) (hb:n.toNat*bytes<=281474976710656) (M:n.toNat<=4611686018427387904)
 (k:run P dr r K ⟨(t,.u4 t n.toNat)::fr,(t,⟨List.replicate n.toNat zero,l0,et,true⟩)::H⟩):run P dr (⟨some t,.makeSlice l0 et bytes zero x y,none⟩::r) K ⟨fr,H⟩:=Zd rfl rfl ⟨_,hx,_,C,t,rfl,G,rfl,h0,hb,M,k⟩
end
theorem Qoq {α:Type} {k:Nat} {v:α} {l:List (Nat × α)}:lk ((k,v)::l) k=some v:=by rw[Qz,if_pos rfl]
def QrN (b:x4):Prop:=b.ids=[]
section
variable {P:Program} {r:List u3} {K:St->Prop} {fr:QEg} {H:QEf} {t:Nat}
end
variable {b0 b1 b2:Bool} {g0 g1 g2 w0 w1 w2:Nat} {o0 o1 o2:s6} {p:Prop}
def dn:Nat->List Nat |0=>[] |n+1=>n::dn n
theorem Z.{u} {α:Sort u} {a:α}:a=a:=rfl
theorem qB:(∀(p:Prop) [Decidable p],(decide p=true)=p)/\(∀(p:Prop) [Decidable p],(decide p=false)↔¬p)/\(∀a b:Bool,((!a)=b)=(a= !b))/\(!true)=false/\(!false)=true:=⟨λ_ _=>decide_eq_true_eq,λ_ _=>decide_eq_false_iff_not,λa b=>by simp,rfl,rfl⟩
theorem qA:(∀(p:Prop) [Decidable p],(decide p=true)=p)/\(∀(p:Prop) [Decidable p],(decide p=false)↔¬p)/\(∀a b:Bool,((!a)=b)=(a= !b))/\(!true)=false/\(!false)=true/\(∀(α β:Type) (f:α->β) (l:List α),(l.map f).length=l.length):=⟨qB.1,qB.2.1,qB.2.2.1,rfl,rfl,λ_ _ _ _=>QFf _⟩
theorem qa [Decidable p]:(decide p=true)=p:=decide_eq_true_eq
theorem qb [Decidable p]:(decide p=false)↔¬p:=decide_eq_false_iff_not
theorem qc {a b:Bool}:((!a)=b)=(a= !b):=by simp
theorem qd:(!true)=false:=rfl
theorem qe:(!false)=true:=rfl
section
variable {fr:QEg} {t0 t1 t2 t3 t4 t5 t6 t7 t8 t9 t10 t11 t12 t13 t14 t15 t16 t17 t18 t19 t20 t21 t22 t23:Nat} {d0 d1 d2 d3 d4 d5 d6 d7 d8 d9 d10 d11 d12 d13 d14 d15 d16 d17 d18 d19 d20 d21 d22 d23:D}
abbrev kE (fr:QEg) (t:Nat) (d:D):Prop:=lk fr t=some d
theorem kp1 (h0:kE fr t0 d0):Zf [t0] fr=[(t0,d0)]:=Qo h0 QL
theorem kp2 (h0:kE fr t0 d0) (C:kE fr t1 d1):Zf [t0,t1] fr=[(t0,d0),(t1,d1)]:=Qo h0 (kp1 C)
theorem kp3 (h0:kE fr t0 d0) (G:kE fr t1 d1) (C:kE fr t2 d2):Zf [t0,t1,t2] fr=[(t0,d0),(t1,d1),(t2,d2)]:=Qo h0 (kp2 G C)
theorem kp4 (h0:kE fr t0 d0) (M:kE fr t1 d1) (G:kE fr t2 d2) (C:kE fr t3 d3):Zf [t0,t1,t2,t3] fr=[(t0,d0),(t1,d1),(t2,d2),(t3,d3)]:=Qo h0 (kp3 M G C)
theorem kp5 (h0:kE fr t0 d0) (O:kE fr t1 d1) (M:kE fr t2 d2) (G:kE fr t3 d3) (C:kE fr t4 d4):Zf [t0,t1,t2,t3,t4] fr=[(t0,d0),(t1,d1),(t2,d2),(t3,d3),(t4,d4)]:=Qo h0 (kp4 O M G C)
theorem kp6 (h0:kE fr t0 d0) (T:kE fr t1 d1) (O:kE fr t2 d2) (M:kE fr t3 d3) (G:kE fr t4 d4) (C:kE fr t5 d5):Zf [t0,t1,t2,t3,t4,t5] fr=[(t0,d0),(t1,d1),(t2,d2),(t3,d3),(t4,d4),(t5,d5)]:=Qo h0 (kp5 T O M G C)
theorem kp7 (h0:kE fr t0 d0) (U:kE fr t1 d1) (T:kE fr t2 d2) (O:kE fr t3 d3) (M:kE fr t4 d4) (G:kE fr t5 d5) (C:kE fr t6 d6):Zf [t0,t1,t2,t3,t4,t5,t6] fr=[(t0,d0),(t1,d1),(t2,d2),(t3,d3),(t4,d4),(t5,d5),(t6,d6)]:=Qo h0 (kp6 U T O M G C)
theorem kp8 (h0:kE fr t0 d0) (V:kE fr t1 d1) (U:kE fr t2 d2) (T:kE fr t3 d3) (O:kE fr t4 d4) (M:kE fr t5 d5) (G:kE fr t6 d6) (C:kE fr t7 d7):Zf [t0,t1,t2,t3,t4,t5,t6,t7] fr=[(t0,d0),(t1,d1),(t2,d2),(t3,d3),(t4,d4),(t5,d5),(t6,d6),(t7,d7)]:=Qo h0 (kp7 V U T O M G C)
theorem kp9 (h0:kE fr t0 d0) (Y:kE fr t1 d1) (V:kE fr t2 d2) (U:kE fr t3 d3) (T:kE fr t4 d4) (O:kE fr t5 d5) (M:kE fr t6 d6) (G:kE fr t7 d7) (C:kE fr t8 d8):Zf [t0,t1,t2,t3,t4,t5,t6,t7,t8] fr=[(t0,d0),(t1,d1),(t2,d2),(t3,d3),(t4,d4),(t5,d5),(t6,d6),(t7,d7),(t8,d8)]:=Qo h0 (kp8 Y V U T O M G C)
theorem GI (h0:kE fr t0 d0) (h1:kE fr t1 d1) (Y:kE fr t2 d2) (V:kE fr t3 d3) (U:kE fr t4 d4) (T:kE fr t5 d5) (O:kE fr t6 d6) (M:kE fr t7 d7) (G:kE fr t8 d8) (C:kE fr t9 d9):Zf [t0,t1,t2,t3,t4,t5,t6,t7,t8,t9] fr=[(t0,d0),(t1,d1),(t2,d2),(t3,d3),(t4,d4),(t5,d5),(t6,d6),(t7,d7),(t8,d8),(t9,d9)]:=Qo h0 (kp9 h1 Y V U T O M G C)
theorem HA (h0:kE fr t0 d0) (h1:kE fr t1 d1) (h2:kE fr t2 d2) (Y:kE fr t3 d3) (V:kE fr t4 d4) (U:kE fr t5 d5) (T:kE fr t6 d6) (O:kE fr t7 d7) (M:kE fr t8 d8) (G:kE fr t9 d9) (C:kE fr t10 d10):Zf [t0,t1,t2,t3,t4,t5,t6,t7,t8,t9,t10] fr=[(t0,d0),(t1,d1),(t2,d2),(t3,d3),(t4,d4),(t5,d5),(t6,d6),(t7,d7),(t8,d8),(t9,d9),(t10,d10)]:=Qo h0 (GI h1 h2 Y V U T O M G C)
theorem FD (h0:kE fr t0 d0) (h1:kE fr t1 d1) (h2:kE fr t2 d2) (h3:kE fr t3 d3) (Y:kE fr t4 d4) (V:kE fr t5 d5) (U:kE fr t6 d6) (T:kE fr t7 d7) (O:kE fr t8 d8) (M:kE fr t9 d9) (G:kE fr t10 d10) (C:kE fr t11 d11):Zf [t0,t1,t2,t3,t4,t5,t6,t7,t8,t9,t10,t11] fr=[(t0,d0),(t1,d1),(t2,d2),(t3,d3),(t4,d4),(t5,d5),(t6,d6),(t7,d7),(t8,d8),(t9,d9),(t10,d10),(t11,d11)]:=Qo h0 (HA h1 h2 h3 Y V U T O M G C)
theorem QgO (h0:kE fr t0 d0) (h1:kE fr t1 d1) (h2:kE fr t2 d2) (h3:kE fr t3 d3) (h4:kE fr t4 d4) (Y:kE fr t5 d5) (V:kE fr t6 d6) (U:kE fr t7 d7) (T:kE fr t8 d8) (O:kE fr t9 d9) (M:kE fr t10 d10) (G:kE fr t11 d11) (C:kE fr t12 d12):Zf [t0,t1,t2,t3,t4,t5,t6,t7,t8,t9,t10,t11,t12] fr=[(t0,d0),(t1,d1),(t2,d2),(t3,d3),(t4,d4),(t5,d5),(t6,d6),(t7,d7),(t8,d8),(t9,d9),(t10,d10),(t11,d11),(t12,d12)]:=Qo h0 (FD h1 h2 h3 h4 Y V U T O M G C)
theorem Qkn (h0:kE fr t0 d0) (h1:kE fr t1 d1) (h2:kE fr t2 d2) (h3:kE fr t3 d3) (h4:kE fr t4 d4) (h5:kE fr t5 d5) (Y:kE fr t6 d6) (V:kE fr t7 d7) (U:kE fr t8 d8) (T:kE fr t9 d9) (O:kE fr t10 d10) (M:kE fr t11 d11) (G:kE fr t12 d12) (C:kE fr t13 d13):Zf [t0,t1,t2,t3,t4,t5,t6,t7,t8,t9,t10,t11,t12,t13] fr=[(t0,d0),(t1,d1),(t2,d2),(t3,d3),(t4,d4),(t5,d5),(t6,d6),(t7,d7),(t8,d8),(t9,d9),(t10,d10),(t11,d11),(t12,d12),(t13,d13)]:=Qo h0 (QgO h1 h2 h3 h4 h5 Y V U T O M G C)
theorem Qav (h0:kE fr t0 d0) (h1:kE fr t1 d1) (h2:kE fr t2 d2) (h3:kE fr t3 d3) (h4:kE fr t4 d4) (h5:kE fr t5 d5) (h6:kE fr t6 d6) (Y:kE fr t7 d7) (V:kE fr t8 d8) (U:kE fr t9 d9) (T:kE fr t10 d10) (O:kE fr t11 d11) (M:kE fr t12 d12) (G:kE fr t13 d13) (C:kE fr t14 d14):Zf [t0,t1,t2,t3,t4,t5,t6,t7,t8,t9,t10,t11,t12,t13,t14] fr=[(t0,d0),(t1,d1),(t2,d2),(t3,d3),(t4,d4),(t5,d5),(t6,d6),(t7,d7),(t8,d8),(t9,d9),(t10,d10),(t11,d11),(t12,d12),(t13,d13),(t14,d14)]:=Qo h0 (Qkn h1 h2 h3 h4 h5 h6 Y V U T O M G C)
theorem Ql9 (h0:kE fr t0 d0) (h1:kE fr t1 d1) (h2:kE fr t2 d2) (h3:kE fr t3 d3) (h4:kE fr t4 d4) (h5:kE fr t5 d5) (h6:kE fr t6 d6) (h7:kE fr t7 d7) (Y:kE fr t8 d8) (V:kE fr t9 d9) (U:kE fr t10 d10) (T:kE fr t11 d11) (O:kE fr t12 d12) (M:kE fr t13 d13) (G:kE fr t14 d14) (C:kE fr t15 d15):Zf [t0,t1,t2,t3,t4,t5,t6,t7,t8,t9,t10,t11,t12,t13,t14,t15] fr=[(t0,d0),(t1,d1),(t2,d2),(t3,d3),(t4,d4),(t5,d5),(t6,d6),(t7,d7),(t8,d8),(t9,d9),(t10,d10),(t11,d11),(t12,d12),(t13,d13),(t14,d14),(t15,d15)]:=Qo h0 (Qav h1 h2 h3 h4 h5 h6 h7 Y V U T O M G C)
theorem Qzu (h0:kE fr t0 d0) (h1:kE fr t1 d1) (h2:kE fr t2 d2) (h3:kE fr t3 d3) (h4:kE fr t4 d4) (h5:kE fr t5 d5) (h6:kE fr t6 d6) (h7:kE fr t7 d7) (h8:kE fr t8 d8) (Y:kE fr t9 d9) (V:kE fr t10 d10) (U:kE fr t11 d11) (T:kE fr t12 d12) (O:kE fr t13 d13) (M:kE fr t14 d14) (G:kE fr t15 d15) (C:kE fr t16 d16):Zf [t0,t1,t2,t3,t4,t5,t6,t7,t8,t9,t10,t11,t12,t13,t14,t15,t16] fr=[(t0,d0),(t1,d1),(t2,d2),(t3,d3),(t4,d4),(t5,d5),(t6,d6),(t7,d7),(t8,d8),(t9,d9),(t10,d10),(t11,d11),(t12,d12),(t13,d13),(t14,d14),(t15,d15),(t16,d16)]:=Qo h0 (Ql9 h1 h2 h3 h4 h5 h6 h7 h8 Y V U T O M G C)
theorem QBI (h0:kE fr t0 d0) (h1:kE fr t1 d1) (h2:kE fr t2 d2) (h3:kE fr t3 d3) (h4:kE fr t4 d4) (h5:kE fr t5 d5) (h6:kE fr t6 d6) (h7:kE fr t7 d7) (h8:kE fr t8 d8) (h9:kE fr t9 d9) (Y:kE fr t10 d10) (V:kE fr t11 d11) (U:kE fr t12 d12) (T:kE fr t13 d13) (O:kE fr t14 d14) (M:kE fr t15 d15) (G:kE fr t16 d16) (C:kE fr t17 d17):Zf [t0,t1,t2,t3,t4,t5,t6,t7,t8,t9,t10,t11,t12,t13,t14,t15,t16,t17] fr=[(t0,d0),(t1,d1),(t2,d2),(t3,d3),(t4,d4),(t5,d5),(t6,d6),(t7,d7),(t8,d8),(t9,d9),(t10,d10),(t11,d11),(t12,d12),(t13,d13),(t14,d14),(t15,d15),(t16,d16),(t17,d17)]:=Qo h0 (Qzu h1 h2 h3 h4 h5 h6 h7 h8 h9 Y V U T O M G C)
theorem QrA (h0:kE fr t0 d0) (h1:kE fr t1 d1) (h2:kE fr t2 d2) (h3:kE fr t3 d3) (h4:kE fr t4 d4) (h5:kE fr t5 d5) (h6:kE fr t6 d6) (h7:kE fr t7 d7) (h8:kE fr t8 d8) (h9:kE fr t9 d9) (h10:kE fr t10 d10) (Y:kE fr t11 d11) (V:kE fr t12 d12) (U:kE fr t13 d13) (T:kE fr t14 d14) (O:kE fr t15 d15) (M:kE fr t16 d16) (G:kE fr t17 d17) (C:kE fr t18 d18):Zf [t0,t1,t2,t3,t4,t5,t6,t7,t8,t9,t10,t11,t12,t13,t14,t15,t16,t17,t18] fr=[(t0,d0),(t1,d1),(t2,d2),(t3,d3),(t4,d4),(t5,d5),(t6,d6),(t7,d7),(t8,d8),(t9,d9),(t10,d10),(t11,d11),(t12,d12),(t13,d13),(t14,d14),(t15,d15),(t16,d16),(t17,d17),(t18,d18)]:=Qo h0 (QBI h1 h2 h3 h4 h5 h6 h7 h8 h9 h10 Y V U T O M G C)
theorem Qzv (h0:kE fr t0 d0) (h1:kE fr t1 d1) (h2:kE fr t2 d2) (h3:kE fr t3 d3) (h4:kE fr t4 d4) (h5:kE fr t5 d5) (h6:kE fr t6 d6) (h7:kE fr t7 d7) (h8:kE fr t8 d8) (h9:kE fr t9 d9) (h10:kE fr t10 d10) (h11:kE fr t11 d11) (Y:kE fr t12 d12) (V:kE fr t13 d13) (U:kE fr t14 d14) (T:kE fr t15 d15) (O:kE fr t16 d16) (M:kE fr t17 d17) (G:kE fr t18 d18) (C:kE fr t19 d19):Zf [t0,t1,t2,t3,t4,t5,t6,t7,t8,t9,t10,t11,t12,t13,t14,t15,t16,t17,t18,t19] fr=[(t0,d0),(t1,d1),(t2,d2),(t3,d3),(t4,d4),(t5,d5),(t6,d6),(t7,d7),(t8,d8),(t9,d9),(t10,d10),(t11,d11),(t12,d12),(t13,d13),(t14,d14),(t15,d15),(t16,d16),(t17,d17),(t18,d18),(t19,d19)]:=Qo h0 (QrA h1 h2 h3 h4 h5 h6 h7 h8 h9 h10 h11 Y V U T O M G C)
end
section
variable {P:Program} {nt:Nat} {Q:AExit->St->Prop} {l:List Nat} {b:z5} {K:St->Prop} {H:QEf} {fr fr':QEg} {r:List u3} {dr:Dr} {x y z v:y5} {p q:D} {t u:Nat}
variable {t0 t1 t2 t3 t4 t5 t6 t7 t8:Nat} {d0 d1 d2 d3 d4 d5 d6 d7 d8:D}
theorem kc (C:∀fr H,TW P nt b Q ⟨Zf l fr,H⟩->K ⟨fr,H⟩) (h:Zf l fr=fr') (k:TW P nt b Q ⟨fr',H⟩):K ⟨fr,H⟩:=C _ _ (Zt h k)
theorem kc1 (C:∀fr H,TW P nt b Q ⟨Zf [t0] fr,H⟩->K ⟨fr,H⟩) (h0:kE fr t0 d0) (k:TW P nt b Q ⟨[(t0,d0)],H⟩):K ⟨fr,H⟩:=kc C (kp1 h0) k
theorem ks1 (h0:kE fr t0 d0) (k:TW P nt b Q ⟨[(t0,d0)],H⟩):Qdz P nt [t0] b Q .normal ⟨fr,H⟩:=QK (kp1 h0) k
theorem kc2 (C:∀fr H,TW P nt b Q ⟨Zf [t0,t1] fr,H⟩->K ⟨fr,H⟩) (h0:kE fr t0 d0) (G:kE fr t1 d1) (k:TW P nt b Q ⟨[(t0,d0),(t1,d1)],H⟩):K ⟨fr,H⟩:=kc C (kp2 h0 G) k
theorem ks2 (h0:kE fr t0 d0) (C:kE fr t1 d1) (k:TW P nt b Q ⟨[(t0,d0),(t1,d1)],H⟩):Qdz P nt [t0,t1] b Q .normal ⟨fr,H⟩:=QK (kp2 h0 C) k
theorem kc3 (C:∀fr H,TW P nt b Q ⟨Zf [t0,t1,t2] fr,H⟩->K ⟨fr,H⟩) (h0:kE fr t0 d0) (M:kE fr t1 d1) (G:kE fr t2 d2) (k:TW P nt b Q ⟨[(t0,d0),(t1,d1),(t2,d2)],H⟩):K ⟨fr,H⟩:=kc C (kp3 h0 M G) k
theorem ks3 (h0:kE fr t0 d0) (G:kE fr t1 d1) (C:kE fr t2 d2) (k:TW P nt b Q ⟨[(t0,d0),(t1,d1),(t2,d2)],H⟩):Qdz P nt [t0,t1,t2] b Q .normal ⟨fr,H⟩:=QK (kp3 h0 G C) k
theorem kc4 (C:∀fr H,TW P nt b Q ⟨Zf [t0,t1,t2,t3] fr,H⟩->K ⟨fr,H⟩) (h0:kE fr t0 d0) (O:kE fr t1 d1) (M:kE fr t2 d2) (G:kE fr t3 d3) (k:TW P nt b Q ⟨[(t0,d0),(t1,d1),(t2,d2),(t3,d3)],H⟩):K ⟨fr,H⟩:=kc C (kp4 h0 O M G) k
theorem ks4 (h0:kE fr t0 d0) (M:kE fr t1 d1) (G:kE fr t2 d2) (C:kE fr t3 d3) (k:TW P nt b Q ⟨[(t0,d0),(t1,d1),(t2,d2),(t3,d3)],H⟩):Qdz P nt [t0,t1,t2,t3] b Q .normal ⟨fr,H⟩:=QK (kp4 h0 M G C) k
theorem kc5 (C:∀fr H,TW P nt b Q ⟨Zf [t0,t1,t2,t3,t4] fr,H⟩->K ⟨fr,H⟩) (h0:kE fr t0 d0) (T:kE fr t1 d1) (O:kE fr t2 d2) (M:kE fr t3 d3) (G:kE fr t4 d4) (k:TW P nt b Q ⟨[(t0,d0),(t1,d1),(t2,d2),(t3,d3),(t4,d4)],H⟩):K ⟨fr,H⟩:=kc C (kp5 h0 T O M G) k
theorem ks5 (h0:kE fr t0 d0) (O:kE fr t1 d1) (M:kE fr t2 d2) (G:kE fr t3 d3) (C:kE fr t4 d4) (k:TW P nt b Q ⟨[(t0,d0),(t1,d1),(t2,d2),(t3,d3),(t4,d4)],H⟩):Qdz P nt [t0,t1,t2,t3,t4] b Q .normal ⟨fr,H⟩:=QK (kp5 h0 O M G C) k
theorem kc6 (C:∀fr H,TW P nt b Q ⟨Zf [t0,t1,t2,t3,t4,t5] fr,H⟩->K ⟨fr,H⟩) (h0:kE fr t0 d0) (U:kE fr t1 d1) (T:kE fr t2 d2) (O:kE fr t3 d3) (M:kE fr t4 d4) (G:kE fr t5 d5) (k:TW P nt b Q ⟨[(t0,d0),(t1,d1),(t2,d2),(t3,d3),(t4,d4),(t5,d5)],H⟩):K ⟨fr,H⟩:=kc C (kp6 h0 U T O M G) k
theorem ks6 (h0:kE fr t0 d0) (T:kE fr t1 d1) (O:kE fr t2 d2) (M:kE fr t3 d3) (G:kE fr t4 d4) (C:kE fr t5 d5) (k:TW P nt b Q ⟨[(t0,d0),(t1,d1),(t2,d2),(t3,d3),(t4,d4),(t5,d5)],H⟩):Qdz P nt [t0,t1,t2,t3,t4,t5] b Q .normal ⟨fr,H⟩:=QK (kp6 h0 T O M G C) k
theorem kc7 (C:∀fr H,TW P nt b Q ⟨Zf [t0,t1,t2,t3,t4,t5,t6] fr,H⟩->K ⟨fr,H⟩) (h0:kE fr t0 d0) (V:kE fr t1 d1) (U:kE fr t2 d2) (T:kE fr t3 d3) (O:kE fr t4 d4) (M:kE fr t5 d5) (G:kE fr t6 d6) (k:TW P nt b Q ⟨[(t0,d0),(t1,d1),(t2,d2),(t3,d3),(t4,d4),(t5,d5),(t6,d6)],H⟩):K ⟨fr,H⟩:=kc C (kp7 h0 V U T O M G) k
theorem ks7 (h0:kE fr t0 d0) (U:kE fr t1 d1) (T:kE fr t2 d2) (O:kE fr t3 d3) (M:kE fr t4 d4) (G:kE fr t5 d5) (C:kE fr t6 d6) (k:TW P nt b Q ⟨[(t0,d0),(t1,d1),(t2,d2),(t3,d3),(t4,d4),(t5,d5),(t6,d6)],H⟩):Qdz P nt [t0,t1,t2,t3,t4,t5,t6] b Q .normal ⟨fr,H⟩:=QK (kp7 h0 U T O M G C) k
theorem kc8 (C:∀fr H,TW P nt b Q ⟨Zf [t0,t1,t2,t3,t4,t5,t6,t7] fr,H⟩->K ⟨fr,H⟩) (h0:kE fr t0 d0) (Y:kE fr t1 d1) (V:kE fr t2 d2) (U:kE fr t3 d3) (T:kE fr t4 d4) (O:kE fr t5 d5) (M:kE fr t6 d6) (G:kE fr t7 d7) (k:TW P nt b Q ⟨[(t0,d0),(t1,d1),(t2,d2),(t3,d3),(t4,d4),(t5,d5),(t6,d6),(t7,d7)],H⟩):K ⟨fr,H⟩:=kc C (kp8 h0 Y V U T O M G) k
theorem ks8 (h0:kE fr t0 d0) (V:kE fr t1 d1) (U:kE fr t2 d2) (T:kE fr t3 d3) (O:kE fr t4 d4) (M:kE fr t5 d5) (G:kE fr t6 d6) (C:kE fr t7 d7) (k:TW P nt b Q ⟨[(t0,d0),(t1,d1),(t2,d2),(t3,d3),(t4,d4),(t5,d5),(t6,d6),(t7,d7)],H⟩):Qdz P nt [t0,t1,t2,t3,t4,t5,t6,t7] b Q .normal ⟨fr,H⟩:=QK (kp8 h0 V U T O M G C) k
theorem kc9 (C:∀fr H,TW P nt b Q ⟨Zf [t0,t1,t2,t3,t4,t5,t6,t7,t8] fr,H⟩->K ⟨fr,H⟩) (h0:kE fr t0 d0) (h1:kE fr t1 d1) (Y:kE fr t2 d2) (V:kE fr t3 d3) (U:kE fr t4 d4) (T:kE fr t5 d5) (O:kE fr t6 d6) (M:kE fr t7 d7) (G:kE fr t8 d8) (k:TW P nt b Q ⟨[(t0,d0),(t1,d1),(t2,d2),(t3,d3),(t4,d4),(t5,d5),(t6,d6),(t7,d7),(t8,d8)],H⟩):K ⟨fr,H⟩:=kc C (kp9 h0 h1 Y V U T O M G) k
theorem ks9 (h0:kE fr t0 d0) (Y:kE fr t1 d1) (V:kE fr t2 d2) (U:kE fr t3 d3) (T:kE fr t4 d4) (O:kE fr t5 d5) (M:kE fr t6 d6) (G:kE fr t7 d7) (C:kE fr t8 d8) (k:TW P nt b Q ⟨[(t0,d0),(t1,d1),(t2,d2),(t3,d3),(t4,d4),(t5,d5),(t6,d6),(t7,d7),(t8,d8)],H⟩):Qdz P nt [t0,t1,t2,t3,t4,t5,t6,t7,t8] b Q .normal ⟨fr,H⟩:=QK (kp9 h0 Y V U T O M G C) k
theorem gn2 (h0:lk (fr) g0=some (.bool (!b0))) (C:lk ((w0,.undef)::fr) g1=some (.bool (!b1))) (k:run P dr r K ⟨(w1,.undef)::(w0,.undef)::fr,H⟩):run P dr (⟨some w0,o0,some (g0,b0)⟩::⟨some w1,o1,some (g1,b1)⟩::r) K ⟨fr,H⟩:=(YN h0 (YN C k))
theorem gn3 (h0:lk (fr) g0=some (.bool (!b0))) (G:lk ((w0,.undef)::fr) g1=some (.bool (!b1))) (C:lk ((w1,.undef)::(w0,.undef)::fr) g2=some (.bool (!b2))) (k:run P dr r K ⟨(w2,.undef)::(w1,.undef)::(w0,.undef)::fr,H⟩):run P dr (⟨some w0,o0,some (g0,b0)⟩::⟨some w1,o1,some (g1,b1)⟩::⟨some w2,o2,some (g2,b2)⟩::r) K ⟨fr,H⟩:=(YN h0 (YN G (YN C k)))
theorem gn4 {O:s6} {G:Nat} {M:Bool} {C:Nat} (h0:lk (fr) g0=some (.bool (!b0))) (V:lk ((w0,.undef)::fr) g1=some (.bool (!b1))) (U:lk ((w1,.undef)::(w0,.undef)::fr) g2=some (.bool (!b2))) (T:lk ((w2,.undef)::(w1,.undef)::(w0,.undef)::fr) G=some (.bool (!M))) (k:run P dr r K ⟨(C,.undef)::(w2,.undef)::(w1,.undef)::(w0,.undef)::fr,H⟩):run P dr (⟨some w0,o0,some (g0,b0)⟩::⟨some w1,o1,some (g1,b1)⟩::⟨some w2,o2,some (g2,b2)⟩::⟨some C,O,some (G,M)⟩::r) K ⟨fr,H⟩:=(YN h0 (YN V (YN U (YN T k))))
theorem mv2 (hx:St.ev ⟨fr,H⟩ x=some p) (C:St.ev ⟨(t,p)::fr,H⟩ y=some q) (k:run P dr r K ⟨(u,q)::(t,p)::fr,H⟩):run P dr (⟨some t,.wb x,none⟩::⟨some u,.wb y,none⟩::r) K ⟨fr,H⟩:=Qb hx (Qb C k)
end
open Go.RowKit
section
variable {P:Program} {E:Env} {g:Gh} {s:St} {a a':Act} {w w':World}
end
section
variable {P:Program} {nt:Nat} {K:Kn} {α:Type} {iv:α->Int} {l B N:Nat} {J:Bool->List α->World->Prop}
structure Yc (P:Program) (K:Kn) {α:Type} (iv:α->Int) (l B N:Nat) (J:Bool->List α->World->Prop):Prop where
 ab:∀t,AbidesFrom B (J t)
 yl:∀pre x W,J true pre W->pre.length<N->YieldAt Fence.wide 0 P l #[.int .i64 (iv x)] W λe W'=>(e=.returned (.bool true)/\J true (pre++[x]) W'/\(ka K W->ka K W'))\/(e=.returned (.bool false)/\J false (pre++[x]) W')
def kOf (K:Kn) (t:Bool):Kn:=if t then K elseλ_ _=>none
def QBn (nt:Nat) (w:World) (K:Kn):Env:=⟨nt,w.heap.size,w,K,λ_=>False,λ_=>False,λ_=>none,λ_=>(0,0),none,none⟩
def QzZ (nt:Nat) (K:Kn) (fr:QEg) (a:Act) (w:World):Prop:=∃g,K.le g.K/\Rel (QBn nt w g.K) g ⟨fr,[]⟩ a w
end
structure JSt (α:Type) where
 fr:QEg
 t:Bool
 pre:List α
section
variable {P:Program} {nt:Nat} {K:Kn} {α:Type} {iv:α->Int} {l B N:Nat} {J:Bool->List α->World->Prop}
def JR (nt:Nat) (K:Kn) {α:Type} (J:Bool->List α->World->Prop) (s:JSt α) (a:Act) (w:World):Prop:=QzZ nt (kOf K s.t) s.fr a w/\J s.t s.pre w
variable {Q:AExit->JSt α->Prop} {s:JSt α}
end
section
variable {P:Program} {nt:Nat} {K:Kn} {α:Type} {iv:α->Int} {l B N:Nat} {J:Bool->List α->World->Prop} {ops:Array Oper}
end
end Go.Abs
namespace Go.Abs
open Go
variable {a:Addr}
inductive Ty where
 |int (k:IntKind)
 |bool
 |str
 |sl (row:List Ty)
mutual
def Sat:Ty->D->Prop
 | .int k,d=>∃n:Int,d=.int k n/\k.min<=n/\n<=k.max
 | .bool,d=>∃b,d=.bool b
 | .str,d=>∃l,d=.str l/\l.length<=9223372036854775807
 | .sl r,d=>∃rows,d=.sl rows/\rows.length<=9223372036854775807/\∀row∈rows,n9 r row
def n9:List Ty->List D->Prop
 |[],ds=>ds=[]
 |t::ts,ds=>∃d r,ds=d::r/\Sat t d/\n9 ts r
end
theorem n9.append:∀{ts us:List Ty} {ds es:List D},n9 ts ds->n9 us es->n9 (ts++us) (ds++es)
 |[],us,ds,es,h,h'=>by simp only[n9]at h;subst h;exact h'
 |t::ts,us,ds,es,h,h'=>by
  simp only[n9]at h;obtain⟨d,r,rfl,G,C⟩:=h;simp only[QFi,n9];exact⟨d,r++es,rfl,G,C.append h'⟩
def QhY (P:Program) (rT:TypeId->Option (List Ty)):Nat->List Field->Option (List Ty)
 |_,[]=>some []
 |k,f::fs=>if f.offset=k then match rT f.type with
   |some r=>if r.length=P.cellsOf f.type then(QhY P rT (k+r.length) fs).map (r++·)else none
   |none=>none
  else none
def TI (P:Program):Nat->TypeId->Option (List Ty)
 |0,_=>none
 |n+1,t=>match P.underlying t with
  |some (.int k)=>some [.int k]
  |some .bool=>some [.bool]
  |some .string=>some [.str]
  |some (.slice e)=>match TI P n e with
   |some r=>if r.length=P.cellsOf e/\r.length≠0 then some [.sl r]else none
   |none=>none
  |some (.struct fs)=>match QhY P (TI P n) 0 fs.toList with
   |some r=>if r.length=P.cellsOf t then some r else none
   |none=>none
  |_=>none
def Fq (w:World):Kn:=λb o=>match w.heap[b]? with
 |some (.cells c _ _)=>c[o]?
 |_=>none
theorem Ru (w:World):ka (Fq w) w:=by
 intro b o x h;unfold Fq at h;split at h;rename_i c e f C;exact⟨c,e,f,C,h⟩;cases h
theorem R4 {w:World} {x:Value} (h:w.cell? a=some x):a.spot=none/\Fq w a.block a.off=some x:=by
 unfold World.cell? at h;unfold Fq;split at h;rename_i c e f C;split at h;cases h
 rename_i G;rw[C];exact⟨by cases M:a.spot<;>simp_all,h⟩
 cases h
theorem Rj {α β:Type} {f:α->Option β}:∀{l:List α} {r:List β},l.mapM f=some r->r.length=l.length/\∀(i:Nat) a,l[i]?=some a->∃b,r[i]?=some b/\f a=some b
 |[],r,h=>by simp at h;subst h;exact⟨rfl,by simp⟩
 |a::l,r,h=>by
  simp only[List.mapM_cons,Option.bind_eq_bind,QEP,Option.pure_def,QEl]at h;obtain⟨b,O,T,M,rfl⟩:=h;obtain⟨G,C⟩:=Rj M;refine⟨by simp[G],λi x hi=>?_⟩;cases i with
  |zero=>simp at hi;subst hi;exact⟨b,rfl,O⟩
  |succ i=>exact C i x (by simpa using hi)
theorem Mz {K:Kn} {b:Nat}:∀{off:Nat} {ds:List D} {cs:List Value},l6 K ds cs->(∀(i:Nat) v,cs[i]?=some v->K b (off+i)=some v)->o5 K b off ds
 |_,[],[],_,_=>by simp only[o5]
 |off,d::ds,v::vs,h,hk=>by
  simp only[l6]at h;simp only[o5];refine⟨⟨h.1.1,v,by simpa using hk 0 v rfl,h.1.2⟩,Mz h.2 λi v hi=>?_⟩;have:=hk (i+1) v (by simpa using hi);rw[show off+1+i=off+(i+1) by omega];exact this
 |_,[],_::_,h,_=>by simp only[l6]at h
 |_,_::_,[],h,_=>by simp only[l6]at h
theorem l6.append {K:Kn}:∀{ds es:List D} {vs us:List Value},l6 K ds vs->l6 K es us->l6 K (ds++es) (vs++us)
 |[],_,[],_,_,h=>h
 |d::ds,es,v::vs,us,h,h'=>by
  simp only[QFi,l6]at h ⊢;exact⟨h.1,l6.append h.2 h'⟩
 |[],_,_::_,_,h,_=>by simp only[l6]at h
 |_::_,_,[],_,h,_=>by simp only[l6]at h
theorem l6.len {K:Kn}:∀{ds:List D} {vs:List Value},l6 K ds vs->vs.length=ds.length
 |[],[],_=>rfl
 |d::ds,v::vs,h=>by simp only[l6]at h;simp[l6.len h.2]
 |[],_::_,h=>by simp only[l6]at h
 |_::_,[],h=>by simp only[l6]at h
section
variable {H:Type} {enc:TypeId × Value->H} {P:Program} {w:World} {base:Nat} {sp:Nat->Bool} {held:Bool}
theorem QhZ {fuel l0:Nat} {e:TypeId} {r:List Ty} {b off:Nat} (O:P.cellsOf e=l0)
  (ih:∀(cs:List Value) (x:DataW H × List MemPlace),DataW.trod enc P w base sp held fuel e cs=some x->∃ds,n9 r ds/\l6 (Fq w) ds cs):
  ∀(n k:Nat),(∀i,i<n->∃y,((w.cells? base ((⟨b,off,none⟩:Addr).add ((k+i)*l0)) l0).bind (DataW.trod enc P w base sp held fuel e))=some y)->
   ∃rows:List (List D),rows.length=n/\(∀row∈rows,n9 r row)/\(∀row∈rows,row.length=l0)/\j6 (Fq w) b (off+k*l0) rows
 |0,k,_=>⟨[],rfl,by simp,by simp,by simp only[j6]⟩
 |n+1,k,h=>by
  obtain⟨rows,h1,h2,h3,h4⟩:=QhZ O ih n (k+1) (λi hi=>by have:=h (i+1) Wa;rwa [show k+(i+1)=k+1+i by omega]at this)
  obtain⟨y,V⟩:=h 0 Wa;obtain⟨cs,C,V⟩:=QEP.1 V;obtain⟨ds,M,G⟩:=ih cs y V;unfold World.cells? at C;split at C;obtain⟨hl,hg⟩:=Rj C;have hlen:cs.length=l0:=by rw[hl,List.length_range]
  have T:ds.length=l0:=by rw[<- hlen,G.len]
  refine⟨ds::rows,by simp[h1], ?_, ?_, ?_⟩;intro row hr;rcases QEk.1 hr with rfl |hr
  exact M;exact h2 row hr;intro row hr;rcases QEk.1 hr with rfl |hr
  exact T;exact h3 row hr;simp only[j6];refine⟨Mz G λi v hv=>?_, ?_⟩;have hi:=(QEQ.1 hv).1;obtain⟨u,U,Y⟩:=hg i i (by rw[QE5 Wa]);rw[hv]at U;cases U;have:=(R4 Y).2
  simpa only[add_lit,QE9]using this
  rw[T,show off+k*l0+l0=off+(k+1)*l0 by rw[Nat.succ_mul];omega];exact h4;cases C
theorem D1 {l0 m:Nat} {fuel:Nat} {e:TypeId} {y:DataW H × List MemPlace} (h0:l0≠0) (hm:m=0) (h:((w.cells? base (a.add m) l0).bind (DataW.trod enc P w base sp held fuel e))=some y):a.spot=none:=by
 subst hm;obtain⟨cs,C,_⟩:=QEP.1 h;unfold World.cells? at C;split at C;obtain⟨_,G⟩:=Rj C;obtain⟨b,_,hb⟩:=G 0 0 (by rw[QE5 Wa]);have:=(R4 hb).1
 simpa [Addr.add]using this
 cases C
theorem Rr:∀(fuel n:Nat) (t:TypeId) (r:List Ty) (cs:List Value) (x:DataW H × List MemPlace),TI P n t=some r->DataW.trod enc P w base sp held fuel t cs=some x->∃ds,n9 r ds/\l6 (Fq w) ds cs
 |0,_,_,_,_,_,_,h=>by simp[DataW.trod]at h
 |fuel+1,0,_,_,_,_,h,_=>by simp[TI]at h
 |fuel+1,n+1,t,r,cs,x,hr,h=>by
  simp only[TI]at hr;unfold DataW.trod at h;cases hu:P.underlying t with
  |none=>simp[hu]at hr
  |some ty=>
   rw[hu]at hr h;cases ty<;>simp only[QEl,reduceCtorEq]at hr
   case bool=>
    subst hr
    match cs,h with
    |[.bool b],h=>exact⟨[.bool b],by simp[n9,Sat],by simp[l6,s4,D.l5]⟩
   case int k=>
    subst hr
    match cs,h with
    |[.int k' m],h=>
    simp only at h;split at h<;>try (cases h;done)
    rename_i hk;obtain⟨rfl,hwf⟩:=hk;have hw:k'.min<=m/\m<=k'.max:=by simpa [Lit.wf]using hwf
    refine⟨[.int k' m], ?_,by simp[l6,s4,D.l5]⟩;simp only[n9,Sat];exact⟨_,[],rfl,⟨m,rfl,hw⟩,rfl⟩
   case string=>
    subst hr
    match cs,h with
    |[.string s],h=>
    simp only at h;split at h<;>try (cases h;done)
    rename_i O;refine⟨[.str s.data.toList], ?_,by simp only[l6,s4];exact⟨⟨rfl,trivial⟩,trivial⟩⟩
    simp only[n9,Sat];refine⟨_,[],rfl,⟨_,rfl, ?_⟩,rfl⟩;unfold maxLen at O;have e1:s.data.toList.length=s.size:=by rw[QE1];rfl
    omega
   case slice e=>
    split at hr;rename_i T hre;split at hr
    ·rename_i hlen;cases hr
     have U:∀(cs:List Value) (x:DataW H × List MemPlace),DataW.trod enc P w base sp held fuel e cs=some x->∃ds,n9 T ds/\l6 (Fq w) ds cs:=λcs x hx=>Rr fuel n e T cs x hre hx
     match cs,h with
     |[.slice none len cap],h=>
      have:len=0/\cap=0:=by
       cases len<;>cases cap<;>first |exact⟨rfl,rfl⟩ |(simp at h;done)
      obtain⟨rfl,rfl⟩:=this;refine⟨[.sl []], ?_, ?_⟩;simp only[n9,Sat];exact⟨_,[],rfl,⟨[],rfl,by simp,by simp⟩,rfl⟩;simp only[l6,s4];exact⟨⟨rfl,none,0,rfl,QEI _,.inl trivial⟩,trivial⟩
     |(.slice none _ _)::_::_,h=>simp at h
     |[.slice (some a) len cap],h=>
      simp only at h;split at h;rename_i hb;obtain⟨elems,h1,h2⟩:=QEP.1 h;obtain⟨hl,hg⟩:=Rj h1;simp only[List.length_range]at hl
      have C:∀i,i<len->∃y,((w.cells? base (a.add ((0+i)*P.cellsOf e)) (P.cellsOf e)).bind (DataW.trod enc P w base sp held fuel e))=some y:=λi hi=>by
       obtain⟨y,_,hy⟩:=hg i i (by simp[hi]);exact⟨y,by rw[Nat.zero_add];exact hy⟩
      have hmax:len<=9223372036854775807:=by
       have:=hb.2.2;unfold maxLen at this;omega
      by_cases h0:len=0
      subst h0;refine⟨[.sl []], ?_, ?_⟩;simp only[n9,Sat];exact⟨_,[],rfl,⟨[],rfl,by simp,by simp⟩,rfl⟩;simp only[l6,s4];exact⟨⟨rfl,some a,cap,rfl,QEu _,.inl trivial⟩,trivial⟩;obtain⟨y0,Y⟩:=C 0 Wa;have O:a.spot=none:=D1 (by rw[<- hlen.1];exact hlen.2) Wd Y
      obtain⟨ab,ao,as1⟩:=a;simp only at O;subst O;obtain⟨rows,q1,q2,q3,q4⟩:=QhZ (r:=T) rfl U len 0 C;refine⟨[.sl rows], ?_, ?_⟩;simp only[n9,Sat];exact⟨_,[],rfl,⟨rows,rfl,Wa,q2⟩,rfl⟩;simp only[l6,s4];exact⟨⟨rfl,some _,cap,by rw[q1],by rw[q1];exact hb.2.1,.inr ⟨ab,ao,P.cellsOf e,rfl,q3,by simpa using q4⟩⟩,trivial⟩
      cases h
    cases hr
    cases hr
   case struct fs=>
    split at hr;rename_i rs hrs;split at hr;rename_i hlen;cases hr
    have h':(if cs.length=P.cellsOf t then(fs.toList.mapM λf=>DataW.trod enc P w base sp held fuel f.type ((cs.drop f.offset).take (P.cellsOf f.type))).map λxs=>(DataW.agg (xs.map (·.1)),xs.flatMap (·.2))else none)=some x:=by
     revert h;split<;>simp_all
    split at h';rename_i hcl;obtain⟨xs,hx,_⟩:=QEh.1 h'
    have key:∀(l:List Field) (k:Nat) (r:List Ty) (xs:List (DataW H × List MemPlace)),QhY P (TI P n) k l=some r->l.mapM (λf=>DataW.trod enc P w base sp held fuel f.type ((cs.drop f.offset).take (P.cellsOf f.type)))=some xs->cs.length=k+r.length->
      ∃ds,n9 r ds/\l6 (Fq w) ds (cs.drop k):=by
     intro l
     induction l with
     |nil=>
      intro k r xs hk _ hc;simp only[QhY,QEl]at hk;subst hk;refine⟨[],by simp[n9], ?_⟩;rw[QED (by simp at hc;omega)]
      simp only[l6]
     |cons f l U=>
      intro k r xs hk hm hc;simp only[QhY]at hk;split at hk;rename_i G;split at hk;rename_i M hrf;split at hk;rename_i hrl;obtain⟨r2,hr2,rfl⟩:=QEh.1 hk;simp only[List.mapM_cons,Option.bind_eq_bind,QEP,Option.pure_def,QEl]at hm;obtain⟨y,hy,ys,V,rfl⟩:=hm;obtain⟨ds,d1,d2⟩:=Rr fuel n f.type M _ y hrf hy;obtain⟨es,e1,e2⟩:=U (k+M.length) r2 ys hr2 V (by simp at hc;omega)
      refine⟨ds++es,d1.append e1, ?_⟩
      have:cs.drop k=(cs.drop k).take M.length++cs.drop (k+M.length):=by
       rw[<- List.drop_drop,QES]
      rw[this];rw[G,<- hrl]at d2;exact d2.append e2;cases hk
      cases hk
      cases hk
    have:=key fs.toList 0 r xs hrs hx (by rw[hcl,<- hlen];omega)
    simpa using this
    cases h'
    cases hr
    cases hr
end
open Go.RowKit Go.WideShapes Go.ChangeShapes
variable {s:ChangeSpec} {v:Value}
inductive ASh where
 |one (t:Ty)
 |agg (r:List Ty)
def SatA:ASh->D->Prop
 | .one t,d=>Sat t d
 | .agg r,d=>∃ds,d=.agg ds/\n9 r ds
def SatAs:List ASh->List D->Prop
 |[],ds=>ds=[]
 |s::ss,ds=>∃d r,ds=d::r/\SatA s d/\SatAs ss r
def QxF (P:Program) (t:TypeId):Option ASh:=
 match P.underlying t with
 |some (.struct _)=>(TI P 60 t).map .agg
 |some _=>match TI P 60 t with
  |some [x]=>some (.one x)
  |_=>none
 |none=>none
def QeE (P:Program):List TypeId->Option (List ASh)
 |[]=>some []
 |t::ts=>match QxF P t,QeE P ts with
  |some s,some ss=>some (s::ss)
  |_,_=>none
section
variable {H:Type} {enc:TypeId × Value->H} {P:Program} {W:World}
theorem Qnh {t:TypeId} {sh:ASh} {d:DataW H} {p:List MemPlace} {r:Reach} {b0 base:Nat} {sp:Nat->Bool} {held:Bool} (M:QxF P t=some sh) (C:Value.okWide P W r b0 t v) (h:DataW.Trod enc P W base sp held t v d p):
  ∃D,SatA sh D/\s4 (Fq W) D v:=by
 obtain⟨fuel,h⟩:=h;unfold QxF at M;cases hu:P.underlying t with
 |none=>simp[hu]at M
 |some ty=>
  rw[hu]at M
  by_cases hst:∃fs,ty=.struct fs
  obtain⟨fs,rfl⟩:=hst;obtain⟨row,hr,rfl⟩:=QEh.1 M;unfold Value.okWide at C;rw[hu]at C;obtain⟨cs,rfl,_,_⟩:=C;obtain⟨ds,T,O⟩:=Rr fuel 60 t row _ _ hr h;refine⟨.agg ds,⟨ds,rfl,T⟩, ?_⟩;simp only[s4];exact⟨cs.toList,rfl,O⟩
  have G:(match TI P 60 t with |some [x]=>some (ASh.one x) |_=>none)=some sh:=by
   revert M;cases ty<;>simp_all
  split at G;rename_i x hr;cases G
  obtain⟨ds,T,O⟩:=Rr fuel 60 t [x] _ _ hr h;simp only[n9]at T;obtain⟨D,_,rfl,V,rfl⟩:=T;refine⟨D,V, ?_⟩
  have U:v.cells.toList=[v]:=by
   cases v<;>try rfl
   exfalso;unfold TI at hr;rw[hu]at hr;unfold Value.okWide at C;rw[hu]at C;cases ty<;>simp_all [Cell.okWide,Cell.ok]
  rw[U]at O;simp only[l6]at O;exact O.1.2;cases G
theorem LO:∀{ts:List TypeId} {shs:List ASh} {vs:List Value} {ds:List (DataW H)} {ps:List MemPlace} {r:Reach} {b0 base:Nat} {sp:Nat->Bool} {held:Bool},QeE P ts=some shs->
  (∀(j:Nat) t v,ts[j]?=some t->vs[j]?=some v->Value.okWide P W r b0 t v)->DataW.TrodAll enc P W base sp held ts vs ds ps->∃Ds,SatAs shs Ds/\x5 (Fq W) Ds vs
 |[],shs,vs,ds,ps,_,_,_,_,_,C,_,h=>by
  obtain⟨rfl,rfl,rfl⟩:=trodAll_nil h;simp only[QeE,QEl]at C;subst C;exact⟨[],rfl,by simp only[x5]⟩
 |t::ts,shs,vs,ds,ps,_,_,_,_,_,C,hv,h=>by
  obtain⟨v,O,d,ds',p,q,rfl,rfl,rfl,hd,G⟩:=trodAll_cons h;simp only[QeE]at C;split at C;rename_i s ss e1 e2;cases C
  obtain⟨D,h1,Y⟩:=Qnh e1 (hv 0 t v rfl rfl) hd;obtain⟨Ds,V,U⟩:=LO e2 (λj t v T M=>hv (j+1) t v (by simpa using T) (by simpa using M)) G;exact⟨D::Ds,⟨D,Ds,rfl,h1,V⟩,by simp only[x5];exact⟨Y,U⟩⟩
  cases C
theorem Gt (M:laidOutB P=true) {W':World} {G:Nat->Bool} (hb:Below W.heap.size W W'):∀{ts:List TypeId} {vs:List Value} {ds:List (DataW H)} {ps:List MemPlace},(∀t∈ts,P.readableRec t=true/\t<P.types.size)->
  DataW.TrodAll enc P W 0 (λ_=>true) true ts vs ds ps->(∀p∈ps,p.block<W.heap.size)->(∀p∈ps,G p.block=true)->DataW.TrodAll enc P W' 0 G true ts vs ds ps
 |[],vs,ds,ps,_,h,_,_=>by
  obtain⟨rfl,rfl,rfl⟩:=trodAll_nil h;exact rfl
 |t::ts,vs,ds,ps,hr,h,hlt,hsp=>by
  obtain⟨v,O,d,ds',p,q,rfl,rfl,rfl,hd,C⟩:=trodAll_cons h;obtain⟨r1,r2⟩:=hr t Wd
  exact⟨p,q,WideElems.Trod_stays M r1 r2 hd (λx hx=>hb.same (hlt x (by simp[hx]))) (λx hx=>hsp x (by simp[hx])),
   Gt M hb (λt T=>hr t (by simp[T])) C (λx hx=>hlt x (by simp[hx])) (λx hx=>hsp x (by simp[hx])),rfl⟩
theorem Lm {f:Func} {apart fresh handsOn again:Bool} {W':World} {args:Array Value} {ds gs:List (DataW H)} {before pa pv:List MemPlace}
 (hW:DataW.Whole enc P f.params.toList s.vars apart W args.toList ds gs before)
 (O:∀(b:Nat) (sp:Nat->Bool) (hd:Bool),DataW.TrodAll enc P W' b sp hd f.resultTypes.toList (v.resultList f.resultTypes.size) (s.fn H (ds++gs)).results [])
 (G:∀sp:Nat->Bool,(∀p∈before,sp p.block=true)->DataW.TrodAll enc P W' 0 sp true f.params.toList args.toList (s.fn H (ds++gs)).args pa)
 (C:∀sp:Nat->Bool,(∀p∈before,sp p.block=true)->DataW.TrodVars enc P W' sp s.vars (s.fn H (ds++gs)).vars pv)
 (M:before=pa++pv) (hb:Below W.heap.size W W')
 (Y:∀(j:Nat) (t:TypeId) (r:Value),f.resultTypes[j]?=some t->(v.resultList f.resultTypes.size)[j]?=some r->Value.okWide P W' .any 0 t r):
  s.post enc P f apart fresh handsOn again W args v W':=by
 have V:∀p∈before,p.block<W.heap.size:=λp hp=>hW.lt p hp;have U:∀p∈before,(λb=>decide (b<W.heap.size)) p.block=true:=λp hp=>by simpa using V p hp
 refine⟨ds,gs,before,[],pa,pv,hW,O _ _ _,G _ U,C _ U,World.keptBut_mono (λp hp=>⟨hp, ?_⟩) (hb.frame (·∈before)),λ_=>?_⟩;rw[M,QEt]at hp;exact .inr hp;obtain⟨_,_,_,_,_,hz,hn⟩:=hW;refine⟨Y,_,_,([]++pa)++pv,⟨[]++pa,pv,trodAll_append (G _ (λ_ _=>rfl)) (O _ _ _),C _ (λ_ _=>rfl),rfl,λb off hp=>?_,λha=>?_⟩,λp hp _=>?_⟩;have T:MemPlace.cell b off∈before:=by rw[M];simpa using hp
 rw[hb.frozen (V _ T)];exact hz b off T;have:=hn ha;rw[M]at this
 simpa using this
 rw[M];simpa using hp
end
theorem law_lift {C:Checked} {os:Os} {F:Nat} {fn:Func} {conds:List PathCond} {H:Type} {enc:TypeId × Value->H} {shs:List ASh} {tb:TypeId} (own:ownKnob C.prog.godebug=none) (started:os.Started)
 (T:C.prog.inits.idxOf? F=none) (hfn:C.prog.funcs[F]?=some fn) (G:s.vars=[])
 (witness:∃(w:World) (tape:Tape) (i:Input),w.os=os/\(w.forCall tape i).Shaped C.prog/\i.vars=[]/\Input.okWide C.prog (w.forCall tape i) .any w.heap.size F i/\
 s.pre6 enc C.prog fn conds false (w.forCall tape i).memory i.args/\({}:Assume).holds C.prog (lone (Frame.enter C.prog F i.args .normal) [] (w.forCall tape i)))
 (hl:laidOutB C.prog=true) (hread:∀t∈fn.params.toList,C.prog.readableRec t=true/\t<C.prog.types.size) (U:fn.resultTypes=#[tb]) (O:C.prog.underlying tb=some .bool)
 (hsh:QeE C.prog fn.params.toList=some shs) (V:∀ds:List (DataW H),ds.length=fn.params.toList.length->s.fn H ds={results:=[.lit (.bool true)],args:=ds})
 (hlaw:∀Ds,SatAs shs Ds->Ok C.prog F Ds (.bool true)) (hg:Gz F=[]:=by rfl):
  ReturnsInHanded {} C os F .any (s.pre6 enc C.prog fn conds false) (s.post enc C.prog fn false true false false):=by
 refine returnsInHanded_of_change own started T hfn witness ?_;intro W base args ds gs before hval hW _ _;have hW':=hW;obtain⟨p,q,hA,hV,rfl,hfz,hnd⟩:=hW;rw[G]at hV;obtain⟨rfl,rfl⟩:=trodVars_none hV;obtain⟨Ds,h1,h2⟩:=LO hsh (λj t v ht hv=>hval j t v (by simpa using ht) (by simpa using hv)) hA
 have hlen:ds.length=fn.params.toList.length:=by
  have:∀{ts:List TypeId} {vs:List Value} {ds:List (DataW H)} {ps:List MemPlace},DataW.TrodAll enc C.prog W 0 (λ_=>true) true ts vs ds ps->ds.length=ts.length:=by
   intro ts
   induction ts with
   |nil=>intro vs ds ps h;obtain⟨_,rfl,_⟩:=trodAll_nil h;rfl
   |cons t ts ih=>
    intro vs ds ps h;obtain⟨v,vs',d,ds',p,q,rfl,rfl,rfl,hd,hrest⟩:=trodAll_cons h;simp[ih hrest]
  exact this hA
 have Y:s.fn H (ds++[])={results:=[.lit (.bool true)],args:=ds}:=by rw[QEN];exact V ds hlen
 have M:=(hlaw Ds h1).2 (Fq W) W args.toList (Ru W) (by rw[gVs,hg,QFx,QEN];exact h2)
 rw[Array.toArray_toList]at M;refine M.mono λe W' ⟨v,K',he,hv,hkr,hsz,hh,hk,hfx⟩=>?_;simp only[s4]at hv;subst he;subst hv;have hb:Below W.heap.size W W':=⟨hfx.1,hfx.2.1,hfx.2.2,hsz,λk hk=>hh k hk⟩;refine⟨_,rfl,Lm (pa:=p) (pv:=[]) hW' (λb sp hd=>?_) (λsp hsp'=>?_) (λ_ _=>?_) rfl hb (ok_one U rfl (okWide_bool_mk O true))⟩;rw[Y,U];exact trodAll_mk1 (shut_bool O true);rw[Y];exact Gt hl hb hread hA (λx hx=>hW'.lt x (by simp[hx])) (λx hx=>hsp' x (by simp[hx]));rw[Y,G];rfl
theorem sat_ints {rows:List (List D)} (h:∀row∈rows,n9 [.int .i64] row):∃l:List Int,rows=l.map (λx=>[D.int .i64 x])/\∀x∈l, -9223372036854775808<=x/\x<=9223372036854775807:=by
 induction rows with
 |nil=>exact⟨[],rfl,by simp⟩
 |cons row rows ih=>
  obtain⟨l,O,M⟩:=ih λr hr=>h r (by simp[hr]);have h0:=h row Wd;simp only[n9,Sat]at h0;obtain⟨_,_,rfl,⟨n,rfl,G,C⟩,rfl⟩:=h0;refine⟨n::l,by simp[O],λx hx=>?_⟩;rcases QEk.1 hx with rfl |hx
  exact⟨G,C⟩;exact M x hx
variable {fs:Array Field}
def zeroV:DataW Unit:=.agg [.lit (.int .i64 0),.lit (.int .i64 0),.lit (.int .i64 0),.lit (.string []),.lit (.string [])]
def zeroG:D:=.ptr [.int .i64 0,.int .i64 0,.int .i64 0,.str [],.str []]
def Qrh (P:Program) (fs:Array Field):Bool:=fs.size==5&&(List.range 5).all λi=>match fs[i]? with
 |some f=>f.offset==i&&P.cellsOf f.type==1&&(match P.underlying f.type with
  |some (.int .i64)=>decide (i<3)
  |some .string=>decide (3<=i)
  |_=>false)
 |none=>false
theorem Qar {P:Program} {W:World} {nm:String} {t:TypeId} (h:laidMet P [(nm,zeroV)] W) (hg:P.globalNamed nm=some 0) (ht:(P.globals[0]?).map (·.type)=some t)
 (hu:P.underlying t=some (.struct fs)) (hb:Qrh P fs=true):s4 (Fq W) zeroG (.pointer (some ⟨0,0,none⟩)):=by
 obtain⟨ps,⟨g,t',cs,fuel,p,q,Y,U,hv,hd,_,_⟩,_,_⟩:=h;obtain rfl:=QFD (hg.symm.trans Y);obtain rfl:=QFD (ht.symm.trans U);obtain⟨xs,m,_,ex,_,hl,hel⟩:=DataW.trod_struct hu hd;simp only[Qrh,QEm,beq_iff_eq,QEs,QEE]at hb;obtain⟨h5,hb⟩:=hb;have e0:xs.map (·.1)=[.lit (.int .i64 0),.lit (.int .i64 0),.lit (.int .i64 0),.lit (.string []),.lit (.string [])]:=(DataW.agg.inj (Prod.mk.inj ex).1).symm
 have key:∀i,i<5->∃v,cs[i]?=some v/\((i<3/\v=.int .i64 0)\/(3<=i/\v=.string ⟨#[]⟩)):=by
  intro i hi;have G:=hb i hi;split at G<;>try (cases G;done)
  rename_i f hf;simp only[QEm,beq_iff_eq]at G;obtain⟨⟨ho,hc⟩,hk⟩:=G;have hE:=hel i f hf;rw[ho,hc,QE8 Wa]at hE;have e1:(xs.map (·.1))[i]?=some xs[i].1:=by rw[QE4,QE8 Wa];rfl
  rw[e0]at e1
  have T:∀v,(cs.toList.drop i).take 1=[v]->cs[i]?=some v:=λv M=>by
   have h0:((cs.toList.drop i).take 1)[0]?=some v:=by rw[M];rfl
   simpa using h0
  split at hk;rename_i O;obtain⟨z,e2,e3,_⟩:=DataW.trod_int O hE;refine⟨_,T _ e2,.inl ⟨of_decide_eq_true hk, ?_⟩⟩;have V:=of_decide_eq_true hk;rw[e3]at e1;rcases(Wa:i=0\/i=1\/i=2)with rfl |rfl |rfl<;>(simp at e1;rw[<- e1])
  rename_i O;obtain⟨s,e2,e3,_⟩:=DataW.trod_string O hE;refine⟨_,T _ e2,.inr ⟨of_decide_eq_true hk, ?_⟩⟩;have V:=of_decide_eq_true hk;rw[e3]at e1
  have hs:s.data.toList=[]:=by
   rcases(Wa:i=3\/i=4)with rfl |rfl<;>(simp at e1;simpa using e1.symm)
  obtain⟨⟨l⟩⟩:=s;simp at hs;rw[hs];cases hk
 have C:∀i v,cs[i]?=some v->Fq W 0 i=some v:=λi v M=>by
  have:=World.var?_cell hg hv i;exact(R4 (this.trans M)).2
 obtain⟨v0,a0,b0⟩:=key 0 Wa;obtain⟨v1,a1,b1⟩:=key 1 Wa;obtain⟨v2,a2,b2⟩:=key 2 Wa;obtain⟨v3,a3,b3⟩:=key 3 Wa;obtain⟨v4,a4,b4⟩:=key 4 Wa;have c0:=C _ _ a0;have c1:=C _ _ a1;have c2:=C _ _ a2;have c3:=C _ _ a3;have c4:=C _ _ a4;simp at b0 b1 b2 b3 b4;subst b0 b1 b2 b3 b4;simp only[zeroG,s4];refine⟨0,0,rfl, ?_⟩;simp only[o5];exact⟨⟨rfl,_,c0,by simp only[s4]⟩,⟨rfl,_,c1,by simp only[s4]⟩,⟨rfl,_,c2,by simp only[s4]⟩,⟨rfl,_,c3,by simp only[s4]⟩,⟨rfl,_,c4,by simp only[s4]⟩,trivial⟩
theorem law_liftL {C:Checked} {os:Os} {F:Nat} {fn:Func} {s:ChangeSpec} {conds:List PathCond} {H:Type} {enc:TypeId × Value->H} {shs:List ASh} {tb:TypeId} {nm:String} {tg:TypeId}
 (own:ownKnob C.prog.godebug=none) (started:os.Started)
 (T:C.prog.inits.idxOf? F=none) (hfn:C.prog.funcs[F]?=some fn) (G:s.vars=[])
 (witness:∃(w:World) (tape:Tape) (i:Input),w.os=os/\(w.forCall tape i).Shaped C.prog/\i.vars=[]/\Input.okWide C.prog (w.forCall tape i) .any w.heap.size F i/\
 ((s.pre enc C.prog fn conds false (w.forCall tape i).memory i.args/\laidMetH C.prog [(nm,zeroV)] (w.forCall tape i).memory)/\sizedMet enc C.prog fn (OpenSpec.ofChange s) false (w.forCall tape i).memory i.args)/\({}:Assume).holds C.prog (lone (Frame.enter C.prog F i.args .normal) [] (w.forCall tape i)))
 (hl:laidOutB C.prog=true) (hread:∀t∈fn.params.toList,C.prog.readableRec t=true/\t<C.prog.types.size) (U:fn.resultTypes=#[tb]) (O:C.prog.underlying tb=some .bool)
 (hsh:QeE C.prog fn.params.toList=some shs) (V:∀ds:List (DataW H),ds.length=fn.params.toList.length->s.fn H ds={results:=[.lit (.bool true)],args:=ds})
 (hgn:C.prog.globalNamed nm=some 0) (hgt:(C.prog.globals[0]?).map (·.type)=some tg) (hgu:C.prog.underlying tg=some (.struct fs)) (hgb:Qrh C.prog fs=true)
 (hlaw:∀Ds,SatAs shs Ds->Ok C.prog F (Ds++[zeroG]) (.bool true)) (hg:Gz F=[0]:=by rfl):
  ReturnsInHanded {} C os F .any (λw args=>(s.pre enc C.prog fn conds false w args/\laidMetH C.prog [(nm,zeroV)] w)/\sizedMet enc C.prog fn (OpenSpec.ofChange s) false w args) (s.post enc C.prog fn false true false false):=by
 refine returnsInHanded_of_change_and (X:=λw _=>laidMetH C.prog [(nm,zeroV)] w) (λ_ _ _ hh h=>h.of_heap hh) own started T hfn witness ?_;intro W base args ds gs before hval hW _ _ hL _;rw[MakeChecks.laidMetH_plain _ _ _ Wg]at hL;have hz:=Qar hL hgn hgt hgu hgb;have hW':=hW;obtain⟨p,q,hA,hV,rfl,hfz,hnd⟩:=hW;rw[G]at hV;obtain⟨rfl,rfl⟩:=trodVars_none hV;obtain⟨Ds,h1,h2⟩:=LO hsh (λj t v ht hv=>hval j t v (by simpa using ht) (by simpa using hv)) hA
 have hlen:ds.length=fn.params.toList.length:=by
  have:∀{ts:List TypeId} {vs:List Value} {ds:List (DataW H)} {ps:List MemPlace},DataW.TrodAll enc C.prog W 0 (λ_=>true) true ts vs ds ps->ds.length=ts.length:=by
   intro ts
   induction ts with
   |nil=>intro vs ds ps h;obtain⟨_,rfl,_⟩:=trodAll_nil h;rfl
   |cons t ts ih=>
    intro vs ds ps h;obtain⟨v,vs',d,ds',p,q,rfl,rfl,rfl,hd,hrest⟩:=trodAll_cons h;simp[ih hrest]
  exact this hA
 have Y:s.fn H (ds++[])={results:=[.lit (.bool true)],args:=ds}:=by rw[QEN];exact V ds hlen
 have hrep:∀{Ds:List D} {vs:List Value},x5 (Fq W) Ds vs->x5 (Fq W) (Ds++[zeroG]) (vs++[.pointer (some ⟨0,0,none⟩)]):=by
  intro Ds
  induction Ds with
  |nil=>intro vs h;cases vs with
   |nil=>exact⟨hz,trivial⟩
   |cons v vs=>simp[x5]at h
  |cons D Ds ih=>intro vs h;cases vs with
   |nil=>simp[x5]at h
   |cons v vs=>
    simp only[x5]at h;simp only[QFi,x5];exact⟨h.1,ih h.2⟩
 have M:=(hlaw Ds h1).2 (Fq W) W args.toList (Ru W) (by rw[gVs,hg];exact hrep h2)
 rw[Array.toArray_toList]at M;refine M.mono λe W' ⟨v,K',he,hv,hkr,hsz,hh,hk,hfx⟩=>?_;simp only[s4]at hv;subst he;subst hv;have hb:Below W.heap.size W W':=⟨hfx.1,hfx.2.1,hfx.2.2,hsz,λk hk=>hh k hk⟩;refine⟨_,rfl,Lm (pa:=p) (pv:=[]) hW' (λb sp hd=>?_) (λsp hsp'=>?_) (λ_ _=>?_) rfl hb (ok_one U rfl (okWide_bool_mk O true))⟩;rw[Y,U];exact trodAll_mk1 (shut_bool O true);rw[Y];exact Gt hl hb hread hA (λx hx=>hW'.lt x (by simp[hx])) (λx hx=>hsp' x (by simp[hx]));rw[Y,G];rfl
end Go.Abs
namespace Go.Abs
open Go Go.RowKit
section
variable {P:Program} {nt:Nat} {ops:Array Oper} {E:Env}
theorem X5:∀{l:List Oper} {l':List u3},QV P nt ops l=some l'->l'.length=l.length
 |[],l',h=>by grind [QV]
 |x::xs,l',h=>by
  simp only[QV]at h;split at h;rename_i e2;cases h;simp[X5 e2]
  grind
end
end Go.Abs
namespace Go.Abs
open Go
section
variable {P:Program} {E:Env} {g:Gh} {s:St} {a:Act} {w:World}
end
section
variable {P:Program} {nt:Nat} {E:Env}
theorem Rd:∀{H Hr:QEf},Hr.map Prod.fst=H.map Prod.fst->∀j,(lk Hr j).isSome=(lk H j).isSome
 |[],[],_,_=>rfl
 |(a,x)::H,(b,y)::Hr,h,j=>by
  simp only[QEW,QFE]at h;rw[Qz,Qz,h.1];split;rfl;exact Rd h.2 j
 |[],_::_,h,_=>by cases h
 |_::_,[],h,_=>by cases h
end
variable {H:QEf} {fr:QEg}
theorem PA {g:Gh} {c:Array Value} {k:Nat}:∀{off:Nat} {row:List D} {j:Nat},j5 g c off row->row[j]?=some (.u7 [])->j5 g c off (row.set j (.u4 k 0))
 |_,[],_,_,hj=>by grind
 |off,d::ds,0,h,hj=>by
  simp only[List.getElem?_cons_zero,QEl]at hj;subst hj;simp only[List.set_cons_zero,j5]at h ⊢;obtain⟨⟨_,x,M,G⟩,C⟩:=h;refine⟨⟨rfl,x,M, ?_⟩,C⟩;simp only[z4,s4]at G ⊢
  grind
 |off,d::ds,j+1,h,hj=>by
  simp only[List.getElem?_cons_succ]at hj;simp only[List.set_cons_succ,j5]at h ⊢;exact⟨h.1,PA h.2 hj⟩
theorem Qia {α:Type} {l:List α} {j:Nat} {x y:α} (h:y∈l.set j x):y=x\/y∈l:=by
 grind
theorem XD (k0 j k l0 et:Nat) {row row':List D} {e0 t0:Nat} {p0:Bool} (hb:lk H k0=some ⟨[row],e0,t0,p0⟩) (hj:row[j]?=some (.u7 [])) (hr:row.set j (.u4 k 0)=row') (hk:lk H k=none):
  St.le ⟨fr,H⟩ ⟨fr,(k0,⟨[row'],e0,t0,false⟩)::(k,⟨[],l0,et,true⟩)::H⟩:=by
 subst hr;intro E g a w r;obtain⟨g',hK,hβ,C⟩:=r.fb (l0:=l0) (et:=et) (t:=k) hk;have hne:k0≠k:=λe=>by grind
 have O:lk ((k,(⟨[],l0,et,true⟩:x4))::H) k0=some ⟨[row],e0,t0,p0⟩:=by simp_all [Qz,Ne.symm]
 have up:∀i,(lk ((k,(⟨[],l0,et,true⟩:x4))::H) i).isSome=true->(lk ((k0,(⟨[row.set j (.u4 k 0)],e0,t0,false⟩:x4))::(k,⟨[],l0,et,true⟩)::H) i).isSome=true:=λi hi=>by
  grind [Qz]
 have M:∀i x,lk ((k0,(⟨[row.set j (.u4 k 0)],e0,t0,false⟩:x4))::(k,⟨[],l0,et,true⟩)::H) i=some x->∃x',lk ((k,(⟨[],l0,et,true⟩:x4))::H) i=some x':=λi x h=>by
  grind [Qz]
 refine⟨g',⟨C.nt,C.df,C.fr,λt d h i hi=>up i (C.da t d h i hi),λi x h i2 G=>?_,λi x h=>?_,λi i' x x' B e e' h1 h2=>?_,C.kr,C.ext,C.kx,λi hi=>let⟨q1,Y,T,U⟩:=C.kp i hi;⟨q1,Y,T,up i U⟩⟩⟩
 rw[Qz]at h;split at h;rename_i e;cases h
 simp only[x4.ids,QEq,if_false,QEM,List.flatMap_nil,QEN,QEp]at G;obtain⟨d,hd,V⟩:=G;rcases Qia hd with rfl |hd
 (repeat clear hK K);simp_all [D.y4,Qoq]
 exact up i2 (C.wa k0 _ O row Wd d hd i2 V);exact up i2 (C.x9 i x h i2 G);rw[Qz]at h;split at h;rename_i e;cases h;subst e;obtain⟨q1,Y,T⟩:=C.bx k0 _ O;rcases T with⟨T,_⟩ |⟨_,B,c,U,q5,q6,q7,q8,q9⟩
 grind
 refine⟨λr0 hr0=>?_,by simp,.inr ⟨by simp,B,c,U,q5,q6, ?_,q8,q9⟩⟩
 grind
 grind [s5,PA]
 exact C.bx i x h;obtain⟨y1,e1⟩:=M i x h1;obtain⟨y2,e2⟩:=M i' x' h2;exact C.inj i i' y1 y2 B e e' e1 e2
theorem Mg {fr1:QEg} {H1:QEf} {l lH:List Nat} (t m k0:Nat) {b b0 G:x4} (hf:Zf l fr=fr1) (hH:Yj lH H=H1) (hb:lk H t=some b) (T:b.pr=true) (h0:lk H k0=some b0) (e0:b0.u5 (YG t m)=G)
 (hw:wa ((m,b)::(k0,G)::H1) fr1=true) (c1:(fr1.all λp=>!p.2.ids.contains t&&!p.2.ids.contains m)=true) (Y:(H1.all λp=>p.1 != t&&p.1 != m&&(p.2.pr||(!p.2.ids.contains t&&!p.2.ids.contains m)))=true) (hbk:QeR H H1=true) (ht:t<1000000:=by decide) (hm:m<1000000:=by decide) (hk0:k0≠t/\k0≠m:=by decide):
  St.le ⟨fr,H⟩ ⟨fr1,(m,b)::(k0,G)::H1⟩:=λE g a w r=>by
 subst hf hH e0;obtain⟨g',r'⟩:=Hm t m ht hm ⟨fr,H⟩ E g a w r;have hsw:YG t m t=m:=by unfold YG;simp
 have hsm:YG t m m=t:=by grind [Xl]
 have C:∀k,k≠t->k≠m->YG t m k=k:=λk h1 M=>by unfold YG;grind
 have U:b.u5 (YG t m)=b:=x4.ya ((r.bx t b hb).2.1 T);simp only[wa,QEm,QEs]at hw;simp only[QEs,QEm,QFv,QFC,decide_eq_false_iff_not]at c1;simp only[QEs,QEm,QFu,QFv,QFC,decide_eq_false_iff_not,bne_iff_ne,ne_eq]at Y;refine⟨g',r'.less (λv d h=>?_) (λj x h=>?_) (λv d h j V=>hw.1 (v,d) (ZJ h) j V) (λj x h i hi=>hw.2 (j,x) (ZJ h) i hi) λj V hs=>?_⟩;simp only[St.u5,Yq];have M:=Xi l fr v d h;rw[M,QE6]
 congr 1
 have O:=c1 (v,d) (ZJ h);exact QhO λk hk=>C k Wc Wc;show lk (B3 (YG t m) H) j=some x;rw[Fb (Xl t m)];rw[Qz]at h;split at h
 grind
 rw[Qz]at h;split at h
 grind
 have M:=Jv lH H j x h;have O:=Y (j,x) (ZJ h);rw[C j O.1.1 O.1.2,M,QE6]
 congr 1
 cases hp:x.pr with
 |true=>exact x4.ya ((r.bx j x M).2.1 hp)
 |false=>
  have h4:=O.2.resolve_left Wc;exact TR hp λk hk=>C k Wc Wc
 have hs':(lk (B3 (YG t m) H) j).isSome=true:=hs
 grind [Fb,Ns,Qz]
section
variable {P:Program} {nt:Nat} {E:Env}
end
section
variable {P:Program} {nt:Nat}
end
variable {d p q:D} {l0:Nat} {kk:D->Prop} {s:St} {α β:Type}
def Qr7 (op:BinOp) (k:IntKind) (x y:Int):Option D:=
 match op with
 | .add=>some (.int k (k.wrap (x+y)))
 | .sub=>some (.int k (k.wrap (x - y)))
 | .mul=>some (.int k (k.wrap (x*y)))
 | .quo=>if y≠0 then some (.int k (k.wrap (x.tdiv y)))else none
 | .rem=>if y≠0 then some (.int k (x.tmod y))else none
 | .and=>some (.int k (Kd .and k x y))
 | .or=>some (.int k (Kd .or k x y))
 | .xor=>some (.int k (Kd .xor k x y))
 | .andNot=>some (.int k (Kd .andNot k x y))
 | .shl=>if 0<=y then some (.int k (k.wrap (x*2 ^ min y.toNat k.bits)))else none
 | .shr=>if 0<=y then some (.int k (x.fdiv (2 ^ min y.toNat k.bits)))else none
 | .eql=>some (.bool (decide (x=y)))
 | .neq=>some (.bool (!decide (x=y)))
 | .lss=>some (.bool (decide (x<y)))
 | .leq=>some (.bool (decide (x<=y)))
 | .gtr=>some (.bool (decide (y<x)))
 | .geq=>some (.bool (decide (y<=x)))
def Qwz (op:BinOp) (bt:Bool) (p q:D):Option D:=
 match p,q with
 | .int k m,.int j n=>if Pe op=true\/k=j then Qr7 op k m n else none
 | .bool m,.bool n=>if bt=true then(match op with
  | .eql=>some (.bool (decide (m=n)))
  | .neq=>some (.bool (!decide (m=n)))
  |_=>none)else none
 | .str m,.str n=>match op with
  | .add=>if m.length+n.length<=9223372036854775807 then some (.str (m++n))else none
  | .eql=>some (.bool (decide (m=n)))
  | .neq=>some (.bool (!decide (m=n)))
  | .lss=>some (.bool (Op.bytesLess m n))
  | .leq=>some (.bool (Op.bytesLess m n||decide (m=n)))
  | .gtr=>some (.bool (!(Op.bytesLess m n||decide (m=n))))
  | .geq=>some (.bool (!Op.bytesLess m n))
  |_=>none
 |_,_=>none
theorem QdV {op:BinOp} {bt:Bool} (h:Qwz op bt p q=some d) (hk:kk d):Qfo op bt p q kk:=by
 unfold Qwz at h;split at h
 ·split at h
  case isFalse=>cases h
  rename_i C;refine⟨C, ?_⟩;unfold Qr7 at h
  grind [QdW]
 ·split at h
  case isFalse=>cases h
  rename_i hb;refine⟨hb, ?_⟩;cases op<;>simp only[QEl,reduceCtorEq]at h<;>subst h<;>exact hk
 grind [Qfo,Qjx]
 grind
def Qcs (s:St) (off:Nat) (p:D):Option D:=
 match p with
 | .ptr cells=>if off<=cells.length then some (.ptr (cells.drop off))else none
 | .ref k i j=>if(lk s.H k).isSome=true then some (.ref k i (j+off))else none
 |_=>none
theorem PD {off:Nat} (h:Qcs s off p=some d) (hk:kk d):PE s off p kk:=by
 unfold Qcs at h;split at h;split at h;cases h;trivial
 grind
 split at h;cases h;trivial
 grind
 grind
def Qu3 (rows:List (List D)) (n:Int) (l0:Nat):Option (List D):=
 if 0<=n then match rows[n.toNat]? with
  |some row=>if row.length=l0 then some row else none
  |none=>none
 else none
theorem Lr {rows:List (List D)} {n:Int} {row:List D} {kk:List D->Prop} (h:Qu3 rows n l0=some row) (hk:kk row):S4 rows n l0 kk:=by
 unfold Qu3 at h;split at h
 case isFalse=>cases h
 split at h
 case h_2=>cases h
 split at h
 case isFalse=>cases h
 cases h
 exact⟨_,Wa,Wa,Wa,hk⟩
def Qt6 (s:St) (l0:Nat) (q:D):Option (List (List D) × Bool):=
 match q with
 | .sl rs=>if(rs.all λr=>decide (r.length=l0))=true then some (rs,true)else none
 | .u7 rs=>if(rs.all λr=>decide (r.length=l0))=true then some (rs,true)else none
 | .u4 j n=>match lk s.H j with
  |some b=>if n=b.rows.length/\b.l0=l0 then some (b.rows,b.pr)else none
  |none=>none
 |_=>none
theorem MV {rs:List (List D)} (h:(rs.all λr=>decide (r.length=l0))=true):∀r∈rs,r.length=l0:=λr hr=>by
 grind
theorem Pt {ys:List (List D)} {pr:Bool} (h:Qt6 s l0 q=some (ys,pr)):s.src l0 q ys pr/\∀kk:List (List D)->Bool->Prop,kk ys pr->D3 s l0 q kk:=by
 unfold Qt6 at h;split at h;split at h;cases h;exact⟨⟨rfl,MV Wa,rfl⟩,λ_ hk=>⟨MV Wa,hk⟩⟩
 grind
 split at h;cases h;exact⟨⟨rfl,MV Wa,rfl⟩,λ_ hk=>⟨MV Wa,hk⟩⟩
 grind
 split at h;rename_i b hb;split at h;rename_i C;cases h;exact⟨⟨b,hb,C.1,C.2,rfl,rfl⟩,λ_ hk=>⟨b,hb,C.1,C.2,hk⟩⟩
 all_goals grind
abbrev ob (o:Option α) (f:α->Option β):Option β:=match o with |some a=>f a |none=>none
theorem QO {o:Option α} {f:α->Option β} {b:β} (h:ob o f=some b):∃a,o=some a/\f a=some b:=by
 grind
def gd (c:Bool) (x:Option α):Option α:=match c with |true=>x |false=>none
theorem ZT {c:Bool} {x:Option α} {b:α} (h:gd c x=some b):c=true/\x=some b:=by
 cases c
 trivial;trivial
def Dz (o:Option α):Bool:=match o with |none=>true |some _=>false
theorem FG {o:Option α} (h:Dz o=true):o=none:=by cases o<;>simp[Dz]at h ⊢
def Qid (call:Nat->List D->Option D) (op:s6) (dst:Option Nat) (dr:Bool) (s:St):Option St:=
 match op with
 | .wb x=>ob (s.ev x) λd=>some (s.apply dst d none)
 | .pick c x y=>ob (s.ev c) λcd=>match cd with
  | .bool t=>ob (s.ev (if t=true then x else y)) λd=>some (s.apply dst d none)
  |_=>none
 | .alloc et cells=>ob dst λt=>gd (Dz (lk s.H t)) (some (s.apply dst (.ref t 0 0) (some (QeT et cells))))
 | .box et x=>ob dst λt=>ob (s.ev x) λv=>ob v.cells λcells=>gd (Dz (lk s.H t)) (some (s.apply dst (.ref t 0 0) (some (QeT et cells))))
 | .build zero parts=>ob (X1 s parts) λqs=>ob (Sj zero qs) λds=>some (s.apply dst (.agg ds) none)
 | .buildSlice l0 et parts=>ob (XB s l0 parts) λrows=>match rows.all λr=>r.all λd=>d.y4.isEmpty with
  |true=>some (s.apply dst (.u7 rows) none)
  |false=>ob dst λt=>gd (Dz (lk s.H t)) (some (s.apply dst (.u4 t parts.length) (some ⟨rows,l0,et,rows.all λr=>r.all λd=>d.y4.isEmpty⟩)))
 | .load agg sz x=>ob (s.ev x) λp=>ob (s.md p) λcells=>match agg with
  |true=>gd (Nat.ble sz cells.length) (some (s.apply dst (.agg (cells.take sz)) none))
  |false=>ob cells.head? λd=>some (s.apply dst d none)
 | .store sz x v=>ob (s.ev x) λp=>match p with
  | .ref kk i off=>ob (lk s.H kk) λb=>ob b.rows[i]? λrow=>ob (s.ev v) λq=>ob q.cells λcells=>gd (decide (cells.length=sz)&&Nat.ble (off+sz) row.length)
   (some (St.apply {s with H:=(kk,{b with rows:=b.rows.set i (setRow row off cells),pr:=b.pr&&cells.all λd=>d.y4.isEmpty})::s.H} dst .undef none))
  |_=>none
 | .nilCheck x=>ob (s.ev x) λp=>gd p.xd (some (s.apply dst p none))
 | .bin op bt x y=>ob (s.ev x) λp=>ob (s.ev y) λq=>ob (Qwz op bt p q) λd=>some (s.apply dst d none)
 | .eqs neg ks x y=>ob (s.ev x) λp=>ob (s.ev y) λq=>ob (QeP p) λxs=>ob (QeP q) λys=>ob (Fz ks xs ys) λb=>some (s.apply dst (.bool (if neg=true then !b else b)) none)
 | .un op x=>ob (s.ev x) λp=>match op,p with
  | .not,.bool b=>some (s.apply dst (.bool (!b)) none)
  | .neg,.int k n=>some (s.apply dst (.int k (k.wrap (0 - n))) none)
  |_,_=>none
 | .conv kk x=>ob (s.ev x) λp=>ob (QnO kk p) λd=>some (s.apply dst d none)
 | .slice l0 x lo hi mx=>ob (s.ev x) λp=>match p.rows? with
  |some rows=>ob (s.kb lo 0) λl=>ob (s.kb hi rows.length) λh=>gd (decide (0<=l)&&(decide (l<=h)&&(decide (h<=rows.length)&&rows.all λr=>decide (r.length=l0)))) (match mx with
   |none=>some (s.apply dst (.sl ((rows.take h.toNat).drop l.toNat)) none)
   |some m=>gd (decide (s.kb (some m) 0=some h)&&hi.isSome) (some (s.apply dst (.u7 ((rows.take h.toNat).drop l.toNat)) none)))
  |none=>match p with
   | .u4 j n=>gd (mx.isNone&&decide (s.kb lo 0=some 0)) (ob (s.kb hi n) λm=>gd (decide (0<=m)&&decide (m<=n)) (some (s.apply dst (.u4 j m.toNat) none)))
   |_=>none
 | .ba sb x=>ob (s.ev x) λp=>match sb with
  |true=>ob (QeH p) λl=>some (s.apply dst (.sl (l.map QaI)) none)
  |false=>ob (Qt6 s 1 p) λ(ys,_)=>ob (HE ys) λl=>some (s.apply dst (.str l) none)
 | .sc x=>ob (s.ev x) λp=>match p with
  | .u7 rows=>some (s.apply dst (.int .i64 rows.length) none)
  |_=>none
 | .o8 x lo hi=>ob (s.ev x) λp=>ob (QeH p) λc=>ob (s.kb lo 0) λl=>ob (s.kb hi c.length) λh=>gd (decide (0<=l)&&(decide (l<=h)&&decide (h<=c.length))) (some (s.apply dst (.str ((c.take h.toNat).drop l.toNat)) none))
 | .fieldAddr off x=>ob (s.ev x) λp=>ob (Qcs s off p) λd=>some (s.apply dst d none)
 | .field agg off sz x=>ob (s.ev x) λp=>ob (QeP p) λcells=>match agg with
  |true=>gd (Nat.ble (off+sz) cells.length) (some (s.apply dst (.agg ((cells.drop off).take sz)) none))
  |false=>ob cells[off]? λd=>some (s.apply dst d none)
 | .indexAddr l0 x i=>ob (s.ev i) λnd=>ob (QgF nd) λn=>ob (s.ev x) λp=>match p with
  | .sl rows=>ob (Qu3 rows n l0) λrow=>some (s.apply dst (.ptr row) none)
  | .u7 rows=>ob (Qu3 rows n l0) λrow=>some (s.apply dst (.ptr row) none)
  | .u4 j m=>ob (lk s.H j) λb=>gd (decide (m=b.rows.length)&&(decide (0<=n)&&(decide (n<m)&&decide (b.l0=l0)))) (some (s.apply dst (.ref j n.toNat 0) none))
  |_=>none
 | .y8 x i=>ob (s.ev i) λnd=>ob (QgF nd) λn=>ob (s.ev x) λp=>ob (QeH p) λl=>gd (decide (0<=n)) (ob l[n.toNat]? λc=>some (s.apply dst (.int .u8 c.toNat) none))
 | .extract i x=>ob (s.ev x) λp=>ob (Quh p) λds=>ob ds[i]? λd=>some (s.apply dst d none)
 | .len x=>ob (s.ev x) λp=>ob (QgQ p) λn=>some (s.apply dst (.int .i64 n) none)
 | .z9 x=>ob (s.ev x) λp=>ob (QeH p) λl=>some (s.apply dst (.int .i64 l.length) none)
 | .min x y=>ob (s.ev x) λp=>ob (s.ev y) λq=>match p,q with
  | .int k m,.int _ n=>some (s.apply dst (.int k (min m n)) none)
  |_,_=>none
 | .max x y=>ob (s.ev x) λp=>ob (s.ev y) λq=>match p,q with
  | .int k m,.int _ n=>some (s.apply dst (.int k (max m n)) none)
  |_,_=>none
 | .append l0 et bytes x y=>ob (s.ev x) λp=>ob (s.ev y) λq=>ob (Qt6 s l0 q) λ(ys,pr)=>match p with
  | .u7 rows=>ob dst λt=>gd (Dz (lk s.H t)&&((rows.isEmpty||!ys.isEmpty)&&((rows.all λr=>decide (r.length=l0))&&(Nat.ble ((rows.length+ys.length)*bytes) 140737488355328&&Nat.ble (rows.length+ys.length) 4611686018427387904))))
   (some (s.apply dst (.u4 t (rows.length+ys.length)) (some ⟨rows++ys,l0,et,pr⟩)))
  | .u4 k n=>gd (!dr&&Nat.ble (k+1) 1000000) (ob (lk s.H k) λb=>gd (decide (n=b.rows.length)&&(decide (b.l0=l0)&&(decide (b.et=et)&&((b.pr&&pr)&&(Nat.ble ((n+ys.length)*bytes) 140737488355328&&Nat.ble (n+ys.length) 4611686018427387904)))))
   (some (St.apply {fr:=(s.n4 k).fr,H:=(k,⟨b.rows++ys,l0,et,b.pr&&pr⟩)::(s.n4 k).H} dst (.u4 k (n+ys.length)) none)))
  |_=>none
 | .makeSlice l0 et bytes zero x y=>ob (s.ev x) λp=>ob (s.ev y) λq=>match p,q with
  | .int _ m,.int _ n=>ob dst λt=>gd (Dz (lk s.H t)&&(decide (m=n)&&(decide (0<=n)&&(Nat.ble (n.toNat*bytes) 281474976710656&&Nat.ble n.toNat 4611686018427387904))))
   (some (s.apply dst (.u4 t n.toNat) (some ⟨List.replicate n.toNat zero,l0,et,true⟩)))
  |_,_=>none
 | .r8 len l0 x i=>ob (s.ev i) λnd=>ob (QgF nd) λn=>ob (s.ev x) λp=>gd (decide (0<=n)&&decide (n<len)) (ob (Qcs s (n.toNat*l0) p) λd=>some (s.apply dst d none))
 | .x8 agg len l0 x i=>ob (s.ev i) λnd=>ob (QgF nd) λn=>ob (s.ev x) λp=>ob (QeP p) λcells=>gd (decide (0<=n)&&decide (n<len)) (match agg with
  |true=>gd (Nat.ble (n.toNat*l0+l0) cells.length) (some (s.apply dst (.agg ((cells.drop (n.toNat*l0)).take l0)) none))
  |false=>ob cells[n.toNat*l0]? λd=>some (s.apply dst d none))
 | .call f args=>ob (Zh s args) λds=>ob (call f (ds.map (XX s))) λd=>gd (ds.all D.pure||d.flat) (some (s.apply dst d none))
 |_=>none
section
variable {P:Program} {call:Nat->List D->Option D}
theorem NI (hc:∀f ds d,call f ds=some d->Ok P f ds d) {op:s6} {dst:Option Nat} {dr:Bool} {s':St} (h:Qid call op dst dr s=some s') {k:St->Prop} (hk:k s'):step P dr op dst s k:=by
 cases op<;>simp only[Qid,reduceCtorEq]at h<;>simp only[step]
 case wb x=>obtain⟨d,O,C⟩:=QO h;cases C;exact⟨d,O,hk⟩
 case pick c x y=>
  obtain⟨cd,O,C⟩:=QO h;split at C;obtain⟨d,G,M⟩:=QO C;cases M;exact⟨_,O,_,rfl,d,G,hk⟩
  grind
 case alloc et cells=>
  obtain⟨t,O,C⟩:=QO h;obtain⟨G,M⟩:=ZT C;cases M;exact⟨t,O,FG G,hk⟩
 case box et x=>
  obtain⟨t,O,C⟩:=QO h;obtain⟨v,G,M⟩:=QO C;obtain⟨cs,Y,U⟩:=QO M;obtain⟨T,h8⟩:=ZT U;cases h8;exact⟨t,O,v,G,cs,Y,FG T,hk⟩
 case build zero parts=>
  obtain⟨qs,O,C⟩:=QO h;obtain⟨ds,G,M⟩:=QO C;cases M;exact⟨qs,O,ds,G,hk⟩
 case buildSlice l0 et parts=>
  obtain⟨rows,G,C⟩:=QO h;split at C;rename_i hp;cases C;exact .inr ⟨rows,G,hp,hk⟩;obtain⟨t,O,M⟩:=QO C;obtain⟨Y,U⟩:=ZT M;cases U;exact .inl ⟨t,O,rows,G,FG Y,hk⟩
 case load agg sz x=>
  obtain⟨p,O,C⟩:=QO h;obtain⟨cells,G,M⟩:=QO C;refine⟨p,O,cells,G, ?_⟩;cases agg
  obtain⟨d,Y,U⟩:=QO M;cases U;exact⟨d,Y,hk⟩
  grind [ZT,Nat.le_of_ble_eq_true]
 case store sz x v=>
  obtain⟨p,O,C⟩:=QO h;split at C;obtain⟨b,G,M⟩:=QO C;obtain⟨row,Y,U⟩:=QO M;obtain⟨q,T,h8⟩:=QO U;obtain⟨cells,h9,V⟩:=QO h8;obtain⟨h11,h12⟩:=ZT V;simp only[QEm,decide_eq_true_eq]at h11;cases h12
  exact⟨_,O,b,G,row,Y,q,T,cells,h9,h11.1,QEi h11.2,hk⟩
  grind
 case nilCheck x=>
  obtain⟨p,O,C⟩:=QO h;obtain⟨G,M⟩:=ZT C;cases M;exact⟨p,O,G,hk⟩
 case bin op bt x y=>
  obtain⟨p,O,C⟩:=QO h;obtain⟨q,G,M⟩:=QO C;obtain⟨d,Y,U⟩:=QO M;cases U;exact⟨p,O,q,G,QdV Y hk⟩
 case eqs neg ks x y=>
  obtain⟨p,O,C⟩:=QO h;obtain⟨q,G,M⟩:=QO C;obtain⟨xs,Y,U⟩:=QO M;obtain⟨ys,T,h8⟩:=QO U;obtain⟨b,h9,V⟩:=QO h8;cases V;exact⟨p,O,q,G,xs,Y,ys,T,b,h9,hk⟩
 case un op x=>
  obtain⟨p,O,C⟩:=QO h;refine⟨p,O, ?_⟩;split at C;cases C;exact hk;cases C;exact hk
  grind
 case conv kk x=>
  obtain⟨p,O,C⟩:=QO h;obtain⟨d,G,M⟩:=QO C;cases M;exact⟨p,O,d,G,hk⟩
 case slice l0 x lo hi mx=>
  obtain⟨p,O,C⟩:=QO h;split at C;rename_i rows hr;obtain⟨l,G,M⟩:=QO C;obtain⟨hh,Y,U⟩:=QO M;obtain⟨T,h8⟩:=ZT U;simp only[QEm,decide_eq_true_eq]at T;refine .inl ⟨p,O,rows,hr,l,G,hh,Y,T.1,T.2.1,T.2.2.1,MV T.2.2.2, ?_⟩;cases mx
  grind
  obtain⟨h9,V⟩:=ZT h8
  grind
  split at C;obtain⟨G,M⟩:=ZT C;obtain⟨m,Y,U⟩:=QO M;obtain⟨T,h8⟩:=ZT U;simp only[QEm,decide_eq_true_eq,Option.isNone_iff_eq_none]at G T;cases h8
  exact .inr (.inl ⟨G.1,G.2,_,O,m,Y,T.1,T.2,hk⟩)
  grind
 case ba sb x=>
  obtain⟨p,O,C⟩:=QO h;refine⟨p,O, ?_⟩;cases sb
  obtain⟨⟨ys,pr⟩,G,M⟩:=QO C;obtain⟨l,Y,U⟩:=QO M;cases U
  exact(Pt G).2 (λys _=>Zs (HE ys) λl=>k (s.apply dst (.str l) none)) ⟨l,Y,hk⟩;obtain⟨l,G,M⟩:=QO C;cases M;exact⟨l,G,hk⟩
 case sc x=>
  obtain⟨p,O,C⟩:=QO h;split at C;cases C;exact⟨_,O,hk⟩
  grind
 case o8 x lo hi=>
  obtain⟨p,O,C⟩:=QO h;obtain⟨c,G,M⟩:=QO C;obtain⟨l,Y,U⟩:=QO M;obtain⟨hh,T,h8⟩:=QO U;obtain⟨h9,V⟩:=ZT h8;simp only[QEm,decide_eq_true_eq]at h9;cases V;exact⟨p,O,c,G,l,Y,hh,T,h9.1,h9.2.1,h9.2.2,hk⟩
 case fieldAddr off x=>
  obtain⟨p,O,C⟩:=QO h;obtain⟨d,G,M⟩:=QO C;cases M;exact⟨p,O,PD G hk⟩
 case field agg off sz x=>
  obtain⟨p,O,C⟩:=QO h;obtain⟨cells,G,M⟩:=QO C;refine⟨p,O,cells,G, ?_⟩;cases agg
  obtain⟨d,Y,U⟩:=QO M;cases U;exact⟨d,Y,hk⟩;obtain⟨Y,U⟩:=ZT M;simp_all
 case indexAddr l0 x i=>
  obtain⟨nd,O,C⟩:=QO h;obtain⟨n,G,M⟩:=QO C;obtain⟨p,Y,U⟩:=QO M;cases nd<;>simp only[QgF,QEl,reduceCtorEq]at G;subst G;refine⟨_,O,p,Y, ?_⟩;split at U;obtain⟨row,T,h8⟩:=QO U;cases h8;exact Lr T hk;obtain⟨row,T,h8⟩:=QO U;cases h8;exact Lr T hk;obtain⟨b,T,h8⟩:=QO U;obtain⟨h9,V⟩:=ZT h8;simp only[QEm,decide_eq_true_eq]at h9;cases V;exact⟨b,T,h9.1,h9.2.1,h9.2.2.1,h9.2.2.2,hk⟩
  grind
 case y8 x i=>
  obtain⟨nd,O,C⟩:=QO h;obtain⟨n,G,M⟩:=QO C;obtain⟨p,Y,U⟩:=QO M;obtain⟨l,T,h8⟩:=QO U;obtain⟨h9,V⟩:=ZT h8;obtain⟨c,h11,h12⟩:=QO V;cases nd<;>simp only[QgF,QEl,reduceCtorEq]at G;subst G;cases p<;>simp only[QeH,QEl,reduceCtorEq]at T;subst T;cases h12;exact⟨_,O,_,Y,c,by grind,h11,hk⟩
 case extract i x=>
  obtain⟨p,O,C⟩:=QO h;obtain⟨ds,G,M⟩:=QO C;obtain⟨d,Y,U⟩:=QO M;cases U;exact⟨p,O,ds,G,d,Y,hk⟩
 case len x=>
  obtain⟨p,O,C⟩:=QO h;obtain⟨n,G,M⟩:=QO C;cases M;exact⟨p,O,n,G,hk⟩
 case z9 x=>
  obtain⟨p,O,C⟩:=QO h;obtain⟨n,G,M⟩:=QO C;cases M;exact⟨p,O,n,G,hk⟩
 case min x y=>
  obtain⟨p,O,C⟩:=QO h;obtain⟨q,G,M⟩:=QO C;refine⟨p,O,q,G, ?_⟩;split at M;cases M;exact hk
  grind
 case max x y=>
  obtain⟨p,O,C⟩:=QO h;obtain⟨q,G,M⟩:=QO C;refine⟨p,O,q,G, ?_⟩;split at M;cases M;exact hk
  grind
 case append l0 et bytes x y=>
  obtain⟨p,O,C⟩:=QO h;obtain⟨q,G,M⟩:=QO C;obtain⟨⟨ys,pr⟩,Y,U⟩:=QO M;refine⟨p,O,q,G,(Pt Y).2 _ ?_⟩;dsimp only at U;split at U;obtain⟨t,T,h8⟩:=QO U;obtain⟨h9,V⟩:=ZT h8;simp only[QEm,QFu,QFs,QFv]at h9;cases V
  exact⟨t,T,FG h9.1,h9.2.1.imp id (λe e2=>by grind),MV h9.2.2.1,QEi h9.2.2.2.1,QEi h9.2.2.2.2,hk⟩;obtain⟨T,h8⟩:=ZT U;obtain⟨b,h9,V⟩:=QO h8;obtain⟨h11,h12⟩:=ZT V;simp only[QEm,decide_eq_true_eq,QFv]at T h11;cases h12
  exact⟨T.1,QEi T.2,b,h9,h11.1,h11.2.1,h11.2.2.1,.inl Wc,QEi h11.2.2.2.2.1,QEi h11.2.2.2.2.2,hk⟩
  grind
 case makeSlice l0 et bytes zero x y=>
  obtain⟨p,O,C⟩:=QO h;obtain⟨q,G,M⟩:=QO C;refine⟨p,O,q,G, ?_⟩;split at M;obtain⟨t,Y,U⟩:=QO M;obtain⟨T,h8⟩:=ZT U;simp only[QEm,decide_eq_true_eq]at T;cases h8
  exact⟨t,Y,FG T.1,T.2.1,T.2.2.1,QEi T.2.2.2.1,QEi T.2.2.2.2,hk⟩
  grind
 case r8 len l0 x i=>
  obtain⟨nd,O,C⟩:=QO h;obtain⟨n,G,M⟩:=QO C;obtain⟨p,Y,U⟩:=QO M;obtain⟨T,h8⟩:=ZT U;obtain⟨d,h9,V⟩:=QO h8;cases nd<;>simp only[QgF,QEl,reduceCtorEq]at G;subst G;cases V;simp only[QEm,decide_eq_true_eq]at T;exact⟨_,O,p,Y,T.1,T.2,PD h9 hk⟩
 case x8 agg len l0 x i=>
  obtain⟨nd,O,C⟩:=QO h;obtain⟨n,G,M⟩:=QO C;obtain⟨p,Y,U⟩:=QO M;obtain⟨cells,T,h8⟩:=QO U;obtain⟨h9,V⟩:=ZT h8;simp only[QEm,decide_eq_true_eq]at h9;refine⟨nd,O,n,G,p,Y,cells,T,h9.1,h9.2, ?_⟩;cases agg
  obtain⟨d,h11,h12⟩:=QO V;cases h12;exact⟨d,h11,hk⟩;obtain⟨h11,h12⟩:=ZT V;simp_all
 case call f args=>
  obtain⟨ds,O,C⟩:=QO h;obtain⟨d,G,M⟩:=QO C;obtain⟨Y,U⟩:=ZT M;cases U
  exact⟨ds,O,d,hc _ _ _ G,by grind,hk⟩
end
def efE (dr:Dr) (op:s6) (dst:Option Nat) (s:St):Option (List Nat × List Nat × D × QEf):=
 match dr.dr,op,dst with
 |true,.append l0 et bytes x y,some t=>match s.ev x with
  |some (.u4 k n)=>ob (s.ev y) λe=>ob (Qt6 s l0 e) λ(ys,pr)=>ob (lk s.H k) λb=>
   gd (Nat.ble (k+1) 1000000&&(Dz (lk s.H t)&&(Nat.ble (t+1) 1000000&&(decide (n=b.rows.length)&&(decide (b.l0=l0)&&(decide (b.et=et)&&(!e.ids.contains k&&(Nat.ble ((n+ys.length)*bytes) 140737488355328&&Nat.ble (n+ys.length) 4611686018427387904))))))))
    (some (k::e.ids,[k],.u4 t (n+ys.length),[(t,⟨b.rows++ys,l0,et,b.pr&&pr⟩),(k,Yn)]))
  |_=>none
 |_,_,_=>none
section
variable {P:Program} {call:Nat->List D->Option D}
theorem QfT {dr:Dr} {op:s6} {dst:Option Nat} {p q:List Nat} {ef:QEf} (h:efE dr op dst s=some (p,q,d,ef)):EF P dr.B op dst s p q d ef/\∀r,N0 op dst r=YV dst.toList r:=by
 unfold efE at h;split at h;split at h;rename_i k n hx;obtain⟨e,Y,V⟩:=QO h;obtain⟨⟨ys,pr⟩,U,T⟩:=QO V;obtain⟨b,O,M⟩:=QO T;obtain⟨C,G⟩:=ZT M;simp only[QEm,decide_eq_true_eq,QFv]at C;cases G
 exact⟨⟨_,k,n,b,e,ys,pr,rfl,hx,QEi C.1,FG C.2.1,QEi C.2.2.1,O,C.2.2.2.1,C.2.2.2.2.1,C.2.2.2.2.2.1,Y,by grind,(Pt U).1,QEi C.2.2.2.2.2.2.2.1,QEi C.2.2.2.2.2.2.2.2,rfl,rfl,rfl,rfl⟩,λ_=>rfl⟩
 grind
 grind
def Qez (call:Nat->List D->Option D) (w:Bool):Dr->List u3->St->Option St
 |_,[],s=>some s
 |dr,⟨dst,op,g⟩::r,s=>
  match gw s g with
  |none=>none
  |some false=>Qez call w dr r (s.apply dst .undef none)
  |some true=>match efE dr op dst s with
   |some (p,q,d,ef)=>gd (dr.ok r.length (tkR w op s p) (tkW w op s q)) (Qez call w (dr.nx (YV dst.toList r) (tkR w op s p) (tkW w op s q)) r (s.s8 dst d ef))
   |none=>gd (dr.ok r.length (tkR w op s (pk op s)) (tkW w op s (wk op s))) (ob (Qid call op dst dr.dr s) λs'=>Qez call w (dr.nx (Sa w op dst r) (tkR w op s (pk op s)) (tkW w op s (wk op s))) r s')
theorem Xr (C:∀f ds d,call f ds=some d->Ok P f ds d) {w:Bool} {K:St->Prop}:∀{l:List u3} {dr:Dr} {s s':St},Qez call w dr l s=some s'->K s'->Qey P w dr l K s
 |[],_,_,_,h,hk=>by simp only[Qez,QEl]at h;subst h;cases w<;>exact hk
 |⟨dst,op,g⟩::r,dr,s,s',h,hk=>by
  simp only[Qez]at h;split at h
  grind
  rename_i M;cases g with
  |none=>grind [gw]
  |some tb=>
   obtain⟨t,b⟩:=tb;simp only[gw]at M;split at M;rename_i c G;exact Qbw G (λe=>by grind) (Xr C h hk);rename_i G;exact Qh0 G (Xr C h hk)
   grind
  rename_i M
  have main:QuP P w dr op dst r s λdr s=>Qey P w dr r K s:=by
   split at h;rename_i p q d ef he;obtain⟨V,U⟩:=ZT h;obtain⟨T,O⟩:=QfT (P:=P) he;exact .inr ⟨p,q,d,ef,T,V,O r,Xr C U hk⟩;obtain⟨V,U⟩:=ZT h;obtain⟨s2,T,O⟩:=QO U;exact .inl ⟨V,NI C T (Xr C O hk)⟩
  cases g with
  |none=>grind [DS]
  |some tb=>
   grind [gw,DR]
def Qcz (H:QEf):Nat:=1+H.foldl (λa p=>max a p.1) 500000
def Qgf (s:St) (o:u3):St:=
 match o.dst with
 |some t=>match Dz (lk s.H t)with
  |true=>s
  |false=>match Nat.ble (t+1) 1000000&&Nat.ble (Qcz s.H+1) 1000000 with
   |true=>s.u5 (YG t (Qcz s.H))
   |false=>s
 |none=>s
theorem Qgg (s:St) (o:u3):s.le (Qgf s o):=by
 unfold Qgf;split;split
 grind [le_refl]
 split;rename_i h;simp only[QEm]at h;exact Hm _ _ (QEi h.1) (QEi h.2) s
 grind [le_refl]
 grind [le_refl]
def G2:List u3->St->St
 |[],s=>s
 |o::r,s=>G2 r (Qgf s o)
theorem HN:∀(l:List u3) (s:St),s.le (G2 l s)
 |[],s=>le_refl s
 |o::r,s=>le_trans (Qgg s o) (HN r _)
def Qmw (H:QEf):Nat->List Nat->List Nat
 |0,ks=>ks
 |n+1,ks=>Qmw H n ((ks++ks.flatMap λk=>match lk H k with |some b=>b.ids |none=>[]).eraseDups)
def QiG (l:List Nat) (s:St):St:=
 match Zf l s.fr with
 |fr=>match Yj (Qmw s.H 3 (fr.flatMap λp=>p.2.ids)) s.H with
  |H=>match wa H fr&&QeR s.H H with
   |true=>⟨fr,H⟩
   |false=>⟨fr,s.H⟩
theorem QdG (l:List Nat) (s:St):s.le (QiG l s):=by
 obtain⟨fr,H⟩:=s;unfold QiG;dsimp only;split;rename_i h;simp only[QEm]at h;exact QM rfl rfl rfl rfl h.1 h.2
 grind [Gg]
def QtN (has:Nat->Bool) (ops:List u3):Nat->y5->y5
 |0,x=>x
 |n+1,.s t=>if has t=true then .s t else match ops.find? λo=>decide (o.dst=some t)with
  |some o=>(match o.op with
   | .wb y=>QtN has ops n y
   |_=>.s t)
  |none=>.s t
 |_,x=>x
def Qi7 (ops:List u3) (s:St):St:=s.m9 ((ops.flatMap λo=>match o.op with
 | .buildSlice _ _ parts=>parts.flatMap λx=>QeV (s.ev (QtN (λt=>(lk s.fr t).isSome) ops 3 x))
 |_=>[]).filter λk=>Nat.ble (k+1) 1000000)
theorem T7:∀(ks:List Nat) (s:St),(∀k∈ks,k<1000000)->s.le (s.m9 ks)
 |[],s,_=>le_refl s
 |k::ks,s,h=>le_trans (G8 k s (h k Wd)) (T7 ks _ λj C=>h j Wc)
theorem Sr (ops:List u3) (s:St):s.le (Qi7 ops s):=T7 _ s λk hk=>QEi (QFF.1 hk).2
def exC (call:Nat->List D->Option D):Nat->z5->St->Option (AExit × St)
 |0,_,_=>none
 |n+1,c,s=>match c with
  | .skip=>some (.normal,s)
  | .region dr ops=>ob (Qez call false (Dr.of (G2 ops (Qi7 ops s)).H dr) ops (G2 ops (Qi7 ops s))) λs1=>some (.normal,s1)
  | .na ops=>ob (Qez call true (Dr.of (G2 ops (Qi7 ops s)).H true) ops (G2 ops (Qi7 ops s))) λs1=>some (.normal,s1)
  | .seq a l b=>ob (exC call n a s) λ(e,s1)=>match e with
   | .normal=>exC call n b (QiG l s1)
   | .exit i=>some (.exit i,s1)
   | .ret=>some (.ret,s1)
  | .cond c a b=>ob (s.ev c) λd=>match d with
   | .bool true=>exC call n a s
   | .bool false=>exC call n b s
   |_=>none
  | .block id a=>ob (exC call n a s) λ(e,s1)=>match e with
   | .exit i=>if i=id then some (.normal,s1)else some (.exit i,s1)
   | .normal=>some (.normal,s1)
   | .ret=>some (.ret,s1)
  | .loop a=>ob (exC call n a s) λ(e,s1)=>match e with
   | .normal=>exC call n (.loop a) s1
   | .exit i=>some (.exit i,s1)
   | .ret=>some (.ret,s1)
  | .scope a=>exC call n a s
  | .exit id=>some (.exit id,s)
  | .ret=>some (.ret,s)
  | .z8 _ _ _ _=>none
theorem C6 (V:∀f ds d,call f ds=some d->Ok P f ds d) {nt:Nat}:∀(n:Nat),(∀{c:z5} {s s1:St} {e:AExit},exC call n c s=some (e,s1)->TW P nt c (λe2 s2=>e2=e/\s2=s1) s)/\
  ∀{a:z5} {s s1:St} {e:AExit},exC call n (.loop a) s=some (e,s1)->∃m,l9 P nt a e s1 m s
 |0=>⟨λh=>(by cases h),λh=>(by cases h)⟩
 |n+1=>by
  obtain⟨M,U⟩:=C6 V (nt:=nt) n
  have Y:∀{a:z5} {s s1:St} {e:AExit},exC call (n+1) (.loop a) s=some (e,s1)->∃m,l9 P nt a e s1 m s:=by
   intro a s s1 e h;simp only[exC]at h;obtain⟨⟨e2,s2⟩,G,C⟩:=QO h;dsimp only at C;have O:=M G;split at C
   ·obtain⟨m,h4⟩:=U C;exact⟨m+1,.next O (le_refl _) h4⟩
   cases C;exact⟨0,.stop O Wd⟩
   cases C;exact⟨0,.stop O Wd⟩
  refine⟨?_,Y⟩;intro c s s1 e h;cases c with
  |skip=>simp only[exC,QEl,QFe]at h;obtain⟨rfl,rfl⟩:=h;exact Qp ⟨rfl,rfl⟩
  |region dr ops=>
   simp only[exC]at h;obtain⟨s2,G,C⟩:=QO h;cases C
   exact MO (le_trans (Sr ops s) (HN ops _)) (QJ λK T=>Xr V G (T _ ⟨rfl,rfl⟩))
  |na ops=>
   simp only[exC]at h;obtain⟨s2,G,C⟩:=QO h;cases C
   exact MO (le_trans (Sr ops s) (HN ops _)) (RE λK T=>Xr (w:=true) V G (T _ ⟨rfl,rfl⟩))
  |seq a l b=>
   simp only[exC]at h;obtain⟨⟨e2,s2⟩,G,C⟩:=QO h;dsimp only at C;have O:=M G;split at C;exact HD (ι:=Unit) (λ_=>QiG l s2) (λ_=>True) (Z8 (λ_ _ ⟨p,q⟩=>by subst p q;exact⟨(),QdG l _,trivial⟩) O) λ_ _=>M C
   cases C;exact Qw (Z8 (λ_ _ ⟨p,q⟩=>by subst p q;trivial) O)
   cases C;exact Qw (Z8 (λ_ _ ⟨p,q⟩=>by subst p q;trivial) O)
  |cond c a b=>
   grind [exC,Zb,Zq]
  |block id a=>
   simp only[exC]at h;obtain⟨⟨e2,s2⟩,G,C⟩:=QO h;dsimp only at C;have O:=M G;refine Qu (Z8 (λe3 s3 ⟨p,q⟩=>?_) O);subst p q;split at C;split at C
   (repeat clear T K);simp_all [XY]
   (repeat clear T K);simp_all [XY]
   cases C;trivial
   cases C;trivial
  |loop a=>obtain⟨m,G⟩:=Y h;exact G.tw
  |scope a=>grind [exC,LG]
  |exit id=>simp only[exC,QEl,QFe]at h;obtain⟨rfl,rfl⟩:=h;exact Q3 ⟨rfl,rfl⟩
  |ret=>simp only[exC,QEl,QFe]at h;obtain⟨rfl,rfl⟩:=h;exact Qv ⟨rfl,rfl⟩
  |z8 x p q a=>trivial
def QxC (s:St):Jx->Option D
 | .tmp t=>ob (lk s.fr t) λp=>some (TQ Jt s p)
 | .cell t agg sz=>ob (lk s.fr t) λp=>ob (s.md p) λcells=>match agg with
  |true=>gd (Nat.ble sz cells.length) (some (TQ Jt s (.agg (cells.take sz))))
  |false=>ob cells.head? λq=>some (TQ Jt s q)
theorem Lp {r:Jx} (h:QxC s r=some d):QxB s r d:=by
 cases r with
 |tmp t=>
  obtain⟨p,G,C⟩:=QO h;cases C;exact⟨p,G,rfl⟩
 |cell t agg sz=>
  obtain⟨p,G,C⟩:=QO h;obtain⟨cells,O,M⟩:=QO C;refine⟨p,cells,G,Nb.2 O, ?_⟩;cases agg
  grind
  obtain⟨U,T⟩:=ZT M;simp_all
def Qes (s:St):List Jx->Option (List D)
 |[]=>some []
 |r::rs=>ob (QxC s r) λd=>ob (Qes s rs) λds=>some (d::ds)
theorem NF {s:St}:∀{rs:List Jx} {ds:List D},Qes s rs=some ds->Ln s rs ds
 |[],ds,h=>by simp only[Qes,QEl]at h;exact h.symm
 |r::rs,ds,h=>by
  obtain⟨d,O,M⟩:=QO h;obtain⟨ds',G,C⟩:=QO M;cases C;exact⟨d,ds',rfl,Lp O,NF G⟩
def QxD (s:St) (rs:List Jx):Option D:=
 match rs with
 |[r]=>QxC s r
 |rs=>ob (Qes s rs) λds=>some (.g8 ds)
theorem FJ {rs:List Jx} (h:QxD s rs=some d):QkW s rs d:=by
 cases rs with
 |nil=>
  have h:ob (Qes s []) (λds=>some (.g8 ds))=some d:=h;obtain⟨ds,G,C⟩:=QO h;cases C
  unfold QkW;exact⟨ds,rfl,NF G⟩
 |cons a l=>
  cases l with
  |nil=>exact Lp h
  |cons b l=>
   have h:ob (Qes s (a::b::l)) (λds=>some (.g8 ds))=some d:=h;obtain⟨ds,G,C⟩:=QO h;cases C
   unfold QkW;exact⟨ds,rfl,NF G⟩
def QdS (P:Program) (tab:List (Nat × o6)):Prop:=∀f tf,lk tab f=some tf->Gz f=[]/\∃fn,P.funcs[f]?=some fn/\QT P fn=some tf.erase
theorem QqY:QdS P []:=λ_ _ h=>by cases h
theorem Qle {f:Nat} {tf:o6} {fn:Func} {l:List (Nat × o6)} (G:P.funcs[f]?=some fn) (hp:QT P fn=some tf.erase) (h:QdS P l) (C:Gz f=[]:=by rfl):QdS P ((f,tf)::l):=λg tg e=>by
 rw[Qz]at e;split at e
 grind
 exact h g tg e
def exF (tab:List (Nat × o6)):Nat->Nat->List D->Option D
 |0,_,_=>none
 |n+1,f,ds=>ob (lk tab f) λtf=>gd (Nat.ble ds.length tf.nt) (ob (exC (exF tab n) n tf.body ⟨MQ 0 ds,[]⟩) λ(e,s)=>match e with
  | .exit _=>none
  |_=>QxD s tf.rs)
theorem C7 (hm:P.follows .mixedOrders=true) {C:List (Nat × o6)} (M:QdS P C):∀(n:Nat) {f:Nat} {ds:List D} {d:D},exF C n f ds=some d->Ok P f ds d
 |0,_,_,_,h=>by cases h
 |n+1,f,ds,d,h=>by
  simp only[exF]at h;obtain⟨tf,h1,h2⟩:=QO h;obtain⟨Y,V⟩:=ZT h2;obtain⟨⟨e,s⟩,U,G⟩:=QO V;obtain⟨O,fn,T,hp⟩:=M f tf h1;refine Ok.n7 hm T hp (QEi Y) (Z8 (λe2 s2 ⟨p,q⟩=>?_) ((C6 (λf ds d h=>C7 hm M n h) n).1 U)) O;subst p q;dsimp only at G;cases e2 with
  |exit i=>grind
  |normal=>exact FJ G
  |ret=>exact FJ G
end
variable {x:Nat} {ν:List Int}
abbrev Cn:=Nat × Nat × Int
def Cn.ok (ν:List Int) (c:Cn):Prop:=∃a b,ν[c.1]?=some a/\ν[c.2.1]?=some b/\a<=b+c.2.2
def k8 (ν:List Int) (cs:List Cn):Prop:=∀c∈cs,c.ok ν
def ent (cs:List Cn):Nat->Nat->Nat->Int->Bool
 |0,x,y,c=>Nat.beq x y&&decide (0<=c)
 |f+1,x,y,c=>(Nat.beq x y&&decide (0<=c))||cs.any λk=>Nat.beq k.1 x&&ent cs f k.2.1 y (c - k.2.2)
theorem N1 {cs:List Cn} {ν:List Int} (h:k8 ν cs):∀{f x y:Nat} {c a:Int},ent cs f x y c=true->ν[x]?=some a->∃b,ν[y]?=some b/\a<=b+c
 |0,x,y,c,a,he,ha=>by
  simp only[ent,QEm,decide_eq_true_eq]at he
  grind [Nat.eq_of_beq_eq_true]
 |f+1,x,y,c,a,he,ha=>by
  simp only[ent,QFu,QEm,decide_eq_true_eq,QFy]at he;rcases he with he |⟨k,hk,e,he⟩
  grind [Nat.eq_of_beq_eq_true]
  have:=QFG e;subst this;obtain⟨U,b1,T,C,O⟩:=h k hk;obtain⟨b,M,G⟩:=N1 h he C
  grind
def isL (d:D) (rows:List (List D)):Prop:=d=.sl rows\/d=.u7 rows
inductive Tp where
 |i (k:IntKind) (lo hi:Int)
 |b
 |s (n:Nat)
 |c (ls:List (List UInt8))
 |l (row:List Tp) (n:Nat)
 |lq (row:List Tp) (n:Nat)
mutual
def Tp.has:Tp->D->Prop
 | .i k lo hi,d=>∃n:Int,d=.int k n/\lo<=n/\n<=hi
 | .b,d=>∃b,d=.bool b
 | .s n,d=>∃l,d=.str l/\l.length<=n
 | .c ls,d=>∃l,l∈ls/\d=.str l
 | .l row n,d=>∃rows,isL d rows/\rows.length<=n/\∀r∈rows,Tp.n6 row r
 | .lq row n,d=>∃rows,isL d rows/\rows.length=n/\∀r∈rows,Tp.n6 row r
def Tp.n6:List Tp->List D->Prop
 |[],ds=>ds=[]
 |t::ts,ds=>∃d r,ds=d::r/\t.has d/\Tp.n6 ts r
end
mutual
def Tp.le:Tp->Tp->Bool
 | .i k lo hi,t=>match t with
  | .i k' lo' hi'=>decide (k=k')&&(decide (lo'<=lo)&&decide (hi<=hi'))
  |_=>false
 | .b,t=>match t with
  | .b=>true
  |_=>false
 | .s n,t=>match t with
  | .s m=>Nat.ble n m
  |_=>false
 | .c ls,t=>match t with
  | .s m=>ls.all λl=>Nat.ble l.length m
  | .c ms=>ls.all λl=>ms.contains l
  |_=>false
 | .l row n,t=>match t with
  | .l row' m=>Nat.ble n m&&(Nat.beq n 0||Tp.pb row row')
  |_=>false
 | .lq row n,t=>match t with
  | .l row' m=>Nat.ble n m&&(Nat.beq n 0||Tp.pb row row')
  | .lq row' m=>Nat.beq n m&&(Nat.beq n 0||Tp.pb row row')
  |_=>false
def Tp.pb:List Tp->List Tp->Bool
 |[],ts=>match ts with
  |[]=>true
  |_=>false
 |t::r,ts=>match ts with
  |t'::r'=>Tp.le t t'&&Tp.pb r r'
  |_=>false
end
mutual
theorem Tp.xb:∀{t C:Tp} {d:D},t.le C=true->t.has d->C.has d
 | .i k lo hi,C,d,h,hd=>by
  simp only[Tp.le]at h;split at h;simp only[QEm,decide_eq_true_eq]at h;obtain⟨n,rfl,G,M⟩:=hd;obtain⟨rfl,T,O⟩:=h;exact⟨n,rfl,Wa,Wa⟩
  grind
 | .b,C,d,h,hd=>by
  grind [Tp.le]
 | .s n,C,d,h,hd=>by
  simp only[Tp.le]at h;split at h;obtain⟨l,rfl,G⟩:=hd;exact⟨l,rfl,QEB G (QEi h)⟩
  grind
 | .c ls,C,d,h,hd=>by
  simp only[Tp.le]at h;obtain⟨l,G,rfl⟩:=hd;split at h;exact⟨l,rfl,QEi (QEs.1 h l G)⟩;exact⟨l,by grind,rfl⟩
  grind
 | .l row n,C,d,h,hd=>by
  simp only[Tp.le]at h;split at h;simp only[QEm,QFu]at h;obtain⟨rows,h0,G,M⟩:=hd;refine⟨rows,h0,QEB G (QEi h.1),λr hr=>?_⟩;rcases h.2 with e |e
  (repeat clear hK K);simp_all
  exact Tp.w7 e (M r hr)
  grind
 | .lq row n,C,d,h,hd=>by
  simp only[Tp.le]at h;obtain⟨rows,h0,G,M⟩:=hd;split at h;simp only[QEm,QFu]at h;refine⟨rows,h0,by simp_all,λr hr=>?_⟩;rcases h.2 with e |e
  (repeat clear hK K);simp_all
  exact Tp.w7 e (M r hr);simp only[QEm,QFu]at h;refine⟨rows,h0,by simp_all,λr hr=>?_⟩;rcases h.2 with e |e
  (repeat clear hK K);simp_all
  exact Tp.w7 e (M r hr)
  grind
theorem Tp.w7:∀{t C:List Tp} {ds:List D},Tp.pb t C=true->Tp.n6 t ds->Tp.n6 C ds
 |[],C,ds,h,hd=>by
  grind [Tp.pb]
 |t::ts,C,ds,h,hd=>by
  simp only[Tp.pb]at h;split at h;simp only[QEm]at h;obtain⟨d,r,rfl,M,G⟩:=hd;exact⟨d,r,rfl,Tp.xb h.1 M,Tp.w7 h.2 G⟩
  grind
end
def PK (ls:List (List UInt8)):Nat:=ls.foldl (λm l=>max m l.length) 0
def jnC (l m:List (List UInt8)):Tp:=
 match l++m.filter λx=>!l.contains x with
 |z=>if Nat.ble z.length 40=true then .c z else .s (PK z)
mutual
def Tp.jn:Tp->Tp->Option Tp
 | .i k lo hi,t=>match t with
  | .i j lo2 hi2=>if k=j then some (.i k (min lo lo2) (max hi hi2))else none
  |_=>none
 | .b,t=>match t with
  | .b=>some .b
  |_=>none
 | .s n,t=>match t with
  | .s m=>some (.s (max n m))
  | .c ls=>some (.s (max n (PK ls)))
  |_=>none
 | .c l1,t=>match t with
  | .s m=>some (.s (max m (PK l1)))
  | .c m=>some (jnC l1 m)
  |_=>none
 | .l r n,t=>match t with
  | .l q m=>if Nat.beq n 0=true then some (.l q m)else if Nat.beq m 0=true then some (.l r n)else(match Tp.ig r q with
   |some z=>some (.l z (max n m))
   |none=>none)
  | .lq q m=>if Nat.beq n 0=true then some (.l q m)else if Nat.beq m 0=true then some (.l r n)else(match Tp.ig r q with
   |some z=>some (.l z (max n m))
   |none=>none)
  |_=>none
 | .lq r n,t=>match t with
  | .l q m=>if Nat.beq n 0=true then some (.l q m)else if Nat.beq m 0=true then some (.l r n)else(match Tp.ig r q with
   |some z=>some (.l z (max n m))
   |none=>none)
  | .lq q m=>if Nat.beq n 0=true then some (.l q m)else if Nat.beq m 0=true then some (.l r n)else(match Tp.ig r q with
   |some z=>some (.l z (max n m))
   |none=>none)
  |_=>none
def Tp.ig:List Tp->List Tp->Option (List Tp)
 |[],ts=>match ts with
  |[]=>some []
  |_=>none
 |t::r,ts=>match ts with
  |t'::r'=>(match Tp.jn t t',Tp.ig r r' with
   |some a1,some b1=>some (a1::b1)
   |_,_=>none)
  |_=>none
end
theorem Tp.y4 {t:Tp} {d:D} (h:t.has d):d.y4=[]:=by
 cases t<;>simp only[Tp.has]at h<;>obtain⟨_,h⟩:=h
 obtain⟨rfl,_⟩:=h;rfl;subst h;rfl;obtain⟨rfl,_⟩:=h;rfl;obtain⟨_,rfl⟩:=h;rfl;obtain⟨h,_⟩:=h;rcases h with rfl |rfl<;>rfl
 obtain⟨h,_⟩:=h;rcases h with rfl |rfl<;>rfl
theorem Tp.ids {t:Tp} {d:D} (h:t.has d):d.ids=[]:=by
 cases t<;>simp only[Tp.has]at h<;>obtain⟨_,h⟩:=h
 obtain⟨rfl,_⟩:=h;rfl;subst h;rfl;obtain⟨rfl,_⟩:=h;rfl;obtain⟨_,rfl⟩:=h;rfl;obtain⟨h,_⟩:=h;rcases h with rfl |rfl<;>rfl
 obtain⟨h,_⟩:=h;rcases h with rfl |rfl<;>rfl
theorem Tp.vc:∀{ts:List Tp} {ds:List D},Tp.n6 ts ds->ds.length=ts.length
 |[],ds,h=>by grind [Tp.n6]
 |t::ts,ds,h=>by
  simp only[Tp.n6]at h;obtain⟨d,r,rfl,_,h⟩:=h;simp[Tp.vc h]
theorem Tp.qf:∀{ts:List Tp} {ds:List D},Tp.n6 ts ds->∀d∈ds,d.y4=[]
 |[],ds,h=>by grind [Tp.n6]
 |t::ts,ds,h=>by
  simp only[Tp.n6]at h;obtain⟨d,r,rfl,C,h⟩:=h;intro x hx;rcases QEk.1 hx with rfl |hx
  grind [Tp.y4]
  exact Tp.qf h x hx
inductive Vl where
 |ty (t:Tp)
 |nn (k:IntKind) (x:Nat) (o:Int)
 |ii (k:IntKind)
 |bf (tt ff:List Cn)
 |ss (x:Nat) (o:Int)
 |ll (row:List Tp) (x:Nat) (o:Int)
 |ld (row:List Tp) (hx:Nat) (ho:Int) (lx:Nat) (lo:Int)
 |fl (rows:List (List Vl))
 |oo (k:Nat) (x:Nat) (o:Int)
 |rr (k off:Nat)
 |qq (k:Nat) (x:Nat) (o:Int) (off:Nat)
 |pp (cells:List Tp)
 |pv (cells:List Vl)
 |fx (rows:List (List Vl))
 |lf (row:List Tp) (x:Nat) (o:Int)
 |aa (cells:List Vl)
 |uu (vs:List Vl)
 |ei (k:IntKind) (lo hi:Int) (tt:List Cn)
 |tp (cells:List Vl) (w:Vl)
 |dd (d:D)
def k7 (ν:List Int) (x:Nat) (o n:Int):Prop:=∃v,ν[x]?=some v/\n=v+o
def ph (ν:List Int) (hx:Nat) (ho:Int) (lx:Nat) (lo n:Int):Prop:=∃a b,k7 ν hx ho a/\k7 ν lx lo b/\n=a - b
section
variable (ν:List Int)
mutual
def Vl.has:Vl->D->Prop
 | .ty t,d=>t.has d
 | .nn k x o,d=>∃n,d=.int k n/\k7 ν x o n
 | .ii k,d=>∃n,d=.int k n
 | .bf tt ff,d=>∃b,d=.bool b/\(b=true->k8 ν tt)/\(b=false->k8 ν ff)
 | .ss x o,d=>∃l,d=.str l/\k7 ν x o l.length
 | .ll row x o,d=>∃rows,isL d rows/\k7 ν x o rows.length/\∀r∈rows,Tp.n6 row r
 | .ld row hx ho lx lo,d=>∃rows,isL d rows/\ph ν hx ho lx lo rows.length/\∀r∈rows,Tp.n6 row r
 | .fl rows,d=>∃rs,d=.u7 rs/\Vl.v7 rows rs
 | .oo k x o,d=>∃n:Nat,d=.u4 k n/\k7 ν x o n
 | .rr k off,d=>d=.ref k 0 off
 | .qq k x o off,d=>∃i:Nat,d=.ref k i off/\k7 ν x o i
 | .pp cells,d=>∃ds,d=.ptr ds/\Tp.n6 cells ds
 | .pv cells,d=>∃ds,d=.ptr ds/\Vl.a5 cells ds
 | .fx rows,d=>∃rs,isL d rs/\Vl.v7 rows rs
 | .lf row x o,d=>∃rows,d=.u7 rows/\k7 ν x o rows.length/\∀r∈rows,Tp.n6 row r
 | .aa cells,d=>∃ds,d=.agg ds/\Vl.a5 cells ds
 | .uu vs,d=>∃ds,d=.g8 ds/\Vl.a5 vs ds
 | .ei k lo hi tt,d=>∃n:Int,d=.int k n/\(lo<=n/\n<=hi)/\(n=0->k8 ν tt)
 | .tp cells w,d=>∃ds d2,d=.ia ds d2/\Vl.a5 cells ds/\w.has d2
 | .dd d2,d=>d=d2
def Vl.a5:List Vl->List D->Prop
 |[],ds=>ds=[]
 |v::vs,ds=>∃d r,ds=d::r/\v.has d/\Vl.a5 vs r
def Vl.v7:List (List Vl)->List (List D)->Prop
 |[],rs=>rs=[]
 |v::vs,rs=>∃r q,rs=r::q/\Vl.a5 v r/\Vl.v7 vs q
end
end
theorem Kr {a:Int} (e:List Int) (h:ν[x]?=some a):(ν++e)[x]?=some a:=by
 grind
theorem k7.ext {o n:Int} (e:List Int) (h:k7 ν x o n):k7 (ν++e) x o n:=let⟨v,h1,h2⟩:=h;⟨v,Kr e h1,h2⟩
theorem ph.ext {ν:List Int} {x y:Nat} {o p n:Int} (e:List Int) (h:ph ν x o y p n):ph (ν++e) x o y p n:=let⟨a,b,h1,h2,h3⟩:=h;⟨a,b,h1.ext e,h2.ext e,h3⟩
theorem k8.ext {cs:List Cn} (e:List Int) (h:k8 ν cs):k8 (ν++e) cs:=λc C=>let⟨a,b,h1,h2,h3⟩:=h c C;⟨a,b,Kr e h1,Kr e h2,h3⟩
section
variable {ν:List Int} (e:List Int)
mutual
theorem Vl.has.ext:∀{v:Vl} {d:D},v.has ν d->v.has (ν++e) d
 | .ty t,d,h=>h
 | .nn k x o,d,h=>let⟨n,h1,h2⟩:=h;⟨n,h1,h2.ext e⟩
 | .ii k,d,h=>h
 | .bf tt ff,d,h=>let⟨b,h1,h2,h3⟩:=h;⟨b,h1,λq=>(h2 q).ext e,λq=>(h3 q).ext e⟩
 | .ss x o,d,h=>let⟨l,h1,h2⟩:=h;⟨l,h1,h2.ext e⟩
 | .ll row x o,d,h=>let⟨l,h1,h2,h3⟩:=h;⟨l,h1,h2.ext e,h3⟩
 | .ld row hx ho lx lo,d,h=>let⟨l,h1,h2,h3⟩:=h;⟨l,h1,h2.ext e,h3⟩
 | .fl rows,d,h=>let⟨rs,h1,h2⟩:=h;⟨rs,h1,Vl.v7.ext h2⟩
 | .oo k x o,d,h=>let⟨n,h1,h2⟩:=h;⟨n,h1,h2.ext e⟩
 | .rr k off,d,h=>h
 | .qq k x o off,d,h=>let⟨n,h1,h2⟩:=h;⟨n,h1,h2.ext e⟩
 | .pp cells,d,h=>h
 | .pv cells,d,h=>let⟨ds,h1,h2⟩:=h;⟨ds,h1,Vl.a5.ext h2⟩
 | .fx rows,d,h=>let⟨rs,h1,h2⟩:=h;⟨rs,h1,Vl.v7.ext h2⟩
 | .lf row x o,d,h=>let⟨l,h1,h2,h3⟩:=h;⟨l,h1,h2.ext e,h3⟩
 | .aa cells,d,h=>let⟨ds,h1,h2⟩:=h;⟨ds,h1,Vl.a5.ext h2⟩
 | .uu cells,d,h=>let⟨ds,h1,h2⟩:=h;⟨ds,h1,Vl.a5.ext h2⟩
 | .ei k lo hi tt,d,h=>let⟨n,h1,h2,h3⟩:=h;⟨n,h1,h2,λq=>(h3 q).ext e⟩
 | .tp cells w,d,h=>let⟨ds,d2,h1,h2,h3⟩:=h;⟨ds,d2,h1,Vl.a5.ext h2,Vl.has.ext h3⟩
 | .dd d2,d,h=>h
theorem Vl.a5.ext:∀{vs:List Vl} {ds:List D},Vl.a5 ν vs ds->Vl.a5 (ν++e) vs ds
 |[],ds,h=>h
 |v::vs,ds,h=>let⟨d,r,h1,h2,h3⟩:=h;⟨d,r,h1,Vl.has.ext h2,Vl.a5.ext h3⟩
theorem Vl.v7.ext:∀{vs:List (List Vl)} {ds:List (List D)},Vl.v7 ν vs ds->Vl.v7 (ν++e) vs ds
 |[],ds,h=>h
 |v::vs,ds,h=>let⟨d,r,h1,h2,h3⟩:=h;⟨d,r,h1,Vl.a5.ext h2,Vl.v7.ext h3⟩
end
end
inductive Bx where
 |cc (cells:List Vl) (et:Nat) (pr:Bool)
 |ww (row:List Tp) (x:Nat) (o:Int) (l0 et:Nat)
def Bx.has (ν:List Int):Bx->x4->Prop
 | .cc cells et pr,b=>∃ds,b=⟨[ds],ds.length,et,pr⟩/\Vl.a5 ν cells ds
 | .ww row x o l0 et,b=>∃rows,b=⟨rows,l0,et,true⟩/\k7 ν x o rows.length/\∀r∈rows,Tp.n6 row r
theorem Bx.has.ext {ν:List Int} (e:List Int) {b:Bx} {x:x4} (h:b.has ν x):b.has (ν++e) x:=by
 cases b with
 |cc=>obtain⟨ds,G,C⟩:=h;exact⟨ds,G,C.ext e⟩
 |ww=>obtain⟨ds,G,C,M⟩:=h;exact⟨ds,G,C.ext e,M⟩
def RL {α β:Type} (R:α->β->Prop):List (Nat × α)->List (Nat × β)->Prop
 |[],m=>m=[]
 |p::l,m=>∃b r,m=(p.1,b)::r/\R p.2 b/\RL R l r
theorem RL.mono {α β:Type} {R R':α->β->Prop} (C:∀a b,R a b->R' a b):∀{l:List (Nat × α)} {m:List (Nat × β)},RL R l m->RL R' l m
 |[],m,h=>h
 |p::l,m,h=>let⟨b,r,h1,h2,h3⟩:=h;⟨b,r,h1,C _ _ h2,RL.mono C h3⟩
theorem RL.get {α β:Type} {R:α->β->Prop}:∀{l:List (Nat × α)} {m:List (Nat × β)} {t:Nat} {a:α},RL R l m->lk l t=some a->∃b,Go.Abs.lk m t=some b/\R a b
 |[],m,t,a,h,C=>by cases C
 |p::l,m,t,a,h,C=>by
  obtain⟨b,r,rfl,M,G⟩:=h;obtain⟨q,x⟩:=p;rw[Qz]at C ⊢;split at C
  grind
  rename_i e;rw[if_neg e];exact RL.get G C
theorem RL.get_none {α β:Type} {R:α->β->Prop}:∀{l:List (Nat × α)} {m:List (Nat × β)} {t:Nat},RL R l m->lk l t=none->Go.Abs.lk m t=none
 |[],m,t,h,C=>by simp only[RL]at h;subst h;rfl
 |p::l,m,t,h,C=>by
  obtain⟨b,r,rfl,M,G⟩:=h;obtain⟨q,x⟩:=p;rw[Qz]at C ⊢;split at C
  grind
  rename_i e;rw[if_neg e];exact RL.get_none G C
structure AS where
 fr:List (Nat × Vl)
 H:List (Nat × Bx)
 cs:List Cn
 nx:Nat
structure AS.ok (ν:List Int) (a:AS) (s:St):Prop where
 fr:RL (Vl.has ν) a.fr s.fr
 H:RL (Bx.has ν) a.H s.H
 cs:k8 ν a.cs
 nx:ν.length=a.nx
 z:ν[0]?=some 0
variable {a a':AS} {cs:List Cn} {o u:Int} {v:Vl} {y:Nat}
def Qfk:Cn:=(0,0, -1)
def cVl:D->Vl
 | .int k n=>.nn k 0 n
 | .bool true=>.bf [] [Qfk]
 | .bool false=>.bf [Qfk] []
 | .str l=>.ty (.c [l])
 | .u7 []=>.fl []
 |d=>.dd d
theorem ZF:k8 ν []:=λc C=>by grind
theorem CJ (z:ν[0]?=some 0) (d:D):(cVl d).has ν d:=by
 unfold cVl;split;exact⟨_,rfl,0,z,Wa⟩;exact⟨true,rfl,λ_=>ZF,λh=>(by cases h)⟩;exact⟨false,rfl,λh=>(by cases h),λ_=>ZF⟩;exact⟨_,QEr.2 rfl,rfl⟩;exact⟨_,rfl,rfl⟩;rfl
def evA (a:AS):y5->Option Vl
 | .s t=>lk a.fr t
 | .c d=>some (cVl d)
theorem Q4 (h:a.ok ν s):∀{x:y5} {v:Vl},evA a x=some v->∃d,s.ev x=some d/\v.has ν d
 | .s t,v,hx=>RL.get h.fr hx
 | .c d,v,hx=>by simp only[evA,QEl]at hx;subst hx;exact⟨d,rfl,CJ h.z d⟩
theorem AS.ok.ext {ν:List Int} {a:AS} {s:St} (h:a.ok ν s) (e:List Int) {cs:List Cn} {n:Nat} (G:a.nx+e.length=n) (C:k8 (ν++e) cs):(⟨a.fr,a.H,cs,n⟩:AS).ok (ν++e) s:=
 ⟨RL.mono (λ_ _ h=>h.ext e) h.fr,RL.mono (λ_ _ h=>h.ext e) h.H,C,by rw[QEY,h.nx];omega,Kr e h.z⟩
def AS.sym (a:AS) (cs:List Cn):AS:=⟨a.fr,a.H,cs++a.cs,a.nx+1⟩
theorem k8.app {a b:List Cn} (h:k8 ν a) (G:k8 ν b):k8 ν (a++b):=λc C=>(QEt.1 C).elim (h c) (G c)
theorem AS.ok.sym {ν:List Int} {a:AS} {s:St} (h:a.ok ν s) (v:Int) {cs:List Cn} (C:k8 (ν++[v]) cs):(a.sym cs).ok (ν++[v]) s:=h.ext [v] rfl (C.app (h.cs.ext [v]))
theorem AS.ok.new (h:a.ok ν s) (v:Int):(ν++[v])[a.nx]?=some v:=by rw[<- h.nx];simp
def Cw (a:AS) (dst:Option Nat) (v:Vl):AS:=
 match dst with
 |some t=>⟨(t,v)::a.fr,a.H,a.cs,a.nx⟩
 |none=>a
theorem X9 (h:a.ok ν s) {dst:Option Nat} (C:v.has ν d):(Cw a dst v).ok ν (s.apply dst d none):=by
 cases dst with
 |none=>exact h
 |some t=>exact⟨⟨d,s.fr,rfl,C,h.fr⟩,h.H,h.cs,h.nx,h.z⟩
def ubC (cs:List Cn):Nat->Nat->Option Int
 |0,x=>if Nat.beq x 0=true then some 0 else none
 |f+1,x=>cs.foldl (λm k=>if Nat.beq k.1 x=true then(match ubC cs f k.2.1 with
   |some u=>(match m with
    |some q=>some (min q (u+k.2.2))
    |none=>some (u+k.2.2))
   |none=>m)else m) (if Nat.beq x 0=true then some 0 else none)
def lbC (cs:List Cn):Nat->Nat->Option Int
 |0,x=>if Nat.beq x 0=true then some 0 else none
 |f+1,x=>cs.foldl (λm k=>if Nat.beq k.2.1 x=true then(match lbC cs f k.1 with
   |some u=>(match m with
    |some q=>some (max q (u - k.2.2))
    |none=>some (u - k.2.2))
   |none=>m)else m) (if Nat.beq x 0=true then some 0 else none)
theorem Sq {α β:Type} {p:β->Prop} {f:β->α->β}:∀{l:List α} {b:β},p b->(∀b,∀x∈l,p b->p (f b x))->p (l.foldl f b)
 |[],b,hb,h=>hb
 |x::l,b,hb,h=>Sq (l:=l) (h b x Wd hb) λb y C hp=>h b y (QFr _ C) hp
theorem Tn {cs:List Cn} {ν:List Int} (h:k8 ν cs) (z:ν[0]?=some 0):∀{f x:Nat} {u v:Int},ubC cs f x=some u->ν[x]?=some v->v<=u
 |0,x,u,v,hu,hv=>by
  simp only[ubC]at hu
  (repeat clear hK K);simp_all
 |f+1,x,u,v,hu,hv=>by
  simp only[ubC]at hu;refine Sq (p:=λm=>∀u,m=some u->v<=u) ?_ ?_ u hu;intro M C
  (repeat clear hK K);simp_all
  intro m k hk hm M C;split at C;rename_i e;have:=QFG e;subst this;obtain⟨a,b,G,O,T⟩:=h k hk;rw[hv]at G;cases G;split at C;rename_i w hw;have:=Tn h z hw O
  grind
  grind
  grind
theorem G7 {cs:List Cn} {ν:List Int} (h:k8 ν cs) (z:ν[0]?=some 0):∀{f x:Nat} {u v:Int},lbC cs f x=some u->ν[x]?=some v->u<=v
 |0,x,u,v,hu,hv=>by
  simp only[lbC]at hu
  (repeat clear hK K);simp_all
 |f+1,x,u,v,hu,hv=>by
  simp only[lbC]at hu;refine Sq (p:=λm=>∀u,m=some u->u<=v) ?_ ?_ u hu;intro M C
  (repeat clear hK K);simp_all
  intro m k hk hm M C;split at C;rename_i e;have:=QFG e;subst this;obtain⟨a,b,O,G,T⟩:=h k hk;rw[hv]at G;cases G;split at C;rename_i w hw;have:=G7 h z hw O
  grind
  grind
  grind
def fuC:Nat:=2
def QnW (cs:List Cn) (x y:Nat) (c:Int):Bool:=ent cs fuC x y c||ent cs 4 x y c
theorem HM (h:k8 ν cs) {c a:Int} (he:QnW cs x y c=true) (ha:ν[x]?=some a):∃b,ν[y]?=some b/\a<=b+c:=by
 simp only[QnW,QFu]at he
 grind [N1]
def ubX (cs:List Cn) (x:Nat):Option Int:=
 match ubC cs fuC x with
 |some u=>some u
 |none=>ubC cs 4 x
def lbX (cs:List Cn) (x:Nat):Option Int:=
 match lbC cs fuC x with
 |some u=>some u
 |none=>lbC cs 4 x
theorem Qam (h:k8 ν cs) (z:ν[0]?=some 0) {v:Int} (hu:ubX cs x=some u) (C:ν[x]?=some v):v<=u:=by
 unfold ubX at hu;split at hu;rename_i e;cases hu;exact Tn h z e C;exact Tn h z hu C
theorem Bs (h:k8 ν cs) (z:ν[0]?=some 0) {v:Int} (hu:lbX cs x=some u) (C:ν[x]?=some v):u<=v:=by
 unfold lbX at hu;split at hu;rename_i e;cases hu;exact G7 h z e C;exact G7 h z hu C
def Ju (cs:List Cn) (x:Nat) (o:Int) (y:Nat) (p:Int):Bool:=QnW cs x y (p - o)
theorem QX (h:k8 ν cs) {p m n:Int} (he:Ju cs x o y p=true) (hm:k7 ν x o m) (C:k7 ν y p n):m<=n:=by
 obtain⟨a,G,rfl⟩:=hm;obtain⟨b,T,rfl⟩:=C;obtain⟨c,O,M⟩:=HM h he G
 grind
theorem XJ (z:ν[0]?=some 0) (n:Int):k7 ν 0 n n:=⟨0,z,Wa⟩
def toN (a:AS):Vl->Option (IntKind × Nat × Int × AS)
 | .nn k x o=>some (k,x,o,a)
 | .ty (.i k lo hi)=>some (k,a.nx,0,a.sym [(0,a.nx, -lo),(a.nx,0,hi)])
 | .ii k=>some (k,a.nx,0,a.sym [])
 |_=>none
theorem Z7 {k:IntKind} (h:a.ok ν s) (he:toN a v=some (k,x,o,a')) (C:v.has ν d):∃e n,d=.int k n/\k7 (ν++e) x o n/\a'.ok (ν++e) s:=by
 unfold toN at he;split at he;cases he
 obtain⟨n,rfl,O⟩:=C;exact⟨[],n,rfl,O.ext [],by grind⟩;cases he
 obtain⟨n,rfl,O,T⟩:=C;have G:=h.new n;refine⟨[n],n,rfl,⟨n,G,Wa⟩,h.sym n λc M=>?_⟩;have z:=Kr [n] h.z;simp only[QEk,QEj,or_false]at M;rcases M with rfl |rfl
 exact⟨0,n,z,G,by grind⟩;exact⟨n,0,G,z,by grind⟩;cases he
 obtain⟨n,rfl⟩:=C;exact⟨[n],n,rfl,⟨n,h.new n,Wa⟩,h.sym n ZF⟩
 grind
def toL (a:AS):Vl->Option (List Tp × Nat × Int × AS)
 | .ll row x o=>some (row,x,o,a)
 | .ty (.l row n)=>some (row,a.nx,0,a.sym [(0,a.nx,0),(a.nx,0,(n:Int))])
 | .ty (.lq row n)=>some (row,0,n,a)
 |_=>none
theorem QiD {row:List Tp} (h:a.ok ν s) (he:toL a v=some (row,x,o,a')) (M:v.has ν d):∃e rows,isL d rows/\k7 (ν++e) x o rows.length/\(∀r∈rows,Tp.n6 row r)/\a'.ok (ν++e) s:=by
 unfold toL at he;split at he;cases he
 obtain⟨n,h0,G,C⟩:=M;exact⟨[],n,h0,G.ext [],C,by grind⟩;cases he
 obtain⟨rows,h0,G,C⟩:=M;have O:=h.new (rows.length:Int);refine⟨[(rows.length:Int)],rows,h0,⟨_,O,Wa⟩,C,h.sym _ λc T=>?_⟩;have z:=Kr [(rows.length:Int)] h.z;simp only[QEk,QEj,or_false]at T;rcases T with rfl |rfl
 exact⟨0,_,z,O,by simp⟩;exact⟨_,0,O,z,by grind⟩;cases he
 obtain⟨rows,h0,G,C⟩:=M;exact⟨[],rows,h0,by rw[QEN,<- G];exact XJ h.z _,C,by grind⟩
 grind
theorem Qg3 {ls:List (List UInt8)} {l:List UInt8} (h:l∈ls):l.length<=PK ls:=by
 unfold PK
 have key:∀(ls:List (List UInt8)) (m:Nat),m<=ls.foldl (λm l=>max m l.length) m/\∀l∈ls,l.length<=ls.foldl (λm l=>max m l.length) m:=by
  intro ls
  induction ls with
  |nil=>simp
  |cons x ls ih=>
   grind
 grind
def gf (a:AS):Vl->Option (Nat × Int × AS)
 | .ss x o=>some (x,o,a)
 | .ty (.s n)=>some (a.nx,0,a.sym [(0,a.nx,0),(a.nx,0,(n:Int))])
 | .ty (.c ls)=>some (a.nx,0,a.sym [(0,a.nx,0),(a.nx,0,(PK ls:Int))])
 |_=>none
theorem JI (h:a.ok ν s) (he:gf a v=some (x,o,a')) (G:v.has ν d):∃e l,d=.str l/\k7 (ν++e) x o l.length/\a'.ok (ν++e) s:=by
 have key:∀(l:List UInt8) (n:Nat),l.length<=n->∃e,k7 (ν++e) a.nx 0 l.length/\(a.sym [(0,a.nx,0),(a.nx,0,(n:Int))]).ok (ν++e) s:=λl n T=>by
  have M:=h.new (l.length:Int);refine⟨[(l.length:Int)],⟨_,M,Wa⟩,h.sym _ λc O=>?_⟩;have z:=Kr [(l.length:Int)] h.z;simp only[QEk,QEj,or_false]at O;rcases O with rfl |rfl
  exact⟨0,_,z,M,by simp⟩;exact⟨_,0,M,z,by grind⟩
 unfold gf at he;split at he;cases he
 obtain⟨n,rfl,C⟩:=G;exact⟨[],n,rfl,C.ext [],by grind⟩;cases he
 obtain⟨l,rfl,C⟩:=G
 grind
 cases he
 obtain⟨l,C,rfl⟩:=G;obtain⟨e,V,U⟩:=key l _ (Qg3 C)
 grind
 grind
end Go.Abs
namespace Go.Abs
open Go
variable {W:(D->Prop)->Prop} {a:AS} {cs:List Cn} {hi lo m n o u:Int} {k:IntKind} {s:St} {v:Vl} {x y:Nat} {ν:List Int}
def SS (a:AS) (k:IntKind) (lo hi:Int) (cs:List Cn):AS × Vl:=(a.sym ((0,a.nx, -lo)::(a.nx,0,hi)::cs),.nn k a.nx 0)
theorem QoI (h:a.ok ν s) (T:lo<=n) (O:n<=hi) (M:k8 (ν++[n]) cs):(SS a k lo hi cs).1.ok (ν++[n]) s/\(SS a k lo hi cs).2.has (ν++[n]) (.int k n):=by
 have G:=h.new n;have z:=Kr [n] h.z;refine⟨h.sym n λc C=>?_,n,rfl,n,G,Wa⟩;simp only[QEk]at C;rcases C with rfl |rfl |C
 exact⟨0,n,z,G,by grind⟩;exact⟨n,0,G,z,by grind⟩;exact M c C
def inK (a:AS) (k:IntKind) (x:Nat) (o:Int):Bool:=Ju a.cs 0 k.min x o&&Ju a.cs x o 0 k.max
theorem Qs4 (h:a.ok ν s) (hi:inK a k x o=true) (C:k7 ν x o n):k.min<=n/\n<=k.max:=by
 simp only[inK,QEm]at hi;exact⟨QX h.cs hi.1 (XJ h.z _) C,QX h.cs hi.2 C (XJ h.z _)⟩
def bdN (a:AS) (x:Nat) (o:Int):Option (Int × Int):=
 match lbX a.cs x,ubX a.cs x with
 |some l,some u=>some (l+o,u+o)
 |_,_=>none
theorem Xz (h:a.ok ν s) {l:Int} (hb:bdN a x o=some (l,u)) (G:k7 ν x o n):l<=n/\n<=u:=by
 unfold bdN at hb;split at hb;rename_i l1 u1 e1 e2;cases hb
 obtain⟨v,C,rfl⟩:=G;have:=Bs h.cs h.z e1 C;have:=Qam h.cs h.z e2 C;omega
 grind
def ltF (x:Nat) (o:Int) (y:Nat) (u:Int):Vl:=.bf [(x,y,u - o - 1)] [(y,x,o - u)]
def leF (x:Nat) (o:Int) (y:Nat) (u:Int):Vl:=.bf [(x,y,u - o)] [(y,x,o - u - 1)]
def neL (a:AS) (x:Nat) (o:Int) (y:Nat) (u:Int):List Cn:=(if ent a.cs fuC y x (o - u)=true then[(y,x,o - u - 1)]else[])++(if ent a.cs fuC x y (u - o)=true then[(x,y,u - o - 1)]else[])
def eqL (x:Nat) (o:Int) (y:Nat) (u:Int):List Cn:=[(x,y,u - o),(y,x,o - u)]
theorem PL {c:Int} (hm:k7 ν x o m) (C:k7 ν y u n) (h:m<=n+(c - u+o)):k8 ν [(x,y,c)]:=λk hk=>by
 simp only[QEr]at hk;subst hk;obtain⟨v,M,rfl⟩:=hm;obtain⟨w,G,rfl⟩:=C;exact⟨v,w,M,G,by grind⟩
theorem Qmb (hm:k7 ν x o m) (C:k7 ν y u n):(ltF x o y u).has ν (.bool (decide (m<n))):=
 ⟨_,rfl,λh=>PL hm C Wc,λh=>PL C hm Wc⟩
theorem Qma (hm:k7 ν x o m) (C:k7 ν y u n):(leF x o y u).has ν (.bool (decide (m<=n))):=
 ⟨_,rfl,λh=>PL hm C Wc,λh=>PL C hm Wc⟩
theorem QlZ (hm:k7 ν x o m) (C:k7 ν y u n) (e:m=n):k8 ν (eqL x o y u):=
 (PL hm C Wa).app (PL C hm Wa)
theorem QlY (h:k8 ν cs) {f:Nat} {p:Int} (he:ent cs f x y (p - o)=true) (hm:k7 ν x o m) (C:k7 ν y p n):m<=n:=by
 obtain⟨a,M,rfl⟩:=hm;obtain⟨b,G,rfl⟩:=C
 grind [N1]
theorem Qmn (h:a.ok ν s) (hm:k7 ν x o m) (C:k7 ν y u n) (e:¬m=n):k8 ν (neL a x o y u):=by
 refine k8.app ?_ ?_;split;rename_i q;have:=QlY h.cs q C hm;grind [PL];exact ZF;split;rename_i q;have:=QlY h.cs q hm C;grind [PL];exact ZF
def QoD (a:AS) (k:IntKind) (x:Nat) (o:Int):AS × Vl:=if inK a k x o=true then(a,.nn k x o)else SS a k k.min k.max []
def Qrm (a:AS) (k:IntKind) (x:Nat) (o:Int) (y:Nat) (u:Int):AS × Vl:=
 if Nat.beq y 0=true then QoD a k x (o+u)
 else if Nat.beq x 0=true then QoD a k y (o+u)
 else match bdN a x o,bdN a y u with
  |some (l1,h1),some (l2,h2)=>if k.min<=l1+l2/\h1+h2<=k.max then SS a k (l1+l2) (h1+h2) []else SS a k k.min k.max []
  |_,_=>SS a k k.min k.max []
def QqT (a:AS) (k:IntKind) (x:Nat) (o:Int) (y:Nat) (u:Int):AS × Vl:=
 if Nat.beq y 0=true then QoD a k x (o - u)
 else match bdN a x o,bdN a y u with
  |some (l1,h1),some (l2,h2)=>if k.min<=l1 - h2/\h1 - l2<=k.max then SS a k (l1 - h2) (h1 - l2) [(a.nx,x,o - l2),(x,a.nx,h2 - o)]else SS a k k.min k.max []
  |_,_=>SS a k k.min k.max []
def QrB (a:AS) (k:IntKind) (x:Nat) (o:Int) (y:Nat) (u:Int):AS × Vl:=
 match bdN a x o,bdN a y u with
 |some (l1,h1),some (l2,h2)=>if 0<=l1/\0<=l2/\k.min<=0/\h1*h2<=k.max then SS a k (l1*l2) (h1*h2) []else SS a k k.min k.max []
 |_,_=>SS a k k.min k.max []
def QwA (a:AS) (op:BinOp) (k:IntKind) (x:Nat) (o:Int) (y:Nat) (u:Int):Option (AS × Vl):=
 match op with
 | .add=>some (Qrm a k x o y u)
 | .sub=>some (QqT a k x o y u)
 | .mul=>some (QrB a k x o y u)
 | .quo=>if Ju a.cs 0 1 y u=true then(match bdN a x o with
   |some (l,h)=>if 0<=l/\k.min<=0/\h<=k.max then(if Nat.beq y 0=true then some (SS a k (l / u) (h / u) [])else some (SS a k 0 h []))else some (a,.ii k)
   |none=>some (a,.ii k))else none
 | .rem=>if Ju a.cs 0 1 y u=true then(match bdN a x o,bdN a y u with
   |some (l,_),some (_,h)=>if 0<=l then some (SS a k 0 (h - 1) [])else some (SS a k (1 - h) (h - 1) [])
   |_,some (_,h)=>some (SS a k (1 - h) (h - 1) [])
   |_,none=>some (a,.ii k))else none
 | .and | .or | .xor | .andNot=>some (SS a k k.min k.max [])
 | .shl | .shr=>if Ju a.cs 0 0 y u=true then some (a,.ii k)else none
 | .eql=>some (a,.bf (eqL x o y u) (neL a x o y u))
 | .neq=>some (a,.bf (neL a x o y u) (eqL x o y u))
 | .lss=>some (a,ltF x o y u)
 | .leq=>some (a,leF x o y u)
 | .gtr=>some (a,ltF y u x o)
 | .geq=>some (a,leF y u x o)
abbrev ma (ν:List Int) (a':AS) (s:St) (v:Vl) (W:(D->Prop)->Prop):Prop:=∃e d,a'.ok (ν++e) s/\v.has (ν++e) d/\∀kk:D->Prop,kk d->W kk
theorem ma.same {d:D} (h:a.ok ν s) (C:v.has ν d) (G:∀kk:D->Prop,kk d->W kk):ma ν a s v W:=⟨[],d,by grind,C.ext [],G⟩
theorem Px {e:Int} (G:k.min<=e) (C:e<=k.max):k.wrap e=e:=by
 unfold IntKind.wrap
 cases k<;>simp only[IntKind.min,IntKind.max,IntKind.bits,IntKind.signed,if_true,QEq,if_false,QE7,Bool.false_and]at G C ⊢<;>first
  |omega
  |(grind)
theorem Yu (k:IntKind) (n:Int):k.min<=k.wrap n/\k.wrap n<=k.max:=by
 cases k<;>simp only[IntKind.wrap,IntKind.min,IntKind.max,IntKind.bits,IntKind.signed]<;>simp<;>(try split)<;>omega
section
variable {ν:List Int} {a:AS} {s:St} (h:a.ok ν s) {k:IntKind} {x y:Nat} {o u m n:Int}
include h
theorem Z4 {r:Int} (M:lo<=r) (G:r<=hi) (C:k8 (ν++[r]) cs) (hw:∀kk:D->Prop,kk (.int k r)->W kk):ma ν (SS a k lo hi cs).1 s (SS a k lo hi cs).2 W:=
 let⟨q1,q2⟩:=QoI h M G C
 ⟨[r],_,q1,q2,hw⟩
theorem Dw (hm:k7 ν x o m) (hw:∀kk:D->Prop,kk (.int k (k.wrap m))->W kk):ma ν (QoD a k x o).1 s (QoD a k x o).2 W:=by
 unfold QoD;split;rename_i hi;obtain⟨G,C⟩:=Qs4 h hi hm;rw[Px G C]at hw;exact ma.same h ⟨m,rfl,hm⟩ hw;exact Z4 h (Yu k _).1 (Yu k _).2 ZF hw
theorem Qnd (hm:k7 ν x o m) (M:k7 ν y u n):ma ν (Qrm a k x o y u).1 s (Qrm a k x o y u).2 (λkk=>kk (.int k (k.wrap (m+n)))):=by
 unfold Qrm;split;rename_i e;have:=QFG e;subst this;obtain⟨w,C,rfl⟩:=M;rw[h.z]at C;cases C;obtain⟨v,G,rfl⟩:=hm;exact Dw h ⟨v,G,Wa⟩ λkk q=>q;split;rename_i e;have:=QFG e;subst this;obtain⟨w,C,rfl⟩:=hm;rw[h.z]at C;cases C;obtain⟨v,G,rfl⟩:=M;exact Dw h ⟨v,G,Wa⟩ λkk q=>q;split;rename_i l1 C l2 G e1 e2;have b1:=Xz h e1 hm;have b2:=Xz h e2 M;split;rename_i O;rw[Px (k:=k) (e:=m+n) Wa Wa];exact Z4 h Wa Wa ZF λkk q=>q;exact Z4 h (Yu k _).1 (Yu k _).2 ZF λkk q=>q;exact Z4 h (Yu k _).1 (Yu k _).2 ZF λkk q=>q
theorem Qif (hm:k7 ν x o m) (G:k7 ν y u n):ma ν (QqT a k x o y u).1 s (QqT a k x o y u).2 (λkk=>kk (.int k (k.wrap (m - n)))):=by
 unfold QqT;split;rename_i e;have:=QFG e;subst this;obtain⟨w,C,rfl⟩:=G;rw[h.z]at C;cases C;obtain⟨v,U,rfl⟩:=hm;exact Dw h ⟨v,U,Wa⟩ λkk q=>q;split;rename_i l1 C l2 U e1 e2;have b1:=Xz h e1 hm;have b2:=Xz h e2 G;split;rename_i V;rw[Px (k:=k) (e:=m - n) Wa Wa];refine Z4 h Wa Wa (λc M=>?_) λkk q=>q;obtain⟨v,T,Y⟩:=hm.ext [m - n];have O:=h.new (m - n);simp only[QEk,QEj,or_false]at M;rcases M with rfl |rfl
 exact⟨_,_,O,T,by grind⟩;exact⟨_,_,T,O,by grind⟩;exact Z4 h (Yu k _).1 (Yu k _).2 ZF λkk q=>q;exact Z4 h (Yu k _).1 (Yu k _).2 ZF λkk q=>q
theorem QoH (hm:k7 ν x o m) (C:k7 ν y u n):ma ν (QrB a k x o y u).1 s (QrB a k x o y u).2 (λkk=>kk (.int k (k.wrap (m*n)))):=by
 unfold QrB;split;rename_i l1 O l2 M e1 e2;have b1:=Xz h e1 hm;have b2:=Xz h e2 C;split;rename_i G;have p0:0<=m*n:=Int.mul_nonneg Wa Wa;have p1:m*n<=O*M:=Int.mul_le_mul b1.2 b2.2 Wa Wa;have p2:l1*l2<=m*n:=Int.mul_le_mul b1.1 b2.1 G.2.1 Wa;rw[Px (k:=k) (e:=m*n) Wa Wa];exact Z4 h p2 p1 ZF λkk q=>q;exact Z4 h (Yu k _).1 (Yu k _).2 ZF λkk q=>q;exact Z4 h (Yu k _).1 (Yu k _).2 ZF λkk q=>q
theorem Qnt {op:BinOp} {a':AS} (he:QwA a op k x o y u=some (a',v)) (hm:k7 ν x o m) (C:k7 ν y u n):ma ν a' s v (QdW op k m n):=by
 cases op<;>simp only[QwA]at he
 case add=>
  have e:=QFD he;rw[<- show(Qrm a k x o y u).1=a' from congrArg Prod.fst e,<- show(Qrm a k x o y u).2=v from congrArg Prod.snd e];exact Qnd h hm C
 case sub=>
  have e:=QFD he;rw[<- show(QqT a k x o y u).1=a' from congrArg Prod.fst e,<- show(QqT a k x o y u).2=v from congrArg Prod.snd e];exact Qif h hm C
 case mul=>
  have e:=QFD he;rw[<- show(QrB a k x o y u).1=a' from congrArg Prod.fst e,<- show(QrB a k x o y u).2=v from congrArg Prod.snd e];exact QoH h hm C
 case quo=>
  split at he;rename_i q;have U:=QX h.cs q (XJ h.z 1) C;have h0:n≠0:=Wa;split at he;rename_i l hi e;have b:=Xz h e hm;split at he;rename_i M;have p0:0<=m.tdiv n:=Int.tdiv_nonneg Wa Wa
  have p1:m.tdiv n<=m:=by
   rw[Int.tdiv_eq_ediv_of_nonneg Wa];exact Int.ediv_le_self n Wa
  split at he;rename_i G;cases he
  have G:=QFG G;subst G
  have hu:n=u:=by
   obtain⟨w,w1,w2⟩:=C;rw[h.z]at w1;grind
  subst hu;have p2:m.tdiv n=m / n:=Int.tdiv_eq_ediv_of_nonneg Wa;have Y:l / n<=m / n:=Int.ediv_le_ediv Wa b.1;have V:m / n<=hi / n:=Int.ediv_le_ediv Wa b.2;refine Z4 h (r:=m.tdiv n) Wa Wa ZF λkk q=>⟨h0, ?_⟩
  grind [Px]
  cases he
  refine Z4 h p0 Wa ZF λkk q=>⟨h0, ?_⟩
  grind [Px]
  cases he;exact ma.same h ⟨_,rfl⟩ λkk q=>⟨h0,q⟩
  cases he;exact ma.same h ⟨_,rfl⟩ λkk q=>⟨h0,q⟩
  grind
 case rem=>
  split at he;rename_i q;have U:=QX h.cs q (XJ h.z 1) C;have h0:n≠0:=Wa
  have lo:1 - n<=m.tmod n:=by
   have T:=Int.natAbs_tmod m n;have O:m.natAbs % n.natAbs<n.natAbs:=Nat.mod_lt _ Wa;omega
  have hi:m.tmod n<=n - 1:=by
   have T:=Int.natAbs_tmod m n;have O:m.natAbs % n.natAbs<n.natAbs:=Nat.mod_lt _ Wa;omega
  split at he;rename_i l _ _ M e1 e2;have b1:=Xz h e1 hm;have b2:=Xz h e2 C;split at he;cases he
  have:0<=m.tmod n:=Int.tmod_nonneg _ Wa;exact Z4 h Wa Wa ZF λkk q=>⟨h0,q⟩;cases he
  exact Z4 h Wa Wa ZF λkk q=>⟨h0,q⟩;rename_i _ M e2 _;have b2:=Xz h e2 C;cases he
  exact Z4 h Wa Wa ZF λkk q=>⟨h0,q⟩;cases he;exact ma.same h ⟨_,rfl⟩ λkk q=>⟨h0,q⟩
  grind
 case and=>cases he;exact Z4 h (r:=Kd .and k m n) (Yu k _).1 (Yu k _).2 ZF λkk q=>q
 case or=>cases he;exact Z4 h (r:=Kd .or k m n) (Yu k _).1 (Yu k _).2 ZF λkk q=>q
 case xor=>cases he;exact Z4 h (r:=Kd .xor k m n) (Yu k _).1 (Yu k _).2 ZF λkk q=>q
 case andNot=>cases he;exact Z4 h (r:=Kd .andNot k m n) (Yu k _).1 (Yu k _).2 ZF λkk q=>q
 case shl=>
  split at he;rename_i q;cases he;exact ma.same h ⟨_,rfl⟩ λkk p=>⟨QX h.cs q (XJ h.z 0) C,p⟩
  grind
 case shr=>
  split at he;rename_i q;cases he;exact ma.same h ⟨_,rfl⟩ λkk p=>⟨QX h.cs q (XJ h.z 0) C,p⟩
  grind
 case eql=>
  cases he
  exact ma.same h ⟨decide (m=n),rfl,λe=>QlZ hm C (of_decide_eq_true e),λe=>Qmn h hm C (of_decide_eq_false e)⟩ λkk q=>q
 case neq=>
  cases he
  refine ma.same h ⟨!decide (m=n),rfl,λe=>Qmn h hm C ?_,λe=>QlZ hm C ?_⟩ λkk q=>q
  grind
  grind
 case lss=>cases he;exact ma.same h (Qmb hm C) λkk q=>q
 case leq=>cases he;exact ma.same h (Qma hm C) λkk q=>q
 case gtr=>cases he;exact ma.same h (Qmb C hm) λkk q=>q
 case geq=>cases he;exact ma.same h (Qma C hm) λkk q=>q
end
end Go.Abs
