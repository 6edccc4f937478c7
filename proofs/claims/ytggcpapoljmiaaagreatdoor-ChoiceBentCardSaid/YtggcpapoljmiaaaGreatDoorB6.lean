/- Part 6 of the means of the proof: a verified abstract evaluator and contracts of functions. It states nothing of the claim by itself. -/
import Derived.Test.YtggcpapoljmiaaaGreatDoorB5
import Derived.KernelRfl
set_option maxRecDepth 4000
set_option maxHeartbeats 1000000
set_option linter.unusedSimpArgs false
set_option linter.unusedVariables false
set_option linter.unusedSectionVars false
namespace Go.Abs
open Go
section
variable {P:Program} {dr:Dr} {r:List u3} {K:St->Prop} {fr:QEg} {H:QEf} {t:Nat}
theorem Qjo {l0 j n:Nat} {l:Int} {x:y5} {lo hi:Option y5} (hx:St.ev ⟨fr,H⟩ x=some (.u4 j n)) (C:St.kb ⟨fr,H⟩ lo 0=some l) (G:St.kb ⟨fr,H⟩ hi n=some (n:Int)) (h0:0<=l) (M:l<=n)
 (k:run P dr r K ⟨(t,.la j l.toNat (l.toNat*l0) (n - l.toNat))::fr,H⟩):run P dr (⟨some t,.slice l0 x lo hi none,none⟩::r) K ⟨fr,H⟩:=Zd rfl rfl (.inr (.inr (.inl ⟨rfl,l,C,_,hx,h0,M,G,k⟩)))
end
section
variable {P:Program} {dr:Dr} {r:List u3} {K:St->Prop} {fr:QEg} {H:QEf} {t:Nat} {bt:Bool} {x y:y5} {ki kj:IntKind} {m n z:Int}
theorem Qwk (hx:St.ev ⟨fr,H⟩ x=some (.int ki m)) (C:St.ev ⟨fr,H⟩ y=some (.int ki n)) (k:run P dr r K ⟨(t,.int ki (Kd .and ki m n))::fr,H⟩):run P dr (⟨some t,.bin .and bt x y,none⟩::r) K ⟨fr,H⟩:=Zd rfl rfl ⟨_,hx,_,C,.inr rfl,k⟩
theorem Qwm (hx:St.ev ⟨fr,H⟩ x=some (.int ki m)) (G:St.ev ⟨fr,H⟩ y=some (.int kj n)) (h0:0<=n) (C:ki.wrap (m*2 ^ min n.toNat ki.bits)=z) (k:run P dr r K ⟨(t,.int ki z)::fr,H⟩):run P dr (⟨some t,.bin .shl bt x y,none⟩::r) K ⟨fr,H⟩:=by
 subst C;exact Zd rfl rfl ⟨_,hx,_,G,.inl rfl,h0,k⟩
end
section
variable {fr:QEg} {H H':QEf} {t:Nat}
theorem BU {e:AExit} {u:Nat} {p q d C:D} (h:lk fr t=some p) (M:lk fr u=some q) (hd:TQ small ⟨fr,H⟩ p=d/\TQ small ⟨fr,H⟩ q=C) (hp:d.pure=true/\C.pure=true) (G:∀k b,lk H' k=some b->lk H k=some b) (he:e=.ret\/e=.normal:=by first |exact .inl rfl |exact .inr rfl):FS [.tmp t,.tmp u] (.g8 [d,C]) H' e ⟨fr,H⟩:=by
 obtain⟨rfl,rfl⟩:=hd;rcases he with rfl |rfl<;>exact⟨.inr (.inr (.inl ⟨_,_,_,_,rfl,rfl,hp.1,hp.2,⟨_,h,rfl⟩,⟨_,M,rfl⟩⟩)),G⟩
end
variable {b:x4}
def TM (H:QEf):Prop:=∀k b,lk H k=some b->∀j∈b.ids,(lk H j).isSome=true
theorem QkL (h:b.pr=true):b.ids=[]:=by simp[x4.ids,h]
theorem Qsi {P:Program} {f:Nat} {args:List y5} {s:St} {ds ds':List D} {HF:QEf} {k:Nat} {b':x4} {d:D} (ha:Zh s args=some ds) (hF:∀j x,lk HF j=some x->lk s.H j=some x) (O:TM HF) (M:∀x∈ds,∀j∈x.ids,(lk HF j).isSome=true)
 (hk:(lk HF k).isSome=true) (hb:b.pr=true) (hd:d.ids=[]) (hu:ds.map Qi5=ds') (hr:b.u5 upN=b') (G:o7 P f ds' (upH HF) d ((upN k,b')::upH HF)):Kx P f args s HF [] [(k,b)] d:=by
 subst hu hr;refine⟨ds,ha,hF,O,M,λj x C=>?_,(λj x C=>by cases C),(λj C=>by grind),.inl G⟩;rw[Qz]at C;split at C
 grind [QkL]
 trivial
def Big (H:QEf):Prop:=∀k b,lk H k=some b->1000000<=k
variable {Q:AExit->St->Prop} {d:D} {fr:QEg} {k:Nat} {l:List u3} {o:u3} {s:St}
def KJ (k j:Nat):Nat:=if j=k then 500000 else upN j
def Tt (k:Nat) (H:QEf):QEf:=H.map λp=>(KJ k p.1,p.2.u5 (KJ k))
theorem Qdn {i j:Nat} (h:KJ k i=KJ k j):i=j:=by
 grind [KJ,upN]
theorem Hp {k:Nat}:∀(H:QEf) (j:Nat),lk (Tt k H) (KJ k j)=(lk H j).map (x4.u5 (KJ k))
 |[],_=>rfl
 |(i,b)::H,j=>by
  have:=Hp (k:=k) H j;simp only[Tt,QEW,Qz]at this ⊢;rw[this]
  by_cases h:i=j
  grind
  rw[if_neg h,if_neg (λe=>h (Qdn e))]
theorem Xj {k:Nat}:∀{H:QEf} {i:Nat} {b:x4},lk (Tt k H) i=some b->∃j b0,i=KJ k j/\lk H j=some b0/\b=b0.u5 (KJ k)
 |[],_,_,h=>by cases h
 |(j,x)::H,i,b,h=>by
  have h0:=h;simp only[Tt,QEW,Qz]at h;split at h;rename_i e;cases h;exact⟨j,x,e.symm,by rw[Qz,if_pos rfl],rfl⟩;rename_i e;obtain⟨C,b0,M,O,G⟩:=Xj (H:=H) h;refine⟨C,b0,M, ?_,G⟩;rw[Qz,if_neg (λe2=>e Wc)];omega
def Qsj (P:Program) (f:Nat) (args:List y5) (s:St) (k:Nat) (Hr:QEf) (d:D):Prop:=
 ∃ds,Zh s args=some ds/\k<1000000/\(∀t x,lk s.fr t=some x->k∉x.ids)/\d.ids=[]/\(∀j,(lk Hr j).isSome=(lk s.H j).isSome)/\
  o7 P f (ds.map λd=>(d.u5 (KJ k)).can) (Tt k s.H) d (Tt k Hr)
section
variable {P:Program} {E:Env} {g:Gh} {s:St} {a:Act} {w:World}
theorem R2 {o:Oper} {ao:s6} {f:Nat} {args:List y5} {Hr:QEf} {K':Act->World->Prop} {Q:Exit->Act->World->Prop} (r:Rel E g s a w) (hp:Yr P o.op=some ao) (hcal:Kp s ao f args) (hc:Qsj P f args s k Hr d)
 (ht:∀t,o.dst=some t->t<E.nt) (hK:∀g' a' w',Rel E g' (St.apply ⟨s.fr,Hr⟩ o.dst d none) a' w'->K' a' w'):o.wp P a w K' Q:=by
 obtain⟨ds,hds,hk,hfr0,hd0,hdom,hen,hok⟩:=hc;obtain⟨vs,hxs,hhas,hrun⟩:=HJ r hp hcal hds hen;unfold Oper.wp;rw[hrun,Oper.upon_enter]
 obtain⟨O,guK,hB0,hS0⟩:∃O:Gh,O.K=g.K/\(∀j,O.β j=if j=500000 then g.β k else g.β (j - 1000000))/\∀j,O.σ j=if j=500000 then g.σ k else g.σ (j - 1000000):=
  ⟨⟨g.K,λj=>if j=500000 then g.β k else g.β (j - 1000000),λj=>if j=500000 then g.σ k else g.σ (j - 1000000)⟩,rfl,λ_=>rfl,λ_=>rfl⟩
 have hup:∀j,O.β (KJ k j)=g.β j/\O.σ (KJ k j)=g.σ j:=λj=>by
  rw[hB0,hS0];unfold KJ;split
  grind
  have C:upN j≠500000:=by grind [upN]
  have G:upN j - 1000000=j:=by simp_all [upN]
  (repeat clear hK K);simp_all
 have hgu:O.pull (KJ k)=g:=by
  have C:(λj=>O.β (KJ k j))=g.β:=funext λj=>(hup j).1;have G:(λj=>O.σ (KJ k j))=g.σ:=funext λj=>(hup j).2
  (repeat clear hK K);simp_all [Gh.pull]
 have hrel:xa O (Tt k s.H) w:=by
  refine⟨λi b hi j M=>?_,λi b hi=>?_,λi i' b b' B e e' C G h3 h4=>?_,by rw[guK];exact r.kr⟩
  obtain⟨j1,b0,rfl,C,rfl⟩:=Xj hi;rw[x4.a8]at M;obtain⟨j0,hj0,rfl⟩:=QEw.1 M;rw[Hp,QEA];exact r.x9 j1 b0 C j0 hj0;obtain⟨j1,b0,rfl,C,rfl⟩:=Xj hi;refine u6.u5.2 ?_;rw[hgu];exact(r.bx j1 b0 C).move ⟨rfl,rfl⟩ (λ_ _ _ _ _ _=>⟨rfl,rfl⟩) (Kn.le_refl _) λB e _=>⟨rfl,λ_ h=>h,λ_=>.inl (QEu _)⟩;obtain⟨j1,b0,rfl,q1,rfl⟩:=Xj C;obtain⟨j2,b1,rfl,q2,rfl⟩:=Xj G;rw[(hup _).1]at h3 h4;rw[r.inj j1 j2 b0 b1 B e e' q1 q2 h3 h4]
 refine(hok O w vs hrel (HI hgu hxs) ?_).mono λe w' ⟨v,g',he,hv,Y,hsz,hfr,hfx,hkeep,hnew⟩=>?_;intro x hx j M;obtain⟨x0,hx0,rfl⟩:=QEw.1 hx;rw[L0,a8]at M;obtain⟨j0,hj0,rfl⟩:=QEw.1 M;rw[Hp,QEA];exact hhas x0 hx0 j0 hj0;subst he;rw[guK]at hfr
 have V:∀B,MR O (Tt k s.H) B->∃j b0 e,lk s.H j=some b0/\g.β j=some (B,e):=λB ⟨i,e,C,G⟩=>by
  obtain⟨b1,hb1⟩:=QEo.1 C;obtain⟨j,b0,rfl,q1,_⟩:=Xj hb1
  grind
 have U:∀B,MR O (Tt k s.H) B->(∀o,g.K B o=none)/\(E.B0<=B\/E.fo B)/\¬JN w B:=λB hB=>by
  obtain⟨j,b0,e,C,G⟩:=V B hB;exact⟨((r.bx j b0 C).nb G).2.1,((r.bx j b0 C).nb G).2.2,(r.bx j b0 C).ve G⟩
 have hKle:g.K.le g'.K:=λb q x hx=>by
  have hb:=r.kr.lt hx
  grind
 have kU:∀j,(lk s.H j).isSome=true->j≠k->g'.β (KJ k j)=g.β j/\g'.σ (KJ k j)=g.σ j:=λj M T=>by
  have hbig:1000000<=KJ k j:=by unfold KJ;simp_all [upN]
  grind [Hp]
 have kK:∀B e,(lk s.H k).isSome=true->g'.β (KJ k k)=some (B,e)->w.heap.size<=B\/(∃e2,g.β k=some (B,e2)):=λB e hs hβ=>by
  have e5:KJ k k=500000:=if_pos rfl;have hs2:(lk (Tt k Hr) (KJ k k)).isSome=true:=by grind [Hp]
  rcases hnew (KJ k k) B e Wa hs2 hβ with h |⟨k2,e2,C,G,h3⟩;omega;obtain⟨b2,hb2⟩:=QEo.1 G
  obtain⟨j,b0,rfl,q1,_⟩:=Xj hb2
  have T:j=k:=QFL λT=>by
   unfold KJ at C;rw[if_neg T]at C;grind [upN]
  grind
 have r2:Rel E (g'.pull (KJ k)) ⟨s.fr,Hr⟩ a w':=by
  refine⟨r.nt,r.df.of rfl (λD hD=>((hfr D (QEG.1 hD).1 (λho=>(U D ho).2.2 hD)).1).trans hD),λt x h=>(r.fr t x h).congr hKle λj M=>kU j (r.da t x h j M) (λe=>hfr0 t x h (e ▸ M)),λt x h j M=>by rw[hdom];exact r.da t x h j M,λj b h i hi=>?_,λj b h=>?_,λj j' b b' B e e' C G h3 h4=>?_,Y.kr,
   ⟨QEB r.ext.1 hsz,λb hb hf=>?_,r.ext.2.2.trans hfx⟩,λb hb hf=>?_,λj M=>?_⟩
  have C:lk (Tt k Hr) (KJ k j)=some (b.u5 (KJ k)):=by grind [Hp]
  have:=Y.x9 _ _ C (KJ k i) (by rw[x4.a8];grind)
  grind [Hp]
  have C:lk (Tt k Hr) (KJ k j)=some (b.u5 (KJ k)):=by grind [Hp]
  have hb:=u6.u5.1 (Y.bx _ _ C);have hs:(lk s.H j).isSome=true:=by grind
  refine hb.move ⟨rfl,rfl⟩ (λ_ _ _ _ _ _=>⟨rfl,rfl⟩) (Kn.le_refl _) λB e hβ=>⟨rfl,λ_ h=>h,λ_=>?_⟩
  by_cases T:j=k
  subst T;rcases kK B e hs hβ with G |⟨e2,G⟩
  exact .inl (QEB r.ext.1 G);obtain⟨b0,hb0⟩:=QEo.1 hs;exact((r.bx j b0 hb0).nb G).2.2;have hβ':g'.β (KJ k j)=some (B,e):=hβ;rw[(kU j hs T).1]at hβ';obtain⟨b0,hb0⟩:=QEo.1 hs;exact((r.bx j b0 hb0).nb hβ').2.2;have q1:lk (Tt k Hr) (KJ k j)=some (b.u5 (KJ k)):=by grind [Hp]
  have q2:lk (Tt k Hr) (KJ k j')=some (b'.u5 (KJ k)):=by grind [Hp]
  exact Qdn (Y.inj _ _ _ _ B e e' q1 q2 h3 h4)
  have hno:¬MR O (Tt k s.H) b:=λho=>by
   grind
  exact(hfr b (QEH hb r.ext.1) hno).1.trans (r.ext.2.1 b hb hf)
  have hno:¬MR O (Tt k s.H) b:=λho=>by
   grind
  exact(hfr b (QEH hb r.ext.1) hno).2.trans (r.kx b hb hf);obtain⟨C,G,h3,h4⟩:=r.kp j M;have:=kU j h4 Wa;exact⟨C,this.1.trans G,this.2.trans h3,by grind⟩
 have r3:Rel E (g'.pull (KJ k)) (St.j7 ⟨s.fr,Hr⟩ o.dst none) a w':=by cases o.dst<;>exact r2
 refine hK _ _ w' (r3.apply (hv.congr (Kn.le_refl _) λj M=>?_) ?_ ht)
 grind
 intro j M;grind
end
section
variable {P:Program} {nt:Nat} {E:Env}
def opX (P:Program) (o:u3) (K:St->Prop) (s:St):Prop:=
 o.guard=none/\∃t f args k Hr d,o.dst=some t/\Kp s o.op f args/\Qsj P f args s k Hr d/\K ⟨(t,d)::s.fr,Hr⟩
theorem Lk {ops:Array Oper} {K:St->Prop} {Q:Exit->Act->World->Prop} (G:E.nt=nt) (C:∀(j:Nat) (o':Oper),ops[j]?=some o'->∀t,o'.dst=some t->t<E.nt) (ol:u3):∀(l:List Oper) (k:Nat) (l':List u3) (s:St) (g:Gh) (a:Act) (w:World),(∀j,l[j]?=ops[k+j]?)->
  QV P nt ops l=some (l'++[ol])->Rel E g s a w->GF P l' (opX P ol K) s->(∀s' g' a' w',Rel E g' s' a' w'->K s'->Q .normal a' w')->wpOps P ops Q (List.range' k l.length) a w
 |[],k,l',s,g,a,w,_,hp,r,h,hK=>by
  simp only[QV,QEl]at hp
  (repeat clear hK K);simp_all
 |o::l,k,l',s,g,a,w,hl,hp,r,h,hK=>by
  simp only[QV]at hp;split at hp;rename_i o' O e1 e2;have h0:ops[k]?=some o:=by simpa using(hl 0).symm
  rw[QEZ,QFn,wpOps_cons];unfold wpOp;rw[h0];simp only;cases l' with
  |nil=>
   simp only[QFJ,QEl,QFE]at hp;obtain⟨rfl,rfl⟩:=hp;obtain⟨Y,t,f,args,kk,Hr,d,U,M,hc,hk⟩:=h;obtain⟨p1,p2,V,p4⟩:=Q6 e1
   have T:l=[]:=by
    have:=X5 e2
    grind
   subst T;have hw:Region.wanted o (yielded ops a.tmps)=true:=Xm r p2 C true (by rw[Y];rfl)
   rw[if_pos hw];refine .inl (R2 r p1 M hc (λt ht=>by grind) λg' a' w' O=>?_);have e:St.apply ⟨s.fr,Hr⟩ o.dst d none=⟨(t,d)::s.fr,Hr⟩:=by rw[<- V,U];rfl
   rw[e]at O;exact hK _ g' a' w' O hk
  |cons o2 l2=>
   simp only[QFi,QEl,QFE]at hp;obtain⟨rfl,rfl⟩:=hp
   have:=Mq (Q:=Q) G r e1 C h (K':=wpOps P ops Q (List.range' (k+1) l.length)) λs' g' a' w' r2 h2=>
    Lk G C ol l (k+1) l2 s' g' a' w' (λj=>by have:=hl (j+1);grind) e2 r2 h2 hK
   grind
  grind
theorem QdO (h:GF P l (opX P o (Q .normal)) s):AW P nt (.region false (l++[o])) Q s:=λcode E g a w hm hp G T r=>by
 obtain⟨id,ops,rfl,_,C⟩:=Jp hp;refine wpIn_region (Hc (λ⟨_,_,h⟩=>h) (YP C) _ _ _ ?_);rw[QFw,<- QE1];exact Lk G (λj o' ho t O=>by rw[G];exact YA C j o' ho t O) o ops.toList 0 l s g a w Wd C r h λs' g' a' w' M U=>⟨s',g',U,M⟩
theorem Qzz (h:(fr.all λp=>!p.2.ids.contains k)=true):∀t x,lk fr t=some x->k∉x.ids:=λt x hx hk=>by
 have:=QEs.1 h (t,x) (ZJ hx)
 grind
theorem CB {ol:List u3} (C:ol=l++[o]) (h:run P .fixed l (opX P o (Q .normal)) s):TW P nt (.region false ol) Q s:=by
 subst C;exact QdO (Ye h)
theorem QhA {H H':QEf} {e:AExit} (hd:d=.g8 []) (C:∀k b,lk H' k=some b->lk H k=some b) (he:e=.ret\/e=.normal:=by first |exact .inl rfl |exact .inr rfl):FS [] d H' e ⟨fr,H⟩:=by
 subst hd;rcases he with rfl |rfl<;>exact⟨.inl ⟨rfl,rfl⟩,C⟩
end
theorem Ls {g:Gh} {c:Array Value} {l0:Nat}:∀(lo:Nat) {off:Nat} {rs:List (List D)},(∀r∈rs,r.length=l0)->s5 g c off rs->s5 g c (off+lo*l0) (rs.drop lo)
 |0,off,rs,_,h=>by grind
 |lo+1,off,[],_,_=>by trivial
 |lo+1,off,r::rs,hl,h=>by
  simp only[s5]at h;have:=Ls lo (λr hr=>hl r Wc) h.2
  grind
theorem TY {g g':Gh} {c:Array Value} {T:D}:∀{off:Nat} {row:List D} {j:Nat},j5 g c off row->(∀d v,row[j]?=some d->z4 g d v->T.l5=true/\z4 g' T v)->(∀i d v,i≠j->row[i]?=some d->z4 g d v->z4 g' d v)->j5 g' c off (row.set j T)
 |_,[],_,_,_,_=>by trivial
 |off,d::ds,0,h,h1,h2=>by
  simp only[List.set_cons_zero,j5]at h ⊢;obtain⟨⟨O,x,M,G⟩,C⟩:=h;obtain⟨Y,V⟩:=h1 d x rfl G;refine⟨⟨Y,x,M,V⟩, ?_⟩
  have key:∀{off:Nat} {ds:List D},j5 g c off ds->(∀(i:Nat) (d:D) (v:Value),ds[i]?=some d->z4 g d v->z4 g' d v)->j5 g' c off ds:=by
   intro off ds
   induction ds generalizing off with
   |nil=>grind [j5]
   |cons d ds ih=>
    intro h U;simp only[j5]at h ⊢;obtain⟨⟨O,x,M,G⟩,C⟩:=h;exact⟨⟨O,x,M,U 0 d x rfl G⟩,ih C λi d v hi=>U (i+1) d v hi⟩
  exact key C λi d v hi=>h2 (i+1) d v Wa hi
 |off,d::ds,j+1,h,h1,h2=>by
  simp only[List.set_cons_succ,j5]at h ⊢;obtain⟨⟨O,x,M,G⟩,C⟩:=h;exact⟨⟨O,x,M,h2 0 d x Wa rfl G⟩,TY C (λd v hd=>h1 d v hd) λi d v hi hd=>h2 (i+1) d v Wa hd⟩
theorem Qon {fr:QEg} {H:QEf} (k0 j k:Nat) {row row':List D} {rows M:List (List D)} {e0 t0 lo c n l0 et:Nat} {p0 pr:Bool} (h0:lk H k0=some ⟨[row],e0,t0,p0⟩) (hb:lk H k=some ⟨rows,l0,et,pr⟩)
 (hj:row[j]?=some (.la k lo c n)) (hc:c=lo*l0) (hn:lo+n=rows.length) (hr:row.set j (.u4 k n)=row') (hd:rows.drop lo=M) (hz:l0≠0) (hk:k<1000000) (V:k0≠k)
 (hfr:(fr.all λp=>!p.2.ids.contains k)=true) (hH:(H.all λp=>p.1==k0||p.2.pr||!p.2.ids.contains k)=true) (T:∀i d,i≠j->row[i]?=some d->k∉d.y4):
  St.le ⟨fr,H⟩ ⟨fr,(k0,⟨[row'],e0,t0,false⟩)::(k,⟨M,l0,et,pr⟩)::H⟩:=by
 subst hr hd hc;intro E g a w r;obtain⟨o,ho⟩:∃o,o=((g.σ k).1,(g.σ k).2+lo*l0):=⟨_,rfl⟩;obtain⟨q1,q2,q3⟩:=r.bx k _ hb;obtain⟨g',hg'⟩:∃g':Gh,g'=⟨g.K,g.β,λi=>if i=k then o else g.σ i⟩:=⟨_,rfl⟩;have hK:g'.K=g.K:=by grind
 have hβ:∀i,g'.β i=g.β i:=λi=>by rw[hg']
 have hσk:g'.σ k=o:=by simp_all
 have hσ:∀i,i≠k->g'.σ i=g.σ i:=λi hi=>by simp_all
 have hle:g.K.le g'.K:=by grind [Kn.le_refl]
 have O:∀i,i≠k->g'.β i=g.β i/\g'.σ i=g.σ i:=λi hi=>⟨hβ i,hσ i hi⟩;have hnk:∀t d,lk fr t=some d->k∉d.ids:=Qzz hfr
 have U:∀i x,lk H i=some x->i≠k0->∀r∈x.rows,∀d∈r,k∉d.y4:=λi x hx hi r0 C d hd hm=>by
  have:=QEs.1 hH (i,x) (ZJ hx);simp only[QFu,beq_iff_eq,QFv,QFC,decide_eq_false_iff_not]at this;rcases this with(this |this) |this
  omega;rw[(r.bx i x hx).2.1 this r0 C d hd]at hm;grind;apply this;unfold x4.ids;split;rename_i hp;rw[(r.bx i x hx).2.1 hp r0 C d hd]at hm;omega
  grind
 have hng:¬g.gone k:=λhg=>by
  rcases q3 with⟨_,⟨_,h⟩ |⟨_,h,_⟩⟩ |⟨_,B,cc,h,_⟩;have:=h.1 hg.2
  grind [Yn]
  grind
  exact hg.no h
 have up:∀i,(lk H i).isSome=true->(lk ((k0,(⟨[row.set j (.u4 k n)],e0,t0,false⟩:x4))::(k,⟨rows.drop lo,l0,et,pr⟩)::H) i).isSome=true:=λi hi=>by
  grind [Qz]
 have Y:∀i x,lk ((k0,(⟨[row.set j (.u4 k n)],e0,t0,false⟩:x4))::(k,⟨rows.drop lo,l0,et,pr⟩)::H) i=some x->∃x',lk H i=some x':=λi x h=>by
  grind [Qz]
 have hrm:∀d∈row.set j (.u4 k n),∀i∈d.y4,(lk H i).isSome=true:=λd hd i hi=>by
  rcases Qia hd with rfl |hd
  grind [D.y4]
  exact r.wa k0 _ h0 row Wd d hd i hi
 refine⟨g',r.nt,r.df,λt d h=>(r.fr t d h).congr hle λi hi=>O i (λe=>hnk t d h (e ▸ hi)),λt d h i hi=>up i (r.da t d h i hi),λi x h i2 G=>?_,λi x h=>?_,λi i' x x' B e e' h1 h2=>?_,by rw[hK];exact r.kr,r.ext,λb=>by rw[hK];exact r.kx b,λi hi=>?_⟩
 rw[Qz]at h;split at h;cases h
 simp only[x4.ids,QEq,if_false,QEM,List.flatMap_nil,QEN,QEp]at G
 grind
 rw[Qz]at h;split at h;cases h
 refine up i2 (r.x9 k _ hb i2 ?_);revert G;unfold x4.ids
 grind
 exact up i2 (r.x9 i x h i2 G);rw[Qz]at h;split at h;rename_i e;cases h;subst e;obtain⟨p1,p2,p3⟩:=r.bx k0 _ h0;rcases p3 with⟨p3,_⟩ |⟨_,B,cc,p4,p5,p6,p7,p8,p9⟩
 grind
 refine⟨λr0 C=>?_,by simp,.inr ⟨by simp,B,cc,by grind,p5,by grind, ?_,by simp_all,p9⟩⟩
 grind
 rw[hσ k0 V];simp only[s5]at p7 ⊢;refine⟨TY p7.1 (λd v hd hv=>⟨rfl, ?_⟩) λi d v hi hd hv=>hv.congr hle λi2 G=>O i2 (λe=>T i d hi hd (e ▸ G)), ?_⟩;rw[hj]at hd;cases hd;obtain⟨a0,cap,rfl,h1,h2⟩:=hv;refine⟨a0,cap,rfl,h1, ?_⟩
 grind
 simp;rename_i hne;rw[Qz]at h;split at h;rename_i e;cases h;subst e;refine⟨λr0 C=>q1 r0 (QEL C),λhp r0 C=>q2 hp r0 (QEL C), ?_⟩;rcases q3 with⟨h1,⟨h2,h3⟩ |⟨_,h,_⟩⟩ |⟨_,B,cc,h2,h3,h4,h5,h6⟩
 grind
 grind
 refine .inr ⟨.inr hz,B,cc,by grind,h3,by grind, ?_,by simp_all⟩;rw[hσk,ho];refine s5.congr hle (Ls lo q1 h5) λr0 C d hd i hi=>O i λe=>?_;exact U k _ hb (Ne.symm V) r0 (QEL C) d hd (e ▸ hi);refine(r.bx i x h).move (O i (λe=>Wa)) (λr0 C d hd i2 G=>O i2 λe=>U i x h (Ne.symm hne) r0 C d hd (e ▸ G)) hle λB e he=>⟨rfl,λo ho=>by grind,id⟩;obtain⟨y1,e1⟩:=Y i x h1;obtain⟨y2,e2⟩:=Y i' x' h2;rw[hβ,hβ];exact r.inj i i' y1 y2 B e e' e1 e2;obtain⟨p1,p2,p3,p4⟩:=r.kp i hi
 grind
variable {lr ol:List u3}
section
variable {P:Program} {nt:Nat} {E:Env}
theorem SZ {ops:Array Oper} {K:St->Prop} {Q:Exit->Act->World->Prop} (G:E.nt=nt) (C:∀(j:Nat) (o':Oper),ops[j]?=some o'->∀t,o'.dst=some t->t<E.nt) (ol:u3) (lr:List u3):∀(l:List Oper) (k:Nat) (l':List u3) (s:St) (g:Gh) (a:Act) (w:World),(∀j,l[j]?=ops[k+j]?)->
  QV P nt ops l=some (l'++ol::lr)->Rel E g s a w->GF P l' (opX P ol (GF P lr K)) s->(∀s' g' a' w',Rel E g' s' a' w'->K s'->Q .normal a' w')->wpOps P ops Q (List.range' k l.length) a w
 |[],k,l',s,g,a,w,_,hp,r,h,hK=>by
  simp only[QV,QEl]at hp
  (repeat clear hK K);simp_all
 |o::l,k,l',s,g,a,w,hl,hp,r,h,hK=>by
  simp only[QV]at hp;split at hp;rename_i o' O e1 e2;have h0:ops[k]?=some o:=by simpa using(hl 0).symm
  rw[QEZ,QFn,wpOps_cons];unfold wpOp;rw[h0];simp only;cases l' with
  |nil=>
   simp only[QFJ,QEl,QFE]at hp;obtain⟨rfl,rfl⟩:=hp;obtain⟨V,t,f,args,kk,Hr,d,T,M,Y,hk⟩:=h;obtain⟨p1,p2,U,p4⟩:=Q6 e1;have hw:Region.wanted o (yielded ops a.tmps)=true:=Xm r p2 C true (by rw[V];rfl)
   rw[if_pos hw];refine .inl (R2 r p1 M Y (λt ht=>by grind) λg' a' w' O=>?_);have e:St.apply ⟨s.fr,Hr⟩ o.dst d none=⟨(t,d)::s.fr,Hr⟩:=by rw[<- U,T];rfl
   rw[e]at O;exact S0 G C l (k+1) _ _ g' a' w' (λj=>by have:=hl (j+1);grind) e2 O hk hK
  |cons o2 l2=>
   simp only[QFi,QEl,QFE]at hp;obtain⟨rfl,rfl⟩:=hp
   have:=Mq (Q:=Q) G r e1 C h (K':=wpOps P ops Q (List.range' (k+1) l.length)) λs' g' a' w' r2 h2=>
    SZ G C ol lr l (k+1) l2 s' g' a' w' (λj=>by have:=hl (j+1);grind) e2 r2 h2 hK
   grind
  grind
theorem RA (h:GF P l (opX P o (GF P lr (Q .normal))) s):AW P nt (.region false (l++o::lr)) Q s:=λcode E g a w hm hp G T r=>by
 obtain⟨id,ops,rfl,_,C⟩:=Jp hp;refine wpIn_region (Hc (λ⟨_,_,h⟩=>h) (YP C) _ _ _ ?_);rw[QFw,<- QE1];exact SZ G (λj o' ho t O=>by rw[G];exact YA C j o' ho t O) o lr ops.toList 0 l s g a w Wd C r h λs' g' a' w' M U=>⟨s',g',U,M⟩
theorem QdR (C:ol=l++o::lr) (h:run P .fixed l (opX P o (λs'=>run P .fixed lr (Q .normal) s')) s):TW P nt (.region false ol) Q s:=by
 subst C;exact RA (Y0 (λ_ h=>by
  obtain⟨U,t,f,args,k,Hr,d,T,O,M,G⟩:=h;exact⟨U,t,f,args,k,Hr,d,T,O,M,Ye G⟩) (Ye h))
theorem Rq {t f k:Nat} {az:List y5} {ds ds':List D} {d:D} {fr:QEg} {H Hr H1 H2:QEf} {K:St->Prop} (ho:o=⟨some t,.call f az,none⟩) (T:Zh ⟨fr,H⟩ az=some ds) (hk:k<1000000)
 (O:(fr.all λp=>!p.2.ids.contains k)=true) (hd:d.ids=[]) (G:Hr.map Prod.fst=H.map Prod.fst) (C:(ds.map λd=>(d.u5 (KJ k)).can)=ds') (Y:Tt k H=H1) (V:Tt k Hr=H2) (M:o7 P f ds' H1 d H2) (U:K ⟨(t,d)::fr,Hr⟩):opX P o K ⟨fr,H⟩:=by
 subst ho C Y V;exact⟨rfl,t,f,_,k,Hr,d,rfl,.inl rfl,⟨ds,T,hk,Qzz O,hd,Rd G,M⟩,U⟩
end
section
variable {P:Program} {nt:Nat}
theorem Qm0 {live:List Nat} {b:z5} (h:∀K:St->Prop,(∀fr H,TW P nt b Q ⟨Zf live fr,H⟩->K ⟨fr,H⟩)->run P .fixed l (opX P o (λs'=>run P .fixed lr K s')) s) (C:ol=l++o::lr:=by rfl):TW P nt (.seq (.region false ol) live b) Q s:=by
 subst C;refine RB (RA ?_);refine Y0 (λ_ h=>?_) (Ye (h (λs'=>AW P nt b.erase Q s') λfr H hb=>?_));obtain⟨U,t,f,args,k,Hr,d,T,O,M,G⟩:=h;exact⟨U,t,f,args,k,Hr,d,T,O,M,Ye G⟩
 grind [Cx,Gg]
end
section
variable {P:Program} {nt:Nat} {E:Env}
theorem Qom {s:St}:s.le s:=λ_ g _ _ r=>⟨g,r⟩
end
end Go.Abs
namespace Go.Proofs
open Go Go.Abs
set_option maxRecDepth 100000
set_option maxHeartbeats 0
set_option cbv.maxSteps 100000000
def QC6:TT false Tryz.f201:=⟨_,by cbv⟩
def tf201:o6:=QC6.1
theorem QyU:QT Tryz.prog Tryz.f201=some tf201.erase:=by kernel_rfl
set_option cbv.maxSteps 100000000
def t37:TT false Tryz.f37:=⟨_,by cbv⟩
def tf37:o6:=t37.1
theorem QzQ:QT Tryz.prog Tryz.f37=some tf37.erase:=by kernel_rfl
def QCa:TT false Tryz.f101:=⟨_,by cbv⟩
def tf101:o6:=QCa.1
theorem QxY:QT Tryz.prog Tryz.f101=some tf101.erase:=by kernel_rfl
def QCb:TT false Tryz.f102:=⟨_,by cbv⟩
def tf102:o6:=QCb.1
theorem QxZ:QT Tryz.prog Tryz.f102=some tf102.erase:=by kernel_rfl
def QCC:TT false Tryz.f148:=⟨_,by cbv⟩
def tf148:o6:=QCC.1
theorem Qyq:QT Tryz.prog Tryz.f148=some tf148.erase:=by kernel_rfl
set_option cbv.maxSteps 100000000
def t20:TT false Tryz.f20:=⟨_,by cbv⟩
def tf20:o6:=t20.1
theorem QDv:QT Tryz.prog Tryz.f20=some tf20.erase:=by kernel_rfl
def QCx:TT false Tryz.f124:=⟨_,by cbv⟩
def tf124:o6:=QCx.1
theorem Qyl:QT Tryz.prog Tryz.f124=some tf124.erase:=by kernel_rfl
def QCR:TT false Tryz.f163:=⟨_,by cbv⟩
def tf163:o6:=QCR.1
theorem QyF:QT Tryz.prog Tryz.f163=some tf163.erase:=by kernel_rfl
set_option cbv.maxSteps 100000000
def t59:TT false Tryz.f59:=⟨_,by cbv⟩
def tf59:o6:=t59.1
theorem QDT:QT Tryz.prog Tryz.f59=some tf59.erase:=by kernel_rfl
set_option cbv.maxSteps 100000000
def t70:TT false Tryz.f70:=⟨_,by cbv⟩
def tf70:o6:=t70.1
theorem QDV:QT Tryz.prog Tryz.f70=some tf70.erase:=by kernel_rfl
def QCE:TT false Tryz.f150:=⟨_,by cbv⟩
def tf150:o6:=QCE.1
theorem Qys:QT Tryz.prog Tryz.f150=some tf150.erase:=by kernel_rfl
set_option cbv.maxSteps 100000000
def t22:TT false Tryz.f22:=⟨_,by cbv⟩
def tf22:o6:=t22.1
theorem QzO:QT Tryz.prog Tryz.f22=some tf22.erase:=by kernel_rfl
def t29:TT false Tryz.f29:=⟨_,by cbv⟩
def tf29:o6:=t29.1
theorem QDB:QT Tryz.prog Tryz.f29=some tf29.erase:=by kernel_rfl
def t53:TT false Tryz.f53:=⟨_,by cbv⟩
def tf53:o6:=t53.1
theorem QDO:QT Tryz.prog Tryz.f53=some tf53.erase:=by kernel_rfl
def t86:TT false Tryz.f86:=⟨_,by cbv⟩
def tf86:o6:=t86.1
theorem QD9:QT Tryz.prog Tryz.f86=some tf86.erase:=by kernel_rfl
set_option cbv.maxSteps 100000000
def t71:TT false Tryz.f71:=⟨_,by cbv⟩
def tf71:o6:=t71.1
theorem QDW:QT Tryz.prog Tryz.f71=some tf71.erase:=by kernel_rfl
def t72:TT false Tryz.f72:=⟨_,by cbv⟩
def tf72:o6:=t72.1
theorem QDX:QT Tryz.prog Tryz.f72=some tf72.erase:=by kernel_rfl
def QB9:TT false Tryz.f100:=⟨_,by cbv⟩
def tf100:o6:=QB9.1
theorem QxX:QT Tryz.prog Tryz.f100=some tf100.erase:=by kernel_rfl
def QCD:TT false Tryz.f149:=⟨_,by cbv⟩
def tf149:o6:=QCD.1
theorem Qyr:QT Tryz.prog Tryz.f149=some tf149.erase:=by kernel_rfl
set_option cbv.maxSteps 100000000
def t34:TT false Tryz.f34:=⟨_,by cbv⟩
def tf34:o6:=t34.1
theorem QDD:QT Tryz.prog Tryz.f34=some tf34.erase:=by kernel_rfl
end Go.Proofs
namespace M3
open Go Go.Abs
variable {n v:Int}
theorem DI (h:0<n):0<=YE v n:=by
 unfold YE;have G:=Int.tmod_lt_of_pos v h;have C:=Int.lt_tmod_of_pos v h;omega
theorem DH (h:0<n):YE v n<n:=by
 unfold YE;have C:=Int.tmod_lt_of_pos v h;omega
end M3
namespace M3
open Go Go.Abs
end M3
namespace M3
open Go Go.Abs
end M3
namespace M3
end M3
namespace M3
end M3
namespace M3
open Go Go.Abs
end M3
namespace M3
open Go Go.Abs
end M3
namespace M3
open Go Go.Abs
end M3
namespace M3
end M3
namespace M3
open Go Go.Abs
end M3
namespace M3
open Go Go.Abs
end M3
namespace M3
open Go Go.Abs
end M3
namespace M3
open Go Go.Abs
end M3
namespace Go.Proofs
open Go Go.Abs M3
variable {a a' b b' c c' e:Int} {f:Bool} {p p' q q':List UInt8}
theorem JZ (hp:p.length<=1048576) (hq:q.length<=1048576) (Y:p'.length<=1048576) (V:q'.length<=1048576):Ok Tryz.prog 201 [.agg [.int .i64 e,.int .i64 a,.int .i64 b,.int .i64 c,.str p,.str q,.bool f],.agg [.int .i64 a',.int .i64 b',.int .i64 c',.str p',.str q']] (.bool (J4 e a b c p q f a' b' c' p' q')):=by
 refine Ok.n7 tfol Tryz.func201 QyU (QEi Z) ?_;show TW _ _ tf201.body _ _;refine Qd λK C=>Zu Z Z Z (Zu Z Z Z (Qb Z (kc2 C Z Z (Qw (Qd λK C=>QB (cs:=[_,_,_,_,_,_,_]) Z Z Z Z (QA (Yx Wa Wa) Z Z (.inr Z) (Zp Z (Qb Z (Qq (g:=9) Z (λU=>?_) (λU=>?_))))))))));rw[U];simp only[qB]at U;refine gn3 Z Z Z (Qh Z Z (kc3 C Z Z Z (Zb Z (Qd λK C=>Qb Z (kc1 C Z (Qv (Qi (Qg Z ?_))))))))
 grind [J4]
 rw[U];simp only[qB]at U;refine Qc Z (QB (cs:=[_,_,_,_,_]) Z Z Z Z (Qc Z (QA (Z0 Wa Wa) Z Z (.inr Z) (Qc Z (Zp Z (Qh Z Z (kc3 C Z Z Z (Qs Z (λT=>?_) (λT=>?_)))))))));rw[T];simp only[qB]at T;refine Qd λK C=>Qb Z (kc1 C Z (Qv (Qi (Qg Z ?_))))
 grind [J4]
 rw[T];simp only[qB]at T;refine Qp (ks2 Z Z (Qw (Qd λK C=>Qe Z Z (Qr Z Z Z (Ys Z Z (kc3 C Z Z Z (Qs Z (λO=>?_) (λO=>?_))))))));rw[O];simp only[qB]at O;refine Qd λK C=>Qe Z Z (Qr Z Z Z (ZK Z Z (Qb Z (kc1 C Z (Qv (Qi (Qg Z ?_)))))))
 grind [J4]
 rw[O];simp only[qB]at O;refine Qp (ks2 Z Z (Qd λK C=>Qe Z Z (QB (cs:=[_,_,_,_,_]) Z Z Z Z (QB (cs:=[_,_,_,_,_]) Z Z Z Z (QA (Y2 Wa Wa Wa Wa) Z Z (.inr Z) (Qb Z (kc2 C Z Z (Qd λK C=>Qb Z (ZK Z Z (Qb Z (Qq (g:=26) Z (λM=>?_) (λM=>?_))))))))))));rw[M];simp only[qB]at M;refine gn3 Z Z Z (Qy Z (Qy Z (Qy Z (YN Z (Qh Z Z (Qb Z (kc1 C Z (Qv (Qg Z ?_)))))))))
 grind [J4]
 rw[M];simp only[qB]at M;refine Qc Z (Qb Z (Qc Z (Yp Z Z (Qc Z (Qb Z (Qq (g:=29) Z (λG=>?_) (λG=>?_)))))));rw[G];simp only[qB]at G;refine Qc Z (Qe Z Z (Qc Z (Qr Z Z Z (Qc Z (Zp Z (Qc Z (Qh Z Z (Qh Z Z (Qb Z (kc1 C Z (Qv (Qg Z ?_))))))))))))
 grind [J4]
 rw[G];simp only[qB]at G;refine gn3 Z Z Z (Qc Z (Qh Z Z (Qh Z Z (Qb Z (kc1 C Z (Qv (Qg Z ?_)))))))
 grind [J4]
theorem F2 (hp:p.length<=1048576) (Y:q.length<=1048576) {e':Int} {f':Bool} (U:p'.length<=1048576) (T:q'.length<=1048576) {x y z:Int} {r s:List UInt8} (hr:r.length<=1048576) (V:s.length<=1048576):Ok Tryz.prog 163 [.agg [.int .i64 e,.int .i64 a,.int .i64 b,.int .i64 c,.str p,.str q,.bool f,.int .i64 e',.int .i64 a',.int .i64 b',.int .i64 c',.str p',.str q',.bool f'],.agg [.int .i64 x,.int .i64 y,.int .i64 z,.str r,.str s]] (.bool (Fe e a b c p q f e' a' b' c' p' q' f' x y z r s)):=by
 refine Ok.n7 tfol Tryz.func163 QyF (QEi Z) ?_;show TW _ _ tf163.body _ _;refine Qd λK C=>Zu Z Z Z (Zu Z Z Z (Qb Z (kc2 C Z Z (Qd λK C=>QB (cs:=[_,_,_,_,_,_,_,_,_,_,_,_,_,_]) Z Z Z Z (QA (Y4 Wa Wa Wa Wa) Z Z (.inr Z) (Qb Z (Qq (g:=7) Z (λO=>?_) (λO=>?_))))))));rw[O];refine Qc Z (QB (cs:=[_,_,_,_,_]) Z Z Z Z (Qc Z (QA (Z0 Wa Wa) Z Z (.inr Z) (Qh Z Z (Qb Z (Qq (g:=11) Z (λM=>?_) (λM=>?_)))))));rw[M];refine Qc Z (Qe Z Z (Qc Z (QB (cs:=[_,_,_,_,_,_,_]) Z Z Z Z (Qc Z (QB (cs:=[_,_,_,_,_]) Z Z Z Z (Qc Z (QA (JZ Wa Wa Wa Wa) Z Z (.inr Z) (Qh Z Z (Qb Z (Qq (g:=17) Z (λG=>?_) (λG=>?_)))))))))));rw[G];refine Qc Z (Qe Z Z (Qc Z (QB (cs:=[_,_,_,_,_,_,_]) Z Z Z Z (Qc Z (QB (cs:=[_,_,_,_,_]) Z Z Z Z (Qc Z (QA (JZ Wa Wa Wa Wa) Z Z (.inr Z) (Qc Z (Zp Z (Qh Z Z (Qb Z (kc1 C Z (Qv (Qg Z ?_))))))))))))))
 grind [Fe]
 rw[G];refine gn4 Z Z Z Z (YN Z (Qh Z Z (Qb Z (kc1 C Z (Qv (Qg Z ?_))))))
 grind [Fe]
 rw[M];refine gn4 Z Z Z Z (Qh Z Z (Qb Z (gn4 Z Z Z Z (YN Z (Qh Z Z (Qb Z (kc1 C Z (Qv (Qg Z ?_)))))))))
 grind [Fe]
 rw[O];refine gn2 Z Z (Qh Z Z (Qb Z (gn4 Z Z Z Z (Qh Z Z (Qb Z (gn2 Z Z (gn3 Z Z Z (Qh Z Z (Qb Z (kc1 C Z (Qv (Qg Z ?_))))))))))))
 grind [Fe]
end Go.Proofs
namespace M3
open Go Go.Abs
def QBR (p:List UInt8):Int:=
 if p=[48]then 0 else if p=[48,46,48]then 1 else if p=[49]then 2 else if p=[50]then 3 else if p=[49,49]then 4 else if p=[97]then 5 else if p=[97,46,49]then 6
 else if p=[97,46,98]then 7 else if p=[98]then 8 else if p=[114,99,46,49]then 9 else 10
end M3
namespace M3
open Go Go.Abs
def QzX (a b c:Int) (p:List UInt8):Int:=((a*10000+b)*10000+c)*16+QBR p
def cN (x:Cu):Int:=if x.e=0 then 2*QzX x.a x.b x.c x.p+(if x.f=true then 1 else 0)else x.e*1000000000000000
end M3
namespace M3
open Go Go.Abs
theorem Qsd {a b c:Int} {p q:List UInt8}:cN ⟨0,a,b,c,p,q,false⟩=2*QzX a b c p:=by simp[cN]
end M3
namespace M25
open Go Go.Abs M3
theorem Qw1 {H:QEf} {S:Nat->Bool} {k n:Nat} {b:x4} (G:S k=true) (hb:lk H k=some b) (hp:b.pr=true) (C:n=b.rows.length):(D.u4 k n).fz H S=.sl b.rows:=by
 (repeat clear hK K);simp_all [D.fz,D.x7]
def nxI (I:Int):Int:=IntKind.i64.wrap (I+1)
def nx (L:List Int) (I n:Int):Int:=mPl (Qzw L (IntKind.i64.wrap (nxI I - 1))) n
theorem Qbp {i:Nat} (h:i<=62):1<=(2:Int) ^ i/\(2:Int) ^ i<=4611686018427387904:=by
 have C:(2:Nat) ^ i<=2 ^ 62:=QFO Wa h
 grind
end M25
namespace Go.Proofs
open Go Go.Abs M3 M25
variable {a b c:Int} {p q:List UInt8}
theorem KV {l:List (Cu × Cu)} (M:Sm l) (hp:p.length<=1048576) (V:q.length<=1048576):Ok Tryz.prog 124 [ZB l,.agg [.int .i64 a,.int .i64 b,.int .i64 c,.str p,.str q]] (.bool (TF l a b c p q)):=by
 refine Ok.n7 tfol Tryz.func124 Qyl (QEi Z) ?_;show TW _ _ tf124.body _ _;have Y:=M.1;refine Qd λK C=>Zu Z Z Z (Qb Z (kc2 C Z Z (Qw (Qd λK C=>Qb Z (kc3 C Z Z Z (Qu (Q8 (ι:=Nat) (λi=>⟨[(0,ZB l),(3,.ref 3 0 0),(5,.int .i64 i)],[(3,⟨[[.int .i64 a,.int .i64 b,.int .i64 c,.str p,.str q]],5,66,true⟩)]⟩) (λi=>i<=l.length/\(l.take i).any (λs=>SJ s a b c p q)=false) (λi=>l.length - i) 0 ?_ ?_ ?_)))))));exact QM (l:=[0,3,5]) (lH:=[3]) (kp3 Z Z Z) (Qa Z Qf) Z Z Z;simp;intro i U;refine Qw (Qd λK C=>mv2 Z Z (QW Z Z (ZK Z Z (Qb Z (Qq (g:=10) Z (λT=>?_) (λT=>?_))))));rw[T];simp only[qA]at T;refine Qc Z (Qb Z (Qc Z (QA (ZS M) Z Z (.inr Z) (Qh Z Z (kc4 C Z Z Z Z (Qs Z (λO=>?_) (λO=>?_)))))));rw[O];refine Qp (ks3 Z Z Z (Qw (Qu (Qd λK C=>mv2 Z Z (Qt Z Z Z Wa (QH Wa) Z (QY (ds0:=[0]) (cs:=[_,_,_,_,_,_,_,_,_,_,_,_,_,_]) Z Z Z Z Z Z (QY (ds0:=[0]) (cs:=[_,_,_,_,_]) Z Z Z Z Z Z (Zi (ds0:=[]) (F2 (M.at (i:=i) Wa).1.1 (M.at (i:=i) Wa).1.2 (M.at (i:=i) Wa).2.1 (M.at (i:=i) Wa).2.2 hp V) Z Z (.inr Z) Z Z (kc4 C Z Z Z Z (Qs Z (λG=>?_) (λG=>?_)))))))))));rw[G];simp only[qA]at G;refine Qd λK C=>Qb Z (kc1 C Z (Qv (Qm (Qi (QQ (Qm (Qi (Qg Z ?_))))))))
 first
  |exact(Ra (i:=i) Wa U.2).symm
  |exact(Rb O).symm
  |exact(QcF O (i:=i) Wa G).symm
 rw[G];simp only[qA]at G;refine Qp (Qk (ks3 Z Z Z (QJ λK C=>Qb Z (Q2 Z Z Wb (Qb Z (C _ (Qj (i+1) ?_ ?_ ?_)))))));exact QM (l:=[0,3,5]) (lH:=[3]) (kp3 Z Z Z) (Qa Z Qf) Z Z Z;exact⟨Wa,RM Wa U.2 G⟩;omega;rw[O];refine Q3 (QF (Qx (QD (QK (QL) (Qd λK C=>Qb Z (kc1 C Z (Qv (Qg Z ?_))))))))
 grind [Rb]
 rw[T];simp only[qA]at T;refine gn2 Z Z (Qh Z Z (kc4 C Z Z Z Z (Zq Z (Q3 (QF (Qx (QD (QK (QL) (Qd λK C=>Qb Z (kc1 C Z (Qv (Qg Z ?_))))))))))))
 grind [Ra]
theorem KX {s:List (Cu × Cu) × List (Cu × Cu)} (T:Sm s.1) (M:Sm s.2) (hp:p.length<=1048576) (V:q.length<=1048576):Ok Tryz.prog 86 [QnQ s,.agg [.int .i64 a,.int .i64 b,.int .i64 c,.str p,.str q]] (.bool (PV s a b c p q)):=by
 refine Ok.n7 tfol Tryz.func86 QD9 (QEi Z) ?_;show TW _ _ tf86.body _ _;refine Qd λK C=>Zu Z Z Z (Zu Z Z Z (Qb Z (kc2 C Z Z (Qw (Qd λK C=>QB (cs:=[_,_]) Z Z Z Z (QA (KY T M) Z Z (.inr Z) (Zp Z (Qb Z (Qq (g:=8) Z (λU=>?_) (λU=>?_))))))))));rw[U];simp only[qB]at U;refine gn3 Z Z Z (Qh Z Z (kc3 C Z Z Z (Zb Z (Qd λK C=>Qb Z (kc1 C Z (Qv (Qi (Qg Z ?_))))))))
 grind [PV]
 rw[U];simp only[qB]at U;refine Qc Z (QB (cs:=[_,_,_,_,_]) Z Z Z Z (Qc Z (QA (Z0 hp V) Z Z (.inr Z) (Qc Z (Zp Z (Qh Z Z (kc3 C Z Z Z (Qs Z (λO=>?_) (λO=>?_)))))))));rw[O];simp only[qB]at O;refine Qd λK C=>Qb Z (kc1 C Z (Qv (Qi (Qg Z ?_))))
 grind [PV]
 rw[O];simp only[qB]at O;refine Qp (ks2 Z Z (Qw (Qd λK C=>Qe Z Z (Qr Z Z Z (HB Z Z (kc3 C Z Z Z (Qs Z (λG=>?_) (λG=>?_))))))));rw[G];simp only[qB]at G;refine Qd λK C=>Qe Z Z (Qr Z Z Z (QB (cs:=[_,_,_,_,_]) Z Z Z Z (QA (KV T hp V) Z Z (.inr Z) (Qb Z (kc1 C Z (Qv (Qi (Qg Z ?_))))))))
 grind [PV]
 rw[G];simp only[qB]at G;refine Qp (ks2 Z Z (Qd λK C=>Qe Z Z (Qr Z Z Z (QB (cs:=[_,_,_,_,_]) Z Z Z Z (QA (KV M hp V) Z Z (.inr Z) (Qb Z (kc1 C Z (Qv (Qg Z ?_)))))))))
 grind [PV]
end Go.Proofs
namespace M25
open Go Go.Abs M3
variable {n:Nat} {u:Int} {w:Ql}
theorem Qkw (h0:0<=u) (h:u<w.length):TE w u=2 ^ (min (w[u.toNat]'Wa).cs.length 16+1) - 1:=by
 rw[TE,QiI h0 h]
theorem Bv (h:u<0\/(w.length:Int)<=u):TE w u=0:=by rw[TE,QiJ h]
theorem QtE (h:n<=17):1<=(2:Int) ^ n/\(2:Int) ^ n<=131072:=by
 have C:(2:Nat) ^ n<=2 ^ 17:=QFO Wa h
 grind
theorem QkB (s:CC) (l:List CandT) (h:n<=16):0<=HX s l n/\HX s l n<=131070:=by
 obtain⟨G,C⟩:=Dv s l n;have:=QtE (n:=n+1) Wa;omega
variable {b:x4} {d:D} {i k:Nat} {α:Type}
section
variable {fr:QEg} {H:QEf} {t u:Nat}
theorem Qjt (hb:lk H k=some b) (hp:b.pr=true) (C:n=b.rows.length) (hd:.sl b.rows=d):XX ⟨fr,H⟩ (.u4 k n)=d:=by
 unfold XX;rw[Qw1 (S:=Jt) rfl hb hp C];exact hd
theorem Kh {e:AExit} (h:lk fr t=some (.u4 k n)) (hb:lk H k=some b) (hp:b.pr=true) (C:n=b.rows.length) (hd:.sl b.rows=d) (he:e=.ret\/e=.normal:=by first |exact .inl rfl |exact .inr rfl):ua [.tmp t] d e ⟨fr,H⟩:=
 ZU h (Qjt hb hp C hd) he
end
theorem Qak {a b:List α} (ha:i<a.length) (hb:i<b.length) (h:a.take i=b.take i) (he:a[i]=b[i]):a.take (i+1)=b.take (i+1):=by
 grind [List.take_succ_eq_append_getElem]
theorem same_no [DecidableEq α] {a b:List α} (ha:i<a.length) (hb:i<b.length) (he:¬a[i]=b[i]):decide (a=b)=false:=decide_eq_false λe=>he Wc
theorem min16 (n:Nat):(min (n:Int) 16+1).toNat=min n 16+1:=Wa
theorem Qi2 {n:Nat} (h:n<=62):IntKind.i64.wrap ((2:Int) ^ n - 1)=2 ^ n - 1:=by
 have:=Qbp h;grind [Qn]
theorem QtF (i:Nat):(2:Int) ^ ((i:Int)+1).toNat=2 ^ (i+1):=by rfl
theorem Qlz (s:CC) (l:List CandT) {i:Nat} (h:i<16):IntKind.i64.wrap (HX s l i+(2:Int) ^ ((i:Int)+1).toNat)=HX s l i+2 ^ (i+1):=by
 rw[QtF];have G:=QkB s l (n:=i) Wa;have C:=QtE (n:=i+1) Wa
 grind [Qn]
theorem QlA {e:Int} (G:0<=e) (C:e<=18446744073709551615):IntKind.u64.wrap e=e:=by
 unfold IntKind.wrap;simp only[IntKind.bits,IntKind.signed,Bool.false_and,QEq,if_false];omega
theorem Qi3 {p:Nat} (h:p<=60):IntKind.i64.wrap ((2:Int)*2 ^ min ((p:Nat):Int).toNat IntKind.i64.bits)=2*2 ^ p:=by
 rw[show min ((p:Nat):Int).toNat IntKind.i64.bits=p from by grind [IntKind.bits]];have:=Qbp (i:=p+1) Wa
 grind [Qn]
end M25
namespace Go.Proofs
open Go Go.Abs M3 M25
theorem Kt {v:Int} (h0:0<=v) (M:v<=61):Ok Tryz.prog 149 [.int .i64 v] (.int .i64 (2 ^ v.toNat)):=by
 refine Ok.n7 tfol Tryz.func149 Qyr (QEi Z) ?_;show TW _ _ tf149.body _ _;refine Qd λK C=>Qb Z (kc1 C Z (Qd λK C=>Qb Z (kc2 C Z Z (Qw (Qd λK C=>Qb Z (kc3 C Z Z Z (Qu (Q8 (ι:=Nat) (λi=>⟨[(0,.int .i64 v),(3,.int .i64 (2 ^ i)),(4,.int .i64 i)],[]⟩) (λi=>(i:Int)<=v) (λi=>v.toNat - i) 0 ?_ ?_ ?_))))))));exact Zn (kp3 Z Z Z);omega;intro i O;have hp:=Qbp (i:=i+1) Wa;rw[Int.pow_succ]at hp;refine Qw (Qd λK C=>mv2 Z Z (ZK Z Z (kc4 C Z Z Z Z (Qs Z (λG=>?_) (λG=>?_)))));rw[G];simp only[qB]at G;refine Qp (ks3 Z Z Z (Qw (Qu (QJ λK C=>Qb Z (Qe3 Z Z (Qn Wa Wa) (Qb Z (C _ (Qk (ks3 Z Z Z (QJ λK C=>Qb Z (Q2 Z Z (Qn Wa Wa) (Qb Z (C _ (Qj (i+1) ?_ ?_ ?_))))))))))))));exact QM (l:=[0,3,4]) (lH:=[]) (kp3 Z Z Z) Qf Wg Z Z;omega;omega;rw[G];simp only[qB]at G;refine Q3 (QF (Qx (QD (ks1 Z (Qd λK C=>mv2 Z Z (kc1 C Z (Qv (QR Z ?_))))))))
 grind
variable {w:Ql}
theorem FZ (hw:WSm w) {u:Int}:Ok Tryz.prog 101 [Q9 w,.int .i64 u] (.int .i64 (TE w u)):=by
 refine Ok.n7 tfol Tryz.func101 QxY (QEi Z) ?_;show TW _ _ tf101.body _ _;refine Qd λK C=>Zu Z Z Z (Qb Z (kc2 C Z Z (Qw (Qd λK C=>Qb Z (ZK Z Z (Qb Z (Qq (g:=7) Z (λM=>?_) (λM=>?_))))))));rw[M];simp only[qA]at M;refine gn4 Z Z Z Z (YN Z (Qh Z Z (kc3 C Z Z Z (Zb Z (Qd λK C=>Qb Z (kc1 C Z (Qv (Qi (QR Z ?_)))))))))
 grind [Bv]
 rw[M];simp only[qA]at M;refine Qc Z (Qb Z (Qc Z (Qe Z Z (Qc Z (Qr Z Z Z (Qc Z (QW Z Z (Qc Z (Gw Z Z (Qh Z Z (kc3 C Z Z Z (Qs Z (λG=>?_) (λG=>?_)))))))))))));rw[G];simp only[qA]at G;refine Qd λK C=>Qb Z (kc1 C Z (Qv (Qi (QR Z ?_))))
 grind [Bv]
 rw[G];simp only[qA]at G;refine Qp (ks2 Z Z (Qd λK C=>Qe Z Z (Qr Z Z Z (Qb Z (Qt Z Z Z Wa (Q5 Wa Wa) Z (Q7 Z Z (Qr Z Z Z (QW Z Z (Qjn Z Z (Q2 Z Z Wb (QA (Kt Wa Wa) Z Z (.inr Z) (J7 Z Z (Qi2 Wa) (Qb Z (kc1 C Z (Qv (QR Z ?_))))))))))))))))
 grind [Qkw]
theorem Nu (hw:WSm w) {x:Zj} (hx:Sm x.s.1/\Sm x.s.2):Ok Tryz.prog 148 [Q9 w,.agg (F5 x)] (.int .i64 (Qi8 w x)):=by
 refine Ok.n7 tfol Tryz.func148 Qyq (QEi Z) ?_;show TW _ _ tf148.body _ _;refine Qd λK C=>Zu Z Z Z (Zu Z Z Z (Qb Z (kc2 C Z Z (Qw (Qd λK C=>Qe Z Z (Qr Z Z Z (ZK Z Z (Qb Z (Qq (g:=11) Z (λU=>?_) (λU=>?_))))))))));rw[U];simp only[qA]at U;refine gn4 Z Z Z Z (gn2 Z Z (Qh Z Z (kc3 C Z Z Z (Zb Z (Qd λK C=>Qb Z (kc1 C Z (Qv (Qi (QR Z ?_)))))))))
 grind [Dp]
 rw[U];simp only[qA]at U;refine Qc Z (Qe Z Z (Qc Z (Qr Z Z Z (Qc Z (Qe Z Z (Qc Z (Qr Z Z Z (Qc Z (QW Z Z (Qc Z (Gw Z Z (Qh Z Z (kc3 C Z Z Z (Qs Z (λT=>?_) (λT=>?_)))))))))))))));rw[T];simp only[qA]at T;refine Qd λK C=>Qb Z (kc1 C Z (Qv (Qi (QR Z ?_))))
 grind [Dp]
 rw[T];simp only[qA]at T;refine Qp (ks2 Z Z (Qd λK C=>Qb Z (kc3 C Z Z Z (Qd λK C=>Qe Z Z (Qr Z Z Z (Qe Z Z (Qr Z Z Z (Qt Z Z Z Wa (Q5 Wa Wa) Z (Q7 Z Z (Qr Z Z Z (Qb Z (kc3 C Z Z Z (Qw (Qd λK C=>Qb Z (kc4 C Z Z Z Z (Qu (Q8 (ι:=Nat) (λi=>⟨[(3,.ref 3 0 0),(5,.int .i64 (HX x.s (w[x.u.toNat]'Wa).cs i)),(6,G0 (w[x.u.toNat]'Wa).cs),(7,.int .i64 i)],[(3,⟨[[.int .i64 (x).u,ZB (x).s.1,ZB (x).s.2]],3,82,true⟩)]⟩) (λi=>i<=(min (w[x.u.toNat]'Wa).cs.length 16)) (λi=>(min (w[x.u.toNat]'Wa).cs.length 16) - i) 0 ?_ ?_ ?_)))))))))))))))));exact QM (l:=[3,5,6,7]) (lH:=[3]) (kp4 Z Z Z Z) (Qa Z Qf) Z Z Z;omega;intro i V;refine Qw (Qd λK C=>mv2 Z Z (QW Z Z (ZK Z Z (Qb Z (Qq (g:=30) Z (λO=>?_) (λO=>?_))))));rw[O];simp only[qA]at O;refine Qc Z (Qb Z (Qc Z (ZK Z Z (Qh Z Z (kc5 C Z Z Z Z Z (Qs Z (λM=>?_) (λM=>?_)))))));rw[M];simp only[qA]at M;refine Qp (ks4 Z Z Z Z (Qw (Qu (Qd λK C=>Qe Z Z (QY (ds0:=[0]) (cs:=[_,_]) Z Z Z Z Z Z (mv2 Z Z (Qt Z Z Z Wa (QH Wa) Z (Q7 Z Z (QY (ds0:=[0]) (cs:=[_,_,_,_,_]) Z Z Z Z Z Z (Zi (ds0:=[]) (KX hx.1 hx.2 (hw.vs _ (QEn _) _ (QEn Wa)).1 (hw.vs _ (QEn _) _ (QEn Wa)).2) Z Z (.inr Z) Z Z (kc5 C Z Z Z Z Z (Qs Z (λG=>?_) (λG=>?_)))))))))))));rw[G];simp only[qA]at G;refine QJ λK C=>mv2 Z Z (Q2 Z Z Wb (QA (Kt Wa Wa) Z Z (.inr Z) (Q2 Z Z (Qlz _ _ Wa) (Qb Z (C _ (Qk (ks4 Z Z Z Z (QJ λK C=>Qb Z (Q2 Z Z Wb (Qb Z (C _ (Qj (i+1) ?_ ?_ ?_))))))))))));exact QM (l:=[3,5,6,7]) (lH:=[3]) (kp4 Z Z Z Z) (Qa Z Qf) (by rw[BG Wa Wf];rfl) Z Z
 omega;omega;rw[G];simp only[qA]at G;refine Qp (Qk (ks4 Z Z Z Z (QJ λK C=>Qb Z (Q2 Z Z Wb (Qb Z (C _ (Qj (i+1) ?_ ?_ ?_)))))));exact QM (l:=[3,5,6,7]) (lH:=[3]) (kp4 Z Z Z Z) (Qa Z Qf) (by rw[Qc0 Wa Wf];rfl) Z Z
 omega;omega;rw[M];simp only[qA]at M;refine Q3 (QF (Qx (QD (ks1 Z (Qd λK C=>mv2 Z Z (kc1 C Z (Qv (QR Z ?_))))))))
 grind [Do]
 rw[O];simp only[qA]at O;refine gn2 Z Z (Qh Z Z (kc5 C Z Z Z Z Z (Zq Z (Q3 (QF (Qx (QD (ks1 Z (Qd λK C=>mv2 Z Z (kc1 C Z (Qv (QR Z ?_))))))))))))
 grind [Do]
end Go.Proofs
namespace M25
open Go Go.Abs M3
theorem QeN {v:Int} (h:v<=60):IntKind.i64.wrap ((2:Int)*2 ^ min v.toNat IntKind.i64.bits)=2*2 ^ v.toNat:=by
 grind [Qi3,Int.toNat_natCast]
def dMW (w:Ql) (x:Zj):List D:=[.int .i64 x.u,.int .i64 (Qi8 w x)]
def Qi6 (w:Ql) (l:List Zj):D:=.sl (l.map (dMW w))
def QwT (w:Ql) (c:CandT):D:=.sl (c.ns.map λr=>[Qi6 w r])
def Qrt (w:Ql) (u:XU):D:=.sl (u.cs.map λc=>[QwT w c])
def Qrs (w:Ql) (u:XU):D:=.sl (u.cs.map λc=>[Qi6 w c.bs])
def flN (w:Ql) (n:Nat):List Int:=(List.range n).map λu=>TE w ((u:Nat):Int)
theorem Qn5 (w:Ql) (n:Nat):(flN w n).length=n:=by simp[flN]
theorem QsL (w:Ql) (n:Nat):flN w (n+1)=flN w n++[TE w ((n:Nat):Int)]:=by simp[flN,QFX]
def T1 (w:Ql):List D:=[Q0 (flN w w.length),.sl (w.map λu=>[Qrt w u]),.sl (w.map λu=>[Qrs w u])]
theorem Qfe {fr:QEg} {H:QEf} {V U T O M G:Nat} {b1 b2 C:x4} (h1:lk H V=some b1) (p1:b1.pr=true) (l1:O=b1.rows.length) (h2:lk H U=some b2) (p2:b2.pr=true) (l2:M=b2.rows.length) (h3:lk H T=some C) (Y:C.pr=true) (l3:G=C.rows.length):
  XX ⟨fr,H⟩ (.agg [.u4 V O,.u4 U M,.u4 T G])=.agg [.sl b1.rows,.sl b2.rows,.sl C.rows]:=by
 grind [XX,D.fz,D.x7,Jt,D.can,D.x6]
variable {c:List Int} {w:Ql}
theorem QnZ (h:0<c.length) (C:c[0]<0):Jd w c=false:=by
 grind [cA,Jd]
theorem Qf7 (h:0<c.length) (C:¬c[0]<0):Jd w c=(List.range w.length).all (Bb w c):=by
 grind [cA,Jd]
theorem JU {α:Type} {l:List α} {p:α->Bool} {k:Nat} (h:k<l.length) (hp:p l[k]=false):l.all p=false:=by
 grind
variable {bs:List Zj} {i u:Nat} {ns:List (List Zj)}
def Kg (w:Ql) (c:List Int) (u:Nat) (ns:List (List Zj)):Nat->List Qas
 |0=>[]
 |i+1=>Kg w c u ns i++match ns[i]? with
  |some r=>if YO w c r=true then[]else[⟨2,u,i⟩]
  |none=>[]
def Ts (w:Ql) (c:List Int) (u:Nat) (bs:List Zj):Nat->List Qas
 |0=>[]
 |i+1=>Ts w c u bs i++match bs[i]? with
  |some x=>if mtM w c x=true then[⟨3,u,i⟩]else[]
  |none=>[]
theorem Mm (h:i<ns.length) (hk:YO w c ns[i]=true):Kg w c u ns (i+1)=Kg w c u ns i:=by
 rw[Kg,QE8 h];grind
theorem Mn (h:i<ns.length) (hk:YO w c ns[i]=false):Kg w c u ns (i+1)=Kg w c u ns i++[⟨2,u,i⟩]:=by
 rw[Kg,QE8 h];grind
theorem RS (h:i<bs.length) (hk:mtM w c bs[i]=true):Ts w c u bs (i+1)=Ts w c u bs i++[⟨3,u,i⟩]:=by
 rw[Ts,QE8 h];grind
theorem RT (h:i<bs.length) (hk:mtM w c bs[i]=false):Ts w c u bs (i+1)=Ts w c u bs i:=by
 rw[Ts,QE8 h];grind
def Qjb (w:Ql) (c:List Int) (u:Nat) (x:CandT):List Qas:=Kg w c u x.ns x.ns.length++Ts w c u x.bs x.bs.length
def Qmt (w:Ql) (c:List Int) (u:Nat):List Qas:=match w[u]? with
 |some x=>match x.cs[(cA c u).toNat]? with
  |some y=>Qjb w c u y
  |none=>[]
 |none=>[]
theorem SX (hu:u<w.length) (C:u<c.length) (hp:c[u].toNat<w[u].cs.length):Qmt w c u=Qjb w c u w[u].cs[c[u].toNat]:=by
 grind [Qmt,Ym]
def ZR (w:Ql) (c:List Int):Nat->List Qas
 |0=>if cA c 0<0 then[⟨1,0,0⟩]else[]
 |i+1=>ZR w c i++if 0<=cA c i then Qmt w c i else[]
def PR (w:Ql) (c:List Int):List Qas:=ZR w c c.length
def QfQ (f:Qas):List D:=[.int .i64 f.k,.int .i64 f.u,.int .i64 f.a]
def Qd5 (l:List Qas):D:=.sl (l.map QfQ)
theorem HY (w:Ql) (c:List Int) (u:Nat) (ns:List (List Zj)):∀i,(Kg w c u ns i).length<=i
 |0=>QEI _
 |i+1=>by
  have:=HY w c u ns i
  grind [Kg]
theorem P2 (w:Ql) (c:List Int) (u:Nat) (bs:List Zj):∀i,(Ts w c u bs i).length<=i
 |0=>QEI _
 |i+1=>by
  have:=P2 w c u bs i
  grind [Ts]
theorem ML (h:i<c.length) (C:0<=c[i]):ZR w c (i+1)=ZR w c i++Qmt w c i:=by rw[ZR,Ym h,if_pos C]
theorem MM (h:i<c.length) (C:¬0<=c[i]):ZR w c (i+1)=ZR w c i:=by rw[ZR,Ym h,if_neg C,QEN]
theorem Cq (h:0<c.length) (C:c[0]<0):ZR w c 0=[⟨1,0,0⟩]:=by simp_all [ZR,cA]
theorem Ry (h:0<c.length) (C:¬c[0]<0):ZR w c 0=[]:=by simp_all [ZR,cA]
theorem QkI (w:Ql) (c:List Int) (u:Nat) (x:CandT):(Qjb w c u x).length<=x.ns.length+x.bs.length:=by
 grind [Qjb,HY,P2]
theorem DD (hw:WSm w) (c:List Int) (u:Nat):(Qmt w c u).length<=2000:=by
 unfold Qmt;split;rename_i x e;split;rename_i y e2;have:=QkI w c u y;have:=hw.ns _ (QEK e) _ (QEK e2);omega;simp;simp
theorem Gv {w:Ql} (hw:WSm w) (c:List Int):∀i,(ZR w c i).length<=1+2000*i
 |0=>by
  rw[ZR];grind
 |i+1=>by
  have C:=Gv hw c i
  grind [DD,ZR]
noncomputable def wrongR (w:Ql) (c:List Int):List Qas:=if mayC w c=true then PR w c else[]
theorem Kj {w:Ql} {c:List Int} (h:mayC w c=true):wrongR w c=PR w c:=if_pos h
noncomputable def holdsR (w:Ql) (c:List Int):Bool:=mayC w c&&decide ((wrongR w c).length=0)
theorem Qj7 (h:¬uc w c):Qf8 w c=false:=@decide_eq_false _ (Classical.propDecidable _) h
theorem QsN {i:Nat} (O:i<c.length) (hi:i<w.length) (h:∀j (h:j<c.length) (G:j<w.length),j<i->-1<=c[j]/\c[j]<w[j].cs.length) (h0: -1<=c[i]) (T:c[i]<w[i].cs.length):
  ∀j (h:j<c.length) (G:j<w.length),j<i+1->-1<=c[j]/\c[j]<w[j].cs.length:=λj M C hk=>by
 grind
theorem Du (h:¬uc w c):mayC w c=false:=by rw[mayC,Qj7 h,QFP]
theorem Cp {w:Ql} {c:List Int} (h:mayC w c=false):wrongR w c=[]:=if_neg Wc
end M25
namespace Go.Proofs
open Go Go.Abs M3 M25
theorem XL {w:Ql} (hw:Xc w) {c:List Int} (hc:c.length<=1048576):Ok Tryz.prog 53 [Q9 w,Q0 c] (.bool (mayC w c)):=by
 refine Ok.n7 tfol Tryz.func53 QDO (QEi Z) ?_;show TW _ _ tf53.body _ _;have hwl:=hw.len;refine Qd λK C=>Zu Z Z Z (Qb Z (kc2 C Z Z (Qw (Qd λK C=>Qb Z (QW Z QE (Qe Z Z (Qr Z Z Z (QW Z QE (Ys Z Z (Qb Z (Qq (g:=12) Z (λU=>?_) (λU=>?_))))))))))));rw[U];simp only[qA]at U;refine gn3 Z Z Z (Qh Z Z (kc3 C Z Z Z (Zb Z (Qd λK C=>Qb Z (kc1 C Z (Qv (Qi (Qg Z ?_))))))));exact(Du λh=>by have:=h.len;omega).symm
 rw[U];simp only[qA]at U;refine Qc Z (QB (cs:=[_]) Z Z Z Z (Qc Z (QA (YS hw) Z Z (.inr Z) (Qc Z (Zp Z (Qh Z Z (kc3 C Z Z Z (Qs Z (λG=>?_) (λG=>?_)))))))));rw[G];simp only[qA]at G;refine Qd λK C=>Qb Z (kc1 C Z (Qv (Qi (Qg Z ?_))))
 (grind [mayC])
 rw[G];simp only[qA]at G;refine Qp (ks2 Z Z (Qw (Qd λK C=>Qb Z (kc3 C Z Z Z (Qu (Q8 (ι:=Nat) (λi=>⟨[(1,Q0 c),(2,.ref 2 0 0),(5,.int .i64 i)],[(2,⟨[[.sl ((w).map Zv)]],1,25,true⟩)]⟩) (λi=>i<=c.length/\∀j (h:j<c.length) (G:j<w.length),j<i->-1<=c[j]/\c[j]<w[j].cs.length) (λi=>c.length - i) 0 ?_ ?_ ?_))))));exact QM (l:=[1,2,5]) (lH:=[2]) (kp3 Z Z Z) (Qa Z Qf) Z Z Z;simp;intro i Y;refine Qw (Qd λK C=>mv2 Z Z (QW Z QE (ZK Z Z (kc4 C Z Z Z Z (Qs Z (λT=>?_) (λT=>?_))))));rw[T];simp only[qA]at T;refine Qp (ks3 Z Z Z (Qw (Qu (Qd λK C=>mv2 Z Z (Qt Z Z Z Wa (QH Wa) Z (QG (ds0:=dn 15) Z Z Z Z Z (ZK Z Z (Qb Z (Qq (g:=28) Z (λO=>?_) (λO=>?_))))))))));rw[O];simp only[qA]at O;refine gn4 Z Z Z Z (gn4 Z Z Z Z (gn4 Z Z Z Z (Qh Z Z (kc4 C Z Z Z Z (Zb Z (Qd λK C=>Qb Z (kc1 C Z (Qv (Qm (Qi (QQ (Qm (Qi (Qg Z ?_))))))))))))));exact(Du λh=>by have:=h.bd i Wa Wa;omega).symm
 rw[O];simp only[qA]at O;refine Qc Z (Qb Z (Qc Z (Qb Z (Qc Z (Qt Z Z Z Wa (QH Wa) Z (Qc Z (QG (ds0:=[1,0]) Z Z Z Z Z (Qc Z (Qe Z Z (Qc Z (QG (ds0:=dn 6) Z Z Z Z Z (Qc Z (Qb Z (Qc Z (Qt Z Z Z Wa (QH Wa) Z (Qc Z (Q7 Z Z (Qc Z (QG (ds0:=[2,1,0]) Z Z Z Z Z (Qc Z (QW Z QE (Qc Z (Gw Z Z (Qh Z Z (kc4 C Z Z Z Z (Qs Z (λM=>?_) (λM=>?_)))))))))))))))))))))))))));rw[M];simp only[qA]at M;refine Qd λK C=>Qb Z (kc1 C Z (Qv (Qm (Qi (QQ (Qm (Qi (Qg Z ?_))))))));exact(Du λh=>by have:=h.bd i Wa Wa;omega).symm
 rw[M];simp only[qA]at M;refine Qp (Qk (ks3 Z Z Z (QJ λK C=>Qb Z (Q2 Z Z Wb (Qb Z (C _ (Qj (i+1) ?_ ?_ ?_)))))));exact QM (l:=[1,2,5]) (lH:=[2]) (kp3 Z Z Z) (Qa Z Qf) Z Z Z;exact⟨Wa,QsN Wa Wa Y.2 Wa Wa⟩;omega;rw[T];simp only[qA]at T;refine Q3 (QF (Qx (QD (QK (QL) (Qd λK C=>Qb Z (kc1 C Z (Qv (Qg Z ?_))))))));exact(GB (Qg4 Wa) ⟨Wa,λj hj V=>Y.2 j V hj Wa⟩).symm
theorem XM {w:Ql} (hw:WSm w) {c:List Int} (G:z6 w c) {x:Zj} (hx:0<=x.u/\x.u<w.length) (T:Sm x.s.1/\Sm x.s.2):Ok Tryz.prog 59 [Q9 w,Q0 c,.agg (F5 x)] (.bool (mtM w c x)):=by
 refine Ok.n7 tfol Tryz.func59 QDT (QEi Z) ?_;show TW _ _ tf59.body _ _;have V:=G.len;have M:x.u.toNat<c.length:=Wa;have hb:=HK G M;refine Qd λK O=>Zu Z Z Z (Zu Z Z Z (Qb Z (kc3 O Z Z Z (Qd λK O=>Qb Z (Qe Z Z (QG (ds0:=dn 24) Z Z Z Z Z (Qt Z Z Z Wa (Q5 Wa Wa) Z (QG (ds0:=dn 22) Z Z Z Z Z (Gw Z Z (Qb Z (Qq (g:=13) Z (λC=>?_) (λC=>?_))))))))))));rw[C];simp only[qA]at C;have U:=Na hb.2 C;refine Qc Z (Qe Z Z (Qc Z (QY (ds0:=[2,1,0]) (cs:=[_,_]) Z Z Z Z Z Z (Qc Z (Qe Z Z (Qc Z (QG (ds0:=[13,12,11,5,4,3,2,1,0]) Z Z Z Z Z (Qc Z (Qe Z Z (Qc Z (QG (ds0:=[13,12,11,5,4,3,2,1,0]) Z Z Z Z Z (Qc Z (Qt Z Z Z Wa (Q5 Wa Wa) Z (Qc Z (Q7 Z Z (Qc Z (QG (ds0:=dn 6) Z Z Z Z Z (Qc Z (Qb Z (Qc Z (Qe Z Z (Qc Z (QG (ds0:=dn 8) Z Z Z Z Z (Qc Z (Qt Z Z Z Wa (Q5 Wa Wa) Z (Qc Z (QG (ds0:=dn 6) Z Z Z Z Z (Qc Z (Qt Z Z Z Wa (Q5 Wa Wa) Z (Qc Z (Q7 Z Z (Qc Z (QY (ds0:=[2,1,0]) (cs:=[_,_,_,_,_]) Z Z Z Z Z Z (Qc Z (Zi (ds0:=[1,0]) (KX (s:=x.s) T.1 T.2 (hw.vs _ (QEn (Wa:x.u.toNat<w.length)) _ (QEn U)).1 (hw.vs _ (QEn (Wa:x.u.toNat<w.length)) _ (QEn U)).2) Z Z (.inr Z) Z Z (Qh Z Z (Qb Z (kc1 O Z (Qv (Qg Z ?_))))))))))))))))))))))))))))))))))))))))
 (rw[Qg9 hw G hx.1 hx.2 M C (Na hb.2 C)];rfl)
 rw[C];simp only[qA]at C;refine gn4 Z Z Z Z (gn4 Z Z Z Z (gn4 Z Z Z Z (gn4 Z Z Z Z (gn2 Z Z (Qh Z Z (Qb Z (kc1 O Z (Qv (Qg Z ?_)))))))))
 grind [Qha]
end Go.Proofs
namespace M25
open Go Go.Abs M3
noncomputable def neededR (w:Ql) (c:List Int):List Bool:=if mayC w c=true then nddL w c else[]
variable {c:List Int} {w:Ql}
theorem Qmr (o:List Bool):Lj o<=o.length:=List.countP_le_length
theorem a9.set {w:Ql} {c:List Int} {o:List Bool} {r:List Zj} {j i:Nat} (hi:i<o.length) (h:a9 w c o r j):a9 w c (o.set i true) r j:=λG M C hm=>by
 rw[Yd hi,h G M C hm,QFA]
theorem gb.none (h0:¬0<=cA c 0):gb w c (List.replicate c.length false) [] λ_=>False:=
 ⟨⟨by simp,λi hi=>(by grind [NB]),λh=>absurd h h0⟩,λv C=>Wc,λi hi=>(by grind [NB]),by grind [Qmr]⟩
theorem gb.first (M:0<c.length) (h0:0<=cA c 0):gb w c ((List.replicate c.length false).set 0 true) [0] λ_=>False:=by
 have C:0<(List.replicate c.length false).length:=by grind
 refine⟨⟨by simp,λi hi=>?_,λ_=>by grind [Yd]⟩,λv G=>?_,λi hi=>.inl ?_, ?_⟩;rw[Yd C,NB,Bool.or_false,decide_eq_true_eq]at hi;subst hi;exact .root h0
 grind [Yd]
 (repeat clear hK K);simp_all [Yd,NB]
 have T:=Pk C Wd;have O:=Qmr (List.replicate c.length false)
 grind
variable {q:List Int} {k m u:Nat} {ns:List (List Zj)} {o:List Bool} {s:QS}
def muQ (s:QS):Nat:=2*Lj s.1+s.2.1.length+(if s.2.2.2=true then 1 else 0)
def tkQ (o:List Bool) (q:List Int):QS:=(o,q.tail,q.headD 0,!q.isEmpty)
theorem gb.take (h:gb w c o q λ_=>False):QI w c (tkQ o q):=by
 cases q with
 |nil=>exact⟨λe=>(by cases e),λ_=>h⟩
 |cons v q=>
  refine⟨λ_=>⟨⟨h.nd,λx hx=>h.wg x (QFr _ hx),λi hi=>?_,(by have:=h.bd;simp only[QEZ]at this;show 2*Lj o+q.length<=2*o.length;omega)⟩,(h.wg v Wd).1,(h.wg v Wd).2⟩,λe=>(by cases e)⟩
  rcases h.cl i hi with C |C |C;rcases QEk.1 C with C |C;refine .inr (.inl ?_);show i=v.toNat
  omega;exact .inl C
  grind
  exact .inr (.inr C)
theorem QoG (h:2*Lj o+q.length<=m):muQ (tkQ o q)<=m:=by
 cases q with
 |nil=>trivial
 |cons v q=>trivial
theorem fe.len {w:Ql} {c:List Int} {u m:Nat} {ns:List (List Zj)} {k:Nat} {o:List Bool} {q:List Int} (h:fe w c u m ns k o q):o.length=c.length:=h.inv.nd.len
theorem fe.start (h:QI w c s) (hb:s.2.2.2=true) (ns:List (List Zj)):fe w c s.2.2.1.toNat (2*Lj s.1+s.2.1.length) ns 0 s.1 s.2.1:=
 ⟨(h.on hb).1,(h.on hb).2.2,QEI _,λ_ _ h=>absurd h (QFY _)⟩
theorem fe.next (h:fe w c u m ns k o q) (hk:k<ns.length) {j:Nat} (hr:a9 w c o ns[k] j) (T:ns[k].length<=j):fe w c u m ns (k+1) o q:=
 ⟨h.inv,h.on,h.mu,λk' O M x hx hm=>by
  by_cases e:k'=k
  subst e;obtain⟨G,C,rfl⟩:=QFR.1 hx;exact hr G C Wa hm;exact h.rows k' O Wa x hx hm⟩
theorem fe.put {w:Ql} {c:List Int} {u m:Nat} {ns:List (List Zj)} {k:Nat} {o:List Bool} {q:List Int} (h:fe w c u m ns k o q) (hk:k<ns.length) {x:Zj} (hx:x∈ns[k]) (M:XE w c u=ns) (hm:mtM w c x=true) (h0:0<=x.u) (h1:x.u<c.length) (V:onB o x.u.toNat=false):
  fe w c u m ns k (o.set x.u.toNat true) (q++[x.u]):=by
 have hi:x.u.toNat<o.length:=by rw[h.len];omega
 have hN:Ndd w c x.u.toNat:=.step (h.inv.nd.snd _ h.on) (M ▸ QEn hk) hx hm;have G:=Pk hi (by grind [Nj]);refine⟨⟨h.inv.nd.put hi hN,λv C=>?_,λi Y=>?_,by have:=h.inv.bd;grind⟩,by rw[Yd hi,h.on,QFA], ?_,λk' h' T y hy O=>by rw[Yd hi,h.rows k' h' T y hy O,QFA]⟩
 rcases QEt.1 C with C |C;obtain⟨a,b⟩:=h.inv.wg v C
 (repeat clear hK K);simp_all [Yd]
 grind [Yd]
 rw[Yd hi,QFu,decide_eq_true_eq]at Y
 by_cases e:x.u.toNat=i
 grind
 rcases h.inv.cl i (Y.resolve_left e)with U |U |U
 grind
 omega;exact .inr (.inr (U.mono hi));have:=Pk hi (by grind [Nj]);have h4:=h.mu
 grind
theorem fe.stop (h:fe w c u m ns k o q) (hk:ns.length<=k) (C:XE w c u=ns):gb w c o q λ_=>False:=
 ⟨h.inv.nd,h.inv.wg,λi hi=>by
  rcases h.inv.cl i hi with M |M |M
  grind
  have e:i=u:=M;subst e;refine .inr (.inr λr hr x hx hm=>?_);rw[C]at hr;obtain⟨k',G,rfl⟩:=QFR.1 hr;exact h.rows k' G Wa x hx hm
  grind,h.inv.bd⟩
theorem QI.stop (h:QI w c s) (hb:s.2.2.2=false):s.1=nddL w c:=
 (h.off hb).nd.done λi hi=>by
  rcases(h.off hb).cl i hi with C |C |C
  grind
  grind
  omega
variable {a i j:Nat} {o0:List Bool}
theorem SI.len {w:Ql} {c:List Int} {o0 o:List Bool} {i:Nat} (h:SI w c o0 i o):o.length=c.length:=h.nd.len
theorem SR.len {w:Ql} {c:List Int} {o0 o:List Bool} {i a:Nat} {ns:List (List Zj)} (h:SR w c o0 i ns a o):o.length=c.length:=h.si.nd.len
theorem SK.len {w:Ql} {c:List Int} {k:Nat} {o:List Bool} (h:SK w c k o):o.length=c.length:=h.nd.len
theorem SK.ah (h:SK w c k o):SI w c o 0 o:=⟨h.nd,λ_ h=>h,.inl rfl,λ_ h=>absurd h (QFY _)⟩
theorem DZ {b:Bool} (h:k<o.length) (e:o[k]=b):o.set k b=o:=by
 apply QFS;simp
 grind
theorem SI.put {w:Ql} {c:List Int} {o0 o:List Bool} {i k:Nat} (h:SI w c o0 i o) (hk:k<o.length) (he:o[k]=false) (M:Ndd w c k):SI w c o0 i (o.set k true):=by
 have T:=Pk hk he;refine⟨h.nd.put hk M,λj G=>by rw[Yd hk,h.mono j G,QFA],.inr ?_,λj G C=>(h.prev j G C).mono hk⟩;rcases h.lh with rfl |O
 omega;omega
theorem mb.set {w:Ql} {c:List Int} {o:List Bool} {ns:List (List Zj)} {a k:Nat} (hk:k<o.length) (h:mb w c o ns a):mb w c (o.set k true) ns a:=λk' G C x hx hm=>by
 rw[Yd hk,h k' G C x hx hm,QFA]
theorem SR.fi (h:SR w c o0 i ns a o) {r:List Zj} (hr:a9 w c o r j) (C:j<r.length) (hx:onB o r[j].u.toNat=true):SR w c o0 i ns a o/\a9 w c o r (j+1):=
 ⟨h,hr.next C λ_=>hx⟩
theorem SR.th (h:SR w c o0 i ns a o) (ha:a<ns.length) (C:XE w c i=ns) (hr:a9 w c o ns[a] j) (G:j<ns[a].length) (hk:ns[a][j].u.toNat<o.length) (hx:o[ns[a][j].u.toNat]=false):
  SR w c o0 i ns a (o.set ns[a][j].u.toNat (mtM w c ns[a][j]))/\a9 w c (o.set ns[a][j].u.toNat (mtM w c ns[a][j])) ns[a] (j+1):=by
 cases hm:mtM w c ns[a][j]with
 |false=>rw[DZ hk hx];exact⟨h,hr.next G λh=>by grind⟩
 |true=>
  have M:Ndd w c ns[a][j].u.toNat:=.step (h.si.nd.snd _ h.on) (C ▸ QEn ha) (QEn G) hm;exact⟨⟨h.si.put hk hx M,by rw[Yd hk,h.on,QFA],h.rows.set hk⟩,(hr.set hk).next G λ_=>by grind [Yd]⟩
theorem SR.next (h:SR w c o0 i ns a o) (ha:a<ns.length) (hr:a9 w c o ns[a] j) (T:ns[a].length<=j):SR w c o0 i ns (a+1) o:=
 ⟨h.si,h.on,λk' O M x hx hm=>by
  by_cases e:k'=a
  subst e;obtain⟨G,C,rfl⟩:=QFR.1 hx;exact hr G C Wa hm;exact h.rows k' O Wa x hx hm⟩
theorem SR.stop (h:SR w c o0 i ns a o) (ha:ns.length<=a) (C:XE w c i=ns):SI w c o0 (i+1) o:=
 ⟨h.si.nd,h.si.mono,h.si.lh,λj O M=>by
  by_cases e:j=i
  subst e;intro r hr x hx hm;rw[C]at hr;obtain⟨k',G,rfl⟩:=QFR.1 hr;exact h.rows k' G Wa x hx hm;exact h.si.prev j Wa M⟩
theorem SI.skip (h:SI w c o0 i o) (G:onB o i=false):SI w c o0 (i+1) o:=
 ⟨h.nd,h.mono,h.lh,λj M C=>by
  by_cases e:j=i
  subst e;rw[h.mono j C]at G;grind;exact h.prev j Wa C⟩
theorem SI.start (h:SI w c o0 i o) (C:onB o i=true) (ns:List (List Zj)):SR w c o0 i ns 0 o:=⟨h,C,λ_ _ h=>absurd h (QFY _)⟩
theorem SI.done {w:Ql} {c:List Int} {o0 o:List Bool} {i k:Nat} (h:SI w c o0 i o) (hi:c.length<=i) (hk:SK w c k o0):SK w c (k+1) o:=by
 refine⟨h.nd, ?_⟩;have C:∀j,onB o0 j=true->kd w c o j:=λj G=>h.prev j (by have:=BO G;have:=hk.len;omega) G
 rcases h.lh with rfl |U;exact .inl C;rcases hk.cl with O |O
 ·have e:=hk.nd.done O;refine .inl λj G=>C j ?_;have T:=h.nd.snd j G;have M:=BO G;rw[h.len]at M;rw[Nj (by rw[hk.len];omega)]
  grind [nddL,Dy]
 have:=h.len;have:=hk.len;omega
theorem SK.vh (h:SK w c k o) (hk:c.length<=k):o=nddL w c:=by
 rcases h.cl with C |C
 ·exact h.nd.done C
 have:=h.len;omega
theorem SK.first {w:Ql} {c:List Int} (C:0<c.length):SK w c 0 ((List.replicate c.length false).set 0 (decide (0<=cA c 0))):=by
 by_cases h0:0<=cA c 0
 rw[decide_eq_true h0];have h:=gb.first (w:=w) C h0
 refine⟨h.nd,.inr ?_⟩;have:=h.bd
 grind
 rw[decide_eq_false h0,DZ Wc Wd];have h:=gb.none (w:=w) h0;exact⟨h.nd,.inl λi hi=>by grind [NB]⟩
noncomputable def tdAt (w:Ql) (c:List Int) (i:Nat):Int:=if nddB w c i=true then cA c i else -1
theorem Ro (w:Ql) (c:List Int):(nddL w c).length=c.length:=by simp[nddL]
theorem BL (h:mayC w c=true):neededR w c=nddL w c:=if_pos h
theorem BK (h:mayC w c=false):neededR w c=[]:=if_neg Wc
theorem FF (w:Ql) (c:List Int):(neededR w c).length<=c.length:=by
 unfold neededR;split;rw[Ro];omega;simp
theorem Qiq (hi:i<c.length):(tidyM w c).take (i+1)=(tidyM w c).take i++[tdAt w c i]:=by
 grind [List.take_add_one,tidyM,tdAt]
theorem Tm (w:Ql) (c:List Int):(tidyR w c).length=(neededR w c).length:=by
 grind [tidyR,neededR,Jc,Ro]
theorem Qem (h:i<(neededR w c).length):mayC w c=true:=by
 cases e:mayC w c with
 |true=>rfl
 |false=>rw[BK e]at h;grind
theorem XR (h:i<(neededR w c).length):(tidyR w c).take (i+1)=(tidyR w c).take i++[tdAt w c i]:=by
 grind [Qem,FF,Fr,Qiq]
theorem Mo (h:i<(neededR w c).length):(neededR w c)[i]=nddB w c i:=by
 grind [neededR,SQ]
noncomputable def tidyUp (w:Ql) (c:List Int) (i:Nat):List Int:=(tidyM w c).take i++List.replicate (c.length - i) 0
theorem Lw (hi:i<c.length):(tidyUp w c i).set i (tdAt w c i)=tidyUp w c (i+1):=by
 apply QFS
 grind [tidyUp,Jc]
 intro n G C;simp only[tidyUp,QFU,QEY,QEO,Jc,List.length_replicate]at G C;rw[QFZ]
 grind [tidyUp,tidyM,tdAt]
theorem QeJ (hi:c.length<=i):tidyUp w c i=tidyM w c:=by
 (repeat clear hK K);simp_all [tidyUp,QEy,Jc]
theorem FP (hi:i<=c.length):(tidyUp w c i).length=c.length:=by grind [tidyUp,Jc]
theorem Qq0 (h:mayC w c=false):tidyR w c=[]:=if_neg Wc
end M25
namespace Go.Proofs
open Go Go.Abs M3 M25
variable {b:Bool} {k:Nat} {o:List Bool}
theorem QbA:(o.map rB).set k [.bool b]=(o.set k b).map rB:=QFQ.symm
theorem Qpt (h:k<o.length) (e:o[k]=b):(o.map rB).set k [.bool b]=o.map rB:=by rw[QbA,DZ h e]
theorem Qhx {a:Nat × x4} {r C:List (List D)} {X:QEf} (h:r=C):a::(18,⟨r,1,4,true⟩)::X=a::(18,⟨C,1,4,true⟩)::X:=by rw[h]
theorem Qj3 {c:List Int} (C:0<c.length):((List.replicate c.length false).map rB).set 0 [.bool (decide (0<=c[0]))]=((List.replicate c.length false).set 0 (decide (0<=cA c 0))).map rB:=by grind [QbA,cA]
theorem Jf {w:Ql} (hw:Xc w) {c:List Int} (hc:c.length<=1048576):Ok Tryz.prog 29 [Q9 w,Q0 c] (R9 (neededR w c)):=by
 refine Ok.n7 tfol Tryz.func29 QDB (QEi Z) ?_;show TW _ _ tf29.body _ _;refine Qd λK C=>Zu Z Z Z (Qb Z (kc2 C Z Z (Qw (Qd λK C=>QB (cs:=[_]) Z Z Z Z (Qb Z (QA (XL hw hc) Z Z (.inr Z) (Zp Z (kc3 C Z Z Z (Qs Z (λh1=>?_) (λh1=>?_))))))))));rw[h1];simp only[qA]at h1;refine Qd λK C=>Qb Z (kc1 C Z (Qv (Qi (ZU Z ?_))));rw[BK Wa];rfl;rw[h1];simp only[qA]at h1;obtain⟨hmw,hfw⟩:=Fh (w:=w) (c:=c) Wa;have hv:=hmw.val hw;have hs:=hv.ud;have hr:=hv.se;have V:=hfw.ch;have hcl:=V.len;have hvl:=hv.len;refine Qp (ks2 Z Z (Qd λK C=>Qb Z (QW Z QE (RF Z Z Z Wa Wa Wa (Qb Z (kc3 C Z Z Z (Qd λK C=>mv2 Z Z (Qt Z Z Z Wa (Q5 Wa Wa) Z (Qr Z Z Z (Gw Z Z (ZE Z Z Z Wd Wa Wa Z (Za Z Z (QhP Wa Wa) Z Z Z Z Z (kc3 C Z Z Z (Qw (Qd λK C=>Qb Z (kc4 C Z Z Z Z (Qu (Q8 (ι:=Nat × List Bool) (λk=>⟨[(1,Q0 c),(2,.ref 2 0 0),(5,.u4 18 (k.2).length),(6,.int .i64 k.1)],[(2,⟨[[.sl ((w).map Zv)]],1,25,true⟩),(18,⟨(k.2).map rB,1,4,true⟩)]⟩) (λk=>k.1<=c.length/\SK w c k.1 k.2) (λk=>c.length - k.1) (0,(List.replicate c.length false).set 0 (decide (0<=cA c 0))) ?_ ?_ ?_))))))))))))))))));exact QM (l:=[1,2,5,6]) (lH:=[2,18]) (kp4 Z Z Z Z) (Qa Z (Qa Z Qf)) Wd (by rw[Qdj];exact Qhx (Qj3 Wa)) Z
 exact⟨QEu _,SK.first Wa⟩;intro k U;have hol0:=U.2.len;refine Qw (Qd λK C=>mv2 Z Z (QW Z QE (ZK Z Z (kc5 C Z Z Z Z Z (Qs Z (λh2=>?_) (λh2=>?_))))));rw[h2];simp only[qA]at h2;refine Qp (ks4 Z Z Z Z (Qw (Qu (Qd λK C=>Qb Z (kc5 C Z Z Z Z Z (Qu (Q8 (ι:=Nat × List Bool) (λi=>⟨[(1,Q0 c),(2,.ref 2 0 0),(5,.u4 18 (i.2).length),(6,.int .i64 k.1),(7,.int .i64 i.1)],[(2,⟨[[.sl ((w).map Zv)]],1,25,true⟩),(18,⟨(i.2).map rB,1,4,true⟩)]⟩) (λi=>i.1<=c.length/\SI w c k.2 i.1 i.2) (λi=>c.length - i.1) (0,k.2) ?_ ?_ ?_)))))));exact QM (l:=[1,2,5,6,7]) (lH:=[2,18]) (kp5 Z Z Z Z Z) (Qa Z (Qa Z Qf)) Z Z Z;exact⟨QEu _,U.2.ah⟩;intro i T;have hol1:=T.2.len;refine Qw (Qd λK C=>mv2 Z Z (QW Z QE (ZK Z Z (kc6 C Z Z Z Z Z Z (Qs Z (λh3=>?_) (λh3=>?_))))));rw[h3];simp only[qA]at h3;refine Qp (ks5 Z Z Z Z Z (Qw (Qu (Qw (Qd λK C=>mv2 Z Z (ZE Z Z Z Wd Wa Wa Z (Qr Z (Xd Z (Q5 Wa Wa)) Z (Zp Z (kc6 C Z Z Z Z Z Z (Qs Z (λh4=>?_) (λh4=>?_)))))))))));rw[h4];simp only[qA]at h4;refine Q3 (QF (QD (ks5 Z Z Z Z Z (QJ λK C=>Qb Z (Q2 Z Z Wb (Qb Z (C _ (Qj (i.1+1,i.2) ?_ ?_ ?_))))))));exact QM (l:=[1,2,5,6,7]) (lH:=[2,18]) (kp5 Z Z Z Z Z) (Qa Z (Qa Z Qf)) Z Z Z;exact⟨Wa,T.2.skip (by grind [Nj])⟩;omega;rw[h4];simp only[qA]at h4;have hon:onB i.2 i.1=true:=(by grind [Nj]);have hN:=T.2.nd.snd _ hon;obtain⟨M,hc0⟩:=Dx hs hr V (Wa:0<c.length) hN;have G:i.1<w.length:=Wa;have hb:=HK V M;have O:=Na hb.2 hc0;have er:=Fp G M O;have hwn:=hs.ns _ (QEn G) _ (QEn O);have hwl:=hs.nl _ (QEn G) _ (QEn O);have Y:=hs.nw _ (QEn G) _ (QEn O);have hrn:=hr.nr _ (QEn G) _ (QEn O);obtain⟨y,hy⟩:∃y,(w[i.1]'G).cs[(c[i.1]'M).toNat]=y:=⟨_,rfl⟩;rw[hy]at er hwn hwl Y hrn;have hst:=T.2.start hon y.ns;refine Qp (ks5 Z Z Z Z Z (Qd λK C=>Qe Z Z (QG (ds0:=[11,10,9,4,3,2,1]) Z Z Z Z Z (Qb Z (Qt Z Z Z Wa (QH Wa) Z (Q7 Z Z (QG (ds0:=[4,3,2,1]) Z Z Z Z Z (mv2 Z Z (Qt Z Z Z Wa (QH Wa) Z (QG (ds0:=[4,3,2,1]) Z Z Z Z Z (Qt Z Z Z Wa (Q5 Wa Wa) Z (Q7 Z Z (QG (ds0:=[1]) Z Z Z Z Z (QW Z QE (Qb Z (kc8 C Z Z Z Z Z Z Z Z (Qu (Q8 (ι:=Nat × List Bool) (λa=>⟨[(1,Q0 c),(2,.ref 2 0 0),(5,.u4 18 (a.2).length),(6,.int .i64 k.1),(7,.int .i64 i.1),(54,Ky y.ns),(55,.int .i64 y.ns.length),(56,.int .i64 a.1)],[(2,⟨[[.sl ((w).map Zv)]],1,25,true⟩),(18,⟨(a.2).map rB,1,4,true⟩)]⟩) (λa=>a.1<=y.ns.length/\SR w c k.2 i.1 y.ns a.1 a.2) (λa=>y.ns.length - a.1) (0,i.2) ?_ ?_ ?_))))))))))))))))));exact QM (l:=[1,2,5,6,7,54,55,56]) (lH:=[2,18]) (kp8 Z Z Z Z Z Z Z Z) (Qa Z (Qa Z Qf)) Wc Z Z
 grind
 intro a hA;have hol2:=hA.2.len;refine Qd λK C=>ZK Z Z (kc9 C Z Z Z Z Z Z Z Z Z (Qw (Qs Z (λh5=>?_) (λh5=>?_))));rw[h5];simp only[qA]at h5;refine Qp (ks8 Z Z Z Z Z Z Z Z (Qw (Qu (Qd λK C=>Qt Z Z Z Wa (QH Wa) Z (Qr Z Z Z (Qb Z (kc9 C Z Z Z Z Z Z Z Z Z (Qd λK C=>Qb Z (QW Z QE (Qb Z (kc C (HA Z Z Z Z Z Z Z Z Z Z Z) (Qu (Q8 (ι:=Nat × List Bool) (λb=>⟨[(1,Q0 c),(2,.ref 2 0 0),(5,.u4 18 (b.2).length),(6,.int .i64 k.1),(7,.int .i64 i.1),(54,Ky y.ns),(55,.int .i64 y.ns.length),(56,.int .i64 a.1),(60,Yg (y.ns[a.1]'Wa)),(61,.int .i64 (y.ns[a.1]'Wa).length),(62,.int .i64 b.1)],[(2,⟨[[.sl ((w).map Zv)]],1,25,true⟩),(18,⟨(b.2).map rB,1,4,true⟩)]⟩) (λb=>b.1<=(y.ns[a.1]'Wa).length/\SR w c k.2 i.1 y.ns a.1 b.2/\a9 w c b.2 (y.ns[a.1]'Wa) b.1) (λb=>(y.ns[a.1]'Wa).length - b.1) (0,a.2) ?_ ?_ ?_)))))))))))));exact QM (l:=[1,2,5,6,7,54,55,56,60,61,62]) (lH:=[2,18]) (HA Z Z Z Z Z Z Z Z Z Z Z) (Qa Z (Qa Z Qf)) Z Z Z;exact⟨QEu _,hA.2,λ_ _ h=>absurd h (QFY _)⟩;intro b hB;have hol3:=hB.2.1.len;refine Qd λK C=>ZK Z Z (kc C (FD Z Z Z Z Z Z Z Z Z Z Z Z) (Qw (Qs Z (λh6=>?_) (λh6=>?_))));rw[h6];simp only[qA]at h6;have hrl:=hwl _ (QEn (Wa:a.1<y.ns.length));have hxu:=hrn _ (QEn (Wa:a.1<y.ns.length)) _ (QEn (Wa:b.1<(y.ns[a.1]'Wa).length));refine Qp (QK (HA Z Z Z Z Z Z Z Z Z Z Z) (Qw (Qu (Qd λK C=>Qt Z Z Z Wa (QH Wa) Z (QB (cs:=[_,_,_]) Z Z Z Z (Zk Z (Za Z Z Z Z Z Z Z Z (kc C (FD Z Z Z Z Z Z Z Z Z Z Z Z) (QJ λK C=>Qb Z (Qe Z Z (QG (ds0:=[1,0,0]) Z Z Z Z Z (Qb Z (Qe Z Z (QG (ds0:=[9,8,7,6,5,4,3,2,0,0]) Z Z Z Z Z (XW (ds0:=[8,7,6,5,4,3,2,0]) Z Z Z Wd Wa Wa Z Z Z (QG (ds0:=[7,6,5,4,3,2,0,0]) Z (Xd Z (Q5 Wa Wa)) Z Z Z (Qb Z (Qq (g:=74) Z (λh7=>?_) (λh7=>?_)))))))))))))))))));rw[h7];refine gn4 Z Z Z Z (Qh Z Z (XW (ds0:=[0]) Z Z Z Wd Wa Wa Z Z Z (YR (ds0:=[]) Z Z (Q5 Wa Wa) Z Z Z Z Z Z Z (C _ (Qk (QK (HA Z Z Z Z Z Z Z Z Z Z Z) (QJ λK C=>Q2 Z Z Wb (Qb Z (C _ (Qj (b.1+1,b.2) ?_ ?_ ?_))))))))));exact QM (l:=[1,2,5,6,7,54,55,56,60,61,62]) (lH:=[2,18]) (HA Z Z Z Z Z Z Z Z Z Z Z) (Qa Z (Qa Z Qf)) Z (Qhx (Qpt Wa h7)) Z;exact⟨Wa,hB.2.1.fi hB.2.2 Wa (by grind [Nj])⟩;omega;rw[h7];refine Qc Z (QY (ds0:=[3,2,0,0]) (cs:=[_]) Z Z Z Z Z Z (Qc Z (Qb Z (Qc Z (QY (ds0:=[3,2,0,0]) (cs:=[_,_,_]) Z Z Z Z Z Z (Qc Z (Zi (ds0:=[2,0]) (XM hs V (hrn _ (QEn (Wa:a.1<y.ns.length)) _ (QEn (Wa:b.1<(y.ns[a.1]'Wa).length))) (Y _ (QEn (Wa:a.1<y.ns.length)) _ (QEn (Wa:b.1<(y.ns[a.1]'Wa).length)))) Z Z (.inr Z) Z Z (Qh Z Z (XW (ds0:=[0]) Z Z Z Wd Wa Wa Z Z Z (YR (ds0:=[]) Z Z (Q5 Wa Wa) Z Z Z Z Z Z Z (C _ (Qk (QK (HA Z Z Z Z Z Z Z Z Z Z Z) (QJ λK C=>Q2 Z Z Wb (Qb Z (C _ (Qj (b.1+1,b.2.set ((y.ns[a.1]'Wa)[b.1]'Wa).u.toNat (mtM w c ((y.ns[a.1]'Wa)[b.1]'Wa))) ?_ ?_ ?_)))))))))))))))))
 exact QM (l:=[1,2,5,6,7,54,55,56,60,61,62]) (lH:=[2,18]) (HA Z Z Z Z Z Z Z Z Z Z Z) (Qa Z (Qa Z Qf)) Wd (Qhx QbA) Z;exact⟨Wa,hB.2.1.th Wa er hB.2.2 Wa Wa h7⟩;omega;rw[h6];simp only[qA]at h6;refine Q3 (QF (Qx (QD (Qk (ks8 Z Z Z Z Z Z Z Z (QJ λK C=>Q2 Z Z Wb (Qb Z (C _ (Qj (a.1+1,b.2) ?_ ?_ ?_)))))))));exact QM (l:=[1,2,5,6,7,54,55,56]) (lH:=[2,18]) (kp8 Z Z Z Z Z Z Z Z) (Qa Z (Qa Z Qf)) Z Z Z
 ·exact⟨Wa,hB.2.1.next Wa hB.2.2 Wa⟩
 omega;rw[h5];simp only[qA]at h5;refine Q3 (QF (Qx (QD (Qk (ks5 Z Z Z Z Z (QJ λK C=>Qb Z (Q2 Z Z Wb (Qb Z (C _ (Qj (i.1+1,a.2) ?_ ?_ ?_))))))))));exact QM (l:=[1,2,5,6,7]) (lH:=[2,18]) (kp5 Z Z Z Z Z) (Qa Z (Qa Z Qf)) Z Z Z;exact⟨Wa,hA.2.stop Wa er⟩;omega;rw[h3];simp only[qA]at h3;refine Q3 (QF (Qx (QD (Qk (ks4 Z Z Z Z (QJ λK C=>Qb Z (Q2 Z Z Wb (Qb Z (C _ (Qj (k.1+1,i.2) ?_ ?_ ?_))))))))));exact QM (l:=[1,2,5,6]) (lH:=[2,18]) (kp4 Z Z Z Z) (Qa Z (Qa Z Qf)) Z Z Z
 ·exact⟨Wa,T.2.done Wa U.2⟩
 omega;rw[h2];simp only[qA]at h2;refine Q3 (QF (Qx (QD (ks1 Z (Qd λK C=>mv2 Z Z (kc1 C Z (Qv ?_)))))));exact Kh Z Z Z Wd (by rw[BL Wa,<- U.2.vh Wa];rfl)
variable {w:Ql}
theorem JC (hw:WSm w) {l:List Zj} (M:l.length<=1000) (hx:∀x∈l,Sm x.s.1/\Sm x.s.2):Ok Tryz.prog 100 [Q9 w,Yg l] (Qi6 w l):=by
 refine Ok.n7 tfol Tryz.func100 QxX (QEi Z) ?_;show TW _ _ tf100.body _ _;refine Qd λK C=>Zu Z Z Z (Qb Z (kc2 C Z Z (Qd λK C=>Qb Z (kc3 C Z Z Z (Qw (Qd λK C=>Qb Z (kc4 C Z Z Z Z (Qu (Q8 (ι:=Nat) (λi=>⟨[(1,Yg l),(2,.ref 2 0 0),(5,.u4 5 (l.take i).length),(6,.int .i64 i)],[(2,⟨[[.sl ((w).map Zv)]],1,25,true⟩),(5,⟨(l.take i).map (dMW w),2,238,true⟩)]⟩) (λi=>i<=l.length) (λi=>l.length - i) 0 ?_ ?_ ?_)))))))));exact le_trans (Z1 5 5 2 238 Z Z) (QM (l:=[1,2,5,6]) (lH:=[2,5]) (kp4 Z Z Z Z) (Qa Z (Qa Z Qf)) Z Z Z);omega;intro i O;have hlen:(l.take i).length=i:=by grind
 refine Qw (Qd λK C=>mv2 Z Z (QW Z QE (ZK Z Z (kc5 C Z Z Z Z Z (Qs Z (λG=>?_) (λG=>?_))))));rw[G];simp only[qA]at G;refine Qp (ks4 Z Z Z Z (Qw (Qu (QJ λK C=>mv2 Z Z (Qb Z (Qt Z Z Z Wa (QH Wa) Z (Q7 Z Z (QG (ds0:=dn 4) Z Z Z Z Z (QY (ds0:=dn 5) (cs:=[_]) Z Z Z Z Z Z (mv2 Z Z (Qt Z Z Z Wa (QH Wa) Z (QY (ds0:=dn 5) (cs:=[_,_,_]) Z Z Z Z Z Z (Zi (ds0:=dn 4) (Nu hw (hx _ (QEn (Wa:i<l.length)))) Z Z (.inr Z) Z Z (Zz Z Z (QZ Z Z (Jg (ds0:=[0]) Z Z Wf ⟨_,rfl,rfl,rfl,rfl,rfl⟩ Z Z Wd Z Z Wc Wc Z Z (Qb Z (C _ (Qk (ks4 Z Z Z Z (QJ λK C=>Qb Z (Q2 Z Z Wb (Qb Z (C _ (Qj (i+1) ?_ ?_ ?_)))))))))))))))))))))))));exact le_trans (G9 (l:=[1,2,6]) (lH:=[2]) 27 5 5 (kp3 Z Z Z) (Qa Z Qf) Z Z Z Z Z Z Z) (QM (l:=[1,2,5,6]) (lH:=[2,5]) (kp4 Z Z Z Z) (Qa Z (Qa Z Qf)) Wc (by rw[Jb (Wa:i<l.length)]<;>rfl) Z)
 omega;omega;rw[G];simp only[qA]at G;refine Q3 (QF (Qx (QD (ks1 Z (Qd λK C=>mv2 Z Z (kc1 C Z (Qv ?_)))))));exact Kh Z Z Z Wd (by rw[QEy Wa];rfl)
theorem GH (hw:WSm w):Ok Tryz.prog 70 [Q9 w] (.agg (T1 w)):=by
 refine Ok.n7 tfol Tryz.func70 QDV (QEi Z) ?_;show TW _ _ tf70.body _ _;have hwl:=hw.len;refine Qd λK C=>Zu Z Z Z (Zk Z (kc2 C Z Z (Qd λK C=>Zk Z (kc3 C Z Z Z (Qw (Qd λK C=>Qb Z (kc4 C Z Z Z Z (Qu (Q8 (ι:=Nat) (λu=>⟨[(1,.ref 1 0 0),(2,.ref 2 0 0),(3,.ref 3 0 0),(4,.int .i64 u)],[(1,⟨[[.sl ((w).map Zv)]],1,25,true⟩),(2,⟨[[.u7 [],.u7 [],.u7 []]],3,132,true⟩),(3,⟨[[.u4 100 (flN w u).length,.u4 101 (w.take u).length,.u4 102 (w.take u).length]],3,132,false⟩),(100,⟨(flN w u).map (λx=>[.int .i64 x]),1,3,true⟩),(101,⟨(w.take u).map (λx=>[Qrt w x]),1,130,true⟩),(102,⟨(w.take u).map (λx=>[Qrs w x]),1,173,true⟩)]⟩) (λu=>u<=w.length) (λu=>w.length - u) 0 ?_ ?_ ?_)))))))));exact le_trans (le_trans (XD 3 0 100 1 3 Z Z Z Z) (le_trans (XD 3 1 101 1 130 Z Z Z Z) (XD 3 2 102 1 173 Z Z Z Z))) (QM (l:=[1,2,3,4]) (lH:=[1,2,3,100,101,102]) (kp4 Z Z Z Z) (Qa Z (Qa Z (Qa Z (Qa Z (Qa Z (Qa Z Qf)))))) Z Z Z);omega;intro u hI;have hlen:=Qn5 w u;have Y:(w.take u).length=u:=by grind
 refine Qw (Qd λK C=>Qb Z (Qe Z Z (Qr Z Z Z (QW Z QE (ZK Z Z (kc5 C Z Z Z Z Z (Qs Z (λO=>?_) (λO=>?_))))))));rw[O];simp only[qA]at O;refine Qp (ks4 Z Z Z Z (Qw (Qu (Qd λK C=>Qb Z (kc5 C Z Z Z Z Z (Qd λK C=>Qb Z (kc6 C Z Z Z Z Z Z (Qw (Qd λK C=>Qb Z (kc7 C Z Z Z Z Z Z Z (Qu ?_)))))))))));have hcs:=hw.cs _ (QEn (Wa:u<w.length));refine Q8 (ι:=Nat) (λi=>⟨[(1,.ref 1 0 0),(2,.ref 2 0 0),(3,.ref 3 0 0),(4,.int .i64 u),(5,.u4 5 ((w[u]'Wa).cs.take i).length),(6,.u4 6 ((w[u]'Wa).cs.take i).length),(7,.int .i64 i)],[(1,⟨[[.sl ((w).map Zv)]],1,25,true⟩),(2,⟨[[.u7 [],.u7 [],.u7 []]],3,132,true⟩),(3,⟨[[.u4 100 (flN w u).length,.u4 101 (w.take u).length,.u4 102 (w.take u).length]],3,132,false⟩),(5,⟨((w[u]'Wa).cs.take i).map (λx=>[QwT w x]),1,173,true⟩),(6,⟨((w[u]'Wa).cs.take i).map (λx=>[Qi6 w x.bs]),1,174,true⟩),(100,⟨(flN w u).map (λx=>[.int .i64 x]),1,3,true⟩),(101,⟨(w.take u).map (λx=>[Qrt w x]),1,130,true⟩),(102,⟨(w.take u).map (λx=>[Qrs w x]),1,173,true⟩)]⟩) (λi=>i<=(w[u]'Wa).cs.length) (λi=>(w[u]'Wa).cs.length - i) 0 ?_ ?_ ?_;exact le_trans (le_trans (Z1 5 5 1 173 Z Z) (Z1 6 6 1 174 Z Z)) (QM (l:=[1,2,3,4,5,6,7]) (lH:=[1,2,3,5,6,100,101,102]) (kp7 Z Z Z Z Z Z Z) (Qa Z (Qa Z (Qa Z (Qa Z (Qa Z (Qa Z (Qa Z (Qa Z Qf)))))))) Z Z Z);omega;intro i hI2;have V:((w[u]'Wa).cs.take i).length=i:=by grind
 refine Qw (Qd λK C=>Qb Z (Qe Z Z (Qr Z Z Z (Qb Z (Qt Z Z Z Wa (QH Wa) Z (Q7 Z Z (Qr Z Z Z (QW Z QE (ZK Z Z (kc8 C Z Z Z Z Z Z Z Z (Qs Z (λM=>?_) (λM=>?_))))))))))));rw[M];simp only[qA]at M;refine Qp (ks7 Z Z Z Z Z Z Z (Qw (Qu (Qd λK C=>Qe Z Z (Qr Z Z Z (Qb Z (Qt Z Z Z Wa (QH Wa) Z (Q7 Z Z (Qr Z Z Z (Qb Z (Qt Z Z Z Wa (QH Wa) Z (QB (cs:=[_,_,_,_,_,_,_,_]) Z Z Z Z (Zk Z (Za Z Z Z Z Z Z Z Z (kc8 C Z Z Z Z Z Z Z Z (Qd λK C=>Qb Z (kc9 C Z Z Z Z Z Z Z Z Z (Qw (Qd λK C=>Qb Z (kc C (GI Z Z Z Z Z Z Z Z Z Z) (Qu ?_)))))))))))))))))))));have hns:=hw.ns _ (QEn (Wa:u<w.length)) _ (QEn (Wa:i<(w[u]'Wa).cs.length));refine Q8 (ι:=Nat) (λk=>⟨[(1,.ref 1 0 0),(2,.ref 2 0 0),(3,.ref 3 0 0),(4,.int .i64 u),(5,.u4 5 ((w[u]'Wa).cs.take i).length),(6,.u4 6 ((w[u]'Wa).cs.take i).length),(7,.int .i64 i),(8,.ref 8 0 0),(9,.u4 9 (((w[u]'Wa).cs[i]'Wa).ns.take k).length),(10,.int .i64 k)],[(1,⟨[[.sl ((w).map Zv)]],1,25,true⟩),(2,⟨[[.u7 [],.u7 [],.u7 []]],3,132,true⟩),(3,⟨[[.u4 100 (flN w u).length,.u4 101 (w.take u).length,.u4 102 (w.take u).length]],3,132,false⟩),(5,⟨((w[u]'Wa).cs.take i).map (λx=>[QwT w x]),1,173,true⟩),(6,⟨((w[u]'Wa).cs.take i).map (λx=>[Qi6 w x.bs]),1,174,true⟩),(8,⟨[Jm ((w[u]'Wa).cs[i]'Wa)],8,70,true⟩),(9,⟨(((w[u]'Wa).cs[i]'Wa).ns.take k).map (λx=>[Qi6 w x]),1,174,true⟩),(100,⟨(flN w u).map (λx=>[.int .i64 x]),1,3,true⟩),(101,⟨(w.take u).map (λx=>[Qrt w x]),1,130,true⟩),(102,⟨(w.take u).map (λx=>[Qrs w x]),1,173,true⟩)]⟩) (λk=>k<=((w[u]'Wa).cs[i]'Wa).ns.length) (λk=>((w[u]'Wa).cs[i]'Wa).ns.length - k) 0 ?_ ?_ ?_;exact le_trans (Z1 9 9 1 174 Z Z) (QM (l:=[1,2,3,4,5,6,7,8,9,10]) (lH:=[1,2,3,5,6,8,9,100,101,102]) (GI Z Z Z Z Z Z Z Z Z Z) (Qa Z (Qa Z (Qa Z (Qa Z (Qa Z (Qa Z (Qa Z (Qa Z (Qa Z (Qa Z Qf)))))))))) Z Z Z);omega;intro k hI3;have U:(((w[u]'Wa).cs[i]'Wa).ns.take k).length=k:=by grind
 refine Qw (Qd λK C=>Qb Z (Qe Z Z (Qr Z Z Z (QW Z QE (ZK Z Z (kc C (HA Z Z Z Z Z Z Z Z Z Z Z) (Qs Z (λG=>?_) (λG=>?_))))))));rw[G];simp only[qA]at G;refine Qp (QK (GI Z Z Z Z Z Z Z Z Z Z) (Qw (Qu (QJ λK C=>Qb Z (QY (ds0:=dn 4) (cs:=[_]) Z Z Z Z Z Z (Qe Z Z (QG (ds0:=dn 6) Z Z Z Z Z (Qb Z (Qt Z Z Z Wa (QH Wa) Z (QG (ds0:=dn 4) Z Z Z Z Z (Zi (ds0:=[2,1,0]) (JC hw (hw.nl _ (QEn (Wa:u<w.length)) _ (QEn (Wa:i<(w[u]'Wa).cs.length)) _ (QEn (Wa:k<((w[u]'Wa).cs[i]'Wa).ns.length))) (hw.nw _ (QEn (Wa:u<w.length)) _ (QEn (Wa:i<(w[u]'Wa).cs.length)) _ (QEn (Wa:k<((w[u]'Wa).cs[i]'Wa).ns.length)))) Z Z (.inl Z) Z Z (QZ Z Z (Jg (ds0:=[0]) Z Z Wf ⟨_,rfl,rfl,rfl,rfl,rfl⟩ Z Z Wd Z Z Wc Wc Z Z (Qb Z (C _ (Qk (QK (GI Z Z Z Z Z Z Z Z Z Z) (QJ λK C=>Qb Z (Q2 Z Z Wb (Qb Z (C _ (Qj (k+1) ?_ ?_ ?_))))))))))))))))))))));exact le_trans (G9 (l:=[1,2,3,4,5,6,7,8,10]) (lH:=[1,2,3,5,6,8,100,101,102]) 54 9 9 (kp9 Z Z Z Z Z Z Z Z Z) (Qa Z (Qa Z (Qa Z (Qa Z (Qa Z (Qa Z (Qa Z (Qa Z (Qa Z Qf))))))))) Z Z Z Z Z Z Z) (QM (l:=[1,2,3,4,5,6,7,8,9,10]) (lH:=[1,2,3,5,6,8,9,100,101,102]) (GI Z Z Z Z Z Z Z Z Z Z) (Qa Z (Qa Z (Qa Z (Qa Z (Qa Z (Qa Z (Qa Z (Qa Z (Qa Z (Qa Z Qf)))))))))) Wc (by rw[Jb (Wa:k<((w[u]'Wa).cs[i]'Wa).ns.length)]<;>rfl) Z)
 omega;omega;rw[G];simp only[qA]at G;refine Q3 (QF (Qx (QD (ks9 Z Z Z Z Z Z Z Z Z (MO (Mf (l:=[1,2,3,4,5,6,7,8]) (lH:=[1,2,3,5,6,8,100,101,102]) 9 9 (kp8 Z Z Z Z Z Z Z Z) (Qa Z (Qa Z (Qa Z (Qa Z (Qa Z (Qa Z (Qa Z (Qa Z (Qa Z Qf))))))))) Z Z Z Wd Z Z Z Z) (QJ λK C=>mv2 Z Z (QZ Z Z (Jg (ds0:=[1]) Z Z Wf ⟨_,rfl,rfl,rfl,rfl,rfl⟩ Z Z Wd Z Z Wc Wc Z Z (Qb Z (QY (ds0:=[4,3,2,0]) (cs:=[_]) Z Z Z Z Z Z (Qe Z Z (QG (ds0:=[4,3,2,0]) Z Z Z Z Z (Zi (ds0:=[3,2,0]) (JC hw Wa (hw.bw _ (QEn (Wa:u<w.length)) _ (QEn (Wa:i<(w[u]'Wa).cs.length)))) Z Z (.inl Z) Z Z (QZ Z Z (Jg (ds0:=[0]) Z Z Wf ⟨_,rfl,rfl,rfl,rfl,rfl⟩ Z Z Wd Z Z Wc Wc Z Z (mv2 Z Z (C _ (Qk (ks7 Z Z Z Z Z Z Z (QJ λK C=>Qb Z (Q2 Z Z Wb (Qb Z (C _ (Qj (i+1) ?_ ?_ ?_))))))))))))))))))))))));exact le_trans (le_trans (G9 (l:=[1,2,3,4,6,7]) (lH:=[1,2,3,65,100,101,102]) 58 5 5 (kp6 Z Z Z Z Z Z) (Qa Z (Qa Z (Qa Z (Qa Z (Qa Z (Qa Z (Qa Z Qf))))))) Z Z Z Z Z Z Z) (G9 (l:=[1,2,3,4,5,7]) (lH:=[1,2,3,5,100,101,102]) 65 6 6 (kp6 Z Z Z Z Z Z) (Qa Z (Qa Z (Qa Z (Qa Z (Qa Z (Qa Z (Qa Z Qf))))))) Z Z Z Z Z Z Z)) (QM (l:=[1,2,3,4,5,6,7]) (lH:=[1,2,3,5,6,100,101,102]) (kp7 Z Z Z Z Z Z Z) (Qa Z (Qa Z (Qa Z (Qa Z (Qa Z (Qa Z (Qa Z (Qa Z Qf)))))))) Wc (by rw[QEy (Wa:((w[u]'Wa).cs[i]'Wa).ns.length<=k),Jb (Wa:i<(w[u]'Wa).cs.length),Jb (Wa:i<(w[u]'Wa).cs.length)]<;>rfl) Z)
 omega;omega;rw[M];simp only[qA]at M;refine Q3 (QF (Qx (QD (ks6 Z Z Z Z Z Z (MO (Mf (l:=[1,2,3,4,6]) (lH:=[1,2,3,6,100,101,102]) 5 5 (kp5 Z Z Z Z Z) (Qa Z (Qa Z (Qa Z (Qa Z (Qa Z (Qa Z (Qa Z Qf))))))) Z Z Z Wd Z Z Z Z) (MO (Mf (l:=[1,2,3,4,5]) (lH:=[1,2,3,100,101,102]) 6 6 (kp5 Z Z Z Z Z) (Qa Z (Qa Z (Qa Z (Qa Z (Qa Z (Qa Z Qf)))))) Z Z Z Wd Z Z Z Z) (QJ λK C=>Qe Z Z (QG (ds0:=[16,4,4,2,0]) Z Z Z Z Z (QY (ds0:=[18,17,16,4,4,2,0]) (cs:=[_]) Z Z Z Z Z Z (Qb Z (Zi (ds0:=[17,16,4]) (FZ hw) Z Z (.inr Z) Z Z (QZ Z Z (Jg (ds0:=[4]) Z Z Wf ⟨_,rfl,rfl,rfl,rfl,rfl⟩ Z Z Wd Z Z Wc Wc Z Z (Qe Z Z (QG (ds0:=[11,2,4,2,0]) Z Z Z Z Z (Qb Z (QZ Z Z (Jg (ds0:=[2]) Z Z Wf ⟨_,rfl,rfl,rfl,rfl,rfl⟩ Z Z Wd Z Z Wc Wc Z Z (Qe Z Z (QG (ds0:=[6,0,4,2,0]) Z Z Z Z Z (Qb Z (QZ Z Z (Jg (ds0:=[0]) Z Z Wf ⟨_,rfl,rfl,rfl,rfl,rfl⟩ Z Z Wd Z Z Wc Wc Z Z (Qe Z Z (YR (ds0:=[2,0]) Z Z Z Z Z Z Z Z Z Z (Qe Z Z (YR (ds0:=[0]) Z Z Z Z Z Z Z Z Z Z (Qe Z Z (YR (ds0:=[]) Z Z Z Z Z Z Z Z Z Z (C _ (Qk (ks4 Z Z Z Z (QJ λK C=>Qb Z (Q2 Z Z Wb (Qb Z (C _ (Qj (u+1) ?_ ?_ ?_)))))))))))))))))))))))))))))))))))));exact le_trans (Mg (l:=[1,2,3,4]) (lH:=[1,2,77,82]) 72 100 3 (kp4 Z Z Z Z) (Qa Z (Qa Z (Qa Z (Qa Z Qf)))) Z Z Z Z Z Z Z Z) (le_trans (Mg (l:=[1,2,3,4]) (lH:=[1,2,100,82]) 77 101 3 (kp4 Z Z Z Z) (Qa Z (Qa Z (Qa Z (Qa Z Qf)))) Z Z Z Z Z Z Z Z) (le_trans (Mg (l:=[1,2,3,4]) (lH:=[1,2,100,101]) 82 102 3 (kp4 Z Z Z Z) (Qa Z (Qa Z (Qa Z (Qa Z Qf)))) Z Z Z Z Z Z Z Z) (QM (l:=[1,2,3,4]) (lH:=[1,2,3,100,101,102]) (kp4 Z Z Z Z) (Qa Z (Qa Z (Qa Z (Qa Z (Qa Z (Qa Z Qf)))))) Z (by rw[QEy (Wa:(w[u]'Wa).cs.length<=i),FO (Wa:u<w.length),Jb (Wa:u<w.length),Jb (Wa:u<w.length),QsL,QFm,QEY]<;>rfl) Z)))
 omega;omega;rw[O];simp only[qA]at O;refine Q3 (QF (Qx (QD (ks2 Z Z (Qd λK C=>QB (cs:=[_,_,_]) Z Z Z Z (Za Z Z Z Z Z Z Z Z (kc1 C Z (Qv ?_))))))));have T:u=w.length:=Wa;subst T;refine H4 (cs:=[.u4 100 (flN w w.length).length,.u4 101 (w.take w.length).length,.u4 102 (w.take w.length).length]) Z Z Z Z ?_;rw[Qfe rfl rfl Wd rfl rfl Wd rfl rfl Wd];simp only[List.take_length];rfl
variable {c:List Int}
theorem GX (hw:WSm w) (C:z6 w c) {x:Zj} (hx:0<=x.u/\x.u<w.length):Ok Tryz.prog 150 [Q0 c,.agg (dMW w x)] (.bool (mtM w c x)):=by
 refine Ok.n7 tfol Tryz.func150 Qys (QEi Z) ?_;show TW _ _ tf150.body _ _;have T:=C.len;have O:x.u.toNat<c.length:=Wa;have hb:=HK C O;have U:=hw.cs _ (QEn (Wa:x.u.toNat<w.length));refine Qd λK M=>Zu Z Z Z (Qb Z (kc2 M Z Z (Qd λK M=>Qb Z (Qe Z Z (QG (ds0:=dn 17) Z Z Z Z Z (Qt Z Z Z Wa (Q5 Wa Wa) Z (QG (ds0:=dn 15) Z Z Z Z Z (Gw Z Z (Qb Z (Qq (g:=11) Z (λG=>?_) (λG=>?_)))))))))));rw[G];simp only[qA]at G;refine Qc Z (Qe Z Z (Qc Z (QG (ds0:=dn 4) Z Z Z Z Z (Qc Z (Qb Z (Qc Z (Qe Z Z (Qc Z (QG (ds0:=dn 8) Z Z Z Z Z (Qc Z (Qt Z Z Z Wa (Q5 Wa Wa) Z (Qc Z (QG (ds0:=dn 6) Z Z Z Z Z (Qc Z (Qe1 Z (QlA Wa Wa) (Qc Z (Qwm Z Z Wa (QeN Wa) (Qc Z (Qwk Z Z (Qc Z (Ys Z Z (Qh Z Z (Qb Z (kc1 M Z (Qv (Qg Z ?_))))))))))))))))))))))))))
 grind [Qml]
 rw[G];simp only[qA]at G;refine gn4 Z Z Z Z (gn4 Z Z Z Z (gn3 Z Z Z (Qh Z Z (Qb Z (kc1 M Z (Qv (Qg Z ?_)))))))
 grind [Qha]
theorem JY (hw:WSm w) (O:z6 w c) {l:List Zj} (T:l.length<=1000) (hx:∀x∈l,0<=x.u/\x.u<w.length):Ok Tryz.prog 102 [Q0 c,Qi6 w l] (.bool (YO w c l)):=by
 refine Ok.n7 tfol Tryz.func102 QxZ (QEi Z) ?_;show TW _ _ tf102.body _ _;refine Qd λK C=>Qb Z (kc2 C Z Z (Qw (Qd λK C=>Qb Z (kc3 C Z Z Z (Qu (Q8 (ι:=Nat) (λi=>⟨[(0,Q0 c),(1,Qi6 w l),(5,.int .i64 i)],[]⟩) (λi=>i<=l.length/\(l.take i).any (mtM w c)=false) (λi=>l.length - i) 0 ?_ ?_ ?_))))));exact Zn (kp3 Z Z Z);simp;intro i U;refine Qw (Qd λK C=>mv2 Z Z (QW Z QE (ZK Z Z (kc4 C Z Z Z Z (Qs Z (λG=>?_) (λG=>?_))))));rw[G];simp only[qA]at G;refine Qp (ks3 Z Z Z (Qw (Qu (Qd λK C=>mv2 Z Z (Qb Z (Qt Z Z Z Wa (QH Wa) Z (QB (cs:=[_,_]) Z Z Z Z (QA (GX hw O (hx _ (QEn (Wa:i<l.length)))) Z Z (.inr Z) (kc4 C Z Z Z Z (Qs Z (λM=>?_) (λM=>?_)))))))))));rw[M];refine Qd λK C=>Qb Z (kc1 C Z (Qv (Qm (Qi (QQ (Qm (Qi (Qg Z ?_))))))));exact(QFy.2 ⟨_,QEn (Wa:i<l.length),M⟩).symm;rw[M];refine Qp (Qk (ks3 Z Z Z (QJ λK C=>Qb Z (Q2 Z Z Wb (Qb Z (C _ (Qj (i+1) ?_ ?_ ?_)))))));exact Zn (kp3 Z Z Z)
 grind [RM]
 omega;rw[G];simp only[qA]at G;refine Q3 (QF (Qx (QD (QK (QL) (Qd λK C=>Qb Z (kc1 C Z (Qv (Qg Z ?_))))))))
 grind [YO]
theorem F0 {w:Ql} (hw:WSm w) (hr:WIn w) {c:List Int} (M:z6 w c) (h0:0<w.length):Ok Tryz.prog 71 [.agg (T1 w),Q0 c] (.bool (Jd w c)):=by
 refine Ok.n7 tfol Tryz.func71 QDW (QEi Z) ?_;show TW _ _ tf71.body _ _;have hcl:=M.len;have hwl:=hw.len;refine Qd λK C=>Zu Z Z Z (Qb Z (kc2 C Z Z (Qw (Qd λK C=>Qb Z (Qt Z Z Z Wa (Q5 Wa Wa) Z (Qr Z Z Z (ZK Z Z (kc3 C Z Z Z (Qs Z (λT=>?_) (λT=>?_))))))))));rw[T];simp only[qA]at T;refine Qd λK C=>Qb Z (kc1 C Z (Qv (Qi (Qg Z ?_))))
 grind [QnZ]
 rw[T];simp only[qA]at T;refine Qp (ks2 Z Z (Qw (Qd λK C=>Qb Z (kc3 C Z Z Z (Qu (Q8 (ι:=Nat) (λi=>⟨[(1,Q0 c),(2,.ptr [Q0 (flN w w.length),.sl (w.map λu=>[Qrt w u]),.sl (w.map λu=>[Qrs w u])]),(5,.int .i64 i)],[]⟩) (λi=>i<=c.length/\(List.range i).all (Bb w c)=true) (λi=>c.length - i) 0 ?_ ?_ ?_))))));exact le_trans (G8 2 _ We) (QM (l:=[1,2,5]) (lH:=[]) (kp3 Z Z Z) Qf Z Z Z);simp;intro i hI;refine Qw (Qd λK C=>mv2 Z Z (QW Z QE (ZK Z Z (kc4 C Z Z Z Z (Qs Z (λh2=>?_) (λh2=>?_))))));rw[h2];simp only[qA]at h2;refine Qp (ks3 Z Z Z (Qw (Qu (Qw (Qd λK C=>mv2 Z Z (Qt Z Z Z Wa (QH Wa) Z (Qr Z Z Z (ZK Z Z (kc4 C Z Z Z Z (Qs Z (λO=>?_) (λO=>?_)))))))))));rw[O];simp only[qA]at O;refine Q3 (QF (QD (ks3 Z Z Z (QJ λK C=>Qb Z (Q2 Z Z Wb (Qb Z (C _ (Qj (i+1) ?_ ?_ ?_))))))));exact Zn (kp3 Z Z Z)
 grind [Bc]
 omega;rw[O];simp only[qA]at O;have hb:=HK M (Wa:i<c.length);have hcs:=hw.cs _ (QEn (Wa:i<w.length));have G:=Na hb.2 (by omega:0<=c[i]'Wa);have hnl:=(hw.ns _ (QEn (Wa:i<w.length)) _ (QEn G)).1;have hbl:=(hw.ns _ (QEn (Wa:i<w.length)) _ (QEn G)).2;refine Qp (ks3 Z Z Z (Qd λK C=>Q7 Z Z (QG (ds0:=[20,19,14,13,1]) Z Z Z Z Z (Qb Z (Qt Z Z Z Wa (QH Wa) Z (QG (ds0:=[14,13,1]) Z Z Z Z Z (mv2 Z Z (Qt Z Z Z Wa (QH Wa) Z (QG (ds0:=[14,13,1]) Z Z Z Z Z (Qt Z Z Z Wa (Q5 Wa Wa) Z (QG (ds0:=[1]) Z Z Z Z Z (Q7 Z Z (QG (ds0:=[9,8,3,2,0]) Z Z Z Z Z (Qb Z (Qt Z Z Z Wa (QH Wa) Z (QG (ds0:=[3,2,0]) Z Z Z Z Z (mv2 Z Z (Qt Z Z Z Wa (QH Wa) Z (QG (ds0:=[3,2,0]) Z Z Z Z Z (Qt Z Z Z Wa (Q5 Wa Wa) Z (QG (ds0:=[0]) Z Z Z Z Z (mv2 Z Z (kc5 C Z Z Z Z Z (Qw (Qd λK C=>Qb Z (kc6 C Z Z Z Z Z Z (Qu (Q8 (ι:=Nat) (λk=>⟨[(1,Q0 c),(2,.ptr [Q0 (flN w w.length),.sl (w.map λu=>[Qrt w u]),.sl (w.map λu=>[Qrs w u])]),(5,.int .i64 i),(6,.sl ((w[i]'Wa).cs[(c[i]'Wa).toNat].ns.map λr=>[Qi6 w r])),(7,Qi6 w (w[i]'Wa).cs[(c[i]'Wa).toNat].bs),(8,.int .i64 k)],[]⟩) (λk=>k<=(w[i]'Wa).cs[(c[i]'Wa).toNat].ns.length/\((w[i]'Wa).cs[(c[i]'Wa).toNat].ns.take k).all (YO w c)=true) (λk=>(w[i]'Wa).cs[(c[i]'Wa).toNat].ns.length - k) 0 ?_ ?_ ?_))))))))))))))))))))))))))));exact Zn (kp6 Z Z Z Z Z Z);simp;intro k hQ;refine Qw (Qd λK C=>mv2 Z Z (QW Z QE (ZK Z Z (kc7 C Z Z Z Z Z Z Z (Qs Z (λY=>?_) (λY=>?_))))));rw[Y];simp only[qA]at Y;refine Qp (ks6 Z Z Z Z Z Z (Qw (Qu (Qd λK C=>mv2 Z Z (Qb Z (Qt Z Z Z Wa (QH Wa) Z (Qr Z Z Z (QA (JY hw M (hw.nl _ (QEn (Wa:i<w.length)) _ (QEn G) _ (QEn (Wa:k<(w[i]'Wa).cs[(c[i]'Wa).toNat].ns.length))) (hr.nr _ (QEn (Wa:i<w.length)) _ (QEn G) _ (QEn (Wa:k<(w[i]'Wa).cs[(c[i]'Wa).toNat].ns.length)))) Z Z (.inr Z) (Zp Z (kc7 C Z Z Z Z Z Z Z (Qs Z (λV=>?_) (λV=>?_))))))))))));rw[V];simp only[qA]at V;refine Qd λK C=>Qb Z (kc1 C Z (Qv (Qm (Qi (QQ (Qm (Qi (Qm (Qi (QQ (Qm (Qi (Qg Z ?_)))))))))))));rw[Qf7 Wa T];exact(Xa (i:=i) Wa (by grind [Sl])).symm;rw[V];simp only[qA]at V;refine Qp (Qk (ks6 Z Z Z Z Z Z (QJ λK C=>Qb Z (Q2 Z Z Wb (Qb Z (C _ (Qj (k+1) ?_ ?_ ?_)))))));exact Zn (kp6 Z Z Z Z Z Z)
 grind [ZW]
 omega;rw[Y];simp only[qA]at Y;refine Q3 (QF (Qx (QD (ks4 Z Z Z Z (Qd λK C=>mv2 Z Z (QA (JY hw M (l:=(w[i]'Wa).cs[(c[i]'Wa).toNat].bs) Wa (hr.bw _ (QEn (Wa:i<w.length)) _ (QEn G))) Z Z (.inr Z) (kc4 C Z Z Z Z (Qs Z (λU=>?_) (λU=>?_)))))))));rw[U];refine Qd λK C=>Qb Z (kc1 C Z (Qv (Qm (Qi (QQ (Qm (Qi (Qg Z ?_))))))));rw[Qf7 Wa T];exact(Xa (i:=i) Wa (by rw[Sl Wa Wa O G,show YO w c (w[i]'Wa).cs[(c[i]'Wa).toNat].bs=true from U,Bool.not_true,QFP])).symm;rw[U];refine Qp (Qk (ks3 Z Z Z (QJ λK C=>Qb Z (Q2 Z Z Wb (Qb Z (C _ (Qj (i+1) ?_ ?_ ?_)))))));exact Zn (kp3 Z Z Z);exact⟨Wa,Mw hI.2 (by rw[Sl Wa Wa O G,show YO w c (w[i]'Wa).cs[(c[i]'Wa).toNat].bs=false from U,Bool.not_false,QFj];grind)⟩
 omega;rw[h2];simp only[qA]at h2;refine Q3 (QF (Qx (QD (QK (QL) (Qd λK C=>Qb Z (kc1 C Z (Qv (Qg Z ?_))))))))
 grind [Qf7]
end Go.Proofs
namespace M25
open Go Go.Abs M3
theorem Lv (w:Ql) (c:List Int):(tidyR w c).length<=c.length:=by grind [Tm,FF]
def wAwk:Ql:=[⟨[],[],[⟨⟨0,0,0,[],[]⟩,0,[[⟨1,([(Z6,Y6)],[(Z6,Y6)])⟩]],[]⟩]⟩,⟨[98],[],[⟨⟨1,0,0,[],[]⟩,0,[],[]⟩]⟩,⟨[99],[],[⟨⟨0,0,0,[],[]⟩,0,[],[]⟩]⟩]
theorem LP:Xc wAwk:=by
 have M:Sm [(Z6,Y6)]:=⟨by decide,λs C=>by simp only[QEr]at C;subst C;trivial⟩
 refine⟨by decide,λu hu=>?_,λu hu=>?_,λu hu c G=>?_⟩<;>simp only[wAwk,QEk,QEj,or_false]at hu<;>rcases hu with rfl |rfl |rfl
 simp;simp;simp;simp;simp;simp
 all_goals
  simp only[QEr]at G;subst G;refine⟨⟨by decide,by decide⟩,by decide,by decide,λr hr=>?_,λx hx=>by grind⟩
 grind
 grind
 grind
theorem QaH:v8 wAwk:=⟨by decide,λi hi=>by
 have M:i=0\/i=1\/i=2:=by
  have:wAwk.length=3:=rfl;omega
 have one:∀{cs:List CandT},cs.length=1->(∀h:0<cs.length,cdR 3 cs[0]=true)->∀k (hk:k<cs.length),cdR 3 cs[k]=true/\(0<k->Qd2 (cs[k - 1]'Wa).v cs[k].v<0):=λU T k hk=>by
  grind
 have k0:cdR 3 ⟨⟨0,0,0,[],[]⟩,0,[[⟨1,([(Z6,Y6)],[(Z6,Y6)])⟩]],[]⟩=true:=by rfl
 have G:cdR 3 ⟨⟨1,0,0,[],[]⟩,0,[],[]⟩=true:=by rfl
 have C:cdR 3 ⟨⟨0,0,0,[],[]⟩,0,[],[]⟩=true:=by rfl
 have O:Gx ⟨[98],[],[⟨⟨1,0,0,[],[]⟩,0,[],[]⟩]⟩ ⟨[99],[],[⟨⟨0,0,0,[],[]⟩,0,[],[]⟩]⟩=true:=by rfl
 rcases M with rfl |rfl |rfl;exact⟨λ_=>(by decide:(1:Nat)<=16),λ_ _=>⟨rfl,rfl,rfl⟩,λ_ h=>absurd h We,λ_ h=>absurd h We,λ_=>one rfl λ_=>k0⟩;exact⟨λ_=>(by decide:(1:Nat)<=16),λ_ h=>absurd h We,λ_ _=>(by decide:([98]:List UInt8)≠[]),λ_ h=>absurd h We,λ_=>one rfl λ_=>G⟩;exact⟨λ_=>(by decide:(1:Nat)<=16),λ_ h=>absurd h We,λ_ _=>(by decide:([99]:List UInt8)≠[]),λ_ _=>O,λ_=>one rfl λ_=>C⟩⟩
theorem QwY {a b d:Int} (h0:(-1<=a/\a<1)/\(-1<=b/\b<1)/\(-1<=d/\d<1)):uc wAwk [a,b,d]:=⟨rfl,λi hi G=>by
 have C:i=0\/i=1\/i=2:=by
  grind
 rcases C with rfl |rfl |rfl;exact h0.1;exact h0.2.1;exact h0.2.2⟩
theorem Qfj:wrongR wAwk [0, -1, -1]=[⟨2,0,0⟩]:=by
 rw[Kj (GB QaH (QwY We))];rfl
theorem Qfi:holdsR wAwk [0,0, -1]=true:=by
 have h:=GB QaH (QwY (a:=0) (b:=0) (d:=-1) We);rw[holdsR,h,Kj h];rfl
theorem Qr1:mayC wAwk [0,1, -1]=false:=Du λh=>by
 have:=(h.bd 1 We We).2;trivial
theorem Qjv:tidyR wAwk [0,0,0]=[0,0, -1]:=by
 have h:=GB QaH (QwY (a:=0) (b:=0) (d:=0) We);have hx:mtM wAwk [0,0,0] ⟨1,([(Z6,Y6)],[(Z6,Y6)])⟩=true:=by rfl
 have n0:Ndd wAwk [0,0,0] 0:=.root We;have M:Ndd wAwk [0,0,0] 1:=.step (x:=⟨1,([(Z6,Y6)],[(Z6,Y6)])⟩) (r:=[⟨1,([(Z6,Y6)],[(Z6,Y6)])⟩]) n0 (by simp[XE,wAwk,cA]) Wd hx
 have e:[true,true,false]=nddL wAwk [0,0,0]:=by
  refine bb.done ⟨rfl,λi hi=>?_,λ_=>rfl⟩ λi hi=>?_;have G:=BO hi;have:i=0\/i=1\/i=2:=by grind
  rcases this with rfl |rfl |rfl;omega;omega;trivial;have G:=BO hi
  have:i=0\/i=1\/i=2:=by grind
  rcases this with rfl |rfl |rfl;intro r hr x C _;have:XE wAwk [0,0,0] 0=[[⟨1,([(Z6,Y6)],[(Z6,Y6)])⟩]]:=rfl
  rw[this]at hr;simp only[QEr]at hr;subst hr;simp only[QEr]at C;subst C;rfl;intro r hr;trivial;trivial
 have at':∀i (hi:i<3),nddB wAwk [0,0,0] i=[true,true,false][i]:=λi hi=>by
  grind [SQ]
 rw[Fr h,tidyM];simp only[QEZ,List.length_nil,QFX,List.range_zero,QFJ,QFm,QEW,QFx];rw[at' 0 We,at' 1 We,at' 2 We];rfl
theorem Lz {w:Ql} (hw:Xc w) {c:List Int}:(wrongR w c).length<=1048576:=by
 cases h:mayC w c with
 |false=>rw[Cp h];simp
 |true=>
  obtain⟨M,G⟩:=Fh h;have C:=M.val hw;have:=Gv C.ud c c.length;rw[Kj h,PR];have:=G.len;have:=C.len;omega
theorem BJ (w:Ql) (c:List Int) (u:Nat) (ns:List (List Zj)):∀i,i<=ns.length->(Kg w c u ns i=[]↔(ns.take i).all (YO w c)=true)
 |0,_=>by simp[Kg]
 |i+1,h=>by
  have C:=BJ w c u ns i Wa;rw[QFB Wa,QFK];cases hk:YO w c (ns[i]'Wa)with
  |true=>grind [Mm]
  |false=>rw[Mn Wa hk];simp[hk]
theorem Qb4 (w:Ql) (c:List Int) (u:Nat) (bs:List Zj):∀i,i<=bs.length->(Ts w c u bs i=[]↔(bs.take i).any (mtM w c)=false)
 |0,_=>by simp[Ts]
 |i+1,h=>by
  have C:=Qb4 w c u bs i Wa;rw[QFB Wa,List.any_append];cases hk:mtM w c (bs[i]'Wa)with
  |true=>rw[RS Wa hk];simp[hk]
  |false=>grind [RT]
theorem Qda (w:Ql) (c:List Int) (u:Nat) (x:CandT):Qjb w c u x=[]↔(x.ns.all (YO w c)&&!YO w c x.bs)=true:=by
 rw[Qjb,List.append_eq_nil_iff,BJ _ _ _ _ _ (QEI _),Qb4 _ _ _ _ _ (QEI _),List.take_length,List.take_length,QEm,QFv];rfl
section
variable {w:Ql} {al c:List Int}
theorem Tq:∀i,ZR w c i=[]↔(¬cA c 0<0/\∀j:Nat,j<i->0<=cA c (j:Int)->Qmt w c j=[])
 |0=>by
  grind [ZR]
 |i+1=>by
  have C:=Tq i;rw[ZR,List.append_eq_nil_iff,C]
  grind
theorem LA (hw:WSm w) (C:z6 w c) (h0:0<w.length):decide ((PR w c).length=0)=Jd w c:=by
 have M:0<c.length:=by rw[C.len];omega
 have e0:cA c 0=c[0]:=Ym (u:=0) M;rw[QFN,decide_eq_true_eq,List.length_eq_zero_iff,PR,Tq,KA hw C h0,e0];refine and_congr Wa ⟨λh u hu U T hp=>?_,λh j O G=>?_⟩
 grind [Ym,SX,Qda]
 rw[Ym O]at G;have hu:j<w.length:=by rw[<- C.len];omega
 have hp:=Na (C.bd j hu O).2 G
 grind [SX,Qda]
end
theorem Sd:∀(us:List Nat),(Z9 us).length=us.foldr (λn a=>(n+1)*a) 1
 |[]=>rfl
 |n::us=>by
  simp only[Z9,List.length_flatMap,QFf,List.foldr_cons];rw[List.map_const',List.sum_replicate_nat,List.length_range,Sd us]
theorem D8:∀{w:Ql} {n most:Int},0<=n->szM most w n<most->szM most w n=n*((Z9 (YF w)).length:Int)
 |[],n,most,_,_=>by simp[szM,YF,Z9]
 |u::w,n,most,hn,h=>by
  rw[szM]at h ⊢;split at h;omega;rename_i C;rw[if_neg C];have hk:(0:Int)<=n*((u.cs.length:Int)+1):=Int.mul_nonneg hn Wa;rw[D8 hk h,Sd,Sd];simp only[YF,QEW,List.foldr_cons]
  grind
variable {c:List Int} {i t:Nat} {us:List Nat}
def QrC (us:List Nat):List Int:=us.map λ_=>-1
def nxU:List Nat->List Int->Option (List Int)
 |n::us,x::c=>match nxU us c with
  |some d=>some (x::d)
  |none=>if x+1<(n:Int)then some ((x+1)::QrC us)else none
 |_,_=>none
def JK (nx:List Int->Option (List Int)):List (List Int)->Option (List Int)->Prop
 |[],_=>True
 |c::l,e=>nx c=(match l with |d::_=>some d |[]=>e)/\JK nx l e
theorem CX {nx:List Int->Option (List Int)}:∀{a b:List (List Int)} {e:Option (List Int)},JK nx a (match b with |d::_=>some d |[]=>e)->JK nx b e->JK nx (a++b) e
 |[],b,e,_,hb=>hb
 |[c],b,e,ha,hb=>by
  grind [JK]
 |c::d::a,b,e,ha,hb=>⟨ha.1,CX (a:=d::a) ha.2 hb⟩
theorem Fy:∀(us:List Nat),∃l,Z9 us=QrC us::l
 |[]=>⟨[],rfl⟩
 |n::us=>by
  obtain⟨l,C⟩:=Fy us;simp only[Z9];rw[List.range_succ_eq_map,QEM,C];exact⟨_,rfl⟩
theorem CY {n:Nat} {us:List Nat} {x:Int}:∀{l:List (List Int)},JK (nxU us) l none->JK (nxU (n::us)) (l.map (x::·)) (if x+1<(n:Int)then some ((x+1)::QrC us)else none)
 |[],_=>trivial
 |[c],h=>by
  simp only[JK]at h
  (repeat clear hK K);simp_all [JK,nxU]
 |c::d::l,h=>⟨by
   have C:nxU us c=some d:=h.1
   grind [nxU],CY (l:=d::l) h.2⟩
theorem Sc:∀(us:List Nat),JK (nxU us) (Z9 us) none
 |[]=>⟨rfl,trivial⟩
 |n::us=>by
  have O:=Sc us;obtain⟨M,C⟩:=Fy us;simp only[Z9]
  have key:∀k,k<=n+1->JK (nxU (n::us)) ((List.range' (n+1 - k) k).flatMap λj=>(Z9 us).map λr=>Zw false n j::r) none:=by
   intro k
   induction k with
   |zero=>intro _;trivial
   |succ k ihk=>
    intro hk;rw[show List.range' (n+1 - (k+1)) (k+1)=(n - k)::List.range' (n+1 - k) k by grind [List.range'_succ],QEM];refine CX ?_ (ihk Wa)
    have e:(if Zw false n (n - k)+1<(n:Int)then some ((Zw false n (n - k)+1)::QrC us)else none)=(match(List.range' (n+1 - k) k).flatMap λj=>(Z9 us).map λr=>Zw false n j::r with |d::_=>some d |[]=>none):=by
     have G:Zw false n (n - k)+1=((n - k:Nat):Int):=by unfold Zw;simp
     rw[G];cases k with
     |zero=>simp
     |succ k=>
      rw[if_pos Wa,QFn,QEM,C];simp only[QEW,QFi];have:Zw false n (n+1 - (k+1))=((n - (k+1):Nat):Int):=by unfold Zw;grind
      grind
    grind [CY]
  have:=key (n+1) (QEI _)
  (repeat clear hK K);simp_all [QFw]
theorem Qd1 {nx:List Int->Option (List Int)} {l:List (List Int)} (h:JK nx l none) (C:t<l.length):nx l[t]=l[t+1]?:=by
 induction l generalizing t with
 |nil=>grind
 |cons c l ih=>
  cases t with
  |zero=>
   have:=h.1
   grind
  |succ t=>
   have:=ih h.2 (t:=t) Wc
   grind
theorem C4 {w:Ql} (C:t<(Z9 (YF w)).length):nxU (YF w) (Z9 (YF w))[t]=(Z9 (YF w))[t+1]?:=Qd1 (Sc _) C
theorem Qmp:∀(us:List Nat) (c d:List Int) (i:Nat),us.length=c.length->i<=c.length->nxU (us.drop i) (c.drop i)=some d->nxU us c=some (c.take i++d)
 |us,c,d,0,_,_,h=>by grind
 |[],c,d,i+1,hl,hi,h=>by grind
 |n::us,[],d,i+1,hl,_,_=>by grind
 |n::us,x::c,d,i+1,hl,hi,h=>by
  have:=Qmp us c d i Wc Wc Wc
  grind [nxU]
theorem Qxl (hu:i<us.length) (hi:i<c.length) (h:nxU (us.drop (i+1)) (c.drop (i+1))=none) (hx:¬c[i]+1<(us[i]:Int)):nxU (us.drop i) (c.drop i)=none:=by
 rw[QEz hu,QEz hi]
 (repeat clear hK K);simp_all [nxU]
theorem Qtq (C:us.length=c.length) (hi:i<c.length) (h:nxU (us.drop (i+1)) (c.drop (i+1))=none) (hx:c[i]+1<(us[i]:Int)):nxU us c=some (c.take i++(c[i]+1)::List.replicate (c.length - (i+1)) (-1)):=by
 refine Qmp us c _ i C Wa ?_;rw[QEz (Wa:i<us.length),QEz hi]
 (repeat clear hK K);simp_all [nxU,QrC,List.map_const']
theorem Qtp (h:nxU (us.drop 0) (c.drop 0)=none):nxU us c=none:=by grind
theorem QkH (C:us.length=c.length):nxU (us.drop c.length) (c.drop c.length)=none:=by
 rw[<- C,List.drop_length];rfl
end M25
namespace Go.Proofs
open Go Go.Abs M3 M25
def L3 (l:List (List Int)):D:=.g8 [Q0 (l.getLast?.getD []),.bool l.getLast?.isSome]
theorem ZA {a b:List Int} (ha:a.length<=10000000):Ok Tryz.prog 20 [Q0 a,Q0 b] (.bool (decide (a=b))):=by
 refine Ok.n7 tfol Tryz.func20 QDv (QEi Z) ?_;show TW _ _ tf20.body _ _;refine Qd λK C=>Qb Z (kc2 C Z Z (Qw (Qd λK C=>Qb Z (QW Z QE (Qb Z (QW Z QE (Ys Z Z (kc3 C Z Z Z (Qs Z (λO=>?_) (λO=>?_))))))))));rw[O];simp only[qA]at O;refine Qd λK C=>Qb Z (kc1 C Z (Qv (Qi (Qg Z ?_))))
 grind
 rw[O];simp only[qA]at O;refine Qp (ks2 Z Z (Qw (Qd λK C=>Qb Z (kc3 C Z Z Z (Qu (Q8 (ι:=Nat) (λi=>⟨[(0,Q0 a),(1,Q0 b),(5,.int .i64 i)],[]⟩) (λi=>i<=a.length/\a.take i=b.take i) (λi=>a.length - i) 0 ?_ ?_ ?_))))));exact Zn (kp3 Z Z Z);simp;intro i T;refine Qw (Qd λK C=>mv2 Z Z (QW Z QE (ZK Z Z (kc4 C Z Z Z Z (Qs Z (λM=>?_) (λM=>?_))))));rw[M];simp only[qA]at M;refine Qp (ks3 Z Z Z (Qw (Qu (Qd λK C=>mv2 Z Z (Qt Z Z Z Wa (QH Wa) Z (QG (ds0:=[0]) Z Z Z Z Z (mv2 Z Z (Qt Z Z Z Wa (QH Wa) Z (QG (ds0:=[0]) Z Z Z Z Z (Ys Z Z (kc4 C Z Z Z Z (Qs Z (λG=>?_) (λG=>?_)))))))))))));rw[G];simp only[qA]at G;refine Qd λK C=>Qb Z (kc1 C Z (Qv (Qm (Qi (QQ (Qm (Qi (Qg Z ?_))))))))
 grind
 rw[G];simp only[qA]at G;refine Qp (Qk (ks3 Z Z Z (QJ λK C=>Qb Z (Q2 Z Z Wb (Qb Z (C _ (Qj (i+1) ?_ ?_ ?_)))))));exact Zn (kp3 Z Z Z)
 grind [Qak]
 omega;rw[M];simp only[qA]at M;refine Q3 (QF (Qx (QD (QK (QL) (Qd λK C=>Qb Z (kc1 C Z (Qv (Qg Z ?_))))))))
 grind
theorem set_rI {o:List Int} {k:Nat} {b:Int}:(o.map rI).set k [.int .i64 b]=(o.set k b).map rI:=QFQ.symm
variable {c:List Int} {i:Nat} {w:Ql}
def cN (c:List Int) (i:Nat):List Int:=c.take i++List.replicate (c.length - i) (-1)
theorem Qsf (h:i<=c.length):(cN c i).length=c.length:=by grind [cN]
theorem Qsd (h0:0<i) (h:i<=c.length) (C:i - 1<(cN c i).length):(cN c i)[i - 1]=c[i - 1]:=by
 grind [cN]
theorem QwE (h0:0<i) (h:i<=c.length):(cN c i).set (i - 1) (-1)=cN c (i - 1):=by
 refine QFS (by grind [cN]) λj G C=>?_
 grind [cN]
theorem Qse (h0:0<i) (h:i<=c.length) {x:Int}:(cN c i).set (i - 1) x=c.take (i - 1)++x::List.replicate (c.length - (i - 1+1)) (-1):=by
 refine QFS (by grind [cN]) λj G C=>?_
 grind [cN]
def nxB (w:Ql) (c:List Int):Bool:=(nxU (YF w) c).isSome
def nxC (w:Ql) (c:List Int):List Int:=(nxU (YF w) c).getD (List.replicate c.length (-1))
theorem nums_get (h:i<w.length):(YF w)[i]'(by grind [YF])=w[i].cs.length:=by simp[YF]
section
variable {w:Ql} {c:List Int} {i:Nat} {q:List Int}
theorem QoO (C:c.length=w.length) (h0:0<i) (hi:i<=c.length) (G:nxU ((YF w).drop i) (c.drop i)=none) (hx:c[i - 1]'Wa+1<((w[i - 1]'Wa).cs.length:Int)):nxU (YF w) c=some ((cN c i).set (i - 1) (c[i - 1]'Wa+1)):=by
 grind [YF,Qse,Qtq]
theorem Qtr (C:c.length=w.length) (h0:0<i) (hi:i<=c.length) (G:nxU ((YF w).drop i) (c.drop i)=none) (hx:¬c[i - 1]'Wa+1<((w[i - 1]'Wa).cs.length:Int)):nxU ((YF w).drop (i - 1)) (c.drop (i - 1))=none:=by
 grind [YF,Qxl]
theorem QoL {d:List Int} (h:nxU (YF w) c=some d):true=nxB w c/\d=nxC w c:=by rw[nxB,nxC,h];simp
theorem Qto (h:nxU ((YF w).drop 0) (c.drop 0)=none):false=nxB w c/\cN c 0=nxC w c:=by
 have C:=Qtp h;rw[nxB,nxC,C];trivial
theorem toN (h0:0<i):((i:Int) - 1).toNat=i - 1:=Wa
end
theorem GU (hw:Xc w) (U:c.length<=1048576):o7 Tryz.prog 22 [Q9 w,Q0 c] [] (.u4 500000 (tidyR w c).length) [(500000,⟨(tidyR w c).map rI,1,3,true⟩)]:=by
 refine o7.new tfol Tryz.func22 QzO (QEi Z) Z ?_;show TW _ _ tf22.body _ _;have T:=FF w c;have O:=Tm w c;refine Qd λK C=>Zu Z Z Z (Qb Z (kc2 C Z Z (Qd λK C=>Qb Z (kc3 C Z Z Z (Qd λK C=>QB (cs:=[_]) Z Z Z Z (Qb Z (QA (Jf hw U) Z Z (.inl Z) (Qb Z (kc3 C Z Z Z (Qw (Qd λK C=>Qb Z (kc4 C Z Z Z Z (Qu (Q8 (ι:=Nat) (λi=>⟨[(1,Q0 c),(5,.u4 5 ((tidyR w c).take i).length),(6,R9 (neededR w c)),(7,.int .i64 i)],[(5,⟨((tidyR w c).take i).map rI,1,3,true⟩)]⟩) (λi=>i<=(neededR w c).length) (λi=>(neededR w c).length - i) 0 ?_ ?_ ?_))))))))))))));exact le_trans (Z1 5 5 1 3 Z Z) (QM (l:=[1,5,6,7]) (lH:=[5]) (kp4 Z Z Z Z) (Qa Z Qf) Z Z Z);omega;intro i V;have hlen:((tidyR w c).take i).length<=i:=by grind
 refine Qw (Qd λK C=>mv2 Z Z (QW Z QE (ZK Z Z (kc5 C Z Z Z Z Z (Qs Z (λM=>?_) (λM=>?_))))));rw[M];simp only[qA]at M;refine Qp (ks4 Z Z Z Z (Qw (Qu (Qd λK C=>mv2 Z Z (Qt Z Z Z Wa (QH Wa) Z (Qr Z Z Z (Qb Z (kc5 C Z Z Z Z Z (Qw (Qd λK C=>mv2 Z Z (Qt Z Z Z Wa (QH Wa) Z (Qr Z Z Z (Zp Z (kc6 C Z Z Z Z Z Z (Qs Z (λG=>?_) (λG=>?_))))))))))))))));rw[G];simp only[qA]at G;refine QJ λK C=>Qb Z (C _ (ks5 Z Z Z Z Z (QJ λK C=>mv2 Z Z (QZ Z Z (Yl Z Z (λ_ h=>YZ Z Z Z h) Z Wd Z Z Z Wc Wc (Qb Z (C _ (Qk (ks4 Z Z Z Z (QJ λK C=>Qb Z (Q2 Z Z Wb (Qb Z (C _ (Qj (i+1) ?_ ?_ ?_))))))))))))));exact QM (l:=[1,5,6,7]) (lH:=[5]) (kp4 Z Z Z Z) (Qa Z Qf) (by rw[XR Wa,QEY]<;>rfl) (by rw[XR Wa,QFm,tdAt,if_neg (by grind [Mo])]<;>rfl) Z
 omega;omega;rw[G];simp only[qA]at G;refine Qp (ks5 Z Z Z Z Z (QJ λK C=>mv2 Z Z (QZ Z Z (Yl Z Z (λ_ h=>YZ Z Z Z h) Z Wd Z Z Z Wc Wc (Qb Z (C _ (Qk (ks4 Z Z Z Z (QJ λK C=>Qb Z (Q2 Z Z Wb (Qb Z (C _ (Qj (i+1) ?_ ?_ ?_)))))))))))));exact QM (l:=[1,5,6,7]) (lH:=[5]) (kp4 Z Z Z Z) (Qa Z Qf) (by rw[XR Wa,QEY]<;>rfl) (by rw[XR Wa,QFm,tdAt,if_pos (by grind [Mo]),Ym Wa]<;>rfl) Z
 omega;omega;rw[M];simp only[qA]at M;refine Q3 (QF (Qx (QD (ks1 Z (MO (G9 (l:=[]) (lH:=[]) 5 500000 5 (QL) Qf Z Z Z Z Z Z Z) (Qd λK C=>mv2 Z Z (kc1 C Z (Qv ?_))))))));rw[QEy (Wa:(tidyR w c).length<=i)];exact Yz Z Wg λk b h=>h
theorem FY (hw:Xc w) (G:z6 w c):o7 Tryz.prog 72 [Q9 w,.u4 1000018 c.length] [(1000018,⟨c.map rI,1,3,true⟩)] (.bool (nxB w c)) [(1000018,⟨(nxC w c).map rI,1,3,true⟩)]:=by
 have Y:=G.len;have hwl:=hw.len;refine o7.n7 tfol Tryz.func72 QDX (QEi Z) (λk hk h=>?_) (λk b h=>?_) ?_
 grind [lk]
 ·simp only[Qz]at h
  (repeat' split at h)<;>first |grind [x4.ids] |cases h
 show TW _ _ tf72.body _ _;refine Qd λK C=>Zu Z Z Z (Qb Z (kc2 C Z Z (Qw (Qd λK C=>Qb Z (QW Z Z (J7 Z Z (Qn Wa Wa) (Qb Z (kc3 C Z Z Z (Qu (Q8 (ι:=Nat × List Int) (λs=>⟨[(1,.u4 1000018 (s.2).length),(2,.ref 2 0 0),(5,.int .i64 ((s.1:Int) - 1))],[(2,⟨[[.sl (w.map Zv)]],1,25,true⟩),(1000018,⟨(s.2).map rI,1,3,true⟩)]⟩) (λs=>s.1<=c.length/\s.2=cN c s.1/\nxU ((YF w).drop s.1) (c.drop s.1)=none) (λs=>s.1) (c.length,c) ?_ ?_ ?_))))))))));exact QM (l:=[1,2,5]) (lH:=[2,1000018]) (kp3 Z Z Z) (Qa Z (Qa Z Qf)) Z Z Z;exact⟨QEI _,by simp[cN],QkH (by grind [YF])⟩;intro s M;have hsl:s.2.length=c.length:=by grind [Qsf]
 have hat:∀h:0<s.1,s.2[((s.1:Int) - 1).toNat]'Wa=c[s.1 - 1]'Wa:=λh=>by grind [Qsd]
 have V:∀h:0<s.1,(w[((s.1:Int) - 1).toNat]'Wa).cs.length=(w[s.1 - 1]'Wa).cs.length:=λh=>by simp
 refine Qw (Qd λK C=>Qb Z (Gw Z Z (kc4 C Z Z Z Z (Qs Z (λT=>?_) (λT=>?_)))));rw[T];simp only[qA]at T;have hat1:=hat Wa;have hwt1:=V Wa;have hbd:=G.bd (s.1 - 1) Wa Wa;have hcs1:=hw.cl _ (QEn (Wa:s.1 - 1<w.length));refine Qp (ks3 Z Z Z (Qw (Qu (Qw (Qd λK C=>mv2 Z Z (XW (ds0:=[9,8,0]) Z Z Z Wd Wa Wa Z Z Z (QG (ds0:=[8,0]) Z (Xd Z (Q5 Wa Wa)) Z Z Z (Q2 Z Z (Qn Wa Wa) (Qe Z Z (QG (ds0:=dn 5) Z Z Z Z Z (Qb Z (Qt Z Z Z Wa (Q5 Wa Wa) Z (Q7 Z Z (QG (ds0:=[1,0]) Z Z Z Z Z (QW Z QE (ZK Z Z (kc4 C Z Z Z Z (Qs Z (λO=>?_) (λO=>?_)))))))))))))))))));rw[O];simp only[qA]at O;refine Qd λK C=>mv2 Z Z (ZE Z Z Z Wd Wa Wa Z (Qr Z (Xd Z (Q5 Wa Wa)) Z (Q2 Z Z (Qn Wa Wa) (ZE Z Z Z Wd Wa Wa Z (Za Z Z (Q5 Wa Wa) Z Z Z Z Z (C _ _ (Zt (QL) (Qd λK C=>Qb Z (kc1 C Z (Qv (Qi (Qm (Qi (QQ (Qm (Qi ?_))))))))))))))));have U:=QoL (QoO Y (Wa:0<s.1) M.1 M.2.2 Wa);have e:(s.2.map rI).set (((s.1:Int) - 1).toNat) [.int .i64 (s.2[((s.1:Int) - 1).toNat]'Wa+1)]=(nxC w c).map rI:=by simp_all [set_rI]
 rw[<- U.1,<- e];exact Yz Z Z (Tk Z);rw[O];simp only[qA]at O;refine Qp (ks3 Z Z Z (QJ λK C=>mv2 Z Z (ZE Z Z Z Wd Wa Wa Z (Za Z Z (Q5 Wa Wa) Z Z Z Z Z (C _ (Qk (ks3 Z Z Z (QJ λK C=>Qb Z (J7 Z Z (Qn Wa Wa) (Qb Z (C _ (Qj (s.1 - 1,s.2.set ((s.1:Int) - 1).toNat (-1)) ?_ ?_ ?_))))))))))));exact QM (l:=[1,2,5]) (lH:=[2,1000018]) (kp3 Z Z Z) (Qa Z (Qa Z Qf)) Wc (by rw[<- set_rI]<;>rfl) Z
 grind [QwE,Qtr]
 omega;rw[T];simp only[qA]at T;refine Q3 (QF (Qx (QD (QK (QL) (Qd λK C=>Qb Z (kc1 C Z (Qv ?_)))))));have h0:s.1=0:=Wa;rw[h0]at M;have U:=Qto M.2.2;rw[<- U.1,<- U.2,<- M.2.1];exact Yz Z Z (Tk Z)
end Go.Proofs
namespace Go.Abs
open Go
variable {K:St->Prop} {Q:AExit->St->Prop} {l ol:List u3} {s:St}
section
variable {P:Program} {nt:Nat} {E:Env}
def NN (P:Program):List u3->(St->Prop)->St->Prop
 |[],K,s=>K s
 |o::r,K,s=>∃s',s.le s'/\Qfh P o (NN P r K) s'
theorem Ll {ops:Array Oper} {K:St->Prop} {Q:Exit->Act->World->Prop} (G:E.nt=nt) (C:∀(j:Nat) (o':Oper),ops[j]?=some o'->∀t,o'.dst=some t->t<E.nt):∀(l:List Oper) (k:Nat) (l':List u3) (s:St) (g:Gh) (a:Act) (w:World),(∀j,l[j]?=ops[k+j]?)->
  QV P nt ops l=some l'->Rel E g s a w->NN P l' K s->(∀s' g' a' w',Rel E g' s' a' w'->K s'->Q .normal a' w')->wpOps P ops Q (List.range' k l.length) a w
 |[],k,l',s,g,a,w,_,hp,r,h,hK=>by
  simp only[QV,QEl]at hp;subst hp;exact hK s g a w r h
 |o::l,k,l',s,g,a,w,hl,hp,r,h,hK=>by
  simp only[QV]at hp;split at hp;rename_i o' M e1 e2;cases hp
  have h0:ops[k]?=some o:=by simpa using(hl 0).symm
  rw[QEZ,QFn,wpOps_cons];unfold wpOp;rw[h0];simp only;obtain⟨s1,hle,h⟩:=h;obtain⟨g1,r1⟩:=hle E g a w r
  have:=Mq (Q:=Q) G r1 e1 C h (K':=wpOps P ops Q (List.range' (k+1) l.length)) λs' g' a' w' r2 O=>
    Ll G C l (k+1) M s' g' a' w' (λj=>by have:=hl (j+1);grind) e2 r2 O hK
  grind
  grind
theorem QdP (h:NN P l (Q .normal) s):AW P nt (.region false l) Q s:=λcode E g a w hm hp G T r=>by
 obtain⟨id,ops,rfl,_,C⟩:=Jp hp;refine wpIn_region (Hc (λ⟨_,_,h⟩=>h) (YP C) _ _ _ ?_);rw[QFw,<- QE1];exact Ll G (λj o' ho t O=>by rw[G];exact YA C j o' ho t O) ops.toList 0 l s g a w Wd C r h λs' g' a' w' M U=>⟨s',g',U,M⟩
theorem MZ {r:List u3} {K:St->Prop}:∀{l:List u3} {s:St},GF P l (NN P r K) s->NN P (l++r) K s
 |[],_,h=>h
 |_::_,s,h=>⟨s,Qom,MY (λ_ h=>MZ h) h⟩
theorem Qpo {lr:List u3} {o:u3} (h:run P .fixed l (λs1=>∃s2,s1.le s2/\NN P (o::lr) K s2) s) (G:ol=l++o::lr:=by rfl):NN P ol K s:=by
 subst G;refine MZ (Y0 (λs1 h=>?_) (Ye h));obtain⟨s2,T,C,O,M⟩:=h;exact⟨C,le_trans T O,M⟩
theorem Qk2 (h:run P .fixed l K s):NN P l K s:=by
 have:=MZ (P:=P) (r:=[]) (K:=K) (Ye h)
 grind
theorem QmX (h:∀K:St->Prop,(∀s,Q .normal s->K s)->NN P ol K s):TW P nt (.region false ol) Q s:=QdP (h _ λ_ h=>h)
end
end Go.Abs
namespace Go.Proofs
open Go Go.Abs M3 M25
variable {c:List Int} {n:Nat} {s:St} {w:Ql}
def eAt (w:Ql) (t:Nat):List Int:=(Z9 (YF w)).getD t []
noncomputable def oR (w:Ql) (t:Nat):List (List Int):=((Z9 (YF w)).take t).filter (goodM w)
section
variable {w:Ql} {t:Nat} {most:Int}
theorem M8 (C:t<(Z9 (YF w)).length):eAt w t=(Z9 (YF w))[t]:=by grind [eAt]
theorem Qcn (C:t<(Z9 (YF w)).length):z6 w (eAt w t):=by
 rw[M8 C];exact C8 (q:=[]) (va.nil w) Wd
theorem Qj1 (w:Ql):0<(Z9 (YF w)).length:=by
 obtain⟨l,C⟩:=Fy (YF w);grind
theorem QwV (w:Ql):eAt w 0=List.replicate w.length (-1):=by
 obtain⟨l,C⟩:=Fy (YF w)
 grind [eAt,QrC,YF,List.map_const',List.length_map]
theorem Qxm (w:Ql) (t:Nat):(oR w t).length<=(Z9 (YF w)).length:=by
 refine QEB (List.length_filter_le _ _) ?_
 grind
theorem Qc8 (C:t<(Z9 (YF w)).length) (G:goodM w (eAt w t)=true):oR w (t+1)=oR w t++[eAt w t]:=by
 rw[M8 C]at G ⊢;rw[oR,oR,QFB C,List.filter_append,QFM,if_pos G];rfl
theorem Qhg (C:t<(Z9 (YF w)).length) (G:goodM w (eAt w t)=false):oR w (t+1)=oR w t:=by
 rw[M8 C]at G;rw[oR,oR,QFB C,List.filter_append,QFM,if_neg Wc];simp
theorem Qts (C:QrI w) (h:(Z9 (YF w)).length<=t):oR w t=allW w:=by rw[oR,QEy h];exact C.symm
theorem QxE (w:Ql) (most:Int):YY (pA most) [] (oR w 0)=(oR w 0,true):=by rfl
theorem DY (O:QrI w) (M:YY (pA most) [] (oR w t)=(oR w t,true)) (C:t<(Z9 (YF w)).length) (G:goodM w (eAt w t)=true) (hm:most<=(oR w t).length):YY (pA most) [] (allW w)=(oR w t,false):=by
 have e:allW w=oR w (t+1)++((Z9 (YF w)).drop (t+1)).filter (goodM w):=by
  rw[oR,<- List.filter_append,QES];exact O
 rw[e,Qc8 C G,QFa,MD,M];show YY (pA most) (oR w t) _=_
 (repeat clear hK K);simp_all [pA,YY]
theorem QtO (M:YY (pA most) [] (oR w t)=(oR w t,true)) (C:t<(Z9 (YF w)).length) (G:goodM w (eAt w t)=true) (hm:¬most<=(oR w t).length):YY (pA most) [] (oR w (t+1))=(oR w (t+1),true):=by
 have e2:(pA most).st (oR w t) (eAt w t)=(oR w t++[eAt w t],true):=if_neg hm;rw[Qc8 C G,MD,M]
 grind [Qdu]
theorem Qdw (M:YY (pA most) [] (oR w t)=(oR w t,true)) (C:t<(Z9 (YF w)).length) (G:goodM w (eAt w t)=false):YY (pA most) [] (oR w (t+1))=(oR w (t+1),true):=by grind [Qhg]
theorem QcE (hm:v8 w) (G:t<(Z9 (YF w)).length) (O:Jd w (eAt w t)=true) (M:tidyR w (eAt w t)=eAt w t):goodM w (eAt w t)=true:=by
 have C:=Qcn G;rw[Fr (GB hm ⟨C.len,C.bd⟩)]at M
 grind [KZ]
theorem Qa5 (hm:v8 w) (G:t<(Z9 (YF w)).length) (M:¬tidyR w (eAt w t)=eAt w t):goodM w (eAt w t)=false:=by
 have C:=Qcn G;rw[Fr (GB hm ⟨C.len,C.bd⟩)]at M
 (repeat clear hK K);simp_all [QFW,KZ]
theorem Qa4 (C:Jd w (eAt w t)=false):goodM w (eAt w t)=false:=QFW.2 λh=>by
 grind [KZ]
theorem QoN (C:t<(Z9 (YF w)).length) (h:nxB w (eAt w t)=true):t+1<(Z9 (YF w)).length/\nxC w (eAt w t)=eAt w (t+1):=by
 have e:=C4 C;rw[<- M8 C]at e;rw[nxB,e]at h
 grind [nxC,M8]
theorem QoM (C:t<(Z9 (YF w)).length) (h:nxB w (eAt w t)=false):(Z9 (YF w)).length<=t+1:=by
 grind [C4,M8,nxB]
end
theorem QlM {d C e e':D} (M:XX s d=C) (G:XX s e=e'):[d,e].map (XX s)=[C,e']:=by grind
theorem QaF {fr:QEg} {H:QEf} {k:Nat} (h:lk H k=some ⟨c.map rI,1,3,true⟩) (C:n=c.length):XX ⟨fr,H⟩ (.u4 k n)=Q0 c:=LL h rfl Wc rfl
theorem Quf (hw:Xc w) (M:c.length<=1048576) (G:n=c.length) (h0:s.ev (.s 32)=some (Q9 w)) (Y:s.ev (.s 33)=some (.u4 18 n)) (V:lk s.H 18=some ⟨c.map rI,1,3,true⟩) (U:lk s.H 34=none):
  Kx Tryz.prog 22 [.s 32,.s 33] s [(18,⟨c.map rI,1,3,true⟩)] [(34,⟨(tidyR w c).map rI,1,3,true⟩)] [] (.u4 34 (tidyR w c).length):=by
 subst G;refine⟨[Q9 w,.u4 18 c.length],by grind [Zh],λk b hk=>?_,λk b hk j C=>?_,λx hx j C=>?_,(λk b hk=>by cases hk),λk b hk=>?_,λk hk=>?_,.inl ?_⟩;obtain⟨rfl,rfl⟩:=K5 hk;omega;obtain⟨rfl,rfl⟩:=K5 hk;trivial;simp at hx;rcases hx with rfl |rfl
 trivial;simp[D.ids,D.y4]at C;subst C;rfl;obtain⟨rfl,rfl⟩:=K5 hk;grind [x4.ids];simp[D.ids,D.y4]at hk;subst hk;rfl;have T:=o7.we (QzL (a:=500000) (b:=34) We We) (GU hw M) (ds2:=[Q9 w,Q0 c]) (H2:=[]) (d2:=.u4 34 (tidyR w c).length) (H2':=[(34,⟨(tidyR w c).map rI,1,3,true⟩)]) rfl rfl rfl (by simp only[K7,QEW,QFx,x4.u5,X7];rfl)
 have O:=o7.gg (H:=upH [(18,⟨c.map rI,1,3,true⟩)]) (ds:=[Q9 w,D.u4 1000018 c.length]) 3 T (by
  simp only[upH,QEW,QFx,x4.u5,X7,D.mc,D.xc,Qz];simp[upN,rI,D.xc,D.own,Q0,Q9]) rfl (λr hr d hd=>by obtain⟨v,_,rfl⟩:=QEw.1 hr;simp[rI]at hd;subst hd;rfl) We rfl
 exact O
theorem QzW:upN 18=1000018:=by rfl
theorem Qxj (hw:Xc w) (G:z6 w c) (M:n=c.length) (h0:s.ev (.s 48)=some (Q9 w)) (T:s.ev (.s 49)=some (.u4 18 n)) (O:lk s.H 18=some ⟨c.map rI,1,3,true⟩):
  Kx Tryz.prog 72 [.s 48,.s 49] s [(18,⟨c.map rI,1,3,true⟩)] [] [(18,⟨(nxC w c).map rI,1,3,true⟩)] (.bool (nxB w c)):=by
 subst M;refine Qsi (ds:=[Q9 w,.u4 18 c.length]) (ds':=[Q9 w,.u4 1000018 c.length]) (b':=⟨(nxC w c).map rI,1,3,true⟩) (by grind [Zh]) (λk b hk=>?_) (λk b hk j C=>?_) (λx hx j C=>?_) rfl rfl rfl ?_ (by grind [x4.u5,X7]) ?_;obtain⟨rfl,rfl⟩:=K5 hk;omega;obtain⟨rfl,rfl⟩:=K5 hk;trivial;simp at hx;rcases hx with rfl |rfl
 trivial;simp[D.ids,D.y4]at C;subst C;rfl;rfl;refine o7.oh (λk=>?_) (λk=>?_) (FY hw G)
 grind [upH,x4.u5,X7,QzW]
 grind [upH,QzW,Qz]
theorem QtL:List.replicate (n:Int).toNat [D.int .i64 0]=(List.replicate n (0:Int)).map rI:=by
 rw[QFV];rfl
theorem QnY {i:Nat} (h:i<c.length) (e:c.take i=List.replicate i (-1)):(c.set i (-1)).take (i+1)=List.replicate (i+1) (-1):=by
 (repeat clear hK K);simp_all [QFB,List.take_set_of_le,List.replicate_succ']
variable {most:Int}
theorem LV (hwr:Xc w) (hm:¬v8 w):Ok Tryz.prog 37 [Q9 w,.int .i64 most] (.g8 [F4 [],.bool true]):=by
 refine Ok.n7 tfol Tryz.func37 QzQ (QEi Z) ?_;show TW _ _ tf37.body _ _;refine Qd λK C=>Zu Z Z Z (mv2 Z Z (kc2 C Z Z (Qd λK C=>Qb Z (kc3 C Z Z Z (Qw (Qd λK C=>QB (cs:=[_]) Z Z Z Z (QA (HV hm ▸ YS hwr) Z Z (.inr Z) (Zp Z (kc4 C Z Z Z Z (Zb Z (Qd λK C=>mv2 Z Z (kc2 C Z Z (Qv (Qi ?_))))))))))))));exact ZD Z Z ⟨rfl,rfl⟩
theorem GW (hwr:Xc w) (hm:v8 w) (hE:(Z9 (YF w)).length<=1048576):Ok Tryz.prog 37 [Q9 w,.int .i64 most] (.g8 [F4 (YY (pA most) [] (allW w)).1,.bool (YY (pA most) [] (allW w)).2]):=by
 refine Ok.n7 tfol Tryz.func37 QzQ (QEi Z) ?_;show TW _ _ tf37.body _ _;have hv:=hm.val hwr;have hw:=hv.ud;have hr:=hv.se;have h0:0<w.length:=hv.len.1;have hwl:=hw.len;have hA:=Qfb hw hr h0;refine Qd λK C=>Zu Z Z Z (mv2 Z Z (kc2 C Z Z (Qd λK C=>Qb Z (kc3 C Z Z Z (Qw (Qd λK C=>QB (cs:=[_]) Z Z Z Z (QA ((SO hm ▸ YS hwr)) Z Z (.inr Z) (Zp Z (kc4 C Z Z Z Z (Qs Z (λh1=>?_) (λh1=>?_)))))))))))
 grind
 rw[h1];simp only[qA]at h1;refine Qp (ks3 Z Z Z (Qd λK C=>QB (cs:=[_]) Z Z Z Z (QA (GH hw) Z Z (.inl Z) (Zk Z (Za Z Z Z Z Z Z Z Z (kc4 C Z Z Z Z (Qd λK C=>Qe Z Z (Qr Z Z Z (QW Z QE (RF Z Z Z Wa Wa Wa (Qb Z (kc5 C Z Z Z Z Z (Qw (Qd λK C=>Qb Z (kc6 C Z Z Z Z Z Z (Qu (Q8 (ι:=Nat × List Int) (λs=>⟨[(1,.int .i64 most),(2,.ref 2 0 0),(6,.u7 []),(7,.ref 7 0 0),(8,.u4 18 (s.2).length),(9,.int .i64 s.1)],[(2,⟨[[.sl (w.map Zv)]],1,25,true⟩),(7,⟨[T1 w],3,132,true⟩),(18,⟨(s.2).map rI,1,3,true⟩)]⟩) (λs=>s.1<=w.length/\s.2.length=w.length/\s.2.take s.1=List.replicate s.1 (-1)) (λs=>w.length - s.1) (0,List.replicate w.length 0) ?_ ?_ ?_)))))))))))))))));exact QM (l:=[1,2,6,7,8,9]) (lH:=[2,7,18]) (kp6 Z Z Z Z Z Z) (Qa Z (Qa Z (Qa Z Qf))) Wd (by rw[QtL]<;>rfl) Z
 simp;intro s hI;have hsl:=hI.2.1;refine Qw (Qd λK C=>mv2 Z Z (QW Z Z (ZK Z Z (kc7 C Z Z Z Z Z Z Z (Qs Z (λh2=>?_) (λh2=>?_))))));rw[h2];simp only[qA]at h2;refine Qp (ks6 Z Z Z Z Z Z (Qw (Qu (QJ λK C=>mv2 Z Z (ZE Z Z Z Wd Wa Wa Z (Za Z Z (QH Wa) Z Z Z Z Z (C _ (Qk (ks6 Z Z Z Z Z Z (QJ λK C=>Qb Z (Q2 Z Z Wb (Qb Z (C _ (Qj (s.1+1,s.2.set s.1 (-1)) ?_ ?_ ?_))))))))))))));exact QM (l:=[1,2,6,7,8,9]) (lH:=[2,7,18]) (kp6 Z Z Z Z Z Z) (Qa Z (Qa Z (Qa Z Qf))) Wd (by rw[<- set_rI]<;>rfl) Z
 grind [QnY]
 omega;rw[h2];simp only[qA]at h2;refine Q3 (QF (Qx (QD (ks5 Z Z Z Z Z (Qu ?_)))));have V:s.2=eAt w 0:=by grind [QwV]
 refine Q8 (ι:=Nat) (λt=>⟨[(1,.int .i64 most),(2,.ref 2 0 0),(6,.u4 6 (oR w t).length),(7,.ref 7 0 0),(8,.u4 18 (eAt w t).length)],[(2,⟨[[.sl (w.map Zv)]],1,25,true⟩),(6,⟨(oR w t).map rL,1,22,true⟩),(7,⟨[T1 w],3,132,true⟩),(18,⟨(eAt w t).map rI,1,3,true⟩)]⟩) (λt=>t<(Z9 (YF w)).length/\YY (pA most) [] (oR w t)=(oR w t,true)) (λt=>(Z9 (YF w)).length - t) 0 ?_ ?_ ?_;exact le_trans (Z1 6 6 1 22 Z Z) (QM (l:=[1,2,6,7,8]) (lH:=[2,6,7,18]) (kp5 Z Z Z Z Z) (Qa Z (Qa Z (Qa Z (Qa Z Qf)))) (by rw[V]<;>rfl) (by rw[V]<;>rfl) Z)
 grind [Qj1,QxE]
 intro t G;have O:=Qcn G.1;have hcl:=O.len;have hol:=Qxm w t;refine Qu (HD (ι:=Unit) (λ_=>⟨[(1,.int .i64 most),(2,.ref 2 0 0),(6,.u4 6 (oR w (t+1)).length),(7,.ref 7 0 0),(8,.u4 18 (eAt w t).length)],[(2,⟨[[.sl (w.map Zv)]],1,25,true⟩),(6,⟨(oR w (t+1)).map rL,1,22,true⟩),(7,⟨[T1 w],3,132,true⟩),(18,⟨(eAt w t).map rI,1,3,true⟩)]⟩) (λ_=>YY (pA most) [] (oR w (t+1))=(oR w (t+1),true)) ?_ ?_)
 skip
 refine Qd λK C=>QB (cs:=[_,_,_]) Z Z Z Z (Qb Z (QA (F0 hw hr O h0) Z (QlM Z (QaF Z Z)) (.inr Z) (Qb Z (Qq (g:=31) Z (λU=>?_) (λU=>?_)))));rw[U];refine Qc Z (QB (cs:=[_]) Z Z Z Z (Qc Z (Qb Z (Qc Z (RD (Quf hwr Wa Z Z Z Z Z) (Qc Z (Qb Z (Qc Z (QA (ZA (a:=tidyR w (eAt w t)) (b:=eAt w t) (by grind [Lv])) Z (QlM (QaF Z Z) (QaF Z Z)) (.inr Z) (Qh Z Z (kc6 C Z Z Z Z Z Z ?_)))))))))));refine Qs Z (λM=>?_) (λM=>?_);rw[M];simp only[qA]at M;refine Qw (Qd λK C=>Qb Z (QW Z Z (Qb Z (Gw Z Z (kc6 C Z Z Z Z Z Z (Qs Z (λT=>?_) (λT=>?_)))))));rw[T];simp only[qA]at T;refine Qd λK C=>mv2 Z Z (Qb Z (kc2 C Z Z (Qv (Qi (YI (Qm (QQ (Qm ?_))))))));rw[DY hA G.2 G.1 (QcE hm G.1 U M) T];exact ZD Z Z ⟨LL Z Z Wd rfl,rfl⟩;rw[T];simp only[qA]at T;refine Qp (ks5 Z Z Z Z Z (QmX λK C=>?_))
 (refine Qpo (l:=[_,_,_]) ?_)
 refine mv2 Z Z (GL Z Z (λ_ h=>YZ Z Wd Z h) Z (.inl Z) (λr hr=>by grind) Wc Wc (Qaz ?_))
 (refine⟨_,le_trans (Mf (l:=[1,2,6,7,8,43]) (lH:=[2,6,7,18]) 45 45 (kp6 rfl rfl rfl rfl rfl rfl) (Qa rfl (Qa rfl (Qa rfl (Qa rfl Qf)))) rfl rfl rfl Wd rfl rfl rfl rfl) (QM (fr':=[(1,.int .i64 most),(2,.ref 2 0 0),(6,.u4 6 (oR w t).length),(7,.ref 7 0 0),(8,.u4 18 (eAt w t).length),(43,.u4 6 (oR w t).length),(45,Q0 (eAt w t))]) (H':=[(2,⟨[[.sl (w.map Zv)]],1,25,true⟩),(6,⟨(oR w t).map rL,1,22,true⟩),(7,⟨[T1 w],3,132,true⟩),(18,⟨(eAt w t).map rI,1,3,true⟩)]) (l:=[1,2,6,7,8,43,45]) (lH:=[2,6,7,18]) (kp7 rfl rfl rfl rfl rfl rfl rfl) (Qa rfl (Qa rfl (Qa rfl (Qa rfl Qf)))) rfl rfl rfl rfl), ?_⟩)
 (refine Qk2 ?_)
 refine Zo Z Z (Yl Z Z (λ_ h=>Qaf Wd h) Z Wd Z Z Z Wc Wc (Qb Z (C _ (Zl () ?_ ?_))));exact QM (l:=[1,2,6,7,8]) (lH:=[2,6,7,18]) (kp5 Z Z Z Z Z) (Qa Z (Qa Z (Qa Z (Qa Z Qf)))) (by rw[Qc8 G.1 (QcE hm G.1 U M),QEY]<;>rfl) (by rw[Qc8 G.1 (QcE hm G.1 U M),QFm]<;>rfl) Z
 grind [QtO,QcE]
 rw[M];simp only[qA]at M;refine Qp (Zl () ?_ ?_);exact QM (l:=[1,2,6,7,8]) (lH:=[2,6,7,18]) (kp5 Z Z Z Z Z) (Qa Z (Qa Z (Qa Z (Qa Z Qf)))) (by grind [Qhg,Qa5]) (by grind [Qhg,Qa5]) Z
 grind [Qdw,Qa5]
 rw[U];refine gn4 Z Z Z Z (YN Z (Qh Z Z (kc6 C Z Z Z Z Z Z (Zq Z (Qp (Zl () ?_ ?_))))));exact QM (l:=[1,2,6,7,8]) (lH:=[2,6,7,18]) (kp5 Z Z Z Z Z) (Qa Z (Qa Z (Qa Z (Qa Z Qf)))) (by grind [Qhg,Qa4]) (by grind [Qhg,Qa4]) Z
 grind [Qdw,Qa4]
 intro _ hQ;refine Qd λK C=>QB (cs:=[_]) Z Z Z Z (Qb Z (RD (Qxj hwr O Z Z Z Z) (Zp Z (kc6 C Z Z Z Z Z Z (Qs Z (λY=>?_) (λY=>?_))))));rw[Y];simp only[qA]at Y;refine Qd λK C=>mv2 Z Z (Qb Z (kc2 C Z Z (Qv (Qm (QQ (Qm ?_))))));rw[<- Qts (t:=t+1) hA (QoM G.1 Wa),hQ];exact ZD Z Z ⟨LL Z Z Wd rfl,rfl⟩;rw[Y];simp only[qA]at Y;have hnx:=QoN G.1 Wa;refine Qp (Qk (Qj (t+1) ?_ ?_ ?_));exact QM (l:=[1,2,6,7,8]) (lH:=[2,6,7,18]) (kp5 Z Z Z Z Z) (Qa Z (Qa Z (Qa Z (Qa Z Qf)))) (by rw[show(eAt w t).length=(eAt w (t+1)).length by have hz:=(Qcn hnx.1).len;omega]<;>rfl) Wc Z
 grind
 omega
theorem DV {most:Int}:∀{s l:List (List Int)},((s.length+l.length:Nat):Int)<=most->YY (pA most) s l=(s++l,true)
 |s,[],_=>by simp[YY]
 |s,c::l,h=>by
  have C:¬most<=(s.length:Int):=by grind
  have e:(pA most).st s c=(s++[c],true):=if_neg C;have G:=DV (most:=most) (s:=s++[c]) (l:=l) Wc
  grind [YY]
noncomputable def resA (w:Ql) (most:Int):D:=.g8 [F4 (YY (pA most) [] (chW w)).1,.bool (YY (pA most) [] (chW w)).2]
def QmV (w:Ql):Prop:=v8 w->(Z9 (YF w)).length<=1048576
end Go.Proofs
namespace Go.Proofs
open Go Go.Abs M3 M25
section
variable {w:Ql} (hwr:Xc w)
include hwr
theorem Qcg (C:QmV w):(chW w).length<=1048576:=by
 by_cases hm:v8 w
 rw[Tw hm,Nz hwr hm];exact QEB (List.length_filter_le _ _) (C hm);rw[CW hm];simp
end
end Go.Proofs
namespace Go.Proofs
open Go Go.Abs M3 M25
section
variable {w:Ql} (hwr:Xc w)
include hwr
theorem LW (C:QmV w) {most:Int}:Ok Tryz.prog 37 [Q9 w,.int .i64 most] (resA w most):=by
 by_cases hm:v8 w
 rw[resA,Tw hm];exact GW hwr hm (C hm);rw[resA,CW hm];exact LV hwr hm
end
end Go.Proofs
namespace Go.Proofs
open Go Go.Abs M3 M25
variable {l:List (List Int)}
section
variable {w:Ql} (hwr:Xc w)
include hwr
theorem Qfy (C:QmV w):Ok Tryz.prog 37 [Q9 w,.int .i64 1073741824] (.g8 [F4 (chW w),.bool true]):=by
 grind [LW,Qcg,resA,DV]
end
theorem QfR (h:l=[]):L3 l=.g8 [Q0 [],.bool false]:=by subst h;rfl
theorem QjU {i:Nat} (h:i<l.length) (hi:i+1=l.length):L3 l=.g8 [Q0 l[i],.bool true]:=by
 have e:l.getLast?=some l[i]:=by grind
 grind [L3]
end Go.Proofs
namespace Go.Proofs
open Go Go.Abs M3 M25
theorem JB {w:Ql} (hw:Xc w) (T:QmV w):Ok Tryz.prog 34 [Q9 w] (L3 (chW w)):=by
 refine Ok.n7 tfol Tryz.func34 QDD (QEi Z) ?_;show TW _ _ tf34.body _ _;have U:=Qcg hw T;refine Qd λK C=>Zu Z Z Z (mv2 Z Z (kc1 C Z (Qd λK C=>QB (cs:=[_]) Z Z Z Z (QA (Qfy hw T) Z Z (.inl Z) (Qb Z (QN Z Z (QN Z Z (mv2 Z Z (kc1 C Z (Qw (Qd λK C=>Qb Z (QW Z QE (Yp Z Z (kc2 C Z Z (Qs Z (λG=>?_) (λG=>?_))))))))))))))));rw[G];simp only[qA]at G;refine Qd λK C=>mv2 Z Z (kc2 C Z Z (Qv (Qi ?_)));rw[QfR (QEV Wa)];exact ZD Z Z ⟨rfl,rfl⟩;rw[G];simp only[qA]at G;refine Qp (ks1 Z (Qd λK C=>mv2 Z Z (QW Z QE (J7 Z Z (Qn Wa Wa) (Qt Z Z Z Wa (Q5 Wa Wa) Z (Qr Z Z Z (mv2 Z Z (kc2 C Z Z (Qv ?_)))))))));have O:(((chW w).length:Int) - 1).toNat<(chW w).length:=Wa;have M:(((chW w).length:Int) - 1).toNat+1=(chW w).length:=Wa;rw[QjU O M];exact ZD Z Z ⟨rfl,rfl⟩
end Go.Proofs
namespace M25
open Go Go.Abs M3
section
variable {w:Ql} {c:List Int}
theorem BF:∀{us:List Nat} {r:List Int},r.length=us.length->(∀i (h:i<r.length) (G:i<us.length), -1<=r[i]/\r[i]<us[i])->r∈Z9 us
 |[],r,h,_=>by grind [Z9]
 |n::us,[],h,_=>by grind
 |n::us,x::r,h,hb=>by
  have h0:=hb 0 Wd Wd;simp only[List.getElem_cons_zero]at h0;simp only[Z9,QEp,QEw,QEE];refine⟨(x+1).toNat,Wa,r,BF Wc λi hi C=>?_, ?_⟩;have:=hb (i+1) Wc Wc
  grind
  unfold Zw;grind
theorem QfL (C:z6 w c):c∈Z9 (YF w):=BF (by simp[YF,C.len]) λi hi M=>by
 have G:i<w.length:=by grind [YF]
 have:=C.bd i G hi
 grind [YF]
end
end M25
namespace Go.Proofs
open Go Go.Abs M3 M25
section
variable {w:Ql} {x:Int} {c:List Int} (hw:Xc w)
include hw
theorem Kl:holdsR w c=true↔v8 w/\z6 w c/\Jd w c=true:=by
 rw[holdsR,QEm];constructor;intro ⟨M,O⟩;have hm:=(Fh M).1;have C:=(Fh M).2.ch;have G:=hm.val hw;rw[Kj M,LA G.ud C G.len.1]at O
 grind
 intro ⟨hm,C,O⟩;have M:=GB hm ⟨C.len,C.bd⟩;have G:=hm.val hw;rw[Kj M,LA G.ud C G.len.1]
 grind
end
end Go.Proofs
namespace Go.Proofs
open Go Go.Abs M3 M25
theorem Pa {w:Ql} {x:Int} (h:okS w x=true):QmV w:=λhm=>by
 simp only[okS,QEm,decide_eq_true_eq]at h
 grind [Qah,SO,D8]
end Go.Proofs
namespace Go.Proofs
open Go Go.Abs M3 M25
noncomputable def goodR (w:Ql) (c:List Int):Bool:=holdsR w c&&decide (tidyR w c=c)
section
variable {w:Ql} {x:Int} {c:List Int} (hw:Xc w)
include hw
theorem Pd:goodR w c=true↔c∈chW w:=by
 rw[goodR,QEm,Kl hw,decide_eq_true_eq];constructor;intro ⟨⟨hm,C,M⟩,G⟩;rw[Fr (GB hm ⟨C.len,C.bd⟩)]at G;rw[Tw hm,Nz hw hm]
 grind [QfL,KZ]
 intro h
 by_cases hm:v8 w
 rw[Tw hm,Nz hw hm]at h;obtain⟨O,M⟩:=QFF.1 h;have C:=C8 (q:=[]) (va.nil w) (by simpa using O);rw[QFJ]at C;obtain⟨G,T⟩:=KZ.1 M;exact⟨⟨hm,C,G⟩,by rw[Fr (GB hm ⟨C.len,C.bd⟩)];omega⟩
 grind [CW]
end
theorem H3 {v:Int} {n:Nat} (G:0<n/\(n:Int)<=9223372036854775807) (C: -9223372036854775808<=v/\v<=9223372036854775807):∃u:Nat,u<n/\Ok Tryz.prog 35 [.int .i64 v,.int .i64 n] (.int .i64 (u:Int)):=by
 have O:=DI (v:=v) (n:=(n:Int)) Wa;have M:=DH (v:=v) (n:=(n:Int)) Wa;refine⟨(YE v n).toNat,Wa, ?_⟩
 grind [Z2]
end Go.Proofs
namespace Go.Proofs
open Go Go.Abs M3 M25
theorem BT {v n:Int} (h:0<n):0<=YE v n/\YE v n<n:=⟨DI h,DH h⟩
end Go.Proofs
namespace Go.Proofs
open Go Go.Abs
set_option maxRecDepth 100000
set_option maxHeartbeats 0
set_option cbv.maxSteps 100000000
def t17:TT false Tryz.f17:=⟨_,by cbv⟩
def tf17:o6:=t17.1
theorem QDs:QT Tryz.prog Tryz.f17=some tf17.erase:=by kernel_rfl
def t18:TT false Tryz.f18:=⟨_,by cbv⟩
def tf18:o6:=t18.1
theorem QDt:QT Tryz.prog Tryz.f18=some tf18.erase:=by kernel_rfl
def t25:TT false Tryz.f25:=⟨_,by cbv⟩
def tf25:o6:=t25.1
theorem QDy:QT Tryz.prog Tryz.f25=some tf25.erase:=by kernel_rfl
def t52:TT false Tryz.f52:=⟨_,by cbv⟩
def tf52:o6:=t52.1
theorem QDN:QT Tryz.prog Tryz.f52=some tf52.erase:=by kernel_rfl
def t54:TT false Tryz.f54:=⟨_,by cbv⟩
def tf54:o6:=t54.1
theorem QDP:QT Tryz.prog Tryz.f54=some tf54.erase:=by kernel_rfl
def t55:TT false Tryz.f55:=⟨_,by cbv⟩
def tf55:o6:=t55.1
theorem QDQ:QT Tryz.prog Tryz.f55=some tf55.erase:=by kernel_rfl
open M3 M25
set_option maxRecDepth 4000
set_option maxHeartbeats 1000000
variable {c:List Int} {w:Ql}
theorem LU (hw:Xc w) (hc:c.length<=1048576):Ok Tryz.prog 52 [Q9 w,Q0 c] (.bool (Qf8 w c)):=by
 refine Ok.n7 tfol Tryz.func52 QDN (QEi Z) ?_;show TW _ _ tf52.body _ _;have Y:=hw.len;refine Qd λK C=>Zu Z Z Z (Qb Z (kc2 C Z Z (Qw (Qd λK C=>Qb Z (QW Z QE (Qe Z Z (Qr Z Z Z (QW Z QE (Ys Z Z (kc3 C Z Z Z (Qs Z (λT=>?_) (λT=>?_))))))))))));rw[T];simp only[qA]at T;refine Qd λK C=>Qb Z (kc1 C Z (Qv (Qi (Qg Z ?_))));exact(Qj7 λh=>by have:=h.len;omega).symm
 rw[T];simp only[qA]at T;refine Qp (ks2 Z Z (Qw (Qd λK C=>Qb Z (QW Z QE (Qb Z (kc4 C Z Z Z Z (Qu (Q8 (ι:=Nat) (λi=>⟨[(2,.ref 2 0 0),(13,Q0 c),(14,.int .i64 c.length),(15,.int .i64 i)],[(2,⟨[[.sl ((w).map Zv)]],1,25,true⟩)]⟩) (λi=>i<=c.length/\∀j (h:j<c.length) (G:j<w.length),j<i->-1<=c[j]/\c[j]<w[j].cs.length) (λi=>c.length - i) 0 ?_ ?_ ?_))))))));exact QM (l:=[2,13,14,15]) (lH:=[2]) (kp4 Z Z Z Z) (Qa Z Qf) Z Z Z;simp;intro i V;refine Qd λK C=>ZK Z Z (kc5 C Z Z Z Z Z (Qw (Qs Z (λG=>?_) (λG=>?_))));rw[G];simp only[qA]at G;refine Qp (ks4 Z Z Z Z (Qw (Qu (Qd λK C=>Qb Z (Qt Z Z Z Wa (QH Wa) Z (Qr Z Z Z (mv2 Z Z (kc6 C Z Z Z Z Z Z (Qd λK C=>Qb Z (ZK Z Z (Qb Z (Qq (g:=22) Z (λO=>?_) (λO=>?_)))))))))))));rw[O];simp only[qA]at O;refine gn4 Z Z Z Z (gn4 Z Z Z Z (YN Z (Qh Z Z (kc5 C Z Z Z Z Z (Zb Z (Qd λK C=>Qb Z (kc1 C Z (Qv (Qm (Qi (QQ (Qm (Qi (Qg Z ?_))))))))))))));exact(Qj7 λh=>by have:=h.bd i Wa Wa;omega).symm
 rw[O];simp only[qA]at O;refine Qc Z (Qb Z (Qc Z (Qe Z Z (Qc Z (Qr Z Z Z (Qc Z (Qb Z (Qc Z (Qt Z Z Z Wa (QH Wa) Z (Qc Z (Q7 Z Z (Qc Z (Qr Z Z Z (Qc Z (QW Z QE (Qc Z (Gw Z Z (Qh Z Z (kc5 C Z Z Z Z Z (Qs Z (λM=>?_) (λM=>?_)))))))))))))))))))));rw[M];simp only[qA]at M;refine Qd λK C=>Qb Z (kc1 C Z (Qv (Qm (Qi (QQ (Qm (Qi (Qg Z ?_))))))));exact(Qj7 λh=>by have:=h.bd i Wa Wa;omega).symm
 rw[M];simp only[qA]at M;refine Qp (Qk (ks4 Z Z Z Z (QJ λK C=>Q2 Z Z Wb (Qb Z (C _ (Qj (i+1) ?_ ?_ ?_))))));exact QM (l:=[2,13,14,15]) (lH:=[2]) (kp4 Z Z Z Z) (Qa Z Qf) Z Z Z;exact⟨Wa,QsN Wa Wa V.2 Wa Wa⟩;omega;rw[G];simp only[qA]at G;refine Q3 (QF (Qx (QD (QK (QL) (Qd λK C=>Qb Z (kc1 C Z (Qv (Qg Z ?_))))))));exact(QsK ⟨Wa,λj hj U=>V.2 j U hj Wa⟩).symm
theorem XP (hw:Xc w) (M:c.length<=1048576):Ok Tryz.prog 17 [Q9 w,Q0 c,gD] (.bool (mayC w c)):=by
 refine Ok.b9 (ds:=[Q9 w,Q0 c]) (dg:=gD) tfol Tryz.func17 QDs (QEi Z) ?_;show TW _ _ tf17.body _ _;refine Qd λK C=>Zu Z Z Z (Qb Z (kc3 C Z Z Z (Qd λK C=>QB (cs:=[_]) Z Z Z Z (QA (Jk hw) Z Z (.inr Z) (Qb Z (Qq (g:=7) Z (λG=>?_) (λG=>?_)))))));rw[G];refine Qc Z (QB (cs:=[_]) Z Z Z Z (Qc Z (Qb Z (Qc Z (QA (LU hw M) Z Z (.inr Z) (Qh Z Z (Qb Z (kc1 C Z (Qv (Qg Z ?_))))))))))
 (grind [mayC])
 rw[G];refine gn3 Z Z Z (Qh Z Z (Qb Z (kc1 C Z (Qv (Qg Z ?_)))))
 (grind [mayC])
theorem GP (hw:WSm w) (G:z6 w c) {x:Zj} (hx:0<=x.u/\x.u<w.length) (T:Sm x.s.1/\Sm x.s.2):Ok Tryz.prog 55 [Q9 w,Q0 c,.agg (F5 x),gD] (.bool (mtM w c x)):=by
 refine Ok.b9 (ds:=[Q9 w,Q0 c,.agg (F5 x)]) (dg:=gD) tfol Tryz.func55 QDQ (QEi Z) ?_;show TW _ _ tf55.body _ _;have V:=G.len;have O:x.u.toNat<c.length:=Wa;have hb:=HK G O;refine Qd λK M=>Zu Z Z Z (Zu Z Z Z (Qb Z (kc4 M Z Z Z Z (Qd λK M=>Qb Z (Qe Z Z (Qr Z Z Z (Qt Z Z Z Wa (Q5 Wa Wa) Z (Qr Z Z Z (Qb Z (kc4 M Z Z Z Z (Qd λK M=>Qb Z (Gw Z Z (Qb Z (Qq (g:=15) Z (λC=>?_) (λC=>?_)))))))))))))));rw[C];simp only[qA]at C;have U:=Na hb.2 C;refine Qc Z (Qe Z Z (Qc Z (QY (ds0:=[2,1,0]) (cs:=[_,_]) Z Z Z Z Z Z (Qc Z (Qe Z Z (Qc Z (QG (ds0:=[9,8,7,5,4,3,2,1,0]) Z Z Z Z Z (Qc Z (Qe Z Z (Qc Z (QG (ds0:=[9,8,7,5,4,3,2,1,0]) Z Z Z Z Z (Qc Z (Qt Z Z Z Wa (Q5 Wa Wa) Z (Qc Z (Q7 Z Z (Qc Z (QG (ds0:=dn 6) Z Z Z Z Z (Qc Z (Qb Z (Qc Z (Qt Z Z Z Wa (Q5 Wa Wa) Z (Qc Z (Q7 Z Z (Qc Z (QY (ds0:=[2,1,0]) (cs:=[_,_,_,_,_]) Z Z Z Z Z Z (Qc Z (Zi (ds0:=[1,0]) (CN (s:=x.s) T.1 T.2 (hw.vs _ (QEn (Wa:x.u.toNat<w.length)) _ (QEn U)).1 (hw.vs _ (QEn (Wa:x.u.toNat<w.length)) _ (QEn U)).2) Z Z (.inr Z) Z Z (Qh Z Z (Qb Z (kc1 M Z (Qv (Qg Z ?_))))))))))))))))))))))))))))))))
 (rw[Qg9 hw G hx.1 hx.2 O C (Na hb.2 C)];rfl)
 rw[C];simp only[qA]at C;refine gn4 Z Z Z Z (gn4 Z Z Z Z (gn4 Z Z Z Z (gn2 Z Z (Qh Z Z (Qb Z (kc1 M Z (Qv (Qg Z ?_))))))))
 grind [Qha]
theorem CL (hw:WSm w) (O:z6 w c) {l:List Zj} (T:l.length<=1000) (hx:∀x∈l,(0<=x.u/\x.u<w.length)/\(Sm x.s.1/\Sm x.s.2)):Ok Tryz.prog 54 [Q9 w,Q0 c,Yg l,gD] (.bool (YO w c l)):=by
 refine Ok.b9 (ds:=[Q9 w,Q0 c,Yg l]) (dg:=gD) tfol Tryz.func54 QDP (QEi Z) ?_;show TW _ _ tf54.body _ _;refine Qd λK C=>Zu Z Z Z (Qb Z (kc4 C Z Z Z Z (Qw (Qd λK C=>Qb Z (QW Z QE (Qb Z (kc6 C Z Z Z Z Z Z (Qu (Q8 (ι:=Nat) (λi=>⟨[(1,Q0 c),(3,.ref 3 0 0),(9,Yg l),(10,.int .i64 l.length),(11,.int .i64 i),(900000,gD)],[(3,⟨[[.sl ((w).map Zv)]],1,25,true⟩)]⟩) (λi=>i<=l.length/\(l.take i).any (mtM w c)=false) (λi=>l.length - i) 0 ?_ ?_ ?_)))))))));exact QM (l:=[1,3,9,10,11,900000]) (lH:=[3]) (kp6 Z Z Z Z Z Z) (Qa Z Qf) Z Z Z;simp;intro i U;refine Qd λK C=>ZK Z Z (kc7 C Z Z Z Z Z Z Z (Qw (Qs Z (λG=>?_) (λG=>?_))));rw[G];simp only[qA]at G;refine Qp (ks6 Z Z Z Z Z Z (Qw (Qu (Qd λK C=>Qt Z Z Z Wa (QH Wa) Z (QB (cs:=[_,_,_]) Z Z Z Z (Zk Z (Za Z Z Z Z Z Z Z Z (kc7 C Z Z Z Z Z Z Z (Qd λK C=>QB (cs:=[_]) Z Z Z Z (Qb Z (QB (cs:=[_,_,_]) Z Z Z Z (QA (GP hw O (hx _ (QEn (Wa:i<l.length))).1 (hx _ (QEn (Wa:i<l.length))).2) Z Z (.inr Z) (kc7 C Z Z Z Z Z Z Z (Qs Z (λM=>?_) (λM=>?_)))))))))))))));rw[M];refine Qd λK C=>Qb Z (kc1 C Z (Qv (Qm (Qi (QQ (Qm (Qi (Qg Z ?_))))))));exact(QFy.2 ⟨_,QEn (Wa:i<l.length),M⟩).symm;rw[M];refine Qp (Qk (ks6 Z Z Z Z Z Z (QJ λK C=>Q2 Z Z Wb (Qb Z (C _ (Qj (i+1) ?_ ?_ ?_))))));exact QM (l:=[1,3,9,10,11,900000]) (lH:=[3]) (kp6 Z Z Z Z Z Z) (Qa Z Qf) Z Z Z
 grind [RM]
 omega;rw[G];simp only[qA]at G;refine Q3 (QF (Qx (QD (QK (QL) (Qd λK C=>Qb Z (kc1 C Z (Qv (Qg Z ?_))))))))
 grind [YO]
theorem XA (hw:Xc w) (hc:c.length<=1048576):Ok Tryz.prog 25 [Q9 w,Q0 c,gD] (Qd5 (wrongR w c)):=by
 refine Ok.b9 (ds:=[Q9 w,Q0 c]) (dg:=gD) tfol Tryz.func25 QDy (QEi Z) ?_;show TW _ _ tf25.body _ _;refine Qd λK C=>Zu Z Z Z (Qb Z (kc3 C Z Z Z (Qw (Qd λK C=>QB (cs:=[_]) Z Z Z Z (Qb Z (QA (XP hw hc) Z Z (.inr Z) (Zp Z (kc4 C Z Z Z Z (Qs Z (λh1=>?_) (λh1=>?_))))))))));rw[h1];simp only[qA]at h1;refine Qd λK C=>Qb Z (kc1 C Z (Qv (Qi (ZU Z ?_))));rw[Cp Wa];rfl;rw[h1];simp only[qA]at h1;obtain⟨hmw,hfw⟩:=Fh (w:=w) (c:=c) Wa;have hv:=hmw.val hw;have Y:=hv.ud;have hr:=hv.se;have T:=hfw.ch;have hcl:=T.len;have hvl:=hv.len;refine Qp (ks3 Z Z Z (Qd λK C=>Qb Z (kc4 C Z Z Z Z (HD (ι:=Unit) (λ_=>⟨[(1,Q0 c),(2,.ref 2 0 0),(5,.u4 5 (ZR w c 0).length),(900000,gD)],[(2,⟨[[.sl ((w).map Zv)]],1,25,true⟩),(5,⟨(ZR w c 0).map QfQ,3,40,true⟩)]⟩) (λ_=>True) ?_ ?_))))
 skip
 refine Qd λK C=>Qb Z (Qt Z Z Z Wa (Q5 Wa Wa) Z (Qr Z Z Z (ZK Z Z (kc5 C Z Z Z Z Z (Qs Z (λh2=>?_) (λh2=>?_))))));rw[h2];simp only[qA]at h2;refine QJ λK C=>Qb Z (Zz Z Z (QZ Z Z (GL Z Z (λ_ h=>YZ Z Z Z h) Z (.inl Z) Wd Wd Wd (Qb Z (C _ (Zl () ?_ ?_))))));exact le_trans (G9 (l:=[1,2,900000]) (lH:=[2]) 24 5 5 (kp3 Z Z Z) (Qa Z Qf) Z Z Z Z Z Z Z) (QM (l:=[1,2,5,900000]) (lH:=[2,5]) (kp4 Z Z Z Z) (Qa Z (Qa Z Qf)) (by grind [Cq]) (by rw[Cq Wa h2]<;>rfl) Z)
 simp;rw[h2];simp only[qA]at h2;refine Qp (Zl () ?_ ?_);exact le_trans (Z1 5 5 3 40 Z Z) (QM (l:=[1,2,5,900000]) (lH:=[2,5]) (kp4 Z Z Z Z) (Qa Z (Qa Z Qf)) (by grind [Ry]) (by rw[Ry Wa h2]<;>rfl) Z)
 simp;intro _ hJ;refine Qw (Qd λK C=>Qb Z (QW Z QE (Qb Z (kc7 C Z Z Z Z Z Z Z (Qu (Q8 (ι:=Nat) (λi=>⟨[(1,Q0 c),(2,.ref 2 0 0),(5,.u4 5 (ZR w c i).length),(25,Q0 c),(26,.int .i64 c.length),(27,.int .i64 i),(900000,gD)],[(2,⟨[[.sl ((w).map Zv)]],1,25,true⟩),(5,⟨(ZR w c i).map QfQ,3,40,true⟩)]⟩) (λi=>i<=c.length) (λi=>c.length - i) 0 ?_ ?_ ?_))))));exact QM (l:=[1,2,5,25,26,27,900000]) (lH:=[2,5]) (kp7 Z Z Z Z Z Z Z) (Qa Z (Qa Z Qf)) Z Z Z;omega;intro i hI;have hlen:=Gv Y c i;have hlen2:=DD Y c i;refine Qd λK C=>ZK Z Z (kc8 C Z Z Z Z Z Z Z Z (Qw (Qs Z (λh3=>?_) (λh3=>?_))));rw[h3];simp only[qA]at h3;refine Qp (ks7 Z Z Z Z Z Z Z (Qw (Qu (Qd λK C=>Qb Z (Qt Z Z Z Wa (QH Wa) Z (Qr Z Z Z (mv2 Z Z (kc9 C Z Z Z Z Z Z Z Z Z (Qw (Qd λK C=>Qb Z (ZK Z Z (kc C (GI Z Z Z Z Z Z Z Z Z Z) (Qs Z (λh4=>?_) (λh4=>?_))))))))))))));rw[h4];simp only[qA]at h4;refine Q3 (QF (QD (ks7 Z Z Z Z Z Z Z (QJ λK C=>Q2 Z Z Wb (Qb Z (C _ (Qj (i+1) ?_ ?_ ?_)))))));exact QM (l:=[1,2,5,25,26,27,900000]) (lH:=[2,5]) (kp7 Z Z Z Z Z Z Z) (Qa Z (Qa Z Qf)) (by grind [MM]) (by grind [MM]) Z;omega;omega;rw[h4];simp only[qA]at h4;have G:i<w.length:=Wa;have O:i<c.length:=Wa;have hb:=HK T O;have M:=Na hb.2 Wa;have e1:=SX G O M;have hwn:=Y.ns _ (QEn G) _ (QEn M);have hwl:=Y.nl _ (QEn G) _ (QEn M);have U:=Y.nw _ (QEn G) _ (QEn M);have V:=Y.bw _ (QEn G) _ (QEn M);have hrn:=hr.nr _ (QEn G) _ (QEn M);have hrb:=hr.bw _ (QEn G) _ (QEn M);obtain⟨y,hy⟩:∃y,(w[i]'G).cs[(c[i]'O).toNat]=y:=⟨_,rfl⟩;rw[hy]at e1 hwn hwl U V hrn hrb;refine Qp (ks9 Z Z Z Z Z Z Z Z Z (Qd λK C=>Qe Z Z (Qr Z Z Z (Qb Z (Qt Z Z Z Wa (QH Wa) Z (Q7 Z Z (Qr Z Z Z (Qb Z (Qt Z Z Z Wa (Q5 Wa Wa) Z (QB (cs:=[_,_,_,_,_,_,_,_]) Z Z Z Z (Zk Z (Za Z Z Z Z Z Z Z Z (kc9 C Z Z Z Z Z Z Z Z Z (Qw (Qd λK C=>Qe Z Z (Qr Z Z Z (QW Z QE (Qb Z (kc C (FD Z Z Z Z Z Z Z Z Z Z Z Z) (Qu (Q8 (ι:=Nat) (λk=>⟨[(1,Q0 c),(2,.ref 2 0 0),(5,.u4 5 (ZR w c i++Kg w c i y.ns k).length),(6,.int .i64 i),(8,.ref 8 0 0),(25,Q0 c),(26,.int .i64 c.length),(27,.int .i64 i),(44,Ky y.ns),(45,.int .i64 y.ns.length),(46,.int .i64 k),(900000,gD)],[(2,⟨[[.sl ((w).map Zv)]],1,25,true⟩),(5,⟨((ZR w c i++Kg w c i y.ns k)).map QfQ,3,40,true⟩),(8,⟨[Jm y],8,70,true⟩)]⟩) (λk=>k<=y.ns.length) (λk=>y.ns.length - k) 0 ?_ ?_ ?_)))))))))))))))))))));exact QM (l:=[1,2,5,6,8,25,26,27,44,45,46,900000]) (lH:=[2,5,8]) (FD Z Z Z Z Z Z Z Z Z Z Z Z) (Qa Z (Qa Z (Qa Z Qf))) (by grind [Kg]) (by rw[Kg,QEN,<- hy]<;>rfl) Z
 omega;intro k hQ;have hlen3:=HY w c i y.ns k;refine Qd λK C=>ZK Z Z (kc C (QgO Z Z Z Z Z Z Z Z Z Z Z Z Z) (Qw (Qs Z (λh5=>?_) (λh5=>?_))));rw[h5];simp only[qA]at h5;refine Qp (QK (FD Z Z Z Z Z Z Z Z Z Z Z Z) (Qw (Qu (Qd λK C=>Qb Z (Qt Z Z Z Wa (QH Wa) Z (Qr Z Z Z (mv2 Z Z (kc C (Qkn Z Z Z Z Z Z Z Z Z Z Z Z Z Z) (Qd λK C=>QB (cs:=[_]) Z Z Z Z (mv2 Z Z (QA (CL Y T (hwl _ (QEn (Wa:k<y.ns.length))) (λx hx=>⟨hrn _ (QEn (Wa:k<y.ns.length)) x hx,U _ (QEn (Wa:k<y.ns.length)) x hx⟩)) Z Z (.inr Z) (Zp Z (kc C (Qkn Z Z Z Z Z Z Z Z Z Z Z Z Z Z) (Qs Z (λh6=>?_) (λh6=>?_)))))))))))))));rw[h6];simp only[qA]at h6;refine QJ λK C=>mv2 Z Z (Qb Z (Zz Z Z (QZ Z Z (Yl Z Z (λ_ h=>YZ Z Z Z h) Z Wd Z Z Z Wc Wc (Qb Z (C _ (Qk (QK (FD Z Z Z Z Z Z Z Z Z Z Z Z) (QJ λK C=>Q2 Z Z Wb (Qb Z (C _ (Qj (k+1) ?_ ?_ ?_))))))))))));exact QM (l:=[1,2,5,6,8,25,26,27,44,45,46,900000]) (lH:=[2,5,8]) (FD Z Z Z Z Z Z Z Z Z Z Z Z) (Qa Z (Qa Z (Qa Z Qf))) (by rw[Mn Wa h6,<- QFa,QEY (bs:=[_])]<;>rfl) (by rw[Mn Wa h6,<- QFa,QFm (l₂:=[_])]<;>rfl) Z
 omega;omega;rw[h6];simp only[qA]at h6;refine Qp (Qk (QK (FD Z Z Z Z Z Z Z Z Z Z Z Z) (QJ λK C=>Q2 Z Z Wb (Qb Z (C _ (Qj (k+1) ?_ ?_ ?_))))));exact QM (l:=[1,2,5,6,8,25,26,27,44,45,46,900000]) (lH:=[2,5,8]) (FD Z Z Z Z Z Z Z Z Z Z Z Z) (Qa Z (Qa Z (Qa Z Qf))) (by grind [Mm]) (by grind [Mm]) Z;omega;omega;rw[h5];simp only[qA]at h5;refine Q3 (QF (Qx (QD (ks9 Z Z Z Z Z Z Z Z Z (Qd λK C=>Qe Z Z (Qr Z Z Z (QW Z QE (Qb Z (kc C (HA Z Z Z Z Z Z Z Z Z Z Z) (Qu (Q8 (ι:=Nat) (λk=>⟨[(1,Q0 c),(2,.ref 2 0 0),(5,.u4 5 (ZR w c i++(Kg w c i y.ns y.ns.length++Ts w c i y.bs k)).length),(6,.int .i64 i),(25,Q0 c),(26,.int .i64 c.length),(27,.int .i64 i),(64,Yg y.bs),(65,.int .i64 y.bs.length),(66,.int .i64 k),(900000,gD)],[(2,⟨[[.sl ((w).map Zv)]],1,25,true⟩),(5,⟨((ZR w c i++(Kg w c i y.ns y.ns.length++Ts w c i y.bs k))).map QfQ,3,40,true⟩)]⟩) (λk=>k<=y.bs.length) (λk=>y.bs.length - k) 0 ?_ ?_ ?_)))))))))));exact QM (l:=[1,2,5,6,25,26,27,64,65,66,900000]) (lH:=[2,5]) (HA Z Z Z Z Z Z Z Z Z Z Z) (Qa Z (Qa Z Qf)) (by grind [Ts]) (by grind [Ts]) Z;omega;intro k hQ;have hlen3:=HY w c i y.ns y.ns.length;have hlen4:=P2 w c i y.bs k;refine Qd λK C=>ZK Z Z (kc C (FD Z Z Z Z Z Z Z Z Z Z Z Z) (Qw (Qs Z (λh7=>?_) (λh7=>?_))));rw[h7];simp only[qA]at h7;refine Qp (QK (HA Z Z Z Z Z Z Z Z Z Z Z) (Qw (Qu (Qd λK C=>Qb Z (Qt Z Z Z Wa (QH Wa) Z (QB (cs:=[_,_,_]) Z Z Z Z (Zk Z (Qb Z (Za Z Z Z Z Z Z Z Z (kc C (QgO Z Z Z Z Z Z Z Z Z Z Z Z Z) (Qd λK C=>QB (cs:=[_]) Z Z Z Z (Qb Z (QB (cs:=[_,_,_]) Z Z Z Z (QA (GP Y T (hrb _ (QEn (Wa:k<y.bs.length))) (V _ (QEn (Wa:k<y.bs.length)))) Z Z (.inr Z) (kc C (QgO Z Z Z Z Z Z Z Z Z Z Z Z Z) (Qs Z (λh8=>?_) (λh8=>?_)))))))))))))))));rw[h8];refine QJ λK C=>mv2 Z Z (Qb Z (Zz Z Z (QZ Z Z (Yl Z Z (λ_ h=>YZ Z Z Z h) Z Wd Z Z Z Wc Wc (Qb Z (C _ (Qk (QK (HA Z Z Z Z Z Z Z Z Z Z Z) (QJ λK C=>Q2 Z Z Wb (Qb Z (C _ (Qj (k+1) ?_ ?_ ?_))))))))))));exact QM (l:=[1,2,5,6,25,26,27,64,65,66,900000]) (lH:=[2,5]) (HA Z Z Z Z Z Z Z Z Z Z Z) (Qa Z (Qa Z Qf)) (by rw[RS Wa h8,<- QFa,<- QFa,<- QFa,QEY (bs:=[_])]<;>rfl) (by rw[RS Wa h8,<- QFa,<- QFa,<- QFa,QFm (l₂:=[_])]<;>rfl) Z
 omega;omega;rw[h8];refine Qp (Qk (QK (HA Z Z Z Z Z Z Z Z Z Z Z) (QJ λK C=>Q2 Z Z Wb (Qb Z (C _ (Qj (k+1) ?_ ?_ ?_))))));exact QM (l:=[1,2,5,6,25,26,27,64,65,66,900000]) (lH:=[2,5]) (HA Z Z Z Z Z Z Z Z Z Z Z) (Qa Z (Qa Z Qf)) (by grind [RT]) (by grind [RT]) Z;omega;omega;rw[h7];simp only[qA]at h7;refine Q3 (QF (Qx (QD (Qk (ks7 Z Z Z Z Z Z Z (QJ λK C=>Q2 Z Z Wb (Qb Z (C _ (Qj (i+1) ?_ ?_ ?_)))))))));exact QM (l:=[1,2,5,25,26,27,900000]) (lH:=[2,5]) (kp7 Z Z Z Z Z Z Z) (Qa Z (Qa Z Qf)) (by grind [ML,Qjb]) (by grind [ML,Qjb]) Z;omega;omega;rw[h3];simp only[qA]at h3;refine Q3 (QF (Qx (QD (ks1 Z (Qd λK C=>mv2 Z Z (kc1 C Z (Qv ?_)))))));exact Kh Z Z Z Wd (by rw[Kj Wa,PR,show c.length=i by omega];rfl)
theorem Nc (hw:Xc w) (M:c.length<=1048576):Ok Tryz.prog 18 [Q9 w,Q0 c,gD] (.bool (holdsR w c)):=by
 refine Ok.b9 (ds:=[Q9 w,Q0 c]) (dg:=gD) tfol Tryz.func18 QDt (QEi Z) ?_;show TW _ _ tf18.body _ _;refine Qd λK C=>Zu Z Z Z (Qb Z (kc3 C Z Z Z (Qd λK C=>QB (cs:=[_]) Z Z Z Z (Qb Z (QA (XP hw M) Z Z (.inr Z) (Qb Z (Qq (g:=8) Z (λG=>?_) (λG=>?_))))))));rw[G];refine Qc Z (QB (cs:=[_]) Z Z Z Z (Qc Z (Qb Z (Qc Z (QA (XA hw M) Z Z (.inl Z) (Qc Z (QW Z QE (Qc Z (Yp Z Z (Qh Z Z (Qb Z (kc1 C Z (Qv (Qg Z ?_))))))))))))));simp[holdsR, *];rw[G];refine gn4 Z Z Z Z (YN Z (Qh Z Z (Qb Z (kc1 C Z (Qv (Qg Z ?_))))));simp[holdsR, *]
end Go.Proofs
namespace Go.Proofs
open Go Go.Abs
set_option maxRecDepth 100000
set_option maxHeartbeats 0
set_option cbv.maxSteps 100000000
def t21:TT false Tryz.f21:=⟨_,by cbv⟩
def tf21:o6:=t21.1
theorem QDw:QT Tryz.prog Tryz.f21=some tf21.erase:=by kernel_rfl
def t23:TT false Tryz.f23:=⟨_,by cbv⟩
def tf23:o6:=t23.1
theorem QDx:QT Tryz.prog Tryz.f23=some tf23.erase:=by kernel_rfl
def t28:TT false Tryz.f28:=⟨_,by cbv⟩
def tf28:o6:=t28.1
theorem QDA:QT Tryz.prog Tryz.f28=some tf28.erase:=by kernel_rfl
def t57:TT false Tryz.f57:=⟨_,by cbv⟩
def tf57:o6:=t57.1
theorem QDS:QT Tryz.prog Tryz.f57=some tf57.erase:=by kernel_rfl
def t58:TT false Tryz.f58:=⟨_,by cbv⟩
def tf58:o6:=t58.1
theorem QzT:QT Tryz.prog Tryz.f58=some tf58.erase:=by kernel_rfl
open M3 M25
set_option maxRecDepth 4000
set_option maxHeartbeats 1000000
variable {R X:QEf} {rows:List (List D)} {x:Int}
theorem Qoj {a b a' b':x4} {i j:Nat}:∀k,1000000<=k->(lk ((i,a)::(j,b)::R) k).isSome=true->(lk ((i,a')::(j,b')::R) k).isSome=true:=λk _ h=>by
 rw[Qz]at h ⊢;split;rfl;rename_i e;rw[if_neg e,Qz]at h;rw[Qz];grind
theorem qcl {n:Nat} {eq:Nat} (M:Big R) (G:TM R):∀k b,lk ((1000006,⟨[[.u4 500000 n]],1,eq,false⟩)::(500000,⟨rows,1,3,true⟩)::R) k=some b->500000<=k/\∀j∈b.ids,(lk ((1000006,(⟨[[.u4 500000 n]],1,eq,false⟩:x4))::(500000,⟨rows,1,3,true⟩)::R) j).isSome=true:=λk b h=>by
 rw[Qz]at h;split at h;rename_i e;cases h;subst e;refine⟨Wa,λj C=>?_⟩;simp[x4.ids,D.y4]at C;subst C;rfl;rw[Qz]at h;split at h
 grind [x4.ids]
 refine⟨QEB We (M k b h),λj C=>?_⟩;rw[Qz];split;rfl;rw[Qz];split;rfl;exact G k b h j C
theorem QwN {eq:Nat} (T:rows.length<=1000000) (O:Big R) (M:TM R) (G:(R.map λp=>(p.1,p.2.n4 500000))=R):
  o7 Tryz.prog 57 [.ref 1000006 0 0,.int .i64 x] ((1000006,⟨[[.u4 500000 rows.length]],1,eq,false⟩)::(500000,⟨rows,1,3,true⟩)::R) (.g8 []) ((1000006,⟨[[.u4 500000 (rows++[[D.int .i64 x]]).length]],1,eq,false⟩)::(500000,⟨rows++[[.int .i64 x]],1,3,true⟩)::R):=by
 refine o7.n7 tfol Tryz.func57 QDS (QEi rfl) Qoj (qcl O M) ?_;show TW _ _ tf57.body _ _;refine QJ λK C=>?_;refine Qb rfl (Qb rfl (Zm rfl rfl (Qe rfl rfl (Qr rfl rfl rfl (Qb rfl (Zo rfl rfl (Yl rfl rfl (λ_ h=>Qaf Wd h) rfl rfl rfl rfl rfl Wc Wc (Zm rfl rfl (Qe rfl rfl (Za rfl rfl rfl rfl rfl rfl rfl rfl ?_))))))))));refine C _ (QhA rfl λk b h=>?_);rw[QEW,QEW,G];rw[Qz]at h ⊢
 by_cases e1:1000006=k
 rw[if_pos e1]at h ⊢;rw[<- h,QEY];rfl
 (repeat clear C K);simp_all [Qz]
def qH (eq:Nat) (l:List Int) (R:QEf):QEf:=(1000006,⟨[[.u4 500000 l.length]],1,eq,false⟩)::(500000,⟨l.map rI,1,3,true⟩)::R
theorem Qny {eq:Nat} (M:Big R) (G:TM R):o7 Tryz.prog 58 [.ref 1000006 0 0] (qH eq [] R) (.g8 [.int .i64 0,.bool false]) (qH eq [] R):=by
 refine o7.n7 tfol Tryz.func58 QzT (QEi rfl) Qoj (qcl M G) ?_;show TW _ _ tf58.body _ _;refine Qd λK C=>?_;refine Qb rfl (Qb rfl (C _ _ (Zt (Qo rfl QL) ?_)));clear C K;refine Qd λK C=>?_;refine Qb rfl (C _ _ (Zt (Qo rfl (Qo rfl QL)) ?_));clear C K;refine Qw (Qd λK C=>?_);refine Qb rfl (Zm rfl rfl (Qe rfl rfl (Qr rfl rfl rfl (QW rfl rfl (Yp rfl rfl (C _ _ (Zt (Qo rfl (Qo rfl (Qo rfl QL))) ?_)))))));clear C K;refine Qs rfl (λ_=>?_) (λh=>absurd h Wd);refine Qd λK C=>?_;refine Qb rfl (Qb rfl (Qb rfl (C _ _ (Zt (Qo rfl (Qo rfl QL)) ?_))));clear C K;refine Qv (Qi ?_);exact BU rfl rfl ⟨rfl,rfl⟩ ⟨rfl,rfl⟩ λk b h=>h
theorem Qnz {eq:Nat} {q:List Int} (M:Big R) (G:TM R) (O:(R.all λp=>p.1==1000006||p.2.pr||!p.2.ids.contains 500000)=true):
  o7 Tryz.prog 58 [.ref 1000006 0 0] (qH eq (x::q) R) (.g8 [.int .i64 x,.bool true]) (qH eq q R):=by
 refine o7.n7 tfol Tryz.func58 QzT (QEi rfl) Qoj (qcl M G) ?_;show TW _ _ tf58.body _ _;refine Qd λK C=>?_;refine Qb rfl (Qb rfl (C _ _ (Zt (Qo rfl QL) ?_)));clear C K;refine Qd λK C=>?_;refine Qb rfl (C _ _ (Zt (Qo rfl (Qo rfl QL)) ?_));clear C K;refine Qw (Qd λK C=>?_);refine Qb rfl (Zm rfl rfl (Qe rfl rfl (Qr rfl rfl rfl (QW rfl rfl (Yp rfl rfl (C _ _ (Zt (Qo rfl (Qo rfl (Qo rfl QL))) ?_)))))));clear C K;refine Qs rfl (λh=>absurd (of_decide_eq_true h) Wc) (λ_=>?_);refine Qp (QK (Qo rfl QL) (Qd λK C=>?_));refine Qb rfl (Qb rfl (Zm rfl rfl (Qe rfl rfl (QG rfl rfl rfl rfl rfl (XW rfl rfl rfl Wd Wa Wd rfl rfl rfl (QG rfl rfl rfl rfl rfl (Qb rfl (Zm rfl rfl (Qe rfl rfl (QG rfl rfl rfl rfl rfl ?_))))))))));refine Qjo (l:=1) rfl rfl rfl Wa Wc (Qb rfl (Zm rfl rfl (Qe rfl rfl (YR rfl rfl rfl rfl rfl rfl rfl rfl rfl rfl (C _ _ (Zt (Qo rfl QL) ?_))))));clear C K;refine MO (Qon 1000006 0 500000 rfl rfl rfl rfl Wc rfl rfl We We We rfl ?_ (λi d hi hd=>by cases i with |zero=>omega |succ i=>trivial)) ?_;trivial;refine Qd λK C=>?_;refine Qb rfl (Qb rfl (Qb rfl (C _ _ (Zt (Qo rfl (Qo rfl QL)) ?_))));clear C K;refine Qv (BU rfl rfl ⟨rfl,rfl⟩ ⟨rfl,rfl⟩ λk b h=>?_);simp only[qH]at h;rw[Qz]at h ⊢
 by_cases e1:1000006=k
 rw[if_pos e1]at h ⊢;trivial
 (repeat clear C K);simp_all [Qz,qH]
theorem prR (h:(R.all λp=>p.2.pr&&Nat.ble 1000000 p.1)=true):Big R/\TM R/\(R.all λp=>p.1==1000006||p.2.pr||!p.2.ids.contains 500000)=true/\(R.map λp=>(p.1,p.2.n4 500000))=R:=by
 simp only[QEs,QEm]at h;refine⟨λk b hk=>QEi (h (k,b) (ZJ hk)).2,λk b hk j G=>?_, ?_, ?_⟩;have:=(h (k,b) (ZJ hk)).1
 (repeat clear hK K);simp_all [x4.ids]
 grind
 have:∀l:QEf,(∀p∈l,p.2.pr=true)->(l.map λp=>(p.1,p.2.n4 500000))=l:=by
  intro l
  induction l with
  |nil=>simp
  |cons p l ih=>
   intro C
   (repeat clear hK K);simp_all [x4.n4]
 grind
theorem QlS {eq:Nat} (l:List Int) (C:(R.all λp=>p.2.pr&&Nat.ble 1000000 p.1)=true):o7 Tryz.prog 58 [.ref 1000006 0 0] (qH eq l R) (.g8 [.int .i64 (l.headD 0),.bool (!l.isEmpty)]) (qH eq l.tail R):=by
 obtain⟨T,O,M,G⟩:=prR C;cases l with
 |nil=>grind [Qny]
 |cons x q=>grind [Qnz]
theorem QlR {eq:Nat} (l:List Int) (G:l.length<=1000000) (C:(R.all λp=>p.2.pr&&Nat.ble 1000000 p.1)=true):o7 Tryz.prog 57 [.ref 1000006 0 0,.int .i64 x] (qH eq l R) (.g8 []) (qH eq (l++[x]) R):=by
 obtain⟨U,T,O,M⟩:=prR C
 grind [QwN,rI,List.length_map,qH]
theorem Fm (ρ:Nat->Nat) (o:List Bool):x4.u5 ρ ⟨o.map rB,1,4,true⟩=⟨o.map rB,1,4,true⟩:=by
 simp only[x4.u5,QFH];rfl
theorem Qpa (ρ:Nat->Nat) (l:List Int):x4.u5 ρ ⟨l.map rI,1,3,true⟩=⟨l.map rI,1,3,true⟩:=by
 simp only[x4.u5,QFH];rfl
theorem PJ {eq:Nat} (l:List Int) (C:∀p∈X,p.1≠60/\p.2.u5 (KJ 60)=p.2):Tt 60 ((6,⟨[[.u4 60 l.length]],1,eq,false⟩)::(60,⟨l.map rI,1,3,true⟩)::X)=qH eq l (X.map λp=>(p.1+1000000,p.2)):=by
 have hx:Tt 60 X=X.map λp=>(p.1+1000000,p.2):=QFq λp hp=>by
  obtain⟨T,O⟩:=C p hp
  (repeat clear hK K);simp_all [KJ,upN]
 have e1:KJ 60 6=1000006:=by rfl
 have e2:KJ 60 60=500000:=by rfl
 have M:x4.u5 (KJ 60) ⟨[[.u4 60 l.length]],1,eq,false⟩=⟨[[.u4 500000 l.length]],1,eq,false⟩:=by
  rfl
 have G:Tt 60 ((6,⟨[[.u4 60 l.length]],1,eq,false⟩)::(60,⟨l.map rI,1,3,true⟩)::X)=(KJ 60 6,x4.u5 (KJ 60) ⟨[[.u4 60 l.length]],1,eq,false⟩)::(KJ 60 60,x4.u5 (KJ 60) ⟨l.map rI,1,3,true⟩)::Tt 60 X:=rfl;rw[G,e1,e2,M,Qpa,hx];rfl
theorem prX (h:(X.all λp=>p.2.pr)=true):((X.map λp=>(p.1+1000000,p.2)).all λp=>p.2.pr&&Nat.ble 1000000 p.1)=true:=by
 simp only[List.all_map,QEs,Function.comp,QEm]at h ⊢
 grind [Nat.ble_eq_true_of_le]
theorem QzA {a b:Nat × x4} {r C:List (List D)} (h:r=C):a::b::(19,⟨r,1,4,true⟩)::X=a::b::(19,⟨C,1,4,true⟩)::X:=by rw[h]
theorem RX {w:Ql} (hw:Xc w) {c:List Int} (hc:c.length<=1048576):Ok Tryz.prog 28 [Q9 w,Q0 c,gD] (R9 (neededR w c)):=by
 refine Ok.b9 (ds:=[Q9 w,Q0 c]) (dg:=gD) tfol Tryz.func28 QDA (QEi Z) ?_;show TW _ _ tf28.body _ _;refine Qd λK C=>Zu Z Z Z (Qb Z (kc3 C Z Z Z (Qw (Qd λK C=>QB (cs:=[_]) Z Z Z Z (Qb Z (QA (XP hw hc) Z Z (.inr Z) (Zp Z (kc4 C Z Z Z Z (Qs Z (λh1=>?_) (λh1=>?_))))))))));rw[h1];simp only[qA]at h1;refine Qd λK C=>Qb Z (kc1 C Z (Qv (Qi (ZU Z ?_))));rw[neededR,if_neg Wc];rfl;rw[h1];simp only[qA]at h1;obtain⟨hmw,hfw⟩:=Fh (w:=w) (c:=c) Wa;have hv:=hmw.val hw;have hs:=hv.ud;have hr:=hv.se;have U:=hfw.ch;have hcl:=U.len;have hvl:=hv.len;refine Qp (ks3 Z Z Z (Qd λK C=>Qb Z (QW Z QE (RF Z Z Z Wa Wa Wa (Qb Z (kc4 C Z Z Z Z (Qd λK C=>Zk Z (kc5 C Z Z Z Z Z (HD (ι:=List Bool × List Int) (λs=>⟨[(1,Q0 c),(2,.ref 2 0 0),(5,.u4 19 (s.1).length),(6,.ref 6 0 0),(900000,gD)],[(2,⟨[[.sl (w.map Zv)]],1,25,true⟩),(6,⟨[[.u4 60 (s.2).length]],1,92,false⟩),(19,⟨(s.1).map rB,1,4,true⟩),(60,⟨(s.2).map rI,1,3,true⟩)]⟩) (λs=>gb w c s.1 s.2 (λ_=>False)) ?_ ?_)))))))))
 skip
 refine MO (XD 6 0 60 1 3 Z Z Z Z) (Qd λK C=>Qb Z (Qt Z Z Z Wa (Q5 Wa Wa) Z (Qr Z Z Z (Gw Z Z (kc6 C Z Z Z Z Z Z (Qs Z (λh2=>?_) (λh2=>?_)))))));rw[h2];simp only[qA]at h2;refine Qd λK C=>Qb Z (ZE Z Z Z Wd Wa Wa Z (Za Z Z (QhP Wa Wa) Z Z Z Z Z (kc5 C Z Z Z Z Z (MO (s':=⟨_,[(6,⟨[[.u4 60 (([]:List Int)).length]],1,92,false⟩),(60,⟨(([]:List Int)).map rI,1,3,true⟩),(19,⟨((List.replicate c.length false).set 0 true).map rB,1,4,true⟩),(2,⟨[[.sl (w.map Zv)]],1,25,true⟩)]⟩) (QM (l:=[1,2,5,6,900000]) (lH:=[6,60,19,2]) (kp5 rfl rfl rfl rfl rfl) (Qa rfl (Qa rfl (Qa rfl (Qa rfl Qf)))) rfl (by rw[Qdj];exact QzA QdB) rfl) (CB (l:=[]) rfl (Rq (k:=60) (Hr:=[(6,⟨[[.u4 60 ([0]).length]],1,92,false⟩),(60,⟨([0]).map rI,1,3,true⟩),(19,⟨((List.replicate c.length false).set 0 true).map rB,1,4,true⟩),(2,⟨[[.sl (w.map Zv)]],1,25,true⟩)]) rfl rfl We rfl rfl rfl rfl (PJ ([]) (by intro p hp;simp only[QEk,QEj,or_false]at hp;rcases hp with rfl |rfl<;>exact⟨by simp,by first |rfl |exact Fm _ _⟩)) (PJ ([0]) (by intro p hp;simp only[QEk,QEj,or_false]at hp;rcases hp with rfl |rfl<;>exact⟨by simp,by first |rfl |exact Fm _ _⟩)) (QlR [] Wd (prX rfl)) ?_))))))
 refine Zl ((List.replicate c.length false).set 0 true,[0]) ?_ ?_;exact QM (l:=[1,2,5,6,900000]) (lH:=[2,6,19,60]) (kp5 Z Z Z Z Z) (Qa Z (Qa Z (Qa Z (Qa Z Qf)))) Wd Z Z
 grind [gb.first,Ym]
 rw[h2];simp only[qA]at h2;refine Qp (Zl ((List.replicate c.length false),[]) ?_ ?_);exact QM (l:=[1,2,5,6,900000]) (lH:=[2,6,19,60]) (kp5 Z Z Z Z Z) (Qa Z (Qa Z (Qa Z (Qa Z Qf)))) Wd (by rw[Qdj]<;>rfl) Z
 grind [gb.none,cA]
 intro s hJ;refine Qw (MO (s':=⟨_,[(6,⟨[[.u4 60 (s.2).length]],1,92,false⟩),(60,⟨(s.2).map rI,1,3,true⟩),(19,⟨(s.1).map rB,1,4,true⟩),(2,⟨[[.sl (w.map Zv)]],1,25,true⟩)]⟩) (QM (l:=[1,2,5,6,900000]) (lH:=[6,60,19,2]) (kp5 Z Z Z Z Z) (Qa Z (Qa Z (Qa Z (Qa Z Qf)))) Z (Z) Z) (Qm0 (l:=[]) (λK C=>?_)));refine Rq (k:=60) (Hr:=[(6,⟨[[.u4 60 (s.2.tail).length]],1,92,false⟩),(60,⟨(s.2.tail).map rI,1,3,true⟩),(19,⟨(s.1).map rB,1,4,true⟩),(2,⟨[[.sl (w.map Zv)]],1,25,true⟩)]) rfl rfl We rfl rfl rfl rfl (PJ (s.2) (by intro p hp;simp only[QEk,QEj,or_false]at hp;rcases hp with rfl |rfl<;>exact⟨by simp,by first |rfl |exact Fm _ _⟩)) (PJ (s.2.tail) (by intro p hp;simp only[QEk,QEj,or_false]at hp;rcases hp with rfl |rfl<;>exact⟨by simp,by first |rfl |exact Fm _ _⟩)) (QlS s.2 (prX rfl)) (Qb rfl (QN rfl rfl (QN rfl rfl (Qb rfl (Qb rfl (kc7 C rfl rfl rfl rfl rfl rfl rfl ?_))))))
 have hT:=hJ.take;refine Qu (Q8 (ι:=QS) (λt=>⟨[(1,Q0 c),(2,.ref 2 0 0),(5,.u4 19 (t.1).length),(6,.ref 6 0 0),(7,.int .i64 t.2.2.1),(8,.bool t.2.2.2),(900000,gD)],[(2,⟨[[.sl (w.map Zv)]],1,25,true⟩),(6,⟨[[.u4 60 (t.2.1).length]],1,92,false⟩),(19,⟨(t.1).map rB,1,4,true⟩),(60,⟨(t.2.1).map rI,1,3,true⟩)]⟩) (λt=>QI w c t) (λt=>muQ t) (tkQ s.1 s.2) ?_ ?_ ?_);exact QM (l:=[1,2,5,6,7,8,900000]) (lH:=[2,6,19,60]) (kp7 Z Z Z Z Z Z Z) (Qa Z (Qa Z (Qa Z (Qa Z Qf)))) Z Z Z;omega;clear hJ hT;clear s;intro s hI;refine Qw (Qd λK C=>Qb Z (kc7 C Z Z Z Z Z Z Z (Qs Z (λh3=>?_) (λh3=>?_))));rw[h3];obtain⟨_,⟨hu0,hu1⟩,hun⟩:=hI.on h3;have hN:=(hI.on h3).1.nd.snd _ hun;obtain⟨M,hc0⟩:=Dx hs hr U (Wa:0<c.length) hN;have G:s.2.2.1.toNat<w.length:=Wa;have hb:=HK U M;have O:=Na hb.2 hc0;have er:=Fp G M O;have hwn:=hs.ns _ (QEn G) _ (QEn O);have hwl:=hs.nl _ (QEn G) _ (QEn O);have V:=hs.nw _ (QEn G) _ (QEn O);have Y:=hr.nr _ (QEn G) _ (QEn O);obtain⟨y,hy⟩:∃y,(w[s.2.2.1.toNat]'G).cs[(c[s.2.2.1.toNat]'M).toNat]=y:=⟨_,rfl⟩;rw[hy]at er hwn hwl V Y;have hst:=fe.start hI h3 y.ns;refine Qp (ks6 Z Z Z Z Z Z (Qw (Qu (Qd λK C=>Qe Z Z (QG (ds0:=[11,10,9,4,3,2,1]) Z Z Z Z Z (Qb Z (Qt Z Z Z Wa (Q5 Wa Wa) Z (Q7 Z Z (QG (ds0:=[4,3,2,1]) Z Z Z Z Z (mv2 Z Z (Qt Z Z Z Wa (Q5 Wa Wa) Z (QG (ds0:=[4,3,2,1]) Z Z Z Z Z (Qt Z Z Z Wa (Q5 Wa Wa) Z (Q7 Z Z (QG (ds0:=[1]) Z Z Z Z Z (QW Z QE (Qb Z (kc8 C Z Z Z Z Z Z Z Z (Qu (Q8 (ι:=Nat × List Bool × List Int) (λa=>⟨[(1,Q0 c),(2,.ref 2 0 0),(5,.u4 19 (a.2.1).length),(6,.ref 6 0 0),(48,Ky y.ns),(49,.int .i64 y.ns.length),(50,.int .i64 a.1),(900000,gD)],[(2,⟨[[.sl (w.map Zv)]],1,25,true⟩),(6,⟨[[.u4 60 (a.2.2).length]],1,92,false⟩),(19,⟨(a.2.1).map rB,1,4,true⟩),(60,⟨(a.2.2).map rI,1,3,true⟩)]⟩) (λa=>a.1<=y.ns.length/\fe w c s.2.2.1.toNat (2*Lj s.1+s.2.1.length) y.ns a.1 a.2.1 a.2.2) (λa=>y.ns.length - a.1) (0,s.1,s.2.1) ?_ ?_ ?_))))))))))))))))))));exact QM (l:=[1,2,5,6,48,49,50,900000]) (lH:=[2,6,19,60]) (kp8 Z Z Z Z Z Z Z Z) (Qa Z (Qa Z (Qa Z (Qa Z Qf)))) Wc Z Z
 grind
 intro a hA;have hol:=hA.2.len;refine Qd λK C=>ZK Z Z (kc9 C Z Z Z Z Z Z Z Z Z (Qw (Qs Z (λh4=>?_) (λh4=>?_))));rw[h4];simp only[qA]at h4;refine Qp (ks8 Z Z Z Z Z Z Z Z (Qw (Qu (Qd λK C=>Qt Z Z Z Wa (Q5 Wa Wa) Z (Qr Z Z Z (Qb Z (kc9 C Z Z Z Z Z Z Z Z Z (Qd λK C=>Qb Z (QW Z QE (Qb Z (kc C (HA Z Z Z Z Z Z Z Z Z Z Z) (Qu (Q8 (ι:=Nat × List Bool × List Int) (λb=>⟨[(1,Q0 c),(2,.ref 2 0 0),(5,.u4 19 (b.2.1).length),(6,.ref 6 0 0),(48,Ky y.ns),(49,.int .i64 y.ns.length),(50,.int .i64 a.1),(54,Yg (y.ns[a.1]'Wa)),(55,.int .i64 (y.ns[a.1]'Wa).length),(56,.int .i64 b.1),(900000,gD)],[(2,⟨[[.sl (w.map Zv)]],1,25,true⟩),(6,⟨[[.u4 60 (b.2.2).length]],1,92,false⟩),(19,⟨(b.2.1).map rB,1,4,true⟩),(60,⟨(b.2.2).map rI,1,3,true⟩)]⟩) (λb=>b.1<=(y.ns[a.1]'Wa).length/\fe w c s.2.2.1.toNat (2*Lj s.1+s.2.1.length) y.ns a.1 b.2.1 b.2.2/\a9 w c b.2.1 (y.ns[a.1]'Wa) b.1) (λb=>(y.ns[a.1]'Wa).length - b.1) (0,a.2.1,a.2.2) ?_ ?_ ?_)))))))))))));exact QM (l:=[1,2,5,6,48,49,50,54,55,56,900000]) (lH:=[2,6,19,60]) (HA Z Z Z Z Z Z Z Z Z Z Z) (Qa Z (Qa Z (Qa Z (Qa Z Qf)))) Z Z Z;exact⟨QEu _,hA.2,λ_ _ h=>absurd h (QFY _)⟩;intro b T;have hol2:=T.2.1.len;refine Qd λK C=>ZK Z Z (kc C (FD Z Z Z Z Z Z Z Z Z Z Z Z) (Qw (Qs Z (λh5=>?_) (λh5=>?_))));rw[h5];simp only[qA]at h5;have hrl:=hwl _ (QEn (Wa:a.1<y.ns.length));have hxu:=Y _ (QEn (Wa:a.1<y.ns.length)) _ (QEn (Wa:b.1<(y.ns[a.1]'Wa).length));refine Qp (QK (HA Z Z Z Z Z Z Z Z Z Z Z) (Qw (Qu (Qd λK C=>Qt Z Z Z Wa (QH Wa) Z (QB (cs:=[_,_,_]) Z Z Z Z (Zk Z (Za Z Z Z Z Z Z Z Z (kc C (FD Z Z Z Z Z Z Z Z Z Z Z Z) (Qd λK C=>Qb Z (Qe Z Z (Qr Z Z Z (ZE Z Z Z Wd Wa Wa Z (Qr Z (Xd Z (Q5 Wa Wa)) Z (Zp Z (Qb Z (Qq (g:=66) Z (λh6=>?_) (λh6=>?_)))))))))))))))));rw[h6];simp only[qA]at h6;refine Qc Z (QB (cs:=[_]) Z Z Z Z (Qc Z (Qb Z (Qc Z (QB (cs:=[_,_,_]) Z Z Z Z (Qc Z (QA (GP hs U (Y _ (QEn (Wa:a.1<y.ns.length)) _ (QEn (Wa:b.1<(y.ns[a.1]'Wa).length))) (V _ (QEn (Wa:a.1<y.ns.length)) _ (QEn (Wa:b.1<(y.ns[a.1]'Wa).length)))) Z Z (.inr Z) (Qh Z Z (kc C (QgO Z Z Z Z Z Z Z Z Z Z Z Z Z) (Qs Z (λh7=>?_) (λh7=>?_)))))))))));rw[h7];refine Qd λK C=>Qb Z (Qe Z Z (Qr Z Z Z (ZE Z Z Z Wd Wa Wa Z (Za Z Z (Q5 Wa Wa) Z Z Z Z Z (kc C (FD Z Z Z Z Z Z Z Z Z Z Z Z) (MO (s':=⟨_,[(6,⟨[[.u4 60 (b.2.2).length]],1,92,false⟩),(60,⟨(b.2.2).map rI,1,3,true⟩),(19,⟨((b.2.1.set ((y.ns[a.1]'Wa)[b.1]'Wa).u.toNat true)).map rB,1,4,true⟩),(2,⟨[[.sl (w.map Zv)]],1,25,true⟩),(12,⟨[F5 ((y.ns[a.1]'Wa)[b.1]'Wa)],3,82,true⟩)]⟩) (QM (l:=[1,2,5,6,12,48,49,50,54,55,56,900000]) (lH:=[6,60,19,2,12]) (FD rfl rfl rfl rfl rfl rfl rfl rfl rfl rfl rfl rfl) (Qa rfl (Qa rfl (Qa rfl (Qa rfl (Qa rfl Qf))))) rfl (QzA QdB) rfl) (CB (l:=[_,_]) rfl (Qe rfl rfl (Qr rfl rfl rfl (Rq (k:=60) (Hr:=[(6,⟨[[.u4 60 ((b.2.2++[((y.ns[a.1]'Wa)[b.1]'Wa).u])).length]],1,92,false⟩),(60,⟨((b.2.2++[((y.ns[a.1]'Wa)[b.1]'Wa).u])).map rI,1,3,true⟩),(19,⟨((b.2.1.set ((y.ns[a.1]'Wa)[b.1]'Wa).u.toNat true)).map rB,1,4,true⟩),(2,⟨[[.sl (w.map Zv)]],1,25,true⟩),(12,⟨[F5 ((y.ns[a.1]'Wa)[b.1]'Wa)],3,82,true⟩)]) rfl rfl We rfl rfl rfl rfl (PJ (b.2.2) (by intro p hp;simp only[QEk,QEj,or_false]at hp;rcases hp with rfl |rfl |rfl<;>exact⟨by simp,by first |rfl |exact Fm _ _⟩)) (PJ ((b.2.2++[((y.ns[a.1]'Wa)[b.1]'Wa).u])) (by intro p hp;simp only[QEk,QEj,or_false]at hp;rcases hp with rfl |rfl |rfl<;>exact⟨by simp,by first |rfl |exact Fm _ _⟩)) (QlR b.2.2 (by have:=T.2.1.inv.bd;omega) (prX rfl)) (Qk (QK (HA rfl rfl rfl rfl rfl rfl rfl rfl rfl rfl rfl) (QJ λK C=>Q2 rfl rfl Wb (Qb rfl (C _ ?_)))))))))))))))
 refine Qj (b.1+1,b.2.1.set ((y.ns[a.1]'Wa)[b.1]'Wa).u.toNat true,b.2.2++[((y.ns[a.1]'Wa)[b.1]'Wa).u]) ?_ ?_ ?_;exact QM (l:=[1,2,5,6,48,49,50,54,55,56,900000]) (lH:=[2,6,19,60]) (HA Z Z Z Z Z Z Z Z Z Z Z) (Qa Z (Qa Z (Qa Z (Qa Z Qf)))) Wd Z Z
 ·exact⟨Wa,T.2.1.put Wa (QEn (Wa:b.1<(y.ns[a.1]'Wa).length)) er h7 hxu.1 Wa (by grind [Nj]),(T.2.2.set Wa).next Wa λ_=>by grind [Yd]⟩
 omega;rw[h7];refine Qp (Qk (QK (HA Z Z Z Z Z Z Z Z Z Z Z) (QJ λK C=>Q2 Z Z Wb (Qb Z (C _ (Qj (b.1+1,b.2.1,b.2.2) ?_ ?_ ?_))))));exact QM (l:=[1,2,5,6,48,49,50,54,55,56,900000]) (lH:=[2,6,19,60]) (HA Z Z Z Z Z Z Z Z Z Z Z) (Qa Z (Qa Z (Qa Z (Qa Z Qf)))) Z Z Z
 ·exact⟨Wa,T.2.1,T.2.2.next Wa λh=>absurd h Wc⟩
 omega;rw[h6];simp only[qA]at h6;refine gn4 Z Z Z Z (Qh Z Z (kc C (QgO Z Z Z Z Z Z Z Z Z Z Z Z Z) (Zq Z (Qp (Qk (QK (HA Z Z Z Z Z Z Z Z Z Z Z) (QJ λK C=>Q2 Z Z Wb (Qb Z (C _ (Qj (b.1+1,b.2.1,b.2.2) ?_ ?_ ?_))))))))));exact QM (l:=[1,2,5,6,48,49,50,54,55,56,900000]) (lH:=[2,6,19,60]) (HA Z Z Z Z Z Z Z Z Z Z Z) (Qa Z (Qa Z (Qa Z (Qa Z Qf)))) Z Z Z
 ·exact⟨Wa,T.2.1,T.2.2.next Wa λ_=>by grind [Nj]⟩
 omega;rw[h5];simp only[qA]at h5;refine Q3 (QF (Qx (QD (Qk (ks8 Z Z Z Z Z Z Z Z (QJ λK C=>Q2 Z Z Wb (Qb Z (C _ (Qj (a.1+1,b.2.1,b.2.2) ?_ ?_ ?_)))))))));exact QM (l:=[1,2,5,6,48,49,50,900000]) (lH:=[2,6,19,60]) (kp8 Z Z Z Z Z Z Z Z) (Qa Z (Qa Z (Qa Z (Qa Z Qf)))) Z Z Z
 ·exact⟨Wa,T.2.1.next Wa T.2.2 Wa⟩
 omega;rw[h4];simp only[qA]at h4;refine Q3 (QF (Qx (QD (Qk (ks5 rfl rfl rfl rfl rfl (MO (s':=⟨_,[(6,⟨[[.u4 60 (a.2.2).length]],1,92,false⟩),(60,⟨(a.2.2).map rI,1,3,true⟩),(19,⟨(a.2.1).map rB,1,4,true⟩),(2,⟨[[.sl (w.map Zv)]],1,25,true⟩)]⟩) (QM (l:=[1,2,5,6,900000]) (lH:=[6,60,19,2]) (kp5 rfl rfl rfl rfl rfl) (Qa rfl (Qa rfl (Qa rfl (Qa rfl Qf)))) rfl (rfl) rfl) (QdR (l:=[]) rfl (Rq (k:=60) (Hr:=[(6,⟨[[.u4 60 (a.2.2.tail).length]],1,92,false⟩),(60,⟨(a.2.2.tail).map rI,1,3,true⟩),(19,⟨(a.2.1).map rB,1,4,true⟩),(2,⟨[[.sl (w.map Zv)]],1,25,true⟩)]) rfl rfl We rfl rfl rfl rfl (PJ (a.2.2) (by intro p hp;simp only[QEk,QEj,or_false]at hp;rcases hp with rfl |rfl<;>exact⟨by simp,by first |rfl |exact Fm _ _⟩)) (PJ (a.2.2.tail) (by intro p hp;simp only[QEk,QEj,or_false]at hp;rcases hp with rfl |rfl<;>exact⟨by simp,by first |rfl |exact Fm _ _⟩)) (QlS a.2.2 (prX rfl)) (Qb rfl (QN rfl rfl (QN rfl rfl ?_)))))))))))
 refine mv2 Z Z ?_;have hT:=(hA.2.stop Wa er).take;refine Qj (tkQ a.2.1 a.2.2) ?_ ?_ ?_;exact QM (l:=[1,2,5,6,7,8,900000]) (lH:=[2,6,19,60]) (kp7 Z Z Z Z Z Z Z) (Qa Z (Qa Z (Qa Z (Qa Z Qf)))) Z Z Z;omega;show muQ _<muQ s;have:=QoG hA.2.mu;have e:muQ s=(2*Lj s.1+s.2.1.length)+1:=(by rw[muQ,if_pos h3]);omega;rw[h3];refine Q3 (QF (Qx (QD (ks1 Z (Qd λK C=>mv2 Z Z (kc1 C Z (Qv ?_)))))));exact Kh Z Z Z Wd (by rw[neededR,if_pos Wa,<- hI.stop Wa];rfl)
variable {c:List Int} {i:Nat} {w:Ql}
theorem QDk (hi:i<c.length) (h:nddB w c i=false):((tidyUp w c i).map rI).set i [.int .i64 (-1)]=(tidyUp w c (i+1)).map rI:=by
 rw[<- Lw hi,QFQ,tdAt,if_neg Wc];rfl
theorem QDl (hi:i<c.length) (h:nddB w c i=true):(((tidyUp w c i).map rI).set i [.int .i64 (-1)]).set i [.int .i64 c[i]]=(tidyUp w c (i+1)).map rI:=by
 rw[<- Lw hi,QFQ,tdAt,if_pos h,List.set_set,Ym hi];rfl
theorem QDj:List.replicate ((c.length:Nat):Int).toNat [D.int .i64 0]=(tidyUp w c 0).map rI:=by
 rw[tidyUp,List.take_zero,QFJ,QFV];rfl
theorem Qhw {r C:List (List D)} {X:QEf} (h:r=C):(14,(⟨r,1,3,true⟩:x4))::X=(14,⟨C,1,3,true⟩)::X:=by rw[h]
theorem Qps {α:Type} {l:List α} {k:Nat} {x:α} (h:k<l.length):(l.set k x)[k]?=some x:=QFd h
theorem QwF (hw:Xc w) (C:c.length<=1048576) (h:mayC w c=true):Ok Tryz.prog 28 [Q9 w,Q0 c,gD] (R9 (nddL w c)):=by
 grind [RX,BL]
theorem LS {w:Ql} (hw:Xc w) {c:List Int} (hc:c.length<=1048576):Ok Tryz.prog 21 [Q9 w,Q0 c,gD] (Q0 (tidyR w c)):=by
 refine Ok.b9 (ds:=[Q9 w,Q0 c]) (dg:=gD) tfol Tryz.func21 QDw (QEi Z) ?_;show TW _ _ tf21.body _ _;refine Qd λK C=>Zu Z Z Z (Qb Z (kc3 C Z Z Z (Qw (Qd λK C=>QB (cs:=[_]) Z Z Z Z (Qb Z (QA (XP hw hc) Z Z (.inr Z) (Zp Z (kc4 C Z Z Z Z (Qs Z (λM=>?_) (λM=>?_))))))))));rw[M];simp only[qA]at M;refine Qd λK C=>Qb Z (kc1 C Z (Qv (Qi (ZU Z ?_))));rw[Qq0 Wa];rfl;rw[M];simp only[qA]at M;obtain⟨T,U⟩:=Fh (w:=w) (c:=c) Wa;have O:=T.val hw;have hs:=O.ud;have hr:=O.se;have V:=U.ch;have hcl:=V.len;have hvl:=O.len;refine Qp (ks3 Z Z Z (Qd λK C=>Qb Z (QW Z QE (RF Z Z Z Wa Wa Wa (Qb Z (kc4 C Z Z Z Z (Qw (Qd λK C=>QB (cs:=[_]) Z Z Z Z (Qb Z (QA (QwF hw hc Wa) Z Z (.inl Z) (QW Z QE (Qb Z (kc5 C Z Z Z Z Z (Qu (Q8 (ι:=Nat) (λi=>⟨[(1,Q0 c),(5,.u4 14 (tidyUp w c i).length),(17,R9 (nddL w c)),(18,.int .i64 c.length),(19,.int .i64 i)],[(14,⟨(tidyUp w c i).map rI,1,3,true⟩)]⟩) (λi=>i<=c.length) (λi=>c.length - i) 0 ?_ ?_ ?_)))))))))))))));exact QM (l:=[1,5,17,18,19]) (lH:=[14]) (kp5 Z Z Z Z Z) (Qa Z Qf) (by simp[FP (QEu _),Ro]) (Qhw QDj) Z;omega;intro i hI;have hlen:=FP (w:=w) hI;have hnl:=Ro w c;refine Qd λK C=>ZK Z Z (kc6 C Z Z Z Z Z Z (Qw (Qs Z (λG=>?_) (λG=>?_))));rw[G];simp only[qA]at G;refine Qp (ks5 Z Z Z Z Z (Qw (Qu (Qd λK C=>Qb Z (Qt Z Z Z Wa (QH Wa) Z (Qr Z Z Z (mv2 Z Z (kc7 C Z Z Z Z Z Z Z (Qd λK C=>mv2 Z Z (ZE Z Z Z Wd Wa Wa Z (Za Z Z (Q5 Wa Wa) Z Z Z Z Z (kc7 C Z Z Z Z Z Z Z (Qd λK C=>Qb Z (kc7 C Z Z Z Z Z Z Z (Qs Z (λY=>?_) (λY=>?_))))))))))))))));rw[Y];refine QJ λK C=>mv2 Z Z (mv2 Z Z (Qt Z Z Z Wa (QH Wa) Z (Qr Z Z Z (ZE Z Z Z Wd Wa Wa Z (Za Z Z (Qps Wc) Z Z Z Z Z (C _ (Qk (ks5 Z Z Z Z Z (QJ λK C=>Q2 Z Z Wb (Qb Z (C _ (Qj (i+1) ?_ ?_ ?_))))))))))));exact QM (l:=[1,5,17,18,19]) (lH:=[14]) (kp5 Z Z Z Z Z) (Qa Z Qf) (by grind [FP]) (Qhw (QDl Wa (by grind [SQ]))) Z;omega;omega;rw[Y];refine Qp (Qk (ks5 Z Z Z Z Z (QJ λK C=>Q2 Z Z Wb (Qb Z (C _ (Qj (i+1) ?_ ?_ ?_))))));exact QM (l:=[1,5,17,18,19]) (lH:=[14]) (kp5 Z Z Z Z Z) (Qa Z Qf) (by grind [FP]) (Qhw (QDk Wa (by grind [SQ]))) Z;omega;omega;rw[G];simp only[qA]at G;refine Q3 (QF (Qx (QD (ks1 Z (Qd λK C=>mv2 Z Z (kc1 C Z (Qv ?_)))))));exact Kh Z Z Z Wd (by rw[Fr Wa,<- QeJ (i:=i) Wa];rfl)
theorem QwM:Ok Tryz.prog 25 [Q9 wAwk,Q0 [0, -1, -1],gD] (Qd5 [⟨2,0,0⟩]):=by
 grind [XA,LP,Qfj]
theorem QwL:Ok Tryz.prog 21 [Q9 wAwk,Q0 [0,0,0],gD] (Q0 [0,0, -1]):=by
 grind [LS,LP,Qjv]
theorem QwI:Ok Tryz.prog 18 [Q9 wAwk,Q0 [0,0, -1],gD] (.bool true):=by
 grind [Nc,LP,Qfi]
theorem QwJ:Ok Tryz.prog 17 [Q9 wAwk,Q0 [0,1, -1],gD] (.bool false):=by
 grind [XP,LP,Qr1]
theorem Zx:Ok Tryz.prog 23 [gD] (.bool true):=by
 refine Ok.b9 (ds:=[]) (dg:=gD) tfol Tryz.func23 QDx (QEi Z) ?_;show TW _ _ tf23.body _ _;refine Qd λK C=>Qb Z (kc1 C Z (Qd λK C=>QA (Y8) Z Z (.inl Z) (Zk Z (Za Z Z Z Z Z Z Z Z (kc2 C Z Z (Qd λK C=>QB (cs:=[_,_]) Z Z Z Z (Zz Z Z (Zo Z Z (Zo Z Z (Zz Z Z (Zo Z Z (Zz Z Z (Zz Z Z (Zz Z Z (Zo Z Z (Zz Z Z (Zz Z Z (Zo Z Z (Zz Z Z (Zo Z Z (Zz Z Z (Zk Z (Za Z Z Z Z Z Z Z Z (kc2 C Z Z (Qd λK C=>QB (cs:=[_]) Z Z Z Z (Zo Z Z (QA (Ok.td QwM Wg) Z Z (.inl Z) (Qb Z (kc3 C Z Z Z (Qd λK C=>QB (cs:=[_]) Z Z Z Z (Zo Z Z (QA (Ok.td QwL Wg) Z Z (.inl Z) (Qb Z (kc4 C Z Z Z Z (Qd λK C=>QB (cs:=[_]) Z Z Z Z (Zo Z Z (QA (Ok.td QwI Wg) Z Z (.inr Z) (Qb Z (Qq (g:=31) Z (λV=>?_) (λV=>?_))))))))))))))))))))))))))))))))))))))));rw[V];simp only[qB]at V;refine Qc Z (Qb Z (Qc Z (QW Z QE (Qc Z (Yp Z Z (Qh Z Z (Qb Z (Qq (g:=36) Z (λU=>?_) (λU=>?_)))))))));rw[U];simp only[qB]at U;refine Qc Z (Qb Z (Qc Z (Qt Z Z Z We Z Z (Qc Z (QB (cs:=[_,_,_]) Z Z Z Z (Qc Z (Zz Z Z (Qc Z (TO Z Z Z (Qh Z Z (Qb Z (Qq (g:=43) Z (λT=>?_) (λT=>?_)))))))))))));rw[T];simp only[qB]at T;refine Qc Z (Qb Z (Qc Z (QW Z QE (Qc Z (Yp Z Z (Qh Z Z (Qb Z (Qq (g:=48) Z (λO=>?_) (λO=>?_)))))))));rw[O];simp only[qB]at O;refine Qc Z (Qb Z (Qc Z (Qt Z Z Z We Z Z (Qc Z (Qr Z Z Z (Qc Z (Yp Z Z (Qh Z Z (Qb Z (Qq (g:=54) Z (λM=>?_) (λM=>?_)))))))))));rw[M];simp only[qB]at M;refine Qc Z (Qb Z (Qc Z (Qt Z Z Z We Z Z (Qc Z (Qr Z Z Z (Qc Z (Yp Z Z (Qh Z Z (Qb Z (Qq (g:=60) Z (λG=>?_) (λG=>?_)))))))))));rw[G];simp only[qB]at G;refine Qc Z (QB (cs:=[_]) Z Z Z Z (Qc Z (Zo Z Z (Qc Z (QA (Ok.td QwJ Wg) Z Z (.inr Z) (Qc Z (Zp Z (Qh Z Z (Qb Z (kc1 C Z (Qv (Qg Z ?_))))))))))));rfl
 ·rw[G];simp only[qB]at G
  (simp at G;done)
 ·rw[M];simp only[qB]at M
  (simp at M;done)
 ·rw[O];simp only[qB]at O
  (simp at O;done)
 ·rw[T];simp only[qB]at T
  (simp at T;done)
 ·rw[U];simp only[qB]at U
  (simp at U;done)
 ·rw[V]
  (simp at V;done)
end Go.Proofs
namespace Go.Proofs
open Go Go.Abs
set_option maxRecDepth 100000
set_option maxHeartbeats 0
set_option cbv.maxSteps 100000000
def t36:TT false Tryz.f36:=⟨_,by cbv⟩
def tf36:o6:=t36.1
theorem QzP:QT Tryz.prog Tryz.f36=some tf36.erase:=by kernel_rfl
open M3 M25
set_option maxRecDepth 4000
set_option maxHeartbeats 1000000
variable {c:List Int} {i k v:Nat} {w:Ql}
theorem Hh (hw:WSm w) (G:z6 w c) (hv:v<w.length) (M:v<c.length) (h0:0<=c[v]) (hp:c[v].toNat<w[v].cs.length) (hk:k<(w[v].cs[c[v].toNat]).bs.length) (hu:(w[v].cs[c[v].toNat]).bs[k].u=i):Ok Tryz.prog 36 [Q9 w,Q0 c,.agg [.int .i64 3,.int .i64 v,.int .i64 k],.int .i64 i] (.bool true):=by
 refine Ok.n7 tfol Tryz.func36 QzP (QEi Z) ?_;show TW _ _ tf36.body _ _;have hcl:=G.len;have hb:=HK G M;have hwn:=hw.ns _ (QEn hv) _ (QEn hp);have hwl:=hw.nl _ (QEn hv) _ (QEn hp);refine Qd λK C=>Zu Z Z Z (Zu Z Z Z (Qb Z (kc4 C Z Z Z Z (Qw (Qd λK C=>Qb Z (Qe Z Z (QG (ds0:=dn 19) Z Z Z Z Z (Qt Z Z Z Wa (QH Wa) Z (QG (ds0:=dn 17) Z Z Z Z Z (ZK Z Z (Qb Z (Qq (g:=18) Z (λY=>?_) (λY=>?_)))))))))))))
 grind
 rw[Y];simp only[qA]at Y;refine Qc Z (Qb Z (Qc Z (Qe Z Z (Qc Z (QG (ds0:=[11,10,1,0]) Z Z Z Z Z (Qc Z (Qt Z Z Z Wa (QH Wa) Z (Qc Z (QG (ds0:=[1,0]) Z Z Z Z Z (Qc Z (Qe Z Z (Qc Z (QG (ds0:=dn 6) Z Z Z Z Z (Qc Z (Qe Z Z (Qc Z (QG (ds0:=dn 6) Z Z Z Z Z (Qc Z (Qt Z Z Z Wa (QH Wa) Z (Qc Z (Q7 Z Z (Qc Z (QG (ds0:=[2,1,0]) Z Z Z Z Z (Qc Z (QW Z QE (Qc Z (Gw Z Z (Qh Z Z (kc5 C Z Z Z Z Z (Qs Z (λV=>?_) (λV=>?_)))))))))))))))))))))))))))))))
 grind
 rw[V];simp only[qA]at V;refine Qp (ks4 Z Z Z Z (Qd λK C=>Qe Z Z (QG (ds0:=[11,10,9,3,2,0,0]) Z Z Z Z Z (Qe Z Z (QG (ds0:=[11,10,9,3,2,0,0]) Z Z Z Z Z (Qt Z Z Z Wa (QH Wa) Z (Q7 Z Z (QG (ds0:=[3,2,0,0]) Z Z Z Z Z (Qb Z (Qe Z Z (QG (ds0:=[5,4,3,2,0,0]) Z Z Z Z Z (Qt Z Z Z Wa (QH Wa) Z (QG (ds0:=[3,2,0,0]) Z Z Z Z Z (Qt Z Z Z Wa (Q5 Wa Wa) Z (QY (ds0:=[0,0]) (cs:=[_,_,_,_,_,_,_,_]) Z Z Z Z Z Z (Zk Z (YR (ds0:=[]) Z Z Z Z Z Z Z Z Z Z (kc3 C Z Z Z (Qw (Qd λK C=>Qe Z Z (Qr Z Z Z (Yp Z Z (kc4 C Z Z Z Z (Qs Z (λU=>?_) (λU=>?_)))))))))))))))))))))))));rw[U];simp only[qA]at U;refine Qd λK C=>Qe Z Z (Qr Z Z Z (Gw Z Z (Qb Z (Qq (g:=54) Z (λT=>?_) (λT=>?_)))));rw[T];simp only[qA]at T;refine Qc Z (Qe Z Z (Qc Z (Qr Z Z Z (Qc Z (Qe Z Z (Qc Z (Qr Z Z Z (Qc Z (QW Z QE (Qc Z (ZK Z Z (Qh Z Z (Qb Z (Qq (g:=62) Z (λO=>?_) (λO=>?_)))))))))))))));rw[O];simp only[qA]at O;refine Qc Z (Qe Z Z (Qc Z (Qr Z Z Z (Qc Z (Qe Z Z (Qc Z (Qr Z Z Z (Qc Z (Qt Z Z Z Wa (QH Wa) Z (Qc Z (Q7 Z Z (Qc Z (Qr Z Z Z (Qc Z (Qb Z (Qc Z (Yp Z Z (Qh Z Z (Qb Z (kc1 C Z (Qv (Qi (Qg Z ?_)))))))))))))))))))))))
 grind
 grind
 grind
 grind
theorem KM (hw:WSm w) (G:z6 w c) (hv:v<w.length) (T:v<c.length) (h0:0<=c[v]) (hp:c[v].toNat<w[v].cs.length) (hk:k<(w[v].cs[c[v].toNat]).ns.length) {j:Nat} (hj:j<(w[v].cs[c[v].toNat]).ns[k].length) (hu:(w[v].cs[c[v].toNat]).ns[k][j].u=i):Ok Tryz.prog 36 [Q9 w,Q0 c,.agg [.int .i64 2,.int .i64 v,.int .i64 k],.int .i64 i] (.bool true):=by
 refine Ok.n7 tfol Tryz.func36 QzP (QEi Z) ?_;show TW _ _ tf36.body _ _;have hcl:=G.len;have hb:=HK G T;have hwn:=hw.ns _ (QEn hv) _ (QEn hp);have O:=hw.nl _ (QEn hv) _ (QEn hp);have hrl:=O _ (QEn hk);refine Qd λK C=>Zu Z Z Z (Zu Z Z Z (Qb Z (kc4 C Z Z Z Z (Qw (Qd λK C=>Qb Z (Qe Z Z (QG (ds0:=dn 19) Z Z Z Z Z (Qt Z Z Z Wa (QH Wa) Z (QG (ds0:=dn 17) Z Z Z Z Z (ZK Z Z (Qb Z (Qq (g:=18) Z (λh1=>?_) (λh1=>?_)))))))))))))
 grind
 rw[h1];simp only[qA]at h1;refine Qc Z (Qb Z (Qc Z (Qe Z Z (Qc Z (QG (ds0:=[11,10,1,0]) Z Z Z Z Z (Qc Z (Qt Z Z Z Wa (QH Wa) Z (Qc Z (QG (ds0:=[1,0]) Z Z Z Z Z (Qc Z (Qe Z Z (Qc Z (QG (ds0:=dn 6) Z Z Z Z Z (Qc Z (Qe Z Z (Qc Z (QG (ds0:=dn 6) Z Z Z Z Z (Qc Z (Qt Z Z Z Wa (QH Wa) Z (Qc Z (Q7 Z Z (Qc Z (QG (ds0:=[2,1,0]) Z Z Z Z Z (Qc Z (QW Z QE (Qc Z (Gw Z Z (Qh Z Z (kc5 C Z Z Z Z Z (Qs Z (λh2=>?_) (λh2=>?_)))))))))))))))))))))))))))))))
 grind
 rw[h2];simp only[qA]at h2;refine Qp (ks4 Z Z Z Z (Qd λK C=>Qe Z Z (QG (ds0:=[11,10,9,3,2,0,0]) Z Z Z Z Z (Qe Z Z (QG (ds0:=[11,10,9,3,2,0,0]) Z Z Z Z Z (Qt Z Z Z Wa (QH Wa) Z (Q7 Z Z (QG (ds0:=[3,2,0,0]) Z Z Z Z Z (Qb Z (Qe Z Z (QG (ds0:=[5,4,3,2,0,0]) Z Z Z Z Z (Qt Z Z Z Wa (QH Wa) Z (QG (ds0:=[3,2,0,0]) Z Z Z Z Z (Qt Z Z Z Wa (Q5 Wa Wa) Z (QY (ds0:=[0,0]) (cs:=[_,_,_,_,_,_,_,_]) Z Z Z Z Z Z (Zk Z (YR (ds0:=[]) Z Z Z Z Z Z Z Z Z Z (kc3 C Z Z Z (Qw (Qd λK C=>Qe Z Z (Qr Z Z Z (Yp Z Z (kc4 C Z Z Z Z (Qs Z (λh3=>?_) (λh3=>?_)))))))))))))))))))))))))
 grind
 rw[h3];simp only[qA]at h3;refine Qp (ks3 Z Z Z (Qw (Qd λK C=>Qe Z Z (Qr Z Z Z (Ys Z Z (Qb Z (Qq (g:=76) Z (λh4=>?_) (λh4=>?_))))))))
 grind
 rw[h4];simp only[qA]at h4;refine Qc Z (Qe Z Z (Qc Z (Qr Z Z Z (Qc Z (ZK Z Z (Qh Z Z (Qb Z (Qq (g:=81) Z (λY=>?_) (λY=>?_)))))))))
 grind
 rw[Y];simp only[qA]at Y;refine Qc Z (Qe Z Z (Qc Z (Qr Z Z Z (Qc Z (Qe Z Z (Qc Z (Qr Z Z Z (Qc Z (QW Z QE (Qc Z (Gw Z Z (Qh Z Z (kc4 C Z Z Z Z (Qs Z (λV=>?_) (λV=>?_)))))))))))))))
 grind
 rw[V];simp only[qA]at V;refine Qp (ks3 Z Z Z (Qw (Qd λK C=>Qe Z Z (Qr Z Z Z (Qe Z Z (Qr Z Z Z (Qt Z Z Z Wa (QH Wa) Z (Qr Z Z Z (QW Z QE (Qb Z (kc4 C Z Z Z Z (Qu (Q8 (ι:=Nat) (λt=>⟨[(3,.int .i64 i),(94,Yg (w[v].cs[c[v].toNat]).ns[k]),(95,.int .i64 (w[v].cs[c[v].toNat]).ns[k].length),(96,.int .i64 t)],[]⟩) (λt=>t<=(w[v].cs[c[v].toNat]).ns[k].length/\t<=j) (λt=>(w[v].cs[c[v].toNat]).ns[k].length - t) 0 ?_ ?_ ?_)))))))))))));exact QM (l:=[3,94,95,96]) (lH:=[]) (kp4 Z Z Z Z) Qf Z Z Z;omega;intro t hI;refine Qd λK C=>ZK Z Z (kc5 C Z Z Z Z Z (Qw (Qs Z (λU=>?_) (λU=>?_))));rw[U];simp only[qA]at U;refine Qp (ks4 Z Z Z Z (Qw (Qu (Qd λK C=>Qt Z Z Z Wa (QH Wa) Z (QB (cs:=[_,_,_]) Z Z Z Z (Zk Z (Za Z Z Z Z Z Z Z Z (kc5 C Z Z Z Z Z (Qd λK C=>Qe Z Z (Qr Z Z Z (Qb Z (Yp Z Z (kc5 C Z Z Z Z Z (Qs Z (λM=>?_) (λM=>?_)))))))))))))));rw[M];simp only[qA]at M;refine Qd λK C=>Qb Z (kc1 C Z (Qv (Qm (Qi (QQ (Qm (Qi (Qg Z ?_))))))));rfl;rw[M];simp only[qA]at M;have htj:t≠j:=λe=>by grind
 refine Qp (Qk (ks4 Z Z Z Z (QJ λK C=>Q2 Z Z Wb (Qb Z (C _ (Qj (t+1) ?_ ?_ ?_))))));exact QM (l:=[3,94,95,96]) (lH:=[]) (kp4 Z Z Z Z) Qf Z Z Z;omega;omega
 grind
end Go.Proofs
namespace Go.Proofs
open Go Go.Abs
set_option maxRecDepth 100000
set_option maxHeartbeats 0
set_option cbv.maxSteps 100000000
def t5:TT false Tryz.f5:=⟨_,by cbv⟩
def tf5:o6:=t5.1
theorem tp5:QT Tryz.prog Tryz.f5=some tf5.erase:=by kernel_rfl
open M3 M25
set_option maxRecDepth 4000
set_option maxHeartbeats 1000000
variable {c:List Int} {w:Ql}
section
variable {w:Ql} {c b:List Int} {f:Qas} {u:Nat}
theorem Qc3 {ns:List (List Zj)}:∀{i:Nat},f∈Kg w c u ns i->∃k,∃h:k<ns.length,YO w c ns[k]=false/\f=⟨2,u,k⟩
 |0,h=>by cases h
 |i+1,h=>by
  rw[Kg,QEt]at h;rcases h with h |h
  exact Qc3 h
  grind
theorem Qfm {bs:List Zj}:∀{i:Nat},f∈Ts w c u bs i->∃k,∃h:k<bs.length,mtM w c bs[k]=true/\f=⟨3,u,k⟩
 |0,h=>by cases h
 |i+1,h=>by
  rw[Ts,QEt]at h;rcases h with h |h
  exact Qfm h
  grind
def Qz0 (w:Ql) (c:List Int) (f:Qas):Prop:=∃(u:Nat) (hu:u<w.length) (hc:u<c.length) (hp:c[u].toNat<w[u].cs.length),0<=c[u]/\
 ((∃k,∃h:k<w[u].cs[c[u].toNat].ns.length,YO w c w[u].cs[c[u].toNat].ns[k]=false/\f=⟨2,u,k⟩)\/∃k,∃h:k<w[u].cs[c[u].toNat].bs.length,mtM w c w[u].cs[c[u].toNat].bs[k]=true/\f=⟨3,u,k⟩)
theorem Tr (C:z6 w c):∀{n:Nat},n<=c.length->f∈ZR w c n->(f=⟨1,0,0⟩/\cA c 0<0)\/Qz0 w c f
 |0,_,h=>by
  rw[ZR]at h
  grind
 |n+1,hn,h=>by
  rw[ZR,QEt]at h;rcases h with h |h
  exact Tr C Wa h;split at h;rename_i h0;have G:n<c.length:=Wa;have M:=C.len;rw[Ym G]at h0;have hp:=Na (HK C G).2 h0;rw[SX Wa G hp,Qjb,QEt]at h;exact .inr ⟨n,Wa,G,hp,h0,h.imp Qc3 Qfm⟩
  grind
end
section
variable {w:Ql} {c b:List Int} {f:Qas} {i:Nat}
theorem Qhb (hw:WSm w) (C:z6 w c) (hb:z6 w b) {x:Zj} (hx:0<=x.u/\x.u<w.length) (h:cA b x.u=cA c x.u):mtM w b x=mtM w c x:=by
 grind [Fi,mtP]
end
theorem Qms {x:Int} (h:x=0) (C:¬600<szT w 601):okS w x=true:=by
 grind [okS]
theorem M5 (hw:Xc w) (h:c∈chW w):v8 w/\z6 w c/\Jd w c=true:=by
 have C:=(Pd hw).2 h
 (repeat clear hK K);simp_all [goodR,Kl]
theorem QmC {i:Nat} {v:Int} {u:Nat} (h:u≠i):cA (c.set i v) u=cA c u:=by
 grind [cA]
variable {i:Nat} {v:Int}
section
variable {w:Ql} {c b:List Int} {f:Qas} {i:Nat}
theorem Qz2 (hw:WSm w) (hr:WIn w) (hc:z6 w c) (hb:z6 w b) (h0:0<w.length) (hf:Jd w c=true) (he:∀u:Nat,u≠i->cA b u=cA c u) (h:f∈PR w b):
  ((0<=f.u/\f.u<b.length)/\(f.k=1->i=0))/\(f.u≠i->Ok Tryz.prog 36 [Q9 w,Q0 b,.agg (QfQ f),.int .i64 i] (.bool true)):=by
 have hbl:=hb.len;have hcl:=hc.len
 have O:∀{x:Zj},(0<=x.u/\x.u<w.length)->¬mtM w b x=mtM w c x->x.u=i:=λ{x} hx C=>by
  grind [Qhb,Qb6]
 rcases Tr hb (QEI _) h with⟨rfl,Y⟩ |⟨u,hu,G,hp,Y,V⟩
 have hi:i=0:=QFL λhi=>by
  have M:=he 0 (λe=>hi e.symm);rw[Jd,QEm,decide_eq_true_eq]at hf
  grind
 grind
 have U:u<c.length:=Wa
 have T:∀(C:(u:Int)≠i),w[u].cs[b[u].toNat].ns.all (YO w c)=true/\YO w c w[u].cs[b[u].toNat].bs=false:=λC=>by
  have e:=he u Wa;rw[Ym G,Ym U]at e;have M:=((KA hw hc h0).1 hf).2 u hu U Wa Wa
  grind
 rcases V with⟨k,hk,V,rfl⟩ |⟨k,hk,V,rfl⟩;refine⟨⟨⟨by simp,by grind⟩,λh=>absurd (show(2:Int)=1 from h) We⟩,λC=>?_⟩;have M:=QEs.1 (T C).1 _ (QEn hk)
 rw[YO,QFy]at M;obtain⟨x,hx,h4⟩:=M;rw[YO,List.any_eq_false]at V;obtain⟨j,hj,rfl⟩:=QFR.1 hx;exact KM hw hb hu G Y hp hk hj (O (hr.nr _ (QEn hu) _ (QEn hp) _ (QEn hk) _ hx) λe=>V _ hx Wc);refine⟨⟨⟨by simp,by grind⟩,λh=>absurd (show(3:Int)=1 from h) We⟩,λC=>?_⟩;have M:=(T C).2;rw[YO,List.any_eq_false]at M;exact Hh hw hb hu G Y hp hk (O (hr.bw _ (QEn hu) _ (QEn hp) _ (QEn hk)) λe=>M _ (QEn hk) Wc)
end
theorem Qs7 (h:(chW w).getLast?.isSome=true):∃c,c∈chW w/\(chW w).getLast?.getD []=c:=by
 grind
theorem QtR (C:z6 w c) (hi:i<w.length) (G: -1<=v/\v<w[i].cs.length):z6 w (c.set i v):=⟨by rw[QFU];exact C.len,λu hu M=>by
 rw[QFZ];split
 grind
 exact C.bd u hu Wc⟩
theorem Qww (hw:Xc w) (h:c∈chW w) (hi:i<w.length) (O: -1<=v/\v<w[i].cs.length) {f:Qas} (G:f∈wrongR w (c.set i v)):
  ((0<=f.u/\f.u<c.length)/\(f.k=1->i=0))/\(f.u≠i->Ok Tryz.prog 36 [Q9 w,Q0 (c.set i v),.agg (QfQ f),.int .i64 i] (.bool true)):=by
 obtain⟨hm,M,T⟩:=M5 hw h;have C:=hm.val hw;have hb:=QtR M hi O;rw[Kj (GB hm ⟨hb.len,hb.bd⟩)]at G;have:=Qz2 C.ud C.se M hb C.len.1 T (i:=i) (λu hu=>QmC hu) G
 grind
theorem QcK (hw:Xc w) (h:c∈chW w):holdsR w c=true/\wrongR w c=[]:=by
 have C:=(Pd hw).2 h
 (repeat clear hK K);simp_all [goodR,holdsR]
theorem c_linchpinlaw19_ChoiceBent {l:List Int} {ry rs:List (List D)} {v1 v2 v3:List UInt8} {w:Ql} {x:Int} (hS:Ok Tryz.prog 30 [Q0 l,.int .i64 0] (.g8 [.sl ry,.sl rs])) (hV:Ok Tryz.prog 32 [Q0 l,.int .i64 460] (.agg [.str v1,.str v2,.str v3])) (hB:Ok Tryz.prog 31 [.sl ry,.sl rs,.agg [.str v1,.str v2,.str v3],.sl []] (.g8 [Q9 w,.int .i64 x])) (hw:Xc w) {at_ U:Int} (hm: -9223372036854775808<=at_/\at_<=9223372036854775807) (hm2: -9223372036854775808<=U/\U<=9223372036854775807):Ok Tryz.prog 5 [Q0 l,.int .i64 at_,.int .i64 U,gD] (.bool true):=by
 refine Ok.b9 (ds:=[Q0 l,.int .i64 at_,.int .i64 U]) (dg:=gD) tfol Tryz.func5 tp5 (QEi Z) ?_;show TW _ _ tf5.body _ _;refine Qd λK C=>Qb Z (kc4 C Z Z Z Z (Qd λK C=>Qb Z (QA (hS) Z Z (.inl Z) (Qb Z (QN Z Z (QN Z Z (mv2 Z Z (kc6 C Z Z Z Z Z Z (Qd λK C=>mv2 Z Z (Qb Z (QA (hV) Z Z (.inl Z) (QA (hB) Z Z (.inl Z) (Qb Z (QN Z Z (QN Z Z (Zk Z (Za Z Z Z Z Z Z Z Z (Qb Z (kc5 C Z Z Z Z Z (Qw (Qd λK C=>Qb Z (Ys Z Z (Qb Z (Qq (g:=32) Z (λh1=>?_) (λh1=>?_)))))))))))))))))))))))));rw[h1];simp only[qA,QFU]at h1;refine gn3 Z Z Z (Qh Z Z (kc5 C Z Z Z Z Z (Zb Z (Qd λK C=>QA (Zx) Z Z (.inr Z) (Qb Z (kc1 C Z (Qv (Qi (Qg Z ?_)))))))));rfl;rw[h1];simp only[qA,QFU]at h1;refine Qc Z (QB (cs:=[_]) Z Z Z Z (Qc Z (QA (Xw hw We) Z Z (.inr Z) (Qc Z (Jh Z Z (Qh Z Z (kc5 C Z Z Z Z Z (Qs Z (λY=>?_) (λY=>?_)))))))));rw[Y];simp only[qA,QFU]at Y;refine Qd λK C=>QA (Zx) Z Z (.inr Z) (Qb Z (kc1 C Z (Qv (Qi (Qg Z ?_)))));rfl;rw[Y];simp only[qA,QFU]at Y;have hO:=Qms h1 Y;refine Qp (ks4 Z Z Z Z (Qd λK C=>QB (cs:=[_]) Z Z Z Z (QA (JB hw (Pa hO)) Z Z (.inl Z) (Qb Z (QN Z Z (QN Z Z (mv2 Z Z (kc6 C Z Z Z Z Z Z (Qw (Qd λK C=>Qb Z (Zp Z (kc6 C Z Z Z Z Z Z (Qs Z (λh3=>?_) (λh3=>?_))))))))))))));rw[h3];simp only[qA,QFU]at h3;refine Qd λK C=>QA (Zx) Z Z (.inr Z) (Qb Z (kc1 C Z (Qv (Qi (Qg Z ?_)))));rfl;rw[h3];simp only[qA,QFU]at h3;obtain⟨c,hcm,hce⟩:=Qs7 (w:=w) Wa;try rw[hce];obtain⟨hmy,hch,hfi⟩:=M5 hw hcm;have hcl:=hch.len;have hv1:=hmy.len;obtain⟨i,hi,hpl⟩:=H3 (v:=at_) (n:=c.length) ⟨Wa,Wa⟩ hm;have hcs:=hw.cl _ (QEn (Wa:i<w.length));have hpr:=BT (v:=U) (n:=((w[i]'Wa).cs.length:Int)+1) Wa
 refine Qp (ks5 Z Z Z Z Z (Qd λK C=>mv2 Z Z (QW Z QE (QA (hpl) Z Z (.inl Z) (Qb Z (kc5 C Z Z Z Z Z (Qd λK C=>Qb Z (GL Z Z (λ_ h=>GE (QhI c) h) Z (.inl Z) (λr hr=>by grind) Wc Wc (Qb Z (kc6 C Z Z Z Z Z Z ?_))))))))));refine Qd λK C=>mv2 Z Z (Qb Z (Qe Z Z (Qr Z Z Z (Qb Z (Qt Z Z Z Wa (QH Wa) Z (Q7 Z Z (Qr Z Z Z (QW Z QE (Q2 Z Z Wb (QA (Z2 Wa hm2) Z Z (.inl Z) (J7 Z Z Wb (ZE Z Z Z Wd Wa Wc Z (Za Z Z (QH Wa) Z Z Z Z Z (kc5 C Z Z Z Z Z (Qw ?_)))))))))))))));obtain⟨v,hve⟩:∃v,v=(YE U (((w[i]'Wa).cs.length:Int)+1) - 1):=⟨_,rfl⟩;have hvv: -1<=v/\v<((w[i]'Wa).cs.length:Int):=Wa;have hwl2:=@Lz w hw (c.set i v);refine MO (s':=⟨[(9,.ref 9 0 0),(11,Q0 c),(13,.int .i64 i),(14,Q0 (c.set i v)),(900000,gD)],[(9,⟨[[.sl (w.map Zv)]],1,25,true⟩)]⟩) (le_trans (Mf (l:=[9,11,13,900000]) (lH:=[9]) 51 14 (kp4 Z Z Z Z) (Qa Z Qf) Z Z Z Wd Z Z Z Z) (QM (l:=[9,11,13,14,900000]) (lH:=[9]) (kp5 Z Z Z Z Z) (Qa Z Qf) (by rw[show Q0 (c.set i v)=.sl ((c.map rI).set i [.int .i64 v]) from congrArg D.sl set_rI.symm,hve]<;>rfl) Z Z)) (Qd λK C=>QB (cs:=[_]) Z Z Z Z (Qb Z (QA (XA hw (c:=(c.set i v)) Wc) Z Z (.inl Z) (QW Z QE (Qb Z (kc8 C Z Z Z Z Z Z Z Z ?_))))))
 refine Qu (Q8 (ι:=Nat) (λt=>⟨[(9,.ref 9 0 0),(11,Q0 c),(13,.int .i64 i),(14,Q0 (c.set i v)),(68,Qd5 (wrongR w (c.set i v))),(69,.int .i64 (wrongR w (c.set i v)).length),(70,.int .i64 t),(900000,gD)],[(9,⟨[[.sl (w.map Zv)]],1,25,true⟩)]⟩) (λt=>t<=(wrongR w (c.set i v)).length) (λt=>(wrongR w (c.set i v)).length - t) 0 ?_ ?_ ?_);exact QM (l:=[9,11,13,14,68,69,70,900000]) (lH:=[9]) (kp8 Z Z Z Z Z Z Z Z) (Qa Z Qf) Z Z Z;omega;intro t hI;refine Qd λK C=>ZK Z Z (kc9 C Z Z Z Z Z Z Z Z Z (Qw (Qs Z (λh4=>?_) (λh4=>?_))));rw[h4];simp only[qA,QFU]at h4;have hbt:=Qww hw hcm (i:=i) Wa hvv (QEn (Wa:t<(wrongR w (c.set i v)).length));refine Qp (ks8 Z Z Z Z Z Z Z Z (Qw (Qu (Qd λK C=>Qt Z Z Z Wa (QH Wa) Z (QB (cs:=[_,_,_]) Z Z Z Z (Zk Z (Za Z Z Z Z Z Z Z Z (kc9 C Z Z Z Z Z Z Z Z Z (Qw (Qd λK C=>Qe Z Z (Qr Z Z Z (ZK Z Z (Qb Z (Qq (g:=77) Z (λh5=>?_) (λh5=>?_)))))))))))))))
 grind
 rw[h5];simp only[qA,QFU]at h5;refine Qc Z (Qe Z Z (Qc Z (Qr Z Z Z (Qc Z (Qb Z (Qc Z (QW Z QE (Qc Z (Gw Z Z (Qh Z Z (Qb Z (Qq (g:=84) Z (λh6=>?_) (λh6=>?_)))))))))))))
 grind
 rw[h6];simp only[qA,QFU]at h6;refine Qc Z (Qe Z Z (Qc Z (Qr Z Z Z (Qc Z (Yp Z Z (Qc Z (Qb Z (Qq (g:=88) Z (λh7=>?_) (λh7=>?_)))))))));rw[h7];simp only[qA,QFU]at h7;refine Qc Z (Qb Z (Qc Z (Ys Z Z (Qc Z (Qh Z Z (Qh Z Z (kc C (GI Z Z Z Z Z Z Z Z Z Z) (Qs Z (λh8=>?_) (λh8=>?_)))))))))
 grind
 rw[h8];simp only[qA,QFU]at h8;refine Qp (ks9 Z Z Z Z Z Z Z Z Z (Qd λK C=>Qe Z Z (Qr Z Z Z (Qb Z (Ys Z Z (Qb Z (Qq (g:=97) Z (λV=>?_) (λV=>?_))))))));rw[V];simp only[qA,QFU]at V;refine Qc Z (QB (cs:=[_]) Z Z Z Z (Qc Z (Qb Z (Qc Z (QB (cs:=[_,_,_]) Z Z Z Z (Qc Z (Qb Z (Qc Z (QA (hbt.2 V) Z Z (.inr Z) (Qc Z (Zp Z (Qh Z Z (kc9 C Z Z Z Z Z Z Z Z Z (Qs Z (λT=>?_) (λT=>?_)))))))))))))))
 grind
 rw[T];simp only[qA,QFU]at T;refine Qp (Qk (ks8 Z Z Z Z Z Z Z Z (QJ λK C=>Q2 Z Z Wb (Qb Z (C _ (Qj (t+1) ?_ ?_ ?_))))));exact QM (l:=[9,11,13,14,68,69,70,900000]) (lH:=[9]) (kp8 Z Z Z Z Z Z Z Z) (Qa Z Qf) Z Z Z;omega;omega;rw[V];simp only[qA,QFU]at V;refine gn4 Z Z Z Z (gn2 Z Z (Qh Z Z (kc9 C Z Z Z Z Z Z Z Z Z (Zq Z (Qp (Qk (ks8 Z Z Z Z Z Z Z Z (QJ λK C=>Q2 Z Z Wb (Qb Z (C _ (Qj (t+1) ?_ ?_ ?_)))))))))));exact QM (l:=[9,11,13,14,68,69,70,900000]) (lH:=[9]) (kp8 Z Z Z Z Z Z Z Z) (Qa Z Qf) Z Z Z;omega;omega;rw[h7];simp only[qA,QFU]at h7;refine gn2 Z Z (Qc Z (Qh Z Z (Qh Z Z (kc C (GI Z Z Z Z Z Z Z Z Z Z) (Zq Z (Qp (ks9 Z Z Z Z Z Z Z Z Z (Qd λK C=>Qe Z Z (Qr Z Z Z (Qb Z (Ys Z Z (Qb Z (Qq (g:=97) Z (λG=>?_) (λG=>?_))))))))))))));rw[G];simp only[qA,QFU]at G;refine Qc Z (QB (cs:=[_]) Z Z Z Z (Qc Z (Qb Z (Qc Z (QB (cs:=[_,_,_]) Z Z Z Z (Qc Z (Qb Z (Qc Z (QA (hbt.2 G) Z Z (.inr Z) (Qc Z (Zp Z (Qh Z Z (kc9 C Z Z Z Z Z Z Z Z Z (Qs Z (λO=>?_) (λO=>?_)))))))))))))))
 grind
 rw[O];simp only[qA,QFU]at O;refine Qp (Qk (ks8 Z Z Z Z Z Z Z Z (QJ λK C=>Q2 Z Z Wb (Qb Z (C _ (Qj (t+1) ?_ ?_ ?_))))));exact QM (l:=[9,11,13,14,68,69,70,900000]) (lH:=[9]) (kp8 Z Z Z Z Z Z Z Z) (Qa Z Qf) Z Z Z;omega;omega;rw[G];simp only[qA,QFU]at G;refine gn4 Z Z Z Z (gn2 Z Z (Qh Z Z (kc9 C Z Z Z Z Z Z Z Z Z (Zq Z (Qp (Qk (ks8 Z Z Z Z Z Z Z Z (QJ λK C=>Q2 Z Z Wb (Qb Z (C _ (Qj (t+1) ?_ ?_ ?_)))))))))));exact QM (l:=[9,11,13,14,68,69,70,900000]) (lH:=[9]) (kp8 Z Z Z Z Z Z Z Z) (Qa Z Qf) Z Z Z;omega;omega;rw[h4];simp only[qA,QFU]at h4;refine Q3 (QF (Qx (QD (ks3 Z Z Z (Qd λK C=>QA (Zx) Z Z (.inr Z) (Qb Z (Qq (g:=107) Z (λM=>?_) (λM=>?_))))))));rw[M];simp only[qA,QFU]at M;refine Qc Z (QB (cs:=[_]) Z Z Z Z (Qc Z (Qb Z (Qc Z (QA (Nc hw (c:=c) Wa) Z Z (.inr Z) (Qh Z Z (Qb Z (Qq (g:=112) Z (λh14=>?_) (λh14=>?_)))))))));rw[h14];refine Qc Z (QB (cs:=[_]) Z Z Z Z (Qc Z (Qb Z (Qc Z (QA (XA hw (c:=c) Wa) Z Z (.inl Z) (Qc Z (QW Z QE (Qc Z (Yp Z Z (Qh Z Z (Qb Z (kc1 C Z (Qv (Qg Z ?_))))))))))))))
 grind [QcK]
 grind [QcK]
 grind
end Go.Proofs
